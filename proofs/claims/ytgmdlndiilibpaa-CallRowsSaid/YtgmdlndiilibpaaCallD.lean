import Derived.Test.YtgmdlndiilibpaaCallC
namespace Go.Proofs.Ytgmdlndiilibpaa.PC
open Go.RowKit Go.Proofs.YtgmdlndiilibpaaW.PrintWords Go.Proofs.YtgmdlndiilibpaaW.PrintLast Go.Proofs.YtgmdlndiilibpaaW.PrintMore Go.Proofs.Ytgmdlndiilibpaa.Tab Go.Proofs.Ytgmdlndiilibpaa.CallK
attribute [local go_sem] max2_int min2_int max_two min_two max_three min_three max_four min_four   -- for this text's walks alone
set_option linter.unusedVariables false
set_option linter.unusedSimpArgs false
/-- Calls that may be. -/
def Ok (kd cx va : Int) : Prop := kd = 0 ∨ (kd = 1 ∧ va = 0)
theorem unpack_calls (w : World) (kd cx va : Int) (h : Ok kd cx va) :
    Calls Try.prog 65 #[packV kd cx va] w fun e w' => e = .returned (.agg #[.int .i64 kd, .int .i64 cx, .int .u64 va]) ∧ Below w.heap.size w w' := by
  rcases h with rfl | ⟨rfl, rfl⟩
  · exact unpackP_calls w cx va
  · exact unpackC_calls w cx
theorem pack_some (kd cx va : Int) (h : Ok kd cx va) : ∃ t v, packV kd cx va = .iface t v := by
  rcases h with rfl | ⟨rfl, rfl⟩
  · exact ⟨_, _, rfl⟩
  · exact ⟨_, _, rfl⟩
theorem keep3 {W : World} {g : Nat} {a b c v : Value} {p : Addr} (h : W.cell? p = some v) (hp : p.block ≠ g) : (((W.setCell ⟨g, 0, none⟩ a).setCell ⟨g, 1, none⟩ b).setCell ⟨g, 2, none⟩ c).cell? p = some v :=
  (World.cell?_of_block ((Below.heap_setCell _ _ _ _ hp).trans ((Below.heap_setCell _ _ _ _ hp).trans (Below.heap_setCell _ _ _ _ hp)))).trans h
theorem put46 {W : World} {g : Nat} {a b c a' b' c' : Value} (h : W.heap[g]? = some (.cells #[a, b, c] 46 (0, 0))) : (((W.setCell ⟨g, 0, none⟩ a').setCell ⟨g, 1, none⟩ b').setCell ⟨g, 2, none⟩ c').heap[g]? = some (.cells #[a', b', c'] 46 (0, 0)) := by
  refine blk_put (cs := #[a', b', c]) ?_ 2 _ (by simp)
  refine blk_put (cs := #[a', b, c]) ?_ 1 _ (by simp)
  exact blk_put h 0 _ (by simp)
set_option maxHeartbeats 4000000 in
set_option maxRecDepth 100000 in
theorem peek_some {w : World} {base B gw : Nat} {vs : List Value} {lv : Value} {qs : List (List Sn)} {left : List Int} (h : CA w base B gw vs lv qs left) (n : Nat) (kd cx va id : Int) (l : List Sn) (hq : qs[n]? = some ((packV kd cx va, id) :: l)) (hok : Ok kd cx va) :
    Calls Try.prog 29 #[.pointer (some ⟨B, 0, none⟩), .int .i64 n] w fun e w' => e = .returned (.tuple #[.agg #[.int .i64 kd, .int .i64 cx, .int .u64 va], .int .i64 id, .bool true]) ∧ Below w.heap.size w w' := by
  obtain ⟨hn, hqn⟩ := List.getElem?_eq_some_iff.1 hq
  have hB1 := (Below.refl w.heap.size w).alloc (Nat.le_refl _) (.cells #[.int .i64 0, .int .i64 0, .int .u64 0] 46)
  have hb4 := blk_new w (.cells #[.int .i64 0, .int .i64 0, .int .u64 0] 46)
  have h1 := h.below hB1
  go_enter Try.func29, Try.ntmps29
  go_wp2_with fail
  obtain ⟨w1, hw1⟩ : ∃ w1, w.alloc (.cells #[.int .i64 0, .int .i64 0, .int .u64 0] 46) = w1 := ⟨_, rfl⟩
  rw [hw1] at hB1 hb4 h1 ⊢
  refine (waiting_calls h1 n).mono ?_
  have hw : waits qs (n : Int) = l.length + 1 := by unfold waits; rw [if_pos (by omega)]; simp [List.getD_eq_getElem?_getD, hq]
  rw [hw]
  rintro e w' ⟨rfl, rfl⟩
  obtain ⟨v, hv, hqv⟩ := h1.at hn
  rw [hqn] at hqv
  obtain ⟨g, off, cap, rfl, hlc, y0, y1⟩ := hqv.head
  have c0 := h1.cell0
  have c1 := h1.cellq hv
  have hb0 : (((l.length + 1 : Nat) : Int) == 0) = false := beq_eq_false_iff_ne.2 (by omega)
  have hnI : (n : Int) < (qs.length : Int) := by omega
  clear hw1 hqv hv hw hq hqn hn h h1
  have hz4 := fun (i : Nat) => blk_alloc hb4 (.cells #[packV kd cx va, .int .i64 id] 110)
  obtain ⟨t, u, htu⟩ := pack_some kd cx va hok
  rw [htu] at y0
  have HTU := Aside0.mk htu
  have hB2 := hB1.alloc hB1.size (.cells #[.iface t u, .int .i64 id] 110)
  have HB40 := Aside0.mk hb4
  have hb4' := blk_alloc hb4 (.cells #[.iface t u, .int .i64 id] 110)
  have hb7 := blk_new w' (.cells #[.iface t u, .int .i64 id] 110)
  have HB2 := Aside0.mk hB2
  have HB4 := Aside0.mk hb4'
  have HB7 := Aside0.mk hb7
  clear htu hB2 hb4' hb7 hB1 hb4 hz4
  have HLE0 := Aside0.mk (HB2.out.size)
  obtain ⟨g4, hg4⟩ : ∃ g4, w.heap.size = g4 := ⟨_, rfl⟩
  have HG4 := Aside0.mk hg4
  rw [hg4] at HB2 HB4 HB40 HLE0 ⊢
  clear hg4
  go_wp2_with fail
  generalize w'.alloc (.cells #[.iface t u, .int .i64 id] 110) = W1 at HB2 HB4 HB7 HLE0 ⊢
  have HLE : Aside0 (g4 ≤ W1.drew.heap.size) := ⟨HLE0.out⟩
  have HNE : Aside0 (w'.heap.size ≠ g4) := ⟨by have h1 := (Array.getElem?_eq_some_iff.1 HB40.out).1; omega⟩
  generalize w'.heap.size = g7 at HB7 HNE ⊢
  clear y0 y1 c0 c1 hb0 hnI
  have z0 : W1.cell? ⟨g7, 0, none⟩ = some (.iface t u) := (blk_cell HB7.out 0).trans rfl
  have z1 : W1.cell? ⟨g7, 1, none⟩ = some (.int .i64 id) := (blk_cell HB7.out 1).trans rfl
  rw [← HTU.out] at z0
  go_region_held3 (fun W => W.cell? ⟨g7, 0, none⟩ = some (packV kd cx va) ∧ W.cell? ⟨g7, 1, none⟩ = some (.int .i64 id))
    (first | (exact ⟨z0, z1⟩) | (go_split_ands; exact ⟨keep3 (by assumption) HNE.out, keep3 (by assumption) HNE.out⟩) | go_keep | (go_split_ands; refine ⟨pw_cell_below hbel (by assumption), pw_cell_below hbel (by assumption)⟩))
    ((go_at_call 65; refine (unpack_calls _ kd cx va hok).mono ?_; rintro e w3 ⟨rfl, hbel⟩; have hk4 := blk_below (w := W1.drew) (show W1.drew.heap[g4]? = _ from HB4.out) hbel; have HB3 := Aside0.mk (HB2.out.drew.trans (hbel.mono HLE.out)); have HK4 := Aside0.mk hk4; have q0 := (blk_cell hk4 0).trans rfl; have q1 := (blk_cell hk4 1).trans rfl; have q2 := (blk_cell hk4 2).trans rfl; have f0 := blk_frozen hk4 0; have f1 := blk_frozen hk4 1; have f2 := blk_frozen hk4 2; clear hk4))
  (try simp only [Exit.inBlock, Exit.then])
  go_wp2_with fail
  refine bodyPost_ret (results_ctt rfl _ _ g4 46 #[.int .i64 kd, .int .i64 cx, .int .u64 va] (0, 0) _ rfl (put46 HK4.out) Try.underlying46 rfl (by kernel_rfl)) rfl ?_
  rw [HG4.out]
  exact ⟨rfl, ((HB3.out.setCell (p := ⟨g4, 0, none⟩) (Nat.le_refl _) _).setCell (p := ⟨g4, 1, none⟩) (Nat.le_refl _) _).setCell (p := ⟨g4, 2, none⟩) (Nat.le_refl _) _⟩
end Go.Proofs.Ytgmdlndiilibpaa.PC

import Derived.Test.YtgmdlndiilibpaaPHx0
import Derived.Test.YtgmdlndiilibpaaCallM
namespace Go.Proofs.Ytgmdlndiilibpaa.PC
open Go.RowKit Go.Proofs.YtgmdlndiilibpaaW.PrintWords Go.Proofs.YtgmdlndiilibpaaW.PrintLast Go.Proofs.YtgmdlndiilibpaaW.PrintMore Go.Proofs.Ytgmdlndiilibpaa.Tab Go.Proofs.Ytgmdlndiilibpaa.CallK
attribute [local go_sem] max2_int min2_int max_two min_two max_three min_three max_four min_four   -- for this text's walks alone
set_option linter.unusedVariables false
set_option linter.unusedSimpArgs false
set_option maxHeartbeats 4000000 in
set_option maxRecDepth 100000 in
theorem is_calls {w : World} {base B gw : Nat} {vs : List Value} {lv : Value} {qs : List (List Sn)} {left : List Int} (h : CA w base B gw vs lv qs left) (k : Int) :
    Calls Try.prog 61 #[.pointer (some ⟨B, 0, none⟩), .int .i64 k] w fun e w' => e = .returned (.bool (decide (0 ≤ k ∧ k < (qs.length : Int)))) ∧ w' = w := by
  have c0 := h.cell0
  clear h
  go_enter Try.func61, Try.ntmps61
  by_cases h0 : k ≥ 0
  · have h0d : decide (k ≥ 0) = true := decide_eq_true h0
    go_wp2
    go_ret
    exact ⟨by simp <;> omega, rfl⟩
  · have h0d : decide (k ≥ 0) = false := decide_eq_false h0
    go_wp2
    go_ret
    exact ⟨by simp <;> omega, rfl⟩
set_option maxHeartbeats 4000000 in
set_option maxRecDepth 100000 in
theorem cpus_calls {w : World} {base B gw : Nat} {vs : List Value} {lv : Value} {qs : List (List Sn)} {left : List Int} (h : CA w base B gw vs lv qs left) :
    Calls Try.prog 46 #[.pointer (some ⟨B, 0, none⟩)] w fun e w' => e = .returned (.int .i64 (qs.length : Int)) ∧ w' = w := by
  have c0 := h.cell0
  clear h
  go_enter Try.func46, Try.ntmps46
  go_wp2
  go_ret
  exact ⟨rfl, rfl⟩
def waits (qs : List (List Sn)) (k : Int) : Nat := if 0 ≤ k then (qs.getD k.toNat []).length else 0
set_option maxHeartbeats 4000000 in
set_option maxRecDepth 100000 in
theorem waiting_calls {w : World} {base B gw : Nat} {vs : List Value} {lv : Value} {qs : List (List Sn)} {left : List Int} (h : CA w base B gw vs lv qs left) (k : Int) :
    Calls Try.prog 30 #[.pointer (some ⟨B, 0, none⟩), .int .i64 k] w fun e w' => e = .returned (.int .i64 (waits qs k : Int)) ∧ w' = w := by
  go_enter Try.func30, Try.ntmps30
  go_wp2_with fail
  refine (is_calls h k).mono ?_
  rintro e w' ⟨rfl, rfl⟩
  have c0 := h.cell0
  by_cases hk : 0 ≤ k ∧ k < (qs.length : Int)
  · rw [decide_eq_true hk]
    obtain ⟨n, rfl⟩ : ∃ n : Nat, k = n := ⟨k.toNat, by omega⟩
    have hn : n < qs.length := by omega
    obtain ⟨v, hv, hq⟩ := h.at hn
    obtain ⟨A, c, rfl, hc⟩ := hq.form
    have c1 := h.cellq hv
    have hw : waits qs (n : Int) = qs[n].length := by unfold waits; rw [if_pos (by omega)]; simp [List.getD_eq_getElem?_getD, List.getElem?_eq_getElem hn]
    have hnl : (n : Int) < (qs.length : Int) := hk.2
    have HW := Aside0.mk hw
    clear h hq hv hw
    generalize qs[n].length = m at HW c1 hc
    go_wp2
    go_ret
    exact ⟨by rw [HW.out]; rfl, rfl⟩
  · rw [decide_eq_false hk]
    have hw : waits qs k = 0 := by
      unfold waits
      split
      · rw [List.getD_eq_getElem?_getD, List.getElem?_eq_none (by omega)]; rfl
      · rfl
    have HW := Aside0.mk hw
    clear hw
    go_wp2
    go_ret
    exact ⟨by rw [HW.out]; rfl, rfl⟩
def lefts (left : List Int) (id : Int) : Int := if 0 ≤ id then left.getD id.toNat 0 else 0
set_option maxHeartbeats 4000000 in
set_option maxRecDepth 100000 in
theorem left_calls {w : World} {base B gw : Nat} {vs : List Value} {lv : Value} {qs : List (List Sn)} {left : List Int} (h : CA w base B gw vs lv qs left) (id : Int) :
    Calls Try.prog 26 #[.pointer (some ⟨B, 0, none⟩), .int .i64 id] w fun e w' => e = .returned (.int .i64 (lefts left id)) ∧ w' = w := by
  obtain ⟨A, c, rfl⟩ := Kd.R_slice h.hL
  have c1 := h.cell1
  go_enter Try.func26, Try.ntmps26
  by_cases h0 : id < 0
  · have h0d : decide (id < 0) = true := decide_eq_true h0
    have hw : lefts left id = 0 := by unfold lefts; rw [if_neg (by omega)]
    have HW := Aside0.mk hw
    clear hw
    go_wp2
    go_ret
    exact ⟨by rw [HW.out]; rfl, rfl⟩
  · have h0d : decide (id < 0) = false := decide_eq_false h0
    by_cases h1 : id ≥ (left.length : Int)
    · have h1d : decide (id ≥ (left.length : Int)) = true := decide_eq_true h1
      have hw : lefts left id = 0 := by
        unfold lefts
        rw [if_pos (by omega), List.getD_eq_getElem?_getD, List.getElem?_eq_none (by omega)]; rfl
      have HW := Aside0.mk hw
      clear hw
      go_wp2
      go_ret
      exact ⟨by rw [HW.out]; rfl, rfl⟩
    · have h1d : decide (id ≥ (left.length : Int)) = false := decide_eq_false h1
      obtain ⟨n, rfl⟩ : ∃ n : Nat, id = n := ⟨id.toNat, by omega⟩
      have hn : n < left.length := by omega
      obtain ⟨ad, c', hv⟩ := Kd.R_slice1 h.hL (by omega)
      injection hv with hv1 _ hv2
      subst hv1 hv2
      obtain ⟨g, rfl⟩ := Kd.R_head h.hL
      have hc := (Kd.R_celln 0 h.hL (n : Int) (by omega) (by omega)).1
      rw [Int.toNat_natCast] at hc
      have hw : lefts left (n : Int) = left[n] := by unfold lefts; rw [if_pos (by omega)]; simp [List.getD_eq_getElem?_getD, List.getElem?_eq_getElem hn]
      have hr : rdOf 0 left (n : Int) = left[n] := by simp [rdOf, List.getD_eq_getElem?_getD, List.getElem?_eq_getElem hn]
      rw [hr] at hc
      have HW := Aside0.mk hw
      generalize left[n] = m at hc HW
      have hnl : (n : Int) < (left.length : Int) := by omega
      clear hw hr h
      go_wp2
      go_ret
      exact ⟨by rw [HW.out]; rfl, rfl⟩
end Go.Proofs.Ytgmdlndiilibpaa.PC
namespace Go.Proofs.Ytgmdlndiilibpaa.PC
open Go.RowKit Go.Proofs.YtgmdlndiilibpaaW.PrintWords Go.Proofs.YtgmdlndiilibpaaW.PrintLast Go.Proofs.YtgmdlndiilibpaaW.PrintMore Go.Proofs.Ytgmdlndiilibpaa.Tab Go.Proofs.Ytgmdlndiilibpaa.CallK
attribute [local go_sem] max2_int min2_int max_two min_two max_three min_three max_four min_four   -- for this text's walks alone
set_option linter.unusedVariables false
set_option linter.unusedSimpArgs false
/-- What a call is kept as. -/
def packV (kind ctx va : Int) : Value :=
  if kind = 0 then .iface 144 (.agg #[.int .i64 ctx, .int .u64 va]) else if kind = 1 ∧ va = 0 then .iface 145 (.int .i64 ctx) else .nilIface
theorem pack_one (kind ctx va : Int) : (packV kind ctx va).oneCell' = true := by
  unfold packV
  split
  · rfl
  · split <;> rfl
set_option maxHeartbeats 4000000 in
set_option maxRecDepth 100000 in
theorem pack_calls (w : World) (kind ctx va : Int) :
    Calls Try.prog 58 #[.agg #[.int .i64 kind, .int .i64 ctx, .int .u64 va]] w fun e w' => e = .returned (packV kind ctx va) ∧ Below w.heap.size w w' := by
  have hB := (Below.refl w.heap.size w).alloc (Nat.le_refl _) (.cells #[.int .i64 kind, .int .i64 ctx, .int .u64 va] 46)
  have HB := Aside0.mk hB
  clear hB
  go_enter Try.func58, Try.ntmps58
  by_cases h0 : kind = 0
  · have HP := Aside0.mk (show packV kind ctx va = .iface 144 (.agg #[.int .i64 ctx, .int .u64 va]) by unfold packV; rw [if_pos h0])
    subst h0
    go_wp2
    go_ret
    exact ⟨by rw [HP.out]; rfl, HB.out⟩
  · have hb0 : (kind == 0) = false := beq_eq_false_iff_ne.2 h0
    by_cases h1 : kind = 1
    · subst h1
      by_cases h2 : va = 0
      · subst h2
        have HP := Aside0.mk (show packV 1 ctx 0 = .iface 145 (.int .i64 ctx) from rfl)
        go_wp2
        go_ret
        exact ⟨by rw [HP.out]; rfl, HB.out⟩
      · have hb2 : (va == 0) = false := beq_eq_false_iff_ne.2 h2
        have HP := Aside0.mk (show packV 1 ctx va = .nilIface by unfold packV; rw [if_neg h0, if_neg (fun h => h2 h.2)])
        go_wp2
        go_ret
        exact ⟨by rw [HP.out]; rfl, HB.out⟩
    · have hb1 : (kind == 1) = false := beq_eq_false_iff_ne.2 h1
      have HP := Aside0.mk (show packV kind ctx va = .nilIface by unfold packV; rw [if_neg h0, if_neg (fun h => h1 h.1)])
      go_wp2
      go_ret
      exact ⟨by rw [HP.out]; rfl, HB.out⟩
end Go.Proofs.Ytgmdlndiilibpaa.PC
namespace Go.Proofs.Ytgmdlndiilibpaa.PC
open Go.RowKit Go.Proofs.YtgmdlndiilibpaaW.PrintWords Go.Proofs.YtgmdlndiilibpaaW.PrintLast Go.Proofs.YtgmdlndiilibpaaW.PrintMore Go.Proofs.Ytgmdlndiilibpaa.Tab Go.Proofs.Ytgmdlndiilibpaa.CallK
attribute [local go_sem] max2_int min2_int max_two min_two max_three min_three max_four min_four   -- for this text's walks alone
set_option linter.unusedVariables false
set_option linter.unusedSimpArgs false
theorem ta_yes (v : Value) (w : World) : Sem.run Try.prog (Instr.typeAssert (.iface 144 v) 20 144 true) w = .ok (.tuple #[v, .bool true]) w := by kernel_rfl
theorem ta_no (v : Value) (w : World) : Sem.run Try.prog (Instr.typeAssert (.iface 145 v) 20 144 true) w = .ok (.tuple #[.agg #[.int .i64 0, .int .u64 0], .bool false]) w := by kernel_rfl
theorem ta_ctx (v : Value) (w : World) : Sem.run Try.prog (Instr.typeAssert (.iface 145 v) 20 145 true) w = .ok (.tuple #[v, .bool true]) w := by kernel_rfl
attribute [local go_sem] ta_yes ta_no ta_ctx
set_option maxHeartbeats 4000000 in
set_option maxRecDepth 100000 in
theorem unpackP_calls (w : World) (ctx va : Int) :
    Calls Try.prog 65 #[.iface 144 (.agg #[.int .i64 ctx, .int .u64 va])] w fun e w' => e = .returned (.agg #[.int .i64 0, .int .i64 ctx, .int .u64 va]) ∧ Below w.heap.size w w' := by
  go_enter Try.func65, Try.ntmps65
  go_wp2_with fail
  have hB := ((Below.refl w.heap.size w).alloc (Nat.le_refl _) (.cells #[.int .i64 0, .int .i64 ctx, .int .u64 va] 46)).alloc (by simp) (.cells #[.int .i64 ctx, .int .u64 va] 144)
  have hb := blk_alloc (blk_new w (.cells #[.int .i64 0, .int .i64 ctx, .int .u64 va] 46)) (.cells #[.int .i64 ctx, .int .u64 va] 144)
  refine bodyPost_ret (results_cell_row rfl _ _ w.heap.size 46 #[.int .i64 0, .int .i64 ctx, .int .u64 va] (0, 0) _ rfl hb Try.underlying46 rfl (by kernel_rfl)) rfl ?_
  exact ⟨rfl, hB⟩
set_option maxHeartbeats 4000000 in
set_option maxRecDepth 100000 in
theorem unpackC_calls (w : World) (ctx : Int) :
    Calls Try.prog 65 #[.iface 145 (.int .i64 ctx)] w fun e w' => e = .returned (.agg #[.int .i64 1, .int .i64 ctx, .int .u64 0]) ∧ Below w.heap.size w w' := by
  go_enter Try.func65, Try.ntmps65
  go_wp2_with fail
  have hB := ((Below.refl w.heap.size w).alloc (Nat.le_refl _) (.cells #[.int .i64 1, .int .i64 ctx, .int .u64 0] 46)).alloc (by simp) (.cells #[.int .i64 0, .int .u64 0] 144)
  have hb := blk_alloc (blk_new w (.cells #[.int .i64 1, .int .i64 ctx, .int .u64 0] 46)) (.cells #[.int .i64 0, .int .u64 0] 144)
  refine bodyPost_ret (results_cell_row rfl _ _ w.heap.size 46 #[.int .i64 1, .int .i64 ctx, .int .u64 0] (0, 0) _ rfl hb Try.underlying46 rfl (by kernel_rfl)) rfl ?_
  exact ⟨rfl, hB⟩
end Go.Proofs.Ytgmdlndiilibpaa.PC
namespace Go.Proofs.Ytgmdlndiilibpaa.PC
open Go.RowKit Go.Proofs.YtgmdlndiilibpaaW.PrintWords Go.Proofs.YtgmdlndiilibpaaW.PrintLast Go.Proofs.YtgmdlndiilibpaaW.PrintMore Go.Proofs.Ytgmdlndiilibpaa.Tab Go.Proofs.Ytgmdlndiilibpaa.CallK
attribute [local go_sem] max2_int min2_int max_two min_two max_three min_three max_four min_four   -- for this text's walks alone
set_option linter.unusedVariables false
set_option linter.unusedSimpArgs false
/-- Calls that may be. -/
def Ok (kd cx va : Int) : Prop := kd = 0 ∨ (kd = 1 ∧ va = 0)
theorem unpack_calls (w : World) (kd cx va : Int) (h : Ok kd cx va) :
    Calls Try.prog 65 #[packV kd cx va] w fun e w' => e = .returned (.agg #[.int .i64 kd, .int .i64 cx, .int .u64 va]) ∧ Below w.heap.size w w' := by
  rcases h with rfl | ⟨rfl, rfl⟩
  · exact unpackP_calls w cx va
  · exact unpackC_calls w cx
theorem pack_some (kd cx va : Int) (h : Ok kd cx va) : ∃ t v, packV kd cx va = .iface t v := by
  rcases h with rfl | ⟨rfl, rfl⟩
  · exact ⟨_, _, rfl⟩
  · exact ⟨_, _, rfl⟩
theorem keep3 {W : World} {g : Nat} {a b c v : Value} {p : Addr} (h : W.cell? p = some v) (hp : p.block ≠ g) : (((W.setCell ⟨g, 0, none⟩ a).setCell ⟨g, 1, none⟩ b).setCell ⟨g, 2, none⟩ c).cell? p = some v :=
  (World.cell?_of_block ((Below.heap_setCell _ _ _ _ hp).trans ((Below.heap_setCell _ _ _ _ hp).trans (Below.heap_setCell _ _ _ _ hp)))).trans h
theorem put46 {W : World} {g : Nat} {a b c a' b' c' : Value} (h : W.heap[g]? = some (.cells #[a, b, c] 46 (0, 0))) : (((W.setCell ⟨g, 0, none⟩ a').setCell ⟨g, 1, none⟩ b').setCell ⟨g, 2, none⟩ c').heap[g]? = some (.cells #[a', b', c'] 46 (0, 0)) := by
  refine blk_put (cs := #[a', b', c]) ?_ 2 _ (by simp)
  refine blk_put (cs := #[a', b, c]) ?_ 1 _ (by simp)
  exact blk_put h 0 _ (by simp)
set_option maxHeartbeats 4000000 in
set_option maxRecDepth 100000 in
theorem peek_some {w : World} {base B gw : Nat} {vs : List Value} {lv : Value} {qs : List (List Sn)} {left : List Int} (h : CA w base B gw vs lv qs left) (n : Nat) (kd cx va id : Int) (l : List Sn) (hq : qs[n]? = some ((packV kd cx va, id) :: l)) (hok : Ok kd cx va) :
    Calls Try.prog 29 #[.pointer (some ⟨B, 0, none⟩), .int .i64 n] w fun e w' => e = .returned (.tuple #[.agg #[.int .i64 kd, .int .i64 cx, .int .u64 va], .int .i64 id, .bool true]) ∧ Below w.heap.size w w' := by
  obtain ⟨hn, hqn⟩ := List.getElem?_eq_some_iff.1 hq
  have hB1 := (Below.refl w.heap.size w).alloc (Nat.le_refl _) (.cells #[.int .i64 0, .int .i64 0, .int .u64 0] 46)
  have hb4 := blk_new w (.cells #[.int .i64 0, .int .i64 0, .int .u64 0] 46)
  have h1 := h.below hB1
  go_enter Try.func29, Try.ntmps29
  go_wp2_with fail
  obtain ⟨w1, hw1⟩ : ∃ w1, w.alloc (.cells #[.int .i64 0, .int .i64 0, .int .u64 0] 46) = w1 := ⟨_, rfl⟩
  rw [hw1] at hB1 hb4 h1 ⊢
  refine (waiting_calls h1 n).mono ?_
  have hw : waits qs (n : Int) = l.length + 1 := by unfold waits; rw [if_pos (by omega)]; simp [List.getD_eq_getElem?_getD, hq]
  rw [hw]
  rintro e w' ⟨rfl, rfl⟩
  obtain ⟨v, hv, hqv⟩ := h1.at hn
  rw [hqn] at hqv
  obtain ⟨g, off, cap, rfl, hlc, y0, y1⟩ := hqv.head
  have c0 := h1.cell0
  have c1 := h1.cellq hv
  have hb0 : (((l.length + 1 : Nat) : Int) == 0) = false := beq_eq_false_iff_ne.2 (by omega)
  have hnI : (n : Int) < (qs.length : Int) := by omega
  clear hw1 hqv hv hw hq hqn hn h h1
  have hz4 := fun (i : Nat) => blk_alloc hb4 (.cells #[packV kd cx va, .int .i64 id] 110)
  obtain ⟨t, u, htu⟩ := pack_some kd cx va hok
  rw [htu] at y0
  have HTU := Aside0.mk htu
  have hB2 := hB1.alloc hB1.size (.cells #[.iface t u, .int .i64 id] 110)
  have HB40 := Aside0.mk hb4
  have hb4' := blk_alloc hb4 (.cells #[.iface t u, .int .i64 id] 110)
  have hb7 := blk_new w' (.cells #[.iface t u, .int .i64 id] 110)
  have HB2 := Aside0.mk hB2
  have HB4 := Aside0.mk hb4'
  have HB7 := Aside0.mk hb7
  clear htu hB2 hb4' hb7 hB1 hb4 hz4
  have HLE0 := Aside0.mk (HB2.out.size)
  obtain ⟨g4, hg4⟩ : ∃ g4, w.heap.size = g4 := ⟨_, rfl⟩
  have HG4 := Aside0.mk hg4
  rw [hg4] at HB2 HB4 HB40 HLE0 ⊢
  clear hg4
  go_wp2_with fail
  generalize w'.alloc (.cells #[.iface t u, .int .i64 id] 110) = W1 at HB2 HB4 HB7 HLE0 ⊢
  have HLE : Aside0 (g4 ≤ W1.drew.heap.size) := ⟨HLE0.out⟩
  have HNE : Aside0 (w'.heap.size ≠ g4) := ⟨by have h1 := (Array.getElem?_eq_some_iff.1 HB40.out).1; omega⟩
  generalize w'.heap.size = g7 at HB7 HNE ⊢
  clear y0 y1 c0 c1 hb0 hnI
  have z0 : W1.cell? ⟨g7, 0, none⟩ = some (.iface t u) := (blk_cell HB7.out 0).trans rfl
  have z1 : W1.cell? ⟨g7, 1, none⟩ = some (.int .i64 id) := (blk_cell HB7.out 1).trans rfl
  rw [← HTU.out] at z0
  go_region_held3 (fun W => W.cell? ⟨g7, 0, none⟩ = some (packV kd cx va) ∧ W.cell? ⟨g7, 1, none⟩ = some (.int .i64 id))
    (first | (exact ⟨z0, z1⟩) | (go_split_ands; exact ⟨keep3 (by assumption) HNE.out, keep3 (by assumption) HNE.out⟩) | go_keep | (go_split_ands; refine ⟨pw_cell_below hbel (by assumption), pw_cell_below hbel (by assumption)⟩))
    ((go_at_call 65; refine (unpack_calls _ kd cx va hok).mono ?_; rintro e w3 ⟨rfl, hbel⟩; have hk4 := blk_below (w := W1.drew) (show W1.drew.heap[g4]? = _ from HB4.out) hbel; have HB3 := Aside0.mk (HB2.out.drew.trans (hbel.mono HLE.out)); have HK4 := Aside0.mk hk4; have q0 := (blk_cell hk4 0).trans rfl; have q1 := (blk_cell hk4 1).trans rfl; have q2 := (blk_cell hk4 2).trans rfl; have f0 := blk_frozen hk4 0; have f1 := blk_frozen hk4 1; have f2 := blk_frozen hk4 2; clear hk4))
  (try simp only [Exit.inBlock, Exit.then])
  go_wp2_with fail
  refine bodyPost_ret (results_ctt rfl _ _ g4 46 #[.int .i64 kd, .int .i64 cx, .int .u64 va] (0, 0) _ rfl (put46 HK4.out) Try.underlying46 rfl (by kernel_rfl)) rfl ?_
  rw [HG4.out]
  exact ⟨rfl, ((HB3.out.setCell (p := ⟨g4, 0, none⟩) (Nat.le_refl _) _).setCell (p := ⟨g4, 1, none⟩) (Nat.le_refl _) _).setCell (p := ⟨g4, 2, none⟩) (Nat.le_refl _) _⟩
end Go.Proofs.Ytgmdlndiilibpaa.PC
namespace Go.Proofs.Ytgmdlndiilibpaa.PC
open Go.RowKit Go.Proofs.YtgmdlndiilibpaaW.PrintWords Go.Proofs.YtgmdlndiilibpaaW.PrintLast Go.Proofs.YtgmdlndiilibpaaW.PrintMore Go.Proofs.Ytgmdlndiilibpaa.Tab Go.Proofs.Ytgmdlndiilibpaa.CallK
attribute [local go_sem] max2_int min2_int max_two min_two max_three min_three max_four min_four   -- for this text's walks alone
set_option linter.unusedVariables false
set_option linter.unusedSimpArgs false
set_option maxHeartbeats 4000000 in
set_option maxRecDepth 100000 in
theorem peek_none {w : World} {base B gw : Nat} {vs : List Value} {lv : Value} {qs : List (List Sn)} {left : List Int} (h : CA w base B gw vs lv qs left) (k : Int) (hk : waits qs k = 0) :
    Calls Try.prog 29 #[.pointer (some ⟨B, 0, none⟩), .int .i64 k] w fun e w' => e = .returned (.tuple #[.agg #[.int .i64 0, .int .i64 0, .int .u64 0], .int .i64 0, .bool false]) ∧ Below w.heap.size w w' := by
  have hB1 := (Below.refl w.heap.size w).alloc (Nat.le_refl _) (.cells #[.int .i64 0, .int .i64 0, .int .u64 0] 46)
  have hb4 := blk_new w (.cells #[.int .i64 0, .int .i64 0, .int .u64 0] 46)
  have h1 := h.below hB1
  go_enter Try.func29, Try.ntmps29
  go_wp2_with fail
  obtain ⟨w1, hw1⟩ : ∃ w1, w.alloc (.cells #[.int .i64 0, .int .i64 0, .int .u64 0] 46) = w1 := ⟨_, rfl⟩
  rw [hw1] at hB1 hb4 h1 ⊢
  clear hw1
  refine (waiting_calls h1 k).mono ?_
  rw [hk]
  rintro e w' ⟨rfl, rfl⟩
  have HB1 := Aside0.mk hB1
  have HB4 := Aside0.mk hb4
  have q0 := (blk_cell hb4 0).trans rfl
  have q1 := (blk_cell hb4 1).trans rfl
  have q2 := (blk_cell hb4 2).trans rfl
  have f0 := blk_frozen hb4 0
  have f1 := blk_frozen hb4 1
  have f2 := blk_frozen hb4 2
  clear h h1 hB1 hb4
  obtain ⟨g4, hg4⟩ : ∃ g4, w.heap.size = g4 := ⟨_, rfl⟩
  have HG4 := Aside0.mk hg4
  rw [hg4] at HB1 HB4 q0 q1 q2 f0 f1 f2 ⊢
  clear hg4
  go_wp2_with fail
  (try simp only [Exit.inBlock, Exit.then])
  refine bodyPost_ret (results_ctt rfl _ _ g4 46 #[.int .i64 0, .int .i64 0, .int .u64 0] (0, 0) _ rfl (put46 HB4.out) Try.underlying46 rfl (by kernel_rfl)) rfl ?_
  rw [HG4.out]
  exact ⟨rfl, ((HB1.out.setCell (p := ⟨g4, 0, none⟩) (Nat.le_refl _) _).setCell (p := ⟨g4, 1, none⟩) (Nat.le_refl _) _).setCell (p := ⟨g4, 2, none⟩) (Nat.le_refl _) _⟩
set_option maxHeartbeats 4000000 in
set_option maxRecDepth 100000 in
theorem take_none {w : World} {base B gw : Nat} {vs : List Value} {lv : Value} {qs : List (List Sn)} {left : List Int} (h : CA w base B gw vs lv qs left) (k : Int) (hk : waits qs k = 0) :
    Calls Try.prog 28 #[.pointer (some ⟨B, 0, none⟩), .int .i64 k] w fun e w' => e = .returned (.tuple #[.agg #[.int .i64 0, .int .i64 0, .int .u64 0], .int .i64 0, .bool false]) ∧ Below w.heap.size w w' := by
  have hB1 := (Below.refl w.heap.size w).alloc (Nat.le_refl _) (.cells #[.int .i64 0, .int .i64 0, .int .u64 0] 46)
  have hb4 := blk_new w (.cells #[.int .i64 0, .int .i64 0, .int .u64 0] 46)
  have h1 := h.below hB1
  go_enter Try.func28, Try.ntmps28
  go_wp2_with fail
  obtain ⟨w1, hw1⟩ : ∃ w1, w.alloc (.cells #[.int .i64 0, .int .i64 0, .int .u64 0] 46) = w1 := ⟨_, rfl⟩
  rw [hw1] at hB1 hb4 h1 ⊢
  clear hw1
  refine (peek_none h1 k hk).mono ?_
  rintro e w' ⟨rfl, hb⟩
  have hB2 := (below_step hB1 hb).alloc (below_step hB1 hb).size (.cells #[.int .i64 0, .int .i64 0, .int .u64 0] 46)
  have hb4' := blk_alloc (blk_below hb4 hb) (.cells #[.int .i64 0, .int .i64 0, .int .u64 0] 46)
  have hb7 := blk_new w' (.cells #[.int .i64 0, .int .i64 0, .int .u64 0] 46)
  have HB1 := Aside0.mk hB2
  have HB4 := Aside0.mk hb4'
  have q0 := (blk_cell hb4' 0).trans rfl
  have q1 := (blk_cell hb4' 1).trans rfl
  have q2 := (blk_cell hb4' 2).trans rfl
  have f0 := blk_frozen hb4' 0
  have f1 := blk_frozen hb4' 1
  have f2 := blk_frozen hb4' 2
  have hne : w.heap.size ≠ w'.heap.size := by have := (Array.getElem?_eq_some_iff.1 (blk_below hb4 hb)).1; omega
  clear hB1 hb4 h h1 hb hB2 hb4' hb7
  obtain ⟨g4, hg4⟩ : ∃ g4, w.heap.size = g4 := ⟨_, rfl⟩
  have HG4 := Aside0.mk hg4
  rw [hg4] at HB1 HB4 q0 q1 q2 f0 f1 f2 hne ⊢
  clear hg4
  go_wp2_with fail
  (try simp only [Exit.inBlock, Exit.then])
  refine bodyPost_ret (results_ctt rfl _ _ g4 46 #[.int .i64 0, .int .i64 0, .int .u64 0] (0, 0) _ rfl (put46 HB4.out) Try.underlying46 rfl (by kernel_rfl)) rfl ?_
  rw [HG4.out]
  exact ⟨rfl, ((HB1.out.setCell (p := ⟨g4, 0, none⟩) (Nat.le_refl _) _).setCell (p := ⟨g4, 1, none⟩) (Nat.le_refl _) _).setCell (p := ⟨g4, 2, none⟩) (Nat.le_refl _) _⟩
end Go.Proofs.Ytgmdlndiilibpaa.PC

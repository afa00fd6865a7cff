import Derived.Test.YtgmdlndiilibpaaCallE
namespace Go.Proofs.Ytgmdlndiilibpaa.PC
open Go.RowKit Go.Proofs.YtgmdlndiilibpaaW.PrintWords Go.Proofs.YtgmdlndiilibpaaW.PrintLast Go.Proofs.YtgmdlndiilibpaaW.PrintMore Go.Proofs.Ytgmdlndiilibpaa.Tab Go.Proofs.Ytgmdlndiilibpaa.CallK
attribute [local go_sem] max2_int min2_int max_two min_two max_three min_three max_four min_four   -- for this text's walks alone
set_option linter.unusedVariables false
set_option linter.unusedSimpArgs false
theorem slice_tail (g off N C : Nat) (w : World) : Sem.run Try.prog (Instr.slice 108 (.slice (some ⟨g, off, none⟩) (N + 1) (C + 1)) (some (.int .i64 1)) none none) w = .ok (.slice (if C = 0 then some ⟨g, off, none⟩ else some ⟨g, off + 2, none⟩) N C) w := by
  have h1 : (1 : Int) ≤ (N : Int) + 1 := by omega
  have hi : (Try.prog.info? 110).map (·.size) = some 2 := by kernel_rfl
  obtain ⟨i0, hi0, hi1⟩ := Option.map_eq_some_iff.1 hi
  simp [Instr.slice, Instr.sliceBounds, Instr.sliceBound, run_underlying Try.underlying108, asIntOf, h1, sizeOf, typeInfo, hi0, hi1, Addr.add_lit]
theorem mv3 (W : World) (g : Nat) (a b c : Value) : Mv [g] W (((W.setCell ⟨g, 0, none⟩ a).setCell ⟨g, 1, none⟩ b).setCell ⟨g, 2, none⟩ c) :=
  ⟨by simp [World.setCell], by simp [World.setCell], by simp [World.setCell], by simp [World.setCell], fun k _ hk => by
    have hp : k ≠ g := fun e => hk (List.mem_singleton.2 e)
    exact (Below.heap_setCell _ _ _ _ hp).trans ((Below.heap_setCell _ _ _ _ hp).trans (Below.heap_setCell _ _ _ _ hp))⟩
theorem CA_ids_lt {w : World} {base B gw : Nat} {vs : List Value} {lv : Value} {qs : List (List Sn)} {left : List Int} (h : CA w base B gw vs lv qs left) : ∀ k ∈ ids B gw vs lv, k < w.heap.size := fun k hk => (h.typed hk).2
set_option maxHeartbeats 4000000 in
set_option maxRecDepth 100000 in
theorem take_some {w : World} {base B gw : Nat} {vs : List Value} {lv : Value} {qs : List (List Sn)} {left : List Int} (h : CA w base B gw vs lv qs left) (n : Nat) (kd cx va : Int) (i : Nat) (l : List Sn) (hq : qs[n]? = some ((packV kd cx va, (i : Int)) :: l)) (hok : Ok kd cx va) (x : Int) (hx : left[i]? = some x) (hx1 : 1 ≤ x ∧ x ≤ 1000) :
    Calls Try.prog 28 #[.pointer (some ⟨B, 0, none⟩), .int .i64 n] w fun e w' => e = .returned (.tuple #[.agg #[.int .i64 kd, .int .i64 cx, .int .u64 va], .int .i64 i, .bool true]) ∧
      ∃ vs', CA w' base B gw vs' lv (qs.set n l) (left.set i (x - 1)) ∧ Mv (ids B gw vs lv) w w' ∧ ∀ j ∈ ids B gw vs' lv, j ∈ ids B gw vs lv ∨ w.heap.size ≤ j := by
  obtain ⟨hn, hqn⟩ := List.getElem?_eq_some_iff.1 hq
  obtain ⟨hil, hxi⟩ := List.getElem?_eq_some_iff.1 hx
  have hB1 := (Below.refl w.heap.size w).alloc (Nat.le_refl _) (.cells #[.int .i64 0, .int .i64 0, .int .u64 0] 46)
  have hb4 := blk_new w (.cells #[.int .i64 0, .int .i64 0, .int .u64 0] 46)
  have h1 := h.below hB1
  have HLT := Aside0.mk (CA_ids_lt h)
  have HQ := Aside0.mk hq
  have HOK := Aside0.mk hok
  go_enter Try.func28, Try.ntmps28
  go_wp2_with fail
  obtain ⟨w1, hw1⟩ : ∃ w1, w.alloc (.cells #[.int .i64 0, .int .i64 0, .int .u64 0] 46) = w1 := ⟨_, rfl⟩
  rw [hw1] at hB1 hb4 h1 ⊢
  clear hw1
  refine (peek_some h1 n kd cx va i l hq hok).mono ?_
  rintro e w' ⟨rfl, hb⟩
  have hB2 := (below_step hB1 hb).alloc (below_step hB1 hb).size (.cells #[.int .i64 kd, .int .i64 cx, .int .u64 va] 46)
  have hb4' := blk_alloc (blk_below hb4 hb) (.cells #[.int .i64 kd, .int .i64 cx, .int .u64 va] 46)
  have hb7 := blk_new w' (.cells #[.int .i64 kd, .int .i64 cx, .int .u64 va] 46)
  have h2 := h.below hB2
  have hle : w.heap.size ≤ w'.heap.size := (below_step hB1 hb).size
  have hne : w.heap.size ≠ w'.heap.size := by have := (Array.getElem?_eq_some_iff.1 (blk_below hb4 hb)).1; omega
  have HB1 := Aside0.mk hB2
  have HB4 := Aside0.mk hb4'
  have HB7 := Aside0.mk hb7
  have H2 := Aside0.mk h2
  have HX := Aside0.mk hx
  clear hB1 hb4 h h1 hb hB2 hb4' hb7 h2 hq hqn hx hxi hok
  obtain ⟨g4, hg4⟩ : ∃ g4, w.heap.size = g4 := ⟨_, rfl⟩
  have HG4 := Aside0.mk hg4
  rw [hg4] at HB1 HB4 hne hle HLT ⊢
  clear hg4
  go_wp2_with fail
  generalize w'.alloc (.cells #[.int .i64 kd, .int .i64 cx, .int .u64 va] 46) = W1 at HB1 HB4 HB7 H2 ⊢
  generalize w'.heap.size = g7 at HB7 hne hle ⊢
  have hh := H2.out
  obtain ⟨hn', hqn⟩ := List.getElem?_eq_some_iff.1 HQ.out
  obtain ⟨v, hv, hqv⟩ := hh.at hn'
  rw [hqn] at hqv
  obtain ⟨g, off, cap, rfl, hlc, y0, y1⟩ := hqv.head
  have c0 := hh.cell0
  have c1 := hh.cellq hv
  have f1 := hh.frw n
  obtain ⟨A1, hA1⟩ : ∃ A1, (if cap = 0 then some (⟨g, off, none⟩ : Addr) else some ⟨g, off + 2, none⟩) = A1 := ⟨_, rfl⟩
  have hsl := fun W => slice_tail g off l.length cap W
  simp only [hA1] at hsl
  have HA1 := Aside0.mk hA1
  clear hA1
  have hnI : (n : Int) < (qs.length : Int) := by omega
  have HQV := Aside0.mk hqv
  have HV := Aside0.mk hv
  clear hh hqv hv hqn y0 y1 hn'
  refine start_ (n := 15) (S := fun w' => w'.cell? ⟨B, 0, none⟩ = some (.slice (some ⟨gw, 0, none⟩) qs.length qs.length) ∧ w'.cell? ⟨gw, n, none⟩ = some (.slice (some ⟨g, off, none⟩) (l.length + 1) (cap + 1))) (ds := [14]) #[false, false, false, false, false, false, false, false, false, false, false, false, false, false, false] (by kernel_rfl) rfl rfl ⟨c0, c1⟩ (fun hHeld => ?_)
  refine pure_ (i := 0) (N := some 18) (v := ?_) (a' := ?_) #[true, false, false, false, false, false, false, false, false, false, false, false, false, false, false] rfl rfl (by kernel_rfl) (fun _ _ _ h => h) (Or.inl ⟨by rfl, ?_⟩) ?_ ?_
  rotate_left
  · intro w'
    go_simp
    with_reducible rfl
  rotate_left
  · simp only [Act.put, List.setIfInBounds_toArray, List.set_cons_zero, List.set_cons_succ, i64_w, i32_w]
    rfl
  refine pure_ (i := 1) (N := some 19) (v := ?_) (a' := ?_) #[true, true, false, false, false, false, false, false, false, false, false, false, false, false, false] rfl rfl (by kernel_rfl) (fun _ _ _ h => h) (Or.inl ⟨by rfl, ?_⟩) ?_ ?_
  rotate_left
  · intro w'
    go_simp
    with_reducible rfl
  rotate_left
  · simp only [Act.put, List.setIfInBounds_toArray, List.set_cons_zero, List.set_cons_succ, i64_w, i32_w]
    rfl
  refine pure_ (i := 2) (N := some 20) (v := ?_) (a' := ?_) #[true, true, true, false, false, false, false, false, false, false, false, false, false, false, false] rfl rfl (by kernel_rfl) (fun _ _ _ h => h) (Or.inl ⟨by rfl, ?_⟩) ?_ ?_
  rotate_left
  · intro w'
    go_simp
    with_reducible rfl
  rotate_left
  · simp only [Act.put, List.setIfInBounds_toArray, List.set_cons_zero, List.set_cons_succ, i64_w, i32_w]
    rfl
  refine pure_ (i := 4) (N := some 22) (v := ?_) (a' := ?_) #[true, true, true, false, true, false, false, false, false, false, false, false, false, false, false] rfl rfl (by kernel_rfl) (fun _ _ _ h => h) (Or.inl ⟨by rfl, ?_⟩) ?_ ?_
  rotate_left
  · intro w'
    go_simp
    with_reducible rfl
  rotate_left
  · simp only [Act.put, List.setIfInBounds_toArray, List.set_cons_zero, List.set_cons_succ, i64_w, i32_w]
    rfl
  refine pure_ (i := 5) (N := some 23) (v := ?_) (a' := ?_) #[true, true, true, false, true, true, false, false, false, false, false, false, false, false, false] rfl rfl (by kernel_rfl) (fun _ _ _ h => h) (Or.inl ⟨by rfl, ?_⟩) ?_ ?_
  rotate_left
  · intro w'
    go_simp
    with_reducible rfl
  rotate_left
  · simp only [Act.put, List.setIfInBounds_toArray, List.set_cons_zero, List.set_cons_succ, i64_w, i32_w]
    rfl
  refine pure_ (i := 6) (N := some 24) (v := ?_) (a' := ?_) #[true, true, true, false, true, true, true, false, false, false, false, false, false, false, false] rfl rfl (by kernel_rfl) (fun _ _ _ h => h) (Or.inl ⟨by rfl, ?_⟩) ?_ ?_
  rotate_left
  · intro w'
    go_simp
    with_reducible rfl
  rotate_left
  · simp only [Act.put, List.setIfInBounds_toArray, List.set_cons_zero, List.set_cons_succ, i64_w, i32_w]
    rfl
  refine pure_ (i := 7) (N := some 25) (v := ?_) (a' := ?_) #[true, true, true, false, true, true, true, true, false, false, false, false, false, false, false] rfl rfl (by kernel_rfl) (fun _ _ _ h => h) (Or.inl ⟨by rfl, ?_⟩) ?_ ?_
  rotate_left
  · intro w'
    go_simp
    with_reducible rfl
  rotate_left
  · simp only [Act.put, List.setIfInBounds_toArray, List.set_cons_zero, List.set_cons_succ, i64_w, i32_w]
    rfl
  refine pure_ (i := 9) (N := some 27) (v := ?_) (a' := ?_) #[true, true, true, false, true, true, true, true, false, true, false, false, false, false, false] rfl rfl (by kernel_rfl) (fun _ _ _ h => h) (Or.inl ⟨by rfl, ?_⟩) ?_ ?_
  rotate_left
  · intro w'
    go_simp
    with_reducible rfl
  rotate_left
  · simp only [Act.put, List.setIfInBounds_toArray, List.set_cons_zero, List.set_cons_succ, i64_w, i32_w]
    rfl
  refine take_ (i := 3) (N := some 21) (v := ?_) (a' := ?_) #[true, true, true, true, true, true, true, true, false, true, false, false, false, false, false] rfl rfl (by kernel_rfl) (fun _ _ _ h => h) (Or.inl ⟨by rfl, ?_⟩) hHeld ?_ ?_
  rotate_left
  · rintro w' ⟨s0, s1⟩
    go_simp
    with_reducible rfl
  rotate_left
  · simp only [Act.put, List.setIfInBounds_toArray, List.set_cons_zero, List.set_cons_succ, i64_w, i32_w]
    rfl
  refine take_ (i := 8) (N := some 26) (v := ?_) (a' := ?_) #[true, true, true, true, true, true, true, true, true, true, false, false, false, false, false] rfl rfl (by kernel_rfl) (fun _ _ _ h => h) (Or.inl ⟨by rfl, ?_⟩) hHeld ?_ ?_
  rotate_left
  · rintro w' ⟨s0, s1⟩
    go_simp
    with_reducible rfl
  rotate_left
  · simp only [Act.put, List.setIfInBounds_toArray, List.set_cons_zero, List.set_cons_succ, i64_w, i32_w]
    rfl
  refine pure_ (i := 10) (N := some 28) (v := ?_) (a' := ?_) #[true, true, true, true, true, true, true, true, true, true, true, false, false, false, false] rfl rfl (by kernel_rfl) (fun _ _ _ h => h) (Or.inl ⟨by rfl, ?_⟩) ?_ ?_
  rotate_left
  · intro w'
    go_simp
    with_reducible rfl
  rotate_left
  · simp only [Act.put, List.setIfInBounds_toArray, List.set_cons_zero, List.set_cons_succ, i64_w, i32_w]
    rfl
  refine take_ (i := 11) (N := some 29) (v := ?_) (a' := ?_) #[true, true, true, true, true, true, true, true, true, true, true, true, false, false, false] rfl rfl (by kernel_rfl) (fun _ _ _ h => h) (Or.inl ⟨by rfl, ?_⟩) hHeld ?_ ?_
  rotate_left
  · rintro w' ⟨s0, s1⟩
    go_simp
    with_reducible rfl
  rotate_left
  · simp only [Act.put, List.setIfInBounds_toArray, List.set_cons_zero, List.set_cons_succ, i64_w, i32_w]
    rfl
  refine pure_ (i := 12) (N := some 30) (v := ?_) (a' := ?_) #[true, true, true, true, true, true, true, true, true, true, true, true, true, false, false] rfl rfl (by kernel_rfl) (fun _ _ _ h => h) (Or.inl ⟨by rfl, ?_⟩) ?_ ?_
  rotate_left
  · intro w'
    go_simp
    with_reducible rfl
  rotate_left
  · simp only [Act.put, List.setIfInBounds_toArray, List.set_cons_zero, List.set_cons_succ, i64_w, i32_w]
    rfl
  refine pure_ (i := 13) (N := some 31) (v := ?_) (a' := ?_) #[true, true, true, true, true, true, true, true, true, true, true, true, true, true, false] rfl rfl (by kernel_rfl) (fun _ _ _ h => h) (Or.inl ⟨by rfl, ?_⟩) ?_ ?_
  rotate_left
  · intro w'
    go_simp
    with_reducible rfl
  rotate_left
  · simp only [Act.put, List.setIfInBounds_toArray, List.set_cons_zero, List.set_cons_succ, i64_w, i32_w]
    rfl
  refine last_ (i := 14) (N := none) #[true, true, true, true, true, true, true, true, true, true, true, true, true, true, true] rfl rfl (by kernel_rfl) (by decide) (fun K hK => ?_)
  refine skip_ (w1 := ?_) (by rfl) rfl ?_ ?_
  rotate_left
  · go_simp
    with_reducible rfl
  refine hK.out _ _ ?_
  clear hK K
  refine done_ (by kernel_rfl) ?_
  clear hHeld c0 c1 f1 hsl
  have hat : blk (.slice A1 l.length cap) = blk (.slice (some ⟨g, off, none⟩) (l.length + 1) (cap + 1)) ∨ blk (.slice A1 l.length cap) = none ∨ ∃ b, blk (.slice A1 l.length cap) = some b ∧ W1.heap.size ≤ b := by
    rw [← HA1.out]
    cases cap with
    | zero => exact .inr (.inl rfl)
    | succ c => exact .inl rfl
  have htl := HQV.out.tail (some ⟨g, off, none⟩)
  rw [HA1.out] at htl
  obtain ⟨h3, hm3, hi3⟩ := H2.out.setq HV.out HQ.out (World.grownBy.refl W1 _) htl hat
  have hbd : Below (W1.setCell ⟨gw, n, none⟩ (.slice A1 l.length cap)).heap.size (W1.setCell ⟨gw, n, none⟩ (.slice A1 l.length cap)) (W1.setCell ⟨gw, n, none⟩ (.slice A1 l.length cap)).drew := (Below.refl _ _).drew
  have h4 := h3.below hbd
  have hm4 : Mv (ids B gw vs lv) W1 (W1.setCell ⟨gw, n, none⟩ (.slice A1 l.length cap)).drew := hm3.trans (Mv.of_below (S := []) hbd) (fun k hk => by cases hk)
  clear hbd h3 hm3 htl hat HQV HV H2
  generalize (W1.setCell ⟨gw, n, none⟩ (.slice A1 l.length cap)).drew = W2 at h4 hm4 ⊢
  generalize hvs : vs.set n (.slice A1 l.length cap) = vs' at h4 hi3
  clear hvs
  obtain ⟨ad, c', hlv⟩ := Kd.R_slice1 h4.hL (by omega)
  subst hlv
  obtain ⟨gl, rfl⟩ := Kd.R_head h4.hL
  obtain ⟨hcl, hfl⟩ := Kd.R_celln 0 h4.hL (i : Int) (by omega) (by omega)
  have hrd : rdOf 0 left (i : Int) = x := by simp [rdOf, List.getD_eq_getElem?_getD, HX.out]
  rw [hrd, Int.toNat_natCast] at hcl
  rw [Int.toNat_natCast] at hfl
  have c1 := h4.cell1
  have hilI : (i : Int) < (left.length : Int) := by omega
  have hw64 : IntKind.i64.wrap (x - 1) = x - 1 := by rw [IntKind.wrap_i64]; omega
  obtain ⟨h5, hm5⟩ := h4.setn i (x - 1)
  have hm6 := hm4.trans hm5 (fun k hk => by
    rcases mem_ids.1 hk with e | e | e | e
    · exact .inl (mem_ids.2 (.inl e))
    · exact .inl (mem_ids.2 (.inr (.inl e)))
    · exact hi3 k (mem_ids.2 (.inr (.inr (.inl e))))
    · exact .inl (mem_ids.2 (.inr (.inr (.inr e)))))
  have hk4 := (hm6.block g4 (Array.getElem?_eq_some_iff.1 HB4.out).1 (fun hk => Nat.lt_irrefl _ (HLT.out g4 hk))).trans HB4.out
  have hk7 := (hm6.block g7 (Array.getElem?_eq_some_iff.1 HB7.out).1 (fun hk => by have := HLT.out g7 hk; omega)).trans HB7.out
  have H5 := Aside0.mk h5
  have HM6 := Aside0.mk hm6
  have HI := Aside0.mk hi3
  have HK4 := Aside0.mk hk4
  have q0 := (blk_cell hk4 0).trans rfl
  have q1 := (blk_cell hk4 1).trans rfl
  have q2 := (blk_cell hk4 2).trans rfl
  have f0 := blk_frozen hk4 0
  have f1 := blk_frozen hk4 1
  have f2 := blk_frozen hk4 2
  have p0 := (blk_cell hk7 0).trans rfl
  have p1 := (blk_cell hk7 1).trans rfl
  have p2 := (blk_cell hk7 2).trans rfl
  clear h4 hm4 hm5 h5 hm6 hk4 hk7 hi3 hrd
  (try simp only [Exit.inBlock, Exit.then])
  go_wp2_with fail
  generalize W2.setCell ⟨gl, i, none⟩ (.int .i64 (x - 1)) = W3 at H5 HM6 HK4 ⊢
  refine bodyPost_ret (results_ctt rfl _ _ g4 46 #[.int .i64 kd, .int .i64 cx, .int .u64 va] (0, 0) _ rfl (put46 HK4.out) Try.underlying46 rfl (by kernel_rfl)) rfl ?_
  have hg4 := HG4.out
  have hgl : g4 < W1.heap.size := (Array.getElem?_eq_some_iff.1 HB4.out).1
  have hmv := mv3 W3 g4 (.int .i64 kd) (.int .i64 cx) (.int .u64 va)
  refine ⟨rfl, vs', H5.out.mv hmv (fun k hk hm => ?_), ?_, fun j hj => (HI.out j hj).imp id (fun h => by omega)⟩
  · obtain rfl := List.mem_singleton.1 hm
    rcases HI.out _ hk with h | h
    · exact Nat.lt_irrefl _ (HLT.out _ h)
    · omega
  · refine Mv.trans (Mv.trans (Mv.of_below (S := _) (by rw [hg4]; exact HB1.out)) HM6.out (fun k hk => .inl hk)) hmv (fun k hk => ?_)
    obtain rfl := List.mem_singleton.1 hk
    exact .inr (by omega)

end Go.Proofs.Ytgmdlndiilibpaa.PC

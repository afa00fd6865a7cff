/- CallNone: its walk. Written by mkcn.py over cn.txt. -/
import Derived.Test.YtgmdlndiilibpaaRefC
import Derived.Test.YtgmdlndiilibpaaCallP
import Derived.Lib.Builder
import Derived.OneCell
namespace Go.Proofs.Ytgmdlndiilibpaa.PC
open Go.RowKit Go.Proofs.YtgmdlndiilibpaaW.PrintWords Go.Proofs.YtgmdlndiilibpaaW.PrintLast Go.Proofs.YtgmdlndiilibpaaW.PrintMore Go.Proofs.Ytgmdlndiilibpaa.Tab Go.Proofs.Ytgmdlndiilibpaa.CallK
attribute [local go_sem] max2_int min2_int max_two min_two max_three min_three max_four min_four   -- for this text's walks alone
set_option linter.unusedVariables false
set_option linter.unusedSimpArgs false
theorem sendR_err (N : Int) (L : List PR.S104) (kd cx va : Int) (T : List Int) : (PR.sendR N L kd cx va T).2.2.2 = sendErr N.toNat kd va T := by
  unfold PR.sendR
  split
  · rename_i h; rw [h]
  · rfl
def tot (qs : List (List Sn)) : Nat := (qs.map List.length).sum
theorem tot_idle : ∀ qs : List (List Sn), isIdle qs = decide (tot qs = 0)
  | [] => rfl
  | l :: qs => by
    have h1 : isIdle (l :: qs) = (l.isEmpty && isIdle qs) := rfl
    rw [h1, tot_idle qs, isEmpty_len]
    unfold tot
    rw [List.map_cons, List.sum_cons, ← Bool.decide_and]
    congr 1
    exact propext ⟨fun h => by omega, fun h => by omega⟩
theorem tot_set : ∀ (qs : List (List Sn)) (k : Nat) (x : Sn), k < qs.length → tot (qs.set k (qs.getD k [] ++ [x])) = tot qs + 1
  | [], k, x, h => by simp at h
  | l :: qs, 0, x, h => by
    unfold tot
    simp only [List.set_cons_zero, List.map_cons, List.sum_cons, List.getD_cons_zero, List.length_append, List.length_singleton]
    omega
  | l :: qs, k + 1, x, h => by
    have ih := tot_set qs k x (by simpa using h)
    unfold tot at ih ⊢
    simp only [List.set_cons_succ, List.map_cons, List.sum_cons, List.getD_cons_succ]
    omega
theorem tot_send (x : Sn) : ∀ (T : List Int) (qs : List (List Sn)), T.all (inR qs.length) = true → tot (qsend qs T x) = tot qs + T.length
  | [], qs, h => rfl
  | t :: T, qs, h => by
    rw [List.all_cons, Bool.and_eq_true] at h
    have ht : t.toNat < qs.length := by have := h.1; unfold inR at this; simp at this; omega
    have hl : (push1 x qs t).length = qs.length := by simp [push1]
    show tot (qsend (push1 x qs t) T x) = _
    rw [tot_send x T _ (by rw [hl]; exact h.2)]
    unfold push1
    rw [tot_set qs _ x ht]
    simp; omega
theorem idle_send (T : List Int) (x : Sn) (h : T.all (inR 4) = true) : isIdle (qsend (List.replicate 4 []) T x) = decide (T.length = 0) := by
  rw [tot_idle, tot_send x T (List.replicate 4 []) h]
  rw [show tot (List.replicate 4 []) = 0 from rfl, Nat.zero_add]
theorem err_all {kd va : Int} {N : Nat} {T : List Int} (h : sendErr N kd va T = 0) : T.all (inR N) = true := by
  unfold sendErr at h
  split at h
  · cases h
  · split at h
    · cases h
    · rename_i h2; simpa using h2
set_option maxHeartbeats 8000000 in
set_option maxRecDepth 100000 in
theorem none_calls (w : World) (kd cx va : Int) (A0 : Option Addr) (c0 : Nat) (xs : List Int) (hr0 : Kd.C (Kd.int .i64) w A0 xs.length xs) (hc0 : xs.length ≤ c0) :
    Calls Try.prog 4 #[.agg #[.int .i64 kd, .int .i64 cx, .int .u64 va], .slice A0 xs.length c0] w fun e w' => e = .returned (.bool true) ∧ Below w.heap.size w w' := by
  have HR := Aside0.mk hr0
  clear hr0
  have hb0 := (Below.refl w.heap.size w).alloc (Nat.le_refl _) (.cells #[.int .i64 kd, .int .i64 cx, .int .u64 va] 35)
  have hk0 := blk_new w (.cells #[.int .i64 kd, .int .i64 cx, .int .u64 va] 35)
  go_enter Try.func4, Try.ntmps4
  go_wp2_with fail
  obtain ⟨bx, hbxe⟩ : ∃ bx, w.heap.size = bx := ⟨_, rfl⟩
  have HG := Aside0.mk hbxe
  rw [hbxe] at hb0 hk0 ⊢
  generalize w.alloc (.cells #[.int .i64 kd, .int .i64 cx, .int .u64 va] 35) = wb at hb0 hk0 ⊢
  refine (new_calls wb 4 4 (by decide)).mono ?_
  rintro e w1 ⟨B, gw, rfl, h1, hb1⟩
  have hsz : bx < wb.heap.size := blk_lt hk0
  have HB1 := Aside0.mk (hb0.trans (hb1.mono (Nat.le_of_lt hsz)))
  have HK1 := Aside0.mk (blk_below hk0 hb1)
  have H1 := Aside0.mk h1
  have HLT := Aside0.mk (CA_ids_lt h1)
  have HBS := Aside0.mk hsz
  clear h1 hb1 hb0 hk0 hbxe hsz
  obtain ⟨T, hT, hTl, hTx⟩ : ∃ T : List Int, T = xs.take 10 ∧ T.length ≤ 10 ∧ (if (10 : Int) < (xs.length : Int) then 10 else (xs.length : Int)) = (T.length : Int) := ⟨_, rfl, by rw [List.length_take]; omega, by rw [List.length_take]; split <;> omega⟩
  have hTc : T.length ≤ c0 := by rw [hT, List.length_take]; omega
  have hCT : Kd.C (Kd.int .i64) w A0 T.length T := by
    have := int_take HR.out (show T.length ≤ xs.length by rw [hT, List.length_take]; omega)
    have e : xs.take T.length = T := by rw [hT, List.length_take, List.take_eq_take_iff]; omega
    rwa [e] at this
  have HC := Aside0.mk hCT
  clear hCT hT HR
  go_wp2_with fail
  obtain ⟨x0, x1, x2⟩ : w1.cell? ⟨bx, 0, none⟩ = some (.int .i64 kd) ∧ w1.cell? ⟨bx, 1, none⟩ = some (.int .i64 cx) ∧ w1.cell? ⟨bx, 2, none⟩ = some (.int .u64 va) := ⟨(blk_cell HK1.out 0).trans rfl, (blk_cell HK1.out 1).trans rfl, (blk_cell HK1.out 2).trans rfl⟩
  have hcb : ∀ w', Below w1.heap.size w1 w' → Kd.C (Kd.int .i64) w' A0 T.length T := fun w' hb => Kd.C_below HC.out (by rw [HG.out]; exact HB1.out.trans (hb.mono (by rw [← HG.out]; exact HB1.out.size)))
  have HCB := Aside0.mk hcb
  have hbl : bx < w1.heap.size := blk_lt HK1.out
  clear hcb
  refine start_ (n := 12) (S := fun w' => Below w1.heap.size w1 w') (ds := [9]) #[false, false, false, false, false, false, false, false, false, false, false, false] (by kernel_rfl) rfl rfl (Below.refl _ w1).drew (fun hHeld => ?_)
  refine pure_ (i := 2) (N := some 26) (v := ?_) (a' := ?_) #[false, false, true, false, false, false, false, false, false, false, false, false] rfl rfl (by kernel_rfl) (fun _ _ _ h => h) (Or.inl ⟨by rfl, ?_⟩) ?_ ?_
  rotate_left
  · intro w'
    go_simp
    with_reducible rfl
  rotate_left
  · simp only [Act.put, List.setIfInBounds_toArray, List.set_cons_zero, List.set_cons_succ, i64_w, i32_w]
    rfl
  refine take_ (i := 1) (N := some 25) (v := ?_) (a' := ?_) #[false, true, true, false, false, false, false, false, false, false, false, false] rfl rfl (by kernel_rfl) (fun _ _ _ h => h) (Or.inl ⟨by rfl, ?_⟩) hHeld ?_ ?_
  rotate_left
  · rintro w' hS
    have y0 := (hS.cell (p := ⟨bx, 0, none⟩) hbl).trans x0
    have y1 := (hS.cell (p := ⟨bx, 1, none⟩) hbl).trans x1
    have y2 := (hS.cell (p := ⟨bx, 2, none⟩) hbl).trans x2
    go_simp
    with_reducible rfl
  rotate_left
  · simp only [Act.put, List.setIfInBounds_toArray, List.set_cons_zero, List.set_cons_succ, i64_w, i32_w]
    rfl
  refine join_ (σ := Nat × Value × Option Addr × Nat) 3 #[true, true, true, true, true, true, true, true, true, false, false, false] (fun s => [(24, s.2.1), (27, .tuple #[.agg #[.int .i64 (PR.sendR 4 [] kd cx va T).1, (.slice s.2.2.1 (PR.sendR 4 [] kd cx va T).2.1.length s.2.2.2)], .int .i64 (PR.sendR 4 [] kd cx va T).2.2.1, .int .i64 (PR.sendR 4 [] kd cx va T).2.2.2]), (23, .tuple #[.agg #[.int .i64 (PR.sendR 4 [] kd cx va T).1, (.slice s.2.2.1 (PR.sendR 4 [] kd cx va T).2.1.length s.2.2.2)], .int .i64 (PR.sendR 4 [] kd cx va T).2.2.1, .int .i64 (PR.sendR 4 [] kd cx va T).2.2.2]), (28, .agg #[.int .i64 (PR.sendR 4 [] kd cx va T).1, (.slice s.2.2.1 (PR.sendR 4 [] kd cx va T).2.1.length s.2.2.2)]), (29, .int .i64 (PR.sendR 4 [] kd cx va T).2.2.1), (30, .int .i64 (PR.sendR 4 [] kd cx va T).2.2.2), (6, .pointer (some ⟨s.1, 0, none⟩))]) (fun s w' => Below w1.heap.size w1 w' ∧ w'.heap[s.1]? = some (.cells #[.int .i64 0, .slice none 0 0] 41 (0, 0)) ∧ w1.heap.size ≤ s.1) (fun s w' hF => ?_) (fun hjoin => ?_)
  rotate_left
  · refine two_ (i := 0) (j := 8) (Ni := some 24) (Nj := some 6) #[true, true, true, false, false, false, false, false, false, false, false, false] #[false, true, true, false, false, false, false, false, true, false, false, false] rfl rfl rfl rfl (by kernel_rfl) (by decide) (by decide) (fun K hK => ?_) (fun K hK => ?_)
    · refine goes_ Try.func23 (by kernel_rfl) rfl #[.int .i64 4] (by rfl) rfl rfl (by (try simp only [List.map_toArray, List.map_cons, List.map_nil]); first | done | rfl) ?_
      refine (PR.lookasideref15_New.calls 4 4 [] w1.drew rfl).mono ?_
      rintro e wn1 ⟨vn1, rfl, hs1, hb1⟩
      obtain ⟨An1, cn1, hvn1, hcn1, hFn1⟩ := Kd.S_V (base' := 0) hs1
      subst hvn1
      refine ⟨_, rfl, ?_⟩
      have hc1 := below_step hHeld hb1
      have hV1 : Kd.V PR.k104 104 wn1 0 (fun _ => True) (.slice An1 ([] : List PR.S104).length cn1) [] := Kd.V_mk hcn1 hFn1
      refine hK.out _ _ hc1 (fun hHeld => ?_)
      clear hK K
      refine norm_ (a' := ?_) ?_ ?_
      rotate_left
      · show Act.put _ (some 24) _ = _
        simp only [Act.put, List.setIfInBounds_toArray, List.set_cons_zero, List.set_cons_succ, i64_w, i32_w]
        rfl
      refine two_ (i := 3) (j := 8) (Ni := some 27) (Nj := some 6) #[true, true, true, true, false, false, false, false, false, false, false, false] #[true, true, true, false, false, false, false, false, true, false, false, false] rfl rfl rfl rfl (by kernel_rfl) (by decide) (by decide) (fun K hK => ?_) (fun K hK => ?_)
      · refine goes_ Try.func22 (by kernel_rfl) rfl #[.agg #[.int .i64 4, .slice An1 ([] : List PR.S104).length cn1], .agg #[.int .i64 kd, .int .i64 cx, .int .u64 va], .slice A0 T.length c0] (by rfl) rfl rfl (by (try simp only [List.map_toArray, List.map_cons, List.map_nil]); first | done | rfl) ?_
        refine (PR.lookasideref15_Send.calls 5000 4 (fun _ => True) An1 cn1 [] kd cx va _ A0 c0 T _ _ _ _ wn1 (by first | exact hV1 | exact Kd.V_alloc hV1 _) (Kd.V_mk hTc (Kd.C_F (Kd.heap_int .i64) (HCB.out _ hHeld))) (PR.send_f T (by omega) 4 [] (by simp) kd cx va)).mono ?_
        rintro e wn2 ⟨v2, rfl, hv2, hb2⟩
        obtain ⟨Av2, cv2, hvv2⟩ := Kd.V_slice hv2
        subst hvv2
        refine ⟨_, rfl, ?_⟩
        have hc2 := below_step hHeld hb2
        refine hK.out _ _ hc2 (fun hHeld => ?_)
        clear hK K
        refine norm_ (a' := ?_) ?_ ?_
        rotate_left
        · show Act.put _ (some 27) _ = _
          simp only [Act.put, List.setIfInBounds_toArray, List.set_cons_zero, List.set_cons_succ, i64_w, i32_w]
          rfl
        refine pure_ (i := 4) (N := some 23) (v := ?_) (a' := ?_) #[true, true, true, true, true, false, false, false, false, false, false, false] rfl rfl (by kernel_rfl) (fun _ _ _ h => h) (Or.inl ⟨by rfl, ?_⟩) ?_ ?_
        rotate_left
        · intro w'
          go_simp
          with_reducible rfl
        rotate_left
        · simp only [Act.put, List.setIfInBounds_toArray, List.set_cons_zero, List.set_cons_succ, i64_w, i32_w]
          rfl
        refine pure_ (i := 5) (N := some 28) (v := ?_) (a' := ?_) #[true, true, true, true, true, true, false, false, false, false, false, false] rfl rfl (by kernel_rfl) (fun _ _ _ h => h) (Or.inl ⟨by rfl, ?_⟩) ?_ ?_
        rotate_left
        · intro w'
          go_simp
          with_reducible rfl
        rotate_left
        · simp only [Act.put, List.setIfInBounds_toArray, List.set_cons_zero, List.set_cons_succ, i64_w, i32_w]
          rfl
        refine pure_ (i := 6) (N := some 29) (v := ?_) (a' := ?_) #[true, true, true, true, true, true, true, false, false, false, false, false] rfl rfl (by kernel_rfl) (fun _ _ _ h => h) (Or.inl ⟨by rfl, ?_⟩) ?_ ?_
        rotate_left
        · intro w'
          go_simp
          with_reducible rfl
        rotate_left
        · simp only [Act.put, List.setIfInBounds_toArray, List.set_cons_zero, List.set_cons_succ, i64_w, i32_w]
          rfl
        refine pure_ (i := 7) (N := some 30) (v := ?_) (a' := ?_) #[true, true, true, true, true, true, true, true, false, false, false, false] rfl rfl (by kernel_rfl) (fun _ _ _ h => h) (Or.inl ⟨by rfl, ?_⟩) ?_ ?_
        rotate_left
        · intro w'
          go_simp
          with_reducible rfl
        rotate_left
        · simp only [Act.put, List.setIfInBounds_toArray, List.set_cons_zero, List.set_cons_succ, i64_w, i32_w]
          rfl
        refine one_ (i := 8) (N := some 6) #[true, true, true, true, true, true, true, true, true, false, false, false] rfl rfl (by kernel_rfl) (by decide) (fun K hK => ?_)
        refine value_ (v := .pointer (some ⟨(wn2).heap.size, 0, none⟩)) (w1 := (wn2).alloc (.cells #[.int .i64 0, .slice none 0 0] 41)) (by rfl) rfl ?_ ?_
        · go_simp
        have hl3 := hHeld.size
        have hc3 := hHeld.alloc hHeld.size (.cells #[.int .i64 0, .slice none 0 0] 41)
        have hg3 := blk_new (wn2) (.cells #[.int .i64 0, .slice none 0 0] 41)
        refine hK.out _ _ hc3 (fun hHeld => ?_)
        clear hK K
        refine norm_ (a' := ?_) ?_ ?_
        rotate_left
        · show Act.put _ (some 6) _ = _
          simp only [Act.put, List.setIfInBounds_toArray, List.set_cons_zero, List.set_cons_succ, i64_w, i32_w]
          rfl
        have hj := hjoin ((wn2).heap.size, Value.agg #[.int .i64 4, .slice An1 ([] : List PR.S104).length cn1], Av2, cv2) ((wn2).alloc (.cells #[.int .i64 0, .slice none 0 0] 41)) ⟨hHeld, (by first | exact hg3 | exact blk_below hg3 (by assumption) | exact blk_below (blk_below hg3 (by assumption)) (by assumption)), hl3⟩
        simp only [putAll, Act.put, List.setIfInBounds_toArray, List.set_cons_zero, List.set_cons_succ] at hj
        exact hj
      · refine value_ (v := .pointer (some ⟨(wn1).heap.size, 0, none⟩)) (w1 := (wn1).alloc (.cells #[.int .i64 0, .slice none 0 0] 41)) (by rfl) rfl ?_ ?_
        · go_simp
        have hl4 := hHeld.size
        have hc4 := hHeld.alloc hHeld.size (.cells #[.int .i64 0, .slice none 0 0] 41)
        have hg4 := blk_new (wn1) (.cells #[.int .i64 0, .slice none 0 0] 41)
        refine hK.out _ _ hc4 (fun hHeld => ?_)
        clear hK K
        refine norm_ (a' := ?_) ?_ ?_
        rotate_left
        · show Act.put _ (some 6) _ = _
          simp only [Act.put, List.setIfInBounds_toArray, List.set_cons_zero, List.set_cons_succ, i64_w, i32_w]
          rfl
        refine one_ (i := 3) (N := some 27) #[true, true, true, true, false, false, false, false, true, false, false, false] rfl rfl (by kernel_rfl) (by decide) (fun K hK => ?_)
        refine goes_ Try.func22 (by kernel_rfl) rfl #[.agg #[.int .i64 4, .slice An1 ([] : List PR.S104).length cn1], .agg #[.int .i64 kd, .int .i64 cx, .int .u64 va], .slice A0 T.length c0] (by rfl) rfl rfl (by (try simp only [List.map_toArray, List.map_cons, List.map_nil]); first | done | rfl) ?_
        refine (PR.lookasideref15_Send.calls 5000 4 (fun _ => True) An1 cn1 [] kd cx va _ A0 c0 T _ _ _ _ ((wn1).alloc (.cells #[.int .i64 0, .slice none 0 0] 41)) (by first | exact hV1 | exact Kd.V_alloc hV1 _) (Kd.V_mk hTc (Kd.C_F (Kd.heap_int .i64) (HCB.out _ hHeld))) (PR.send_f T (by omega) 4 [] (by simp) kd cx va)).mono ?_
        rintro e wn5 ⟨v5, rfl, hv5, hb5⟩
        obtain ⟨Av5, cv5, hvv5⟩ := Kd.V_slice hv5
        subst hvv5
        refine ⟨_, rfl, ?_⟩
        have hc5 := below_step hHeld hb5
        refine hK.out _ _ hc5 (fun hHeld => ?_)
        clear hK K
        refine norm_ (a' := ?_) ?_ ?_
        rotate_left
        · show Act.put _ (some 27) _ = _
          simp only [Act.put, List.setIfInBounds_toArray, List.set_cons_zero, List.set_cons_succ, i64_w, i32_w]
          rfl
        refine pure_ (i := 4) (N := some 23) (v := ?_) (a' := ?_) #[true, true, true, true, true, false, false, false, true, false, false, false] rfl rfl (by kernel_rfl) (fun _ _ _ h => h) (Or.inl ⟨by rfl, ?_⟩) ?_ ?_
        rotate_left
        · intro w'
          go_simp
          with_reducible rfl
        rotate_left
        · simp only [Act.put, List.setIfInBounds_toArray, List.set_cons_zero, List.set_cons_succ, i64_w, i32_w]
          rfl
        refine pure_ (i := 5) (N := some 28) (v := ?_) (a' := ?_) #[true, true, true, true, true, true, false, false, true, false, false, false] rfl rfl (by kernel_rfl) (fun _ _ _ h => h) (Or.inl ⟨by rfl, ?_⟩) ?_ ?_
        rotate_left
        · intro w'
          go_simp
          with_reducible rfl
        rotate_left
        · simp only [Act.put, List.setIfInBounds_toArray, List.set_cons_zero, List.set_cons_succ, i64_w, i32_w]
          rfl
        refine pure_ (i := 6) (N := some 29) (v := ?_) (a' := ?_) #[true, true, true, true, true, true, true, false, true, false, false, false] rfl rfl (by kernel_rfl) (fun _ _ _ h => h) (Or.inl ⟨by rfl, ?_⟩) ?_ ?_
        rotate_left
        · intro w'
          go_simp
          with_reducible rfl
        rotate_left
        · simp only [Act.put, List.setIfInBounds_toArray, List.set_cons_zero, List.set_cons_succ, i64_w, i32_w]
          rfl
        refine pure_ (i := 7) (N := some 30) (v := ?_) (a' := ?_) #[true, true, true, true, true, true, true, true, true, false, false, false] rfl rfl (by kernel_rfl) (fun _ _ _ h => h) (Or.inl ⟨by rfl, ?_⟩) ?_ ?_
        rotate_left
        · intro w'
          go_simp
          with_reducible rfl
        rotate_left
        · simp only [Act.put, List.setIfInBounds_toArray, List.set_cons_zero, List.set_cons_succ, i64_w, i32_w]
          rfl
        have hj := hjoin ((wn1).heap.size, Value.agg #[.int .i64 4, .slice An1 ([] : List PR.S104).length cn1], Av5, cv5) wn5 ⟨hHeld, (by first | exact hg4 | exact blk_below hg4 (by assumption) | exact blk_below (blk_below hg4 (by assumption)) (by assumption)), hl4⟩
        simp only [putAll, Act.put, List.setIfInBounds_toArray, List.set_cons_zero, List.set_cons_succ] at hj
        exact hj
    · refine value_ (v := .pointer (some ⟨(w1.drew).heap.size, 0, none⟩)) (w1 := (w1.drew).alloc (.cells #[.int .i64 0, .slice none 0 0] 41)) (by rfl) rfl ?_ ?_
      · go_simp
      have hl6 := hHeld.size
      have hc6 := hHeld.alloc hHeld.size (.cells #[.int .i64 0, .slice none 0 0] 41)
      have hg6 := blk_new (w1.drew) (.cells #[.int .i64 0, .slice none 0 0] 41)
      refine hK.out _ _ hc6 (fun hHeld => ?_)
      clear hK K
      refine norm_ (a' := ?_) ?_ ?_
      rotate_left
      · show Act.put _ (some 6) _ = _
        simp only [Act.put, List.setIfInBounds_toArray, List.set_cons_zero, List.set_cons_succ, i64_w, i32_w]
        rfl
      refine one_ (i := 0) (N := some 24) #[true, true, true, false, false, false, false, false, true, false, false, false] rfl rfl (by kernel_rfl) (by decide) (fun K hK => ?_)
      refine goes_ Try.func23 (by kernel_rfl) rfl #[.int .i64 4] (by rfl) rfl rfl (by (try simp only [List.map_toArray, List.map_cons, List.map_nil]); first | done | rfl) ?_
      refine (PR.lookasideref15_New.calls 4 4 [] ((w1.drew).alloc (.cells #[.int .i64 0, .slice none 0 0] 41)) rfl).mono ?_
      rintro e wn7 ⟨vn7, rfl, hs7, hb7⟩
      obtain ⟨An7, cn7, hvn7, hcn7, hFn7⟩ := Kd.S_V (base' := 0) hs7
      subst hvn7
      refine ⟨_, rfl, ?_⟩
      have hc7 := below_step hHeld hb7
      have hV7 : Kd.V PR.k104 104 wn7 0 (fun _ => True) (.slice An7 ([] : List PR.S104).length cn7) [] := Kd.V_mk hcn7 hFn7
      refine hK.out _ _ hc7 (fun hHeld => ?_)
      clear hK K
      refine norm_ (a' := ?_) ?_ ?_
      rotate_left
      · show Act.put _ (some 24) _ = _
        simp only [Act.put, List.setIfInBounds_toArray, List.set_cons_zero, List.set_cons_succ, i64_w, i32_w]
        rfl
      refine one_ (i := 3) (N := some 27) #[true, true, true, true, false, false, false, false, true, false, false, false] rfl rfl (by kernel_rfl) (by decide) (fun K hK => ?_)
      refine goes_ Try.func22 (by kernel_rfl) rfl #[.agg #[.int .i64 4, .slice An7 ([] : List PR.S104).length cn7], .agg #[.int .i64 kd, .int .i64 cx, .int .u64 va], .slice A0 T.length c0] (by rfl) rfl rfl (by (try simp only [List.map_toArray, List.map_cons, List.map_nil]); first | done | rfl) ?_
      refine (PR.lookasideref15_Send.calls 5000 4 (fun _ => True) An7 cn7 [] kd cx va _ A0 c0 T _ _ _ _ wn7 (by first | exact hV7 | exact Kd.V_alloc hV7 _) (Kd.V_mk hTc (Kd.C_F (Kd.heap_int .i64) (HCB.out _ hHeld))) (PR.send_f T (by omega) 4 [] (by simp) kd cx va)).mono ?_
      rintro e wn8 ⟨v8, rfl, hv8, hb8⟩
      obtain ⟨Av8, cv8, hvv8⟩ := Kd.V_slice hv8
      subst hvv8
      refine ⟨_, rfl, ?_⟩
      have hc8 := below_step hHeld hb8
      refine hK.out _ _ hc8 (fun hHeld => ?_)
      clear hK K
      refine norm_ (a' := ?_) ?_ ?_
      rotate_left
      · show Act.put _ (some 27) _ = _
        simp only [Act.put, List.setIfInBounds_toArray, List.set_cons_zero, List.set_cons_succ, i64_w, i32_w]
        rfl
      refine pure_ (i := 4) (N := some 23) (v := ?_) (a' := ?_) #[true, true, true, true, true, false, false, false, true, false, false, false] rfl rfl (by kernel_rfl) (fun _ _ _ h => h) (Or.inl ⟨by rfl, ?_⟩) ?_ ?_
      rotate_left
      · intro w'
        go_simp
        with_reducible rfl
      rotate_left
      · simp only [Act.put, List.setIfInBounds_toArray, List.set_cons_zero, List.set_cons_succ, i64_w, i32_w]
        rfl
      refine pure_ (i := 5) (N := some 28) (v := ?_) (a' := ?_) #[true, true, true, true, true, true, false, false, true, false, false, false] rfl rfl (by kernel_rfl) (fun _ _ _ h => h) (Or.inl ⟨by rfl, ?_⟩) ?_ ?_
      rotate_left
      · intro w'
        go_simp
        with_reducible rfl
      rotate_left
      · simp only [Act.put, List.setIfInBounds_toArray, List.set_cons_zero, List.set_cons_succ, i64_w, i32_w]
        rfl
      refine pure_ (i := 6) (N := some 29) (v := ?_) (a' := ?_) #[true, true, true, true, true, true, true, false, true, false, false, false] rfl rfl (by kernel_rfl) (fun _ _ _ h => h) (Or.inl ⟨by rfl, ?_⟩) ?_ ?_
      rotate_left
      · intro w'
        go_simp
        with_reducible rfl
      rotate_left
      · simp only [Act.put, List.setIfInBounds_toArray, List.set_cons_zero, List.set_cons_succ, i64_w, i32_w]
        rfl
      refine pure_ (i := 7) (N := some 30) (v := ?_) (a' := ?_) #[true, true, true, true, true, true, true, true, true, false, false, false] rfl rfl (by kernel_rfl) (fun _ _ _ h => h) (Or.inl ⟨by rfl, ?_⟩) ?_ ?_
      rotate_left
      · intro w'
        go_simp
        with_reducible rfl
      rotate_left
      · simp only [Act.put, List.setIfInBounds_toArray, List.set_cons_zero, List.set_cons_succ, i64_w, i32_w]
        rfl
      have hj := hjoin ((w1.drew).heap.size, Value.agg #[.int .i64 4, .slice An7 ([] : List PR.S104).length cn7], Av8, cv8) wn8 ⟨hHeld, (by first | exact hg6 | exact blk_below hg6 (by assumption) | exact blk_below (blk_below hg6 (by assumption)) (by assumption)), hl6⟩
      simp only [putAll, Act.put, List.setIfInBounds_toArray, List.set_cons_zero, List.set_cons_succ] at hj
      exact hj
  clear hHeld
  obtain ⟨hHeld, hg, hgl⟩ := hF
  simp only [putAll, Act.put, List.setIfInBounds_toArray, List.set_cons_zero, List.set_cons_succ]
  refine last_ (i := 9) (N := none) #[true, true, true, true, true, true, true, true, true, true, false, false] rfl rfl (by kernel_rfl) (by decide) (fun K hK => ?_)
  have r0 := (blk_cell hg 0).trans rfl
  have r1 := (blk_cell hg 1).trans rfl
  have f0 := blk_frozen hg 0
  have f1 := blk_frozen hg 1
  refine skip_ (w1 := ?_) (by rfl) rfl ?_ ?_
  rotate_left
  · go_simp
    with_reducible rfl
  refine hK.out _ _ ?_
  clear hK K
  refine pure_ (i := 10) (N := some 7) (v := ?_) (a' := ?_) #[true, true, true, true, true, true, true, true, true, true, true, false] rfl rfl (by kernel_rfl) (fun _ _ _ h => h) (Or.inl ⟨by rfl, ?_⟩) ?_ ?_
  rotate_left
  · intro w'
    go_simp
    with_reducible rfl
  rotate_left
  · simp only [Act.put, List.setIfInBounds_toArray, List.set_cons_zero, List.set_cons_succ, i64_w, i32_w]
    rfl
  refine pure_ (i := 11) (N := some 8) (v := ?_) (a' := ?_) #[true, true, true, true, true, true, true, true, true, true, true, true] rfl rfl (by kernel_rfl) (fun _ _ _ h => h) (Or.inl ⟨by rfl, ?_⟩) ?_ ?_
  rotate_left
  · intro w'
    go_simp
    with_reducible rfl
  rotate_left
  · simp only [Act.put, List.setIfInBounds_toArray, List.set_cons_zero, List.set_cons_succ, i64_w, i32_w]
    rfl
  refine done_ (by kernel_rfl) ?_
  have hb3 := (hHeld.setCell (p := ⟨s.1, 0, none⟩) hgl (.int .i64 (PR.sendR 4 [] kd cx va T).1)).setCell (p := ⟨s.1, 1, none⟩) hgl (.slice s.2.2.1 (PR.sendR 4 [] kd cx va T).2.1.length s.2.2.2)
  have hE := sendR_err 4 [] kd cx va T
  rw [show (4 : Int).toNat = 4 from rfl] at hE
  rw [hE]
  generalize PR.sendR 4 [] kd cx va T = R4 at hb3 ⊢
  generalize (w'.setCell ⟨s.1, 0, none⟩ _).setCell ⟨s.1, 1, none⟩ _ = w4 at hb3 ⊢
  have HB4 := Aside0.mk (HB1.out.trans (hb3.mono (by rw [← HG.out]; exact HB1.out.size)))
  have hk4 := blk_below HK1.out hb3
  have HK4 := Aside0.mk hk4
  have h4 := H1.out.below hb3
  clear hE hb3 HB1 HK1 H1 HLT hHeld hg hgl r0 r1 f0 f1 x0 x1 x2 HCB hbl hTx
  obtain ⟨x0, x1, x2⟩ : w4.cell? ⟨bx, 0, none⟩ = some (.int .i64 kd) ∧ w4.cell? ⟨bx, 1, none⟩ = some (.int .i64 cx) ∧ w4.cell? ⟨bx, 2, none⟩ = some (.int .u64 va) := ⟨(blk_cell hk4 0).trans rfl, (blk_cell hk4 1).trans rfl, (blk_cell hk4 2).trans rfl⟩
  have hb5 := (Below.refl w4.heap.size w4).alloc (Nat.le_refl _) (.cells #[.int .i64 kd, .int .i64 cx, .int .u64 va] 46)
  have hk5 := blk_new w4 (.cells #[.int .i64 kd, .int .i64 cx, .int .u64 va] 46)
  have H5 := Aside0.mk (h4.below hb5)
  have HB5 := Aside0.mk (HB4.out.trans (hb5.mono (by rw [← HG.out]; exact HB4.out.size)))
  have hbas : wb.heap.size ≤ (w4.alloc (.cells #[.int .i64 kd, .int .i64 cx, .int .u64 va] 46)).heap.size := Nat.le_trans h4.bw (Nat.le_trans (Nat.le_of_lt (blk_lt h4.hw)) hb5.size)
  have HBAS := Aside0.mk hbas
  clear h4 hk4 HK4 HB4 hb5 hbas
  (try simp only [Exit.inBlock, Exit.then])
  go_wp2_with fail
  generalize w4.alloc (.cells #[.int .i64 kd, .int .i64 cx, .int .u64 va] 46) = w5 at hk5 H5 HB5 HBAS ⊢
  generalize w4.heap.size = g5 at hk5 ⊢
  have hge := ids_ge H5.out
  have hsend := send_calls H5.out kd cx va A0 c0 T hTc (fun w' hm => Kd.C_below HC.out (by rw [HG.out]; exact HB5.out.trans (hm.below (by rw [← HG.out]; exact HB5.out.size) (fun k hk => Nat.le_trans (Nat.le_of_lt HBS.out) (hge k hk))))) (by omega) (by simp) (by simp) HBAS.out
  rw [show (List.replicate 4 ([] : List Sn)).length = 4 from rfl] at hsend
  have hall := @err_all kd va 4 T
  have HALL := Aside0.mk hall
  have HS := Aside0.mk hsend
  have HGE := Aside0.mk hge
  clear hsend hall hge
  generalize sendErr 4 kd va T = E at HS HALL ⊢
  by_cases hz : E = 0
  · subst hz
    refine HS.out.mono ?_
    rintro e w6 ⟨_, h6⟩
    obtain ⟨rfl, vs6, lv6, h6, hm6, hi6⟩ := h6 rfl
    have HB6 := Aside0.mk (HB5.out.trans (hm6.below (by rw [← HG.out]; exact HB5.out.size) (fun k hk => Nat.le_trans (Nat.le_of_lt HBS.out) (HGE.out k hk))))
    have HID := Aside0.mk (idle_send T (packV kd cx va, ((([] : List Int).length : Nat) : Int)) (HALL.out rfl))
    have hq6 : ∀ l ∈ qsend (List.replicate 4 []) T (packV kd cx va, ((([] : List Int).length : Nat) : Int)), l.length ≤ 1000 := fun l hl => Nat.le_trans (qsend_le (M := 0) (fun l hl => by rw [List.eq_of_mem_replicate hl]; simp) l hl) (by omega)
    have hql := qsend_len (packV kd cx va, ((([] : List Int).length : Nat) : Int)) T (List.replicate 4 [])
    rw [List.length_replicate] at hql
    have HQ6 := Aside0.mk hq6
    generalize qsend (List.replicate 4 []) T (packV kd cx va, ((([] : List Int).length : Nat) : Int)) = Q6 at h6 HID HQ6 hql
    have HQL := Aside0.mk hql
    have H6 := Aside0.mk h6
    have hb6 : wb.heap.size ≤ w6.heap.size := Nat.le_trans HBAS.out hm6.size
    clear h6 hm6 hi6 HS HALL HGE H5 HB5 hk5 hq6 hql
    go_wp2_with fail
    refine (idle_calls H6.out).mono ?_
    rintro e w7 ⟨rfl, rfl⟩
    rw [HID.out]
    have hgo : ∀ (b : Bool), b = decide (T.length = 0) → (((T.length : Int) == 0) = b) := fun b hb => by
      rw [hb]; by_cases h : T.length = 0 <;> simp [h]
    have hs7 := send_calls H6.out 1 3 0 none 0 [] (by simp) (fun w' hm => ⟨rfl, by simp, fun h => absurd h (by simp)⟩) (by simp) HQ6.out (by simp) hb6
    rw [HQL.out, show sendErr 4 1 0 [] = 0 from by decide] at hs7
    have HS7 := Aside0.mk hs7
    have h70 := hgo _ rfl
    clear hs7 hgo
    generalize decide (T.length = 0) = bz at h70 ⊢
    go_wp2_with fail
    refine HS7.out.mono ?_
    rintro e w8 ⟨_, h8⟩
    obtain ⟨rfl, vs8, lv8, h8, hm8, hi8⟩ := h8 (by trivial)
    have HGE7 := Aside0.mk (ids_ge H6.out)
    have HB8 := Aside0.mk (HB6.out.trans (hm8.below (by rw [← HG.out]; exact HB6.out.size) (fun k hk => Nat.le_trans (Nat.le_of_lt HBS.out) (HGE7.out k hk))))
    have H8 := Aside0.mk h8
    clear h8 hm8 hi8 HGE7 HB6 H6 HS7
    go_wp2_with fail
    refine (left_calls H8.out 1).mono ?_
    rintro e w9 ⟨rfl, rfl⟩
    rw [show lefts ([] ++ [(T.length : Int)] ++ [((([] : List Int).length : Nat) : Int)]) 1 = 0 from rfl]
    go_wp2_with fail
    refine (lives_calls _).mono ?_
    rintro e w10 ⟨rfl, hb10⟩
    have HB10 := Aside0.mk (HB8.out.trans (hb10.mono (by rw [← HG.out]; exact HB8.out.size)))
    clear hb10 HB8 H8
    go_wp2
    go_ret
    exact ⟨rfl, by rw [HG.out]; exact HB10.out⟩
  · refine HS.out.mono ?_
    rintro e w6 ⟨h6, _⟩
    obtain ⟨rfl, hb6⟩ := h6 hz
    have H6 := Aside0.mk (H5.out.below hb6)
    have HB6 := Aside0.mk (HB5.out.trans (hb6.mono (by rw [← HG.out]; exact HB5.out.size)))
    have hb6' : wb.heap.size ≤ w6.heap.size := Nat.le_trans HBAS.out hb6.size
    have hE0 : (E == 0) = false := beq_eq_false_iff_ne.2 hz
    clear hb6 HS HALL HGE H5 HB5 hk5
    go_wp2_with fail
    refine (idle_calls H6.out).mono ?_
    rintro e w7 ⟨rfl, rfl⟩
    rw [show isIdle (List.replicate 4 []) = true from rfl]
    have hs7 := send_calls H6.out 1 3 0 none 0 [] (by simp) (fun w' hm => ⟨rfl, by simp, fun h => absurd h (by simp)⟩) (by simp) (by simp) (by simp) hb6'
    rw [List.length_replicate, show sendErr 4 1 0 [] = 0 from by decide] at hs7
    have HS7 := Aside0.mk hs7
    clear hs7
    go_wp2_with fail
    refine HS7.out.mono ?_
    rintro e w8 ⟨_, h8⟩
    obtain ⟨rfl, vs8, lv8, h8, hm8, hi8⟩ := h8 (by trivial)
    have HGE7 := Aside0.mk (ids_ge H6.out)
    have HB8 := Aside0.mk (HB6.out.trans (hm8.below (by rw [← HG.out]; exact HB6.out.size) (fun k hk => Nat.le_trans (Nat.le_of_lt HBS.out) (HGE7.out k hk))))
    have H8 := Aside0.mk h8
    clear h8 hm8 hi8 HGE7 HB6 H6 HS7
    go_wp2_with fail
    refine (left_calls H8.out 0).mono ?_
    rintro e w9 ⟨rfl, rfl⟩
    rw [show lefts ([] ++ [((([] : List Int).length : Nat) : Int)]) 0 = 0 from rfl]
    go_wp2_with fail
    refine (lives_calls _).mono ?_
    rintro e w10 ⟨rfl, hb10⟩
    have HB10 := Aside0.mk (HB8.out.trans (hb10.mono (by rw [← HG.out]; exact HB8.out.size)))
    clear hb10 HB8 H8
    go_wp2
    go_ret
    exact ⟨rfl, by rw [HG.out]; exact HB10.out⟩

end Go.Proofs.Ytgmdlndiilibpaa.PC

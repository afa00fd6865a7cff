/- CtxRounds: the walk. -/
import Derived.Test.YtcbnmmkmgpbfiaaCtxRd
namespace Go.Proofs.Ytcbnmmkmgpbfiaa.PP
open Go.RowKit Go.Proofs.Ytcbnmmkmgpbfiaa.PX Go.Proofs.YtcbnmmkmgpbfiaaW.PrintWords Go.Proofs.YtcbnmmkmgpbfiaaW.PrintLast Go.Proofs.YtcbnmmkmgpbfiaaW.PrintMore
attribute [local go_sem] max2_int min2_int max_two min_two max_three min_three max_four min_four   -- for this text's walks alone
set_option linter.unusedVariables false
set_option linter.unusedSimpArgs false
set_option maxHeartbeats 8000000 in
set_option maxRecDepth 100000 in
theorem rounds_law (n many : Int) (hn : Wf n) (hm : Wf many) (w : World) : Calls Try.prog 7 #[.int .i64 n, .int .i64 many] w fun e w' => e = .returned (.bool true) ∧ Below w.heap.size w w' := by
  by_cases h1 : n < 0 <;> by_cases h2 : many < 0
  all_goals
    first
    | (have d1 : decide (n < 0) = true := decide_eq_true h1; obtain ⟨N, hN1, hN2, hN⟩ := norm_neg hn h1)
    | (have d1 : decide (n < 0) = false := decide_eq_false h1; obtain ⟨N, hN1, hN2, hN⟩ := norm_pos h1)
    first
    | (have d2 : decide (many < 0) = true := decide_eq_true h2; obtain ⟨M, hM1, hM⟩ := many_neg hm h2)
    | (have d2 : decide (many < 0) = false := decide_eq_false h2; obtain ⟨M, hM1, hM⟩ := many_pos h2)
    replace hN := Aside0.mk hN
    replace hM := Aside0.mk hM
    have hmx : max (N : Int) 0 = (N : Int) := by omega
    go_enter Try.func7, Try.ntmps7
    go_wp2_with fail
    rw [hN.out, hM.out]
    refine (new_st w N N hN2 hmx).mono ?_
    rintro e w1 ⟨B, bm, vo, rfl, hst, hb⟩
    have HST := Aside0.mk hst
    have HB := Aside0.mk hb
    clear hst hb hn hm hN hM h1 h2 d1 d2
    go_wp2_with fail
    go_loopw [6] (fun iv wr => ∃ i : Nat, iv = .int .i64 i ∧ i ≤ N ∧ Aside0 (St wr w.heap.size B bm vo (startL N i) ((i : Int) % (N : Int) + 1) (if i = N then 1 else 0)) ∧ Aside0 (Below w.heap.size w wr)) (fun iv _ => N - (intOf iv).toNat)
    case atStart =>
      refine ⟨0, rfl, by omega, ⟨?_⟩, HB⟩
      have h := HST.out
      rw [startL_zero, if_neg (by omega)]
      simpa using h
    case round =>
      clear HST HB hmx
      obtain ⟨i, rfl, hi, HI, HB⟩ := hrel
      by_cases hlt : (i : Int) < (N : Int)
      · have hld : decide ((i : Int) < (N : Int)) = true := decide_eq_true hlt
        have hiN : i < N := by omega
        go_wp2_with fail
        refine (round_take hN2 hiN HI.out).mono ?_
        rintro e w2 ⟨rfl, h2, m2⟩
        have hb2 := HI.out.mv HB.out m2 HB.out.size
        have H2 := Aside0.mk h2
        have HB2 := Aside0.mk hb2
        clear h2 hb2 m2 HI HB
        have hwi : wrap64 ((i : Int) + 1) = (i : Int) + 1 := w_small (by omega)
        go_wp2
        clear hwi
        go_roundw
        case rel => exact ⟨i + 1, by push_cast; rfl, by omega, H2, HB2⟩
        case measure => simp [intOf]; omega
      · have hld : decide ((i : Int) < (N : Int)) = false := decide_eq_false hlt
        have hiN : i = N := by omega
        have h3 := HI.out
        rw [hiN, startL_full, if_pos rfl, Int.emod_self] at h3
        have H3 := Aside0.mk h3
        clear h3 HI hiN
        go_wp2_with fail
        go_loopw [9] (fun iv wr => ∃ m : Nat, iv = .int .i64 m ∧ m ≤ M ∧ Aside0 (St wr w.heap.size B bm vo (roundL N m) (((m % N : Nat) : Int) + 1) (1 + ((m / N : Nat) : Int))) ∧ Aside0 (Below w.heap.size w wr)) (fun iv _ => M - (intOf iv).toNat)
        case atStart => exact ⟨0, rfl, by omega, ⟨by simpa using H3.out⟩, HB⟩
        case round =>
          clear H3 HB hld hlt
          obtain ⟨m, rfl, hmM, HI, HB⟩ := hrel
          by_cases hlt : (m : Int) < (M : Int)
          · have hld : decide ((m : Int) < (M : Int)) = true := decide_eq_true hlt
            have hm40 : m ≤ 40 := by omega
            go_wp2_with fail
            refine (round_vict ⟨hN1, hN2⟩ hm40 HI.out).mono ?_
            rintro e w2 ⟨rfl, hb2⟩
            have h2 := HI.out.below hb2
            have hb3 : Below w.heap.size w w2 := HB.out.trans (hb2.mono HB.out.size)
            have H2 := Aside0.mk h2
            have HB2 := Aside0.mk hb3
            clear hb2 h2 hb3 HI HB
            have hmod := tmod_nat' m N
            have hne : ((N : Int) == 0) = false := by rw [beq_eq_false_iff_ne]; omega
            have hlN : m % N < N := Nat.mod_lt _ (by omega)
            obtain ⟨a, ha⟩ : ∃ a, m % N = a := ⟨_, rfl⟩
            rw [ha] at hmod hlN
            have HA := Aside0.mk ha
            rw [ha]
            clear ha
            have hw1 : wrap64 ((a : Int) + 1) = (a : Int) + 1 := w_small (by omega)
            have hw2 : wrap64 ((N : Int) + (m : Int)) = (N : Int) + (m : Int) := w_small (by omega)
            go_wp2_with fail
            clear hw1 hw2 hmod
            have hr := round_steal ⟨hN1, hN2⟩ hm40 H2.out
            rw [HA.out] at hr
            refine hr.mono ?_
            rintro e w3 ⟨rfl, h3, m3⟩
            have hb3 := H2.out.mv HB2.out m3 HB2.out.size
            have H3 := Aside0.mk h3
            have HB3 := Aside0.mk hb3
            clear hr h3 hb3 m3 H2 HB2
            have hwm : wrap64 ((m : Int) + 1) = (m : Int) + 1 := w_small (by omega)
            go_wp2
            clear hwm
            go_roundw
            case rel => exact ⟨m + 1, by push_cast; rfl, by omega, H3, HB3⟩
            case measure => simp [intOf]; omega
          · have hld : decide ((m : Int) < (M : Int)) = false := decide_eq_false hlt
            have hmm : m = M := by omega
            subst hmm
            have hm40 : m ≤ 40 := by omega
            have hne : ((N : Int) == 0) = false := by rw [beq_eq_false_iff_ne]; omega
            have hlN : m % N < N := Nat.mod_lt _ (by omega)
            have hdN : m / N ≤ 40 := Nat.le_trans (Nat.div_le_self m N) hm40
            have hmod := tmod_nat' m N
            have hdiv := tdiv_nat' m N
            have hF := fun (W : World) (h : St W w.heap.size B bm vo (roundL N m) (((m % N : Nat) : Int) + 1) (1 + ((m / N : Nat) : Int))) => round_free ⟨hN1, hN2⟩ hm40 h
            have HF := Aside0.mk hF
            have h3 := HI.out
            have hb3 := HB.out
            obtain ⟨a, ha⟩ : ∃ a, m % N = a := ⟨_, rfl⟩
            obtain ⟨q, hq⟩ : ∃ q, m / N = q := ⟨_, rfl⟩
            rw [ha] at hmod hlN h3
            rw [hq] at hdiv hdN h3
            rw [ha, hq] at HF
            clear HI HB ha hq hF
            have hw1 : wrap64 ((a : Int) + 1) = (a : Int) + 1 := w_small (by omega)
            have hw2 : wrap64 (1 + (q : Int)) = 1 + (q : Int) := w_small (by omega)
            have hv0 : IntKind.i64.wrap (q : Int) = (q : Int) := by rw [i64_w]; exact w_small (by omega)
            have hv1 : IntKind.i64.wrap ((a : Int) + 1) = (a : Int) + 1 := by rw [i64_w]; exact hw1
            have hv2 : IntKind.i64.wrap (1 + (q : Int)) = 1 + (q : Int) := by rw [i64_w]; exact hw2
            have hN0 : ¬ (N = 0) := by clear hw1 hw2 hv0 hv1 hv2; omega
            have hq0 : wrap64 (q : Int) = (q : Int) := by rw [← i64_w]; exact hv0
            go_wp2_with fail
            refine start_ (n := 25) (S := fun w' => St w' w.heap.size B bm vo (roundL N m) ((a : Int) + 1) (1 + (q : Int)) ∧ Below w.heap.size w w') (ds := []) #[false, false, false, false, false, false, false, false, false, false, false, false, false, false, false, false, false, false, false, false, false, false, false, false, false] (by kernel_rfl) rfl rfl ⟨h3.below ((Below.refl _ _).drew), hb3.drew⟩ (fun hHeld => ?_)
            refine pure_ (i := 0) (N := some 95) (v := ?_) (a' := ?_) #[true, false, false, false, false, false, false, false, false, false, false, false, false, false, false, false, false, false, false, false, false, false, false, false, false] rfl rfl (by kernel_rfl) (fun _ _ _ h => h) (Or.inl ⟨by rfl, ?_⟩) ?_ ?_
            rotate_left
            · intro w'
              go_simp
              with_reducible rfl
            rotate_left
            · simp only [Act.put, List.setIfInBounds_toArray, List.set_cons_zero, List.set_cons_succ, i64_w, i32_w]
              rfl
            refine pure_ (i := 2) (N := some 97) (v := ?_) (a' := ?_) #[true, false, true, false, false, false, false, false, false, false, false, false, false, false, false, false, false, false, false, false, false, false, false, false, false] rfl rfl (by kernel_rfl) (fun _ _ _ h => h) (Or.inl ⟨by rfl, ?_⟩) ?_ ?_
            rotate_left
            · intro w'
              go_simp
              with_reducible rfl
            rotate_left
            · simp only [Act.put, List.setIfInBounds_toArray, List.set_cons_zero, List.set_cons_succ, i64_w, i32_w]
              rfl
            refine pure_ (i := 3) (N := some 98) (v := ?_) (a' := ?_) #[true, false, true, true, false, false, false, false, false, false, false, false, false, false, false, false, false, false, false, false, false, false, false, false, false] rfl rfl (by kernel_rfl) (fun _ _ _ h => h) (Or.inl ⟨by rfl, ?_⟩) ?_ ?_
            rotate_left
            · intro w'
              go_simp
              with_reducible rfl
            rotate_left
            · simp only [Act.put, List.setIfInBounds_toArray, List.set_cons_zero, List.set_cons_succ, i64_w, i32_w]
              rfl
            refine pure_ (i := 4) (N := some 99) (v := ?_) (a' := ?_) #[true, false, true, true, true, false, false, false, false, false, false, false, false, false, false, false, false, false, false, false, false, false, false, false, false] rfl rfl (by kernel_rfl) (fun _ _ _ h => h) (Or.inl ⟨by rfl, ?_⟩) ?_ ?_
            rotate_left
            · intro w'
              go_simp
              with_reducible rfl
            rotate_left
            · simp only [Act.put, List.setIfInBounds_toArray, List.set_cons_zero, List.set_cons_succ, i64_w, i32_w]
              rfl
            refine pure_ (i := 5) (N := some 100) (v := ?_) (a' := ?_) #[true, false, true, true, true, true, false, false, false, false, false, false, false, false, false, false, false, false, false, false, false, false, false, false, false] rfl rfl (by kernel_rfl) (fun _ _ _ h => h) (Or.inl ⟨by rfl, ?_⟩) ?_ ?_
            rotate_left
            · intro w'
              go_simp
              with_reducible rfl
            rotate_left
            · simp only [Act.put, List.setIfInBounds_toArray, List.set_cons_zero, List.set_cons_succ, i64_w, i32_w]
              rfl
            refine one_ (i := 1) (N := some 96) #[true, true, true, true, true, true, false, false, false, false, false, false, false, false, false, false, false, false, false, false, false, false, false, false, false] rfl rfl (by kernel_rfl) (by decide) (fun K hK => ?_)
            refine goes_ Try.func39 (by kernel_rfl) rfl #[.pointer (some ⟨B, 0, none⟩)] (by rfl) rfl rfl (by (try simp only [List.map_toArray, List.map_cons, List.map_nil]); first | done | rfl) ?_
            refine (st_rounds hHeld.1).mono ?_
            rintro e w2 ⟨rfl, rfl⟩
            refine ⟨_, rfl, ?_⟩
            obtain ⟨s0, s1⟩ := hHeld
            refine hK.out _ _ ⟨s0, s1⟩ (fun hHeld => ?_)
            clear hK K
            refine norm_ (a' := ?_) ?_ ?_
            rotate_left
            · show Act.put _ (some 96) _ = _
              simp only [Act.put, List.setIfInBounds_toArray, List.set_cons_zero, List.set_cons_succ, i64_w, i32_w]
              rfl
            refine pure_ (i := 6) (N := some 101) (v := ?_) (a' := ?_) #[true, true, true, true, true, true, true, false, false, false, false, false, false, false, false, false, false, false, false, false, false, false, false, false, false] rfl rfl (by kernel_rfl) (fun _ _ _ h => h) (Or.inl ⟨by rfl, ?_⟩) ?_ ?_
            rotate_left
            · intro w'
              go_simp
              with_reducible rfl
            rotate_left
            · simp only [Act.put, List.setIfInBounds_toArray, List.set_cons_zero, List.set_cons_succ, i64_w, i32_w]
              rfl
            refine pure_ (i := 7) (N := some 102) (v := ?_) (a' := ?_) #[true, true, true, true, true, true, true, true, false, false, false, false, false, false, false, false, false, false, false, false, false, false, false, false, false] rfl rfl (by kernel_rfl) (fun _ _ _ h => h) (Or.inl ⟨by rfl, ?_⟩) ?_ ?_
            rotate_left
            · intro w'
              go_simp
              with_reducible rfl
            rotate_left
            · simp only [Act.put, List.setIfInBounds_toArray, List.set_cons_zero, List.set_cons_succ, i64_w, i32_w]
              rfl
            refine pure_ (i := 8) (N := some 103) (v := ?_) (a' := ?_) #[true, true, true, true, true, true, true, true, true, false, false, false, false, false, false, false, false, false, false, false, false, false, false, false, false] rfl rfl (by kernel_rfl) (fun _ _ _ h => h) (Or.inl ⟨by rfl, ?_⟩) ?_ ?_
            rotate_left
            · intro w'
              go_simp
              with_reducible rfl
            rotate_left
            · simp only [Act.put, List.setIfInBounds_toArray, List.set_cons_zero, List.set_cons_succ, i64_w, i32_w]
              rfl
            refine pure_ (i := 10) (N := some 105) (v := ?_) (a' := ?_) #[true, true, true, true, true, true, true, true, true, false, true, false, false, false, false, false, false, false, false, false, false, false, false, false, false] rfl rfl (by kernel_rfl) (fun _ _ _ h => h) (Or.inl ⟨by rfl, ?_⟩) ?_ ?_
            rotate_left
            · intro w'
              go_simp
              with_reducible rfl
            rotate_left
            · simp only [Act.put, List.setIfInBounds_toArray, List.set_cons_zero, List.set_cons_succ, i64_w, i32_w]
              rfl
            refine pure_ (i := 11) (N := some 106) (v := ?_) (a' := ?_) #[true, true, true, true, true, true, true, true, true, false, true, true, false, false, false, false, false, false, false, false, false, false, false, false, false] rfl rfl (by kernel_rfl) (fun _ _ _ h => h) (Or.inl ⟨by rfl, ?_⟩) ?_ ?_
            rotate_left
            · intro w'
              go_simp
              with_reducible rfl
            rotate_left
            · simp only [Act.put, List.setIfInBounds_toArray, List.set_cons_zero, List.set_cons_succ, i64_w, i32_w]
              rfl
            refine pure_ (i := 12) (N := some 107) (v := ?_) (a' := ?_) #[true, true, true, true, true, true, true, true, true, false, true, true, true, false, false, false, false, false, false, false, false, false, false, false, false] rfl rfl (by kernel_rfl) (fun _ _ _ h => h) (Or.inl ⟨by rfl, ?_⟩) ?_ ?_
            rotate_left
            · intro w'
              go_simp
              with_reducible rfl
            rotate_left
            · simp only [Act.put, List.setIfInBounds_toArray, List.set_cons_zero, List.set_cons_succ, i64_w, i32_w]
              rfl
            refine pure_ (i := 13) (N := some 108) (v := ?_) (a' := ?_) #[true, true, true, true, true, true, true, true, true, false, true, true, true, true, false, false, false, false, false, false, false, false, false, false, false] rfl rfl (by kernel_rfl) (fun _ _ _ h => h) (Or.inl ⟨by rfl, ?_⟩) ?_ ?_
            rotate_left
            · intro w'
              go_simp
              with_reducible rfl
            rotate_left
            · simp only [Act.put, List.setIfInBounds_toArray, List.set_cons_zero, List.set_cons_succ, i64_w, i32_w]
              rfl
            refine one_ (i := 9) (N := some 104) #[true, true, true, true, true, true, true, true, true, true, true, true, true, true, false, false, false, false, false, false, false, false, false, false, false] rfl rfl (by kernel_rfl) (by decide) (fun K hK => ?_)
            refine goes_ Try.func40 (by kernel_rfl) rfl #[.pointer (some ⟨B, 0, none⟩)] (by rfl) rfl rfl (by (try simp only [List.map_toArray, List.map_cons, List.map_nil]); first | done | rfl) ?_
            refine (st_hand hHeld.1).mono ?_
            rintro e w2 ⟨rfl, rfl⟩
            refine ⟨_, rfl, ?_⟩
            obtain ⟨s0, s1⟩ := hHeld
            refine hK.out _ _ ⟨s0, s1⟩ (fun hHeld => ?_)
            clear hK K
            refine norm_ (a' := ?_) ?_ ?_
            rotate_left
            · show Act.put _ (some 104) _ = _
              simp only [Act.put, List.setIfInBounds_toArray, List.set_cons_zero, List.set_cons_succ, i64_w, i32_w]
              rfl
            refine pure_ (i := 14) (N := some 109) (v := ?_) (a' := ?_) #[true, true, true, true, true, true, true, true, true, true, true, true, true, true, true, false, false, false, false, false, false, false, false, false, false] rfl rfl (by kernel_rfl) (fun _ _ _ h => h) (Or.inl ⟨by rfl, ?_⟩) ?_ ?_
            rotate_left
            · intro w'
              go_simp
              with_reducible rfl
            rotate_left
            · simp only [Act.put, List.setIfInBounds_toArray, List.set_cons_zero, List.set_cons_succ, i64_w, i32_w]
              rfl
            refine pure_ (i := 15) (N := some 110) (v := ?_) (a' := ?_) #[true, true, true, true, true, true, true, true, true, true, true, true, true, true, true, true, false, false, false, false, false, false, false, false, false] rfl rfl (by kernel_rfl) (fun _ _ _ h => h) (Or.inl ⟨by rfl, ?_⟩) ?_ ?_
            rotate_left
            · intro w'
              go_simp
              with_reducible rfl
            rotate_left
            · simp only [Act.put, List.setIfInBounds_toArray, List.set_cons_zero, List.set_cons_succ, i64_w, i32_w]
              rfl
            refine pure_ (i := 16) (N := some 111) (v := ?_) (a' := ?_) #[true, true, true, true, true, true, true, true, true, true, true, true, true, true, true, true, true, false, false, false, false, false, false, false, false] rfl rfl (by kernel_rfl) (fun _ _ _ h => h) (Or.inl ⟨by rfl, ?_⟩) ?_ ?_
            rotate_left
            · intro w'
              go_simp
              with_reducible rfl
            rotate_left
            · simp only [Act.put, List.setIfInBounds_toArray, List.set_cons_zero, List.set_cons_succ, i64_w, i32_w]
              rfl
            refine pure_ (i := 17) (N := some 112) (v := ?_) (a' := ?_) #[true, true, true, true, true, true, true, true, true, true, true, true, true, true, true, true, true, true, false, false, false, false, false, false, false] rfl rfl (by kernel_rfl) (fun _ _ _ h => h) (Or.inl ⟨by rfl, ?_⟩) ?_ ?_
            rotate_left
            · intro w'
              go_simp
              with_reducible rfl
            rotate_left
            · simp only [Act.put, List.setIfInBounds_toArray, List.set_cons_zero, List.set_cons_succ, i64_w, i32_w]
              rfl
            refine one_ (i := 18) (N := some 113) #[true, true, true, true, true, true, true, true, true, true, true, true, true, true, true, true, true, true, true, false, false, false, false, false, false] rfl rfl (by kernel_rfl) (by decide) (fun K hK => ?_)
            refine goes_ Try.func35 (by kernel_rfl) rfl #[.pointer (some ⟨B, 0, none⟩)] (by rfl) rfl rfl (by (try simp only [List.map_toArray, List.map_cons, List.map_nil]); first | done | rfl) ?_
            refine (HF.out _ hHeld.1).mono ?_
            rintro e w2 ⟨rfl, hb⟩
            refine ⟨_, rfl, ?_⟩
            obtain ⟨s0, s1⟩ := hHeld
            refine hK.out _ _ ⟨s0.below hb, s1.trans (hb.mono s1.size)⟩ (fun hHeld => ?_)
            clear hK K
            refine norm_ (a' := ?_) ?_ ?_
            rotate_left
            · show Act.put _ (some 113) _ = _
              simp only [Act.put, List.setIfInBounds_toArray, List.set_cons_zero, List.set_cons_succ, i64_w, i32_w]
              rfl
            refine pure_ (i := 19) (N := some 114) (v := ?_) (a' := ?_) #[true, true, true, true, true, true, true, true, true, true, true, true, true, true, true, true, true, true, true, true, false, false, false, false, false] rfl rfl (by kernel_rfl) (fun _ _ _ h => h) (Or.inl ⟨by rfl, ?_⟩) ?_ ?_
            rotate_left
            · intro w'
              go_simp
              with_reducible rfl
            rotate_left
            · simp only [Act.put, List.setIfInBounds_toArray, List.set_cons_zero, List.set_cons_succ, i64_w, i32_w]
              rfl
            refine pure_ (i := 20) (N := some 115) (v := ?_) (a' := ?_) #[true, true, true, true, true, true, true, true, true, true, true, true, true, true, true, true, true, true, true, true, true, false, false, false, false] rfl rfl (by kernel_rfl) (fun _ _ _ h => h) (Or.inl ⟨by rfl, ?_⟩) ?_ ?_
            rotate_left
            · intro w'
              go_simp
              with_reducible rfl
            rotate_left
            · simp only [Act.put, List.setIfInBounds_toArray, List.set_cons_zero, List.set_cons_succ, i64_w, i32_w]
              rfl
            refine pure_ (i := 21) (N := some 116) (v := ?_) (a' := ?_) #[true, true, true, true, true, true, true, true, true, true, true, true, true, true, true, true, true, true, true, true, true, true, false, false, false] rfl rfl (by kernel_rfl) (fun _ _ _ h => h) (Or.inl ⟨by rfl, ?_⟩) ?_ ?_
            rotate_left
            · intro w'
              go_simp
              with_reducible rfl
            rotate_left
            · simp only [Act.put, List.setIfInBounds_toArray, List.set_cons_zero, List.set_cons_succ, i64_w, i32_w]
              rfl
            refine one_ (i := 22) (N := some 117) #[true, true, true, true, true, true, true, true, true, true, true, true, true, true, true, true, true, true, true, true, true, true, true, false, false] rfl rfl (by kernel_rfl) (by decide) (fun K hK => ?_)
            refine goes_ Try.func36 (by kernel_rfl) rfl #[] (by rfl) rfl rfl (by (try simp only [List.map_toArray, List.map_cons, List.map_nil]); first | done | rfl) ?_
            refine (lives_calls _).mono ?_
            rintro e w2 ⟨rfl, hb⟩
            refine ⟨_, rfl, ?_⟩
            obtain ⟨s0, s1⟩ := hHeld
            refine hK.out _ _ ⟨s0.below hb, s1.trans (hb.mono s1.size)⟩ (fun hHeld => ?_)
            clear hK K
            refine norm_ (a' := ?_) ?_ ?_
            rotate_left
            · show Act.put _ (some 117) _ = _
              simp only [Act.put, List.setIfInBounds_toArray, List.set_cons_zero, List.set_cons_succ, i64_w, i32_w]
              rfl
            refine pure_ (i := 23) (N := some 118) (v := ?_) (a' := ?_) #[true, true, true, true, true, true, true, true, true, true, true, true, true, true, true, true, true, true, true, true, true, true, true, true, false] rfl rfl (by kernel_rfl) (fun _ _ _ h => h) (Or.inl ⟨by rfl, ?_⟩) ?_ ?_
            rotate_left
            · intro w'
              go_simp
              with_reducible rfl
            rotate_left
            · simp only [Act.put, List.setIfInBounds_toArray, List.set_cons_zero, List.set_cons_succ, i64_w, i32_w]
              rfl
            refine pure_ (i := 24) (N := some 4) (v := ?_) (a' := ?_) #[true, true, true, true, true, true, true, true, true, true, true, true, true, true, true, true, true, true, true, true, true, true, true, true, true] rfl rfl (by kernel_rfl) (fun _ _ _ h => h) (Or.inl ⟨by rfl, ?_⟩) ?_ ?_
            rotate_left
            · intro w'
              go_simp
              with_reducible rfl
            rotate_left
            · simp only [Act.put, List.setIfInBounds_toArray, List.set_cons_zero, List.set_cons_succ, i64_w, i32_w]
              rfl
            refine done_ (by kernel_rfl) ?_
            have hbf := hHeld.2
            clear hw1 hw2 hv0 hv1 hv2 hq0 hmod hdiv h3 hb3
            (try simp only [Exit.inBlock, Exit.then])
            go_wp2
            go_ret
            exact ⟨rfl, hbf⟩

end Go.Proofs.Ytcbnmmkmgpbfiaa.PP

/- ShootOnce' walk. Written by mkol.py. -/
import Derived.Test.YtcbnmmkmgpbfiaaShPO
import Derived.Test.YtcbnmmkmgpbfiaaPSx12O
import Derived.Test.YtcbnmmkmgpbfiaaShUO
import Derived.Test.YtcbnmmkmgpbfiaaShVO
import Derived.Lib.Builder
import Derived.OneCell
namespace Go.Proofs.Ytcbnmmkmgpbfiaa.PS
open Go.RowKit Go.Proofs.YtcbnmmkmgpbfiaaW.PrintWords Go.Proofs.YtcbnmmkmgpbfiaaW.PrintLast Go.Proofs.YtcbnmmkmgpbfiaaW.PrintMore
attribute [local go_sem] max2_int min2_int max_two min_two max_three min_three max_four min_four   -- for this text's walks alone
set_option linter.unusedVariables false
set_option linter.unusedSimpArgs false
set_option maxHeartbeats 8000000 in
set_option maxRecDepth 100000 in
theorem once_calls (w : World) (A0 : Option Addr) (c0 : Nat) (l0 : List S32) (A1 : Option Addr) (c1 : Nat) (l1 : List S30) (va ctx : Int) (hr0 : Kd.C k32 w A0 l0.length l0) (hc0 : l0.length ≤ c0) (hr1 : Kd.C k30 w A1 l1.length l1) (hc1 : l1.length ≤ c1)
    (E : List S32) (hE0 : lookasidelaw19_entries.f 100 l0 = some E) (hE1 : E.length ≤ 12) (G : List S30) (hG0 : lookasidelaw19_pages.f 100 l1 = some G) (hG1 : G.length ≤ 12)
    (hit : S32 → Bool) (hH : ∀ e ∈ E, lookasideref03_Hits.f e.f0 e.f1 e.f2 e.f3 e.f4.f0 e.f4.f1 e.f4.f2 e.f4.f3 e.f4.f4 e.f4.f5 e.f5 va ctx = some (hit e))
    (bv : S30 → Int) (hBv : ∀ p ∈ G, lookasideref02_Base.f va p.f1 = some (bv p)) (hIn : ∀ p ∈ G, iN va p = some (bv p == p.f0)) (ap cl : Bool) (hap : shoot_Apart.f E = some ap) (hcl : shoot_Clear.f G = some cl)
    (h1 : E.countP hit < 2 ∨ ap = false) (h2 : G.countP (fun p => bv p == p.f0) < 2 ∨ cl = false) :
    Calls Try.prog 5 #[.slice A0 l0.length c0, .slice A1 l1.length c1, .int .u64 va, .int .i64 ctx] w fun e w' => e = .returned (.bool true) ∧ Below w.heap.size w w' := by
  have HR1 := Aside0.mk hr1
  have HC1 := Aside0.mk hc1
  have HG0 := Aside0.mk hG0
  have HH := Aside0.mk hH
  have HBV := Aside0.mk hBv
  have HIN := Aside0.mk hIn
  have HAP := Aside0.mk hap
  have HCL := Aside0.mk hcl
  have H1 := Aside0.mk h1
  have H2 := Aside0.mk h2
  clear hH hBv hIn hap hcl h1 h2
  go_enter Try.func5, Try.ntmps5
  go_wp2_with fail
  refine (lookasidelaw19_entries.calls 100 A0 c0 l0 E w hr0 hc0 hE0).mono ?_
  clear hr0 hc0 hE0 hr1 hc1 hG0
  rintro e w1 ⟨v0, rfl, hv0, hb1⟩
  have HV0 := Aside0.mk hv0
  have HB1 := Aside0.mk hb1
  clear hv0 hb1
  obtain ⟨Ae, ce, hve⟩ := Kd.R_slice HV0.out
  subst hve
  go_wp2_with fail
  refine (lookasidelaw19_pages.calls 100 A1 c1 l1 G w1 (Kd.C_below HR1.out HB1.out) HC1.out HG0.out).mono ?_
  rintro e w2 ⟨vg, rfl, hvg, hb2⟩
  have HV2 := Aside0.mk (Kd.R_below HV0.out hb2)
  have HB2 := Aside0.mk (below_step HB1.out hb2)
  have HVG := Aside0.mk (Kd.R_lower hvg HB1.out.size)
  clear hvg hb2 HV0 HB1 HR1 HC1 HG0
  obtain ⟨Ag, cg, hvg⟩ := Kd.R_slice HVG.out
  subst hvg
  go_wp2_with fail
  go_loopw [11, 12] (fun nv iv wr => ∃ i : Nat, iv = .int .i64 i ∧ i ≤ E.length ∧ nv = .int .i64 ((E.take i).countP hit : Nat) ∧ Aside0 (Kd.R k32 32 wr w.heap.size (fun _ => True) (.slice Ae E.length ce) E) ∧ Aside0 (Kd.R k30 30 wr w.heap.size (fun _ => True) (.slice Ag G.length cg) G) ∧ Aside0 (Below w.heap.size w wr)) (fun _ iv _ => E.length - (intOf iv).toNat)
  case atStart => exact ⟨0, rfl, by omega, by simp, HV2, HVG, HB2⟩
  case round =>
    clear HV2 HVG HB2
    obtain ⟨i, rfl, hi, rfl, HO, HVG, HB⟩ := hrel
    have hcp : (E.take i).countP hit ≤ i := Nat.le_trans List.countP_le_length (by rw [List.length_take]; omega)
    by_cases hil : (i : Int) < (E.length : Int)
    · have hil' : i < E.length := by omega
      have hi0 : (0 : Int) ≤ (i : Int) := by omega
      obtain ⟨ad, ead, x0, x1, x2, x3, x4, x5, x6, x7, x8, x9, x10⟩ := at_T32 (Kd.R_reads' HO.out).2.2 i hi0 hil
      subst ead
      rw [rd32 hil', Int.toNat_natCast] at x0 x1 x2 x3 x4 x5 x6 x7 x8 x9 x10
      obtain ⟨p, hp⟩ : ∃ p, E[i] = p := ⟨_, rfl⟩
      rw [hp] at x0 x1 x2 x3 x4 x5 x6 x7 x8 x9 x10
      have hpm := HH.out p (hp ▸ List.getElem_mem hil')
      obtain ⟨r, hr⟩ : ∃ r, hit p = r := ⟨_, rfl⟩
      rw [hr] at hpm
      have hcn : (E.take (i + 1)).countP hit = (E.take i).countP hit + (if r = true then 1 else 0) := by rw [List.take_succ_eq_append_getElem hil', hp, List.countP_append, List.countP_cons, List.countP_nil, hr]; simp
      have HPM := Aside0.mk hpm
      have HCN := Aside0.mk hcn
      clear hp hpm hr hcn
      generalize (E.take i).countP hit = n at hcp HCN ⊢
      go_wp2_with fail
      refine (lookasideref03_Hits.calls _ _ _ _ _ _ _ _ _ _ _ _ _ r wr HPM.out).mono ?_
      rintro e w3 ⟨rfl, hb3⟩
      have HO3 := Aside0.mk (Kd.R_below HO.out hb3)
      have HV3 := Aside0.mk (Kd.R_below HVG.out hb3)
      have HB3 := Aside0.mk (below_step HB.out hb3)
      clear hb3 HO HVG HB x0 x1 x2 x3 x4 x5 x6 x7 x8 x9 x10
      cases r with
      | true =>
        go_wp2
        go_roundw
        case rel => exact ⟨i + 1, by go_num, by omega, by rw [HCN.out]; go_num, HO3, HV3, HB3⟩
        case measure => simp [intOf]; omega
      | false =>
        go_wp2
        go_roundw
        case rel => exact ⟨i + 1, by go_num, by omega, by rw [HCN.out]; rfl, HO3, HV3, HB3⟩
        case measure => simp [intOf]; omega
    · obtain rfl : i = E.length := by omega
      rw [List.take_length] at hcp ⊢
      obtain ⟨nE, hnE⟩ : ∃ nE, E.countP hit = nE := ⟨_, rfl⟩
      rw [hnE] at H1 hcp ⊢
      clear hnE HH
      go_wp2_with fail
      go_loopw [14, 15] (fun nv iv wr => ∃ i : Nat, iv = .int .i64 i ∧ i ≤ G.length ∧ nv = .int .i64 ((G.take i).countP (fun p => bv p == p.f0) : Nat) ∧ Aside0 (Kd.R k32 32 wr w.heap.size (fun _ => True) (.slice Ae E.length ce) E) ∧ Aside0 (Kd.R k30 30 wr w.heap.size (fun _ => True) (.slice Ag G.length cg) G) ∧ Aside0 (Below w.heap.size w wr)) (fun _ iv _ => G.length - (intOf iv).toNat)
      case atStart => exact ⟨0, rfl, by omega, by simp, HO, HVG, HB⟩
      case round =>
        clear HO HVG HB
        obtain ⟨i, rfl, hi, rfl, HO, HVG, HB⟩ := hrel
        have hcq : (G.take i).countP (fun p => bv p == p.f0) ≤ i := Nat.le_trans List.countP_le_length (by rw [List.length_take]; omega)
        by_cases hil : (i : Int) < (G.length : Int)
        · have hil' : i < G.length := by omega
          have hi0 : (0 : Int) ≤ (i : Int) := by omega
          obtain ⟨ad, ead, x0, x1, -, -, -, -, -, -, -, -, -⟩ := at_T30 (Kd.R_reads' HVG.out).2.2 i hi0 hil
          subst ead
          rw [rd30 hil', Int.toNat_natCast] at x0 x1
          obtain ⟨p, hp⟩ : ∃ p, G[i] = p := ⟨_, rfl⟩
          rw [hp] at x0 x1
          have hpm := HBV.out p (hp ▸ List.getElem_mem hil')
          have hcn : (G.take (i + 1)).countP (fun p => bv p == p.f0) = (G.take i).countP (fun p => bv p == p.f0) + (if (bv p == p.f0) = true then 1 else 0) := by rw [List.take_succ_eq_append_getElem hil', hp, List.countP_append, List.countP_cons, List.countP_nil]; simp
          have HPM := Aside0.mk hpm
          have HCN := Aside0.mk hcn
          clear hp hpm hcn
          generalize (G.take i).countP (fun p => bv p == p.f0) = n at hcq HCN ⊢
          go_wp2_with fail
          refine start_ (n := 13) (S := fun w' => w'.cell? (ad.add (i * 11)) = some (.int .u64 p.f0) ∧ w'.cell? ⟨(ad.add (i * 11)).block, (ad.add (i * 11)).off + 1, none⟩ = some (.int .i64 p.f1)) (ds := []) #[false, false, false, false, false, false, false, false, false, false, false, false, false] (by kernel_rfl) rfl rfl ⟨x0, x1⟩ (fun hHeld => ?_)
          refine pure_ (i := 0) (N := some 44) (v := ?_) (a' := ?_) #[true, false, false, false, false, false, false, false, false, false, false, false, false] rfl rfl (by kernel_rfl) (fun _ _ _ h => h) (Or.inl ⟨by rfl, ?_⟩) ?_ ?_
          rotate_left
          · intro w'
            go_simp
            with_reducible rfl
          rotate_left
          · simp only [Act.put, List.setIfInBounds_toArray, List.set_cons_zero, List.set_cons_succ, i64_w, i32_w]
            rfl
          refine pure_ (i := 1) (N := some 45) (v := ?_) (a' := ?_) #[true, true, false, false, false, false, false, false, false, false, false, false, false] rfl rfl (by kernel_rfl) (fun _ _ _ h => h) (Or.inl ⟨by rfl, ?_⟩) ?_ ?_
          rotate_left
          · intro w'
            go_simp
            with_reducible rfl
          rotate_left
          · simp only [Act.put, List.setIfInBounds_toArray, List.set_cons_zero, List.set_cons_succ, i64_w, i32_w]
            rfl
          refine pure_ (i := 2) (N := some 46) (v := ?_) (a' := ?_) #[true, true, true, false, false, false, false, false, false, false, false, false, false] rfl rfl (by kernel_rfl) (fun _ _ _ h => h) (Or.inl ⟨by rfl, ?_⟩) ?_ ?_
          rotate_left
          · intro w'
            go_simp
            with_reducible rfl
          rotate_left
          · simp only [Act.put, List.setIfInBounds_toArray, List.set_cons_zero, List.set_cons_succ, i64_w, i32_w]
            rfl
          refine pure_ (i := 3) (N := some 47) (v := ?_) (a' := ?_) #[true, true, true, true, false, false, false, false, false, false, false, false, false] rfl rfl (by kernel_rfl) (fun _ _ _ h => h) (Or.inl ⟨by rfl, ?_⟩) ?_ ?_
          rotate_left
          · intro w'
            go_simp
            with_reducible rfl
          rotate_left
          · simp only [Act.put, List.setIfInBounds_toArray, List.set_cons_zero, List.set_cons_succ, i64_w, i32_w]
            rfl
          refine pure_ (i := 4) (N := some 48) (v := ?_) (a' := ?_) #[true, true, true, true, true, false, false, false, false, false, false, false, false] rfl rfl (by kernel_rfl) (fun _ _ _ h => h) (Or.inl ⟨by rfl, ?_⟩) ?_ ?_
          rotate_left
          · intro w'
            go_simp
            with_reducible rfl
          rotate_left
          · simp only [Act.put, List.setIfInBounds_toArray, List.set_cons_zero, List.set_cons_succ, i64_w, i32_w]
            rfl
          refine pure_ (i := 7) (N := some 51) (v := ?_) (a' := ?_) #[true, true, true, true, true, false, false, true, false, false, false, false, false] rfl rfl (by kernel_rfl) (fun _ _ _ h => h) (Or.inl ⟨by rfl, ?_⟩) ?_ ?_
          rotate_left
          · intro w'
            go_simp
            with_reducible rfl
          rotate_left
          · simp only [Act.put, List.setIfInBounds_toArray, List.set_cons_zero, List.set_cons_succ, i64_w, i32_w]
            rfl
          refine pure_ (i := 8) (N := some 52) (v := ?_) (a' := ?_) #[true, true, true, true, true, false, false, true, true, false, false, false, false] rfl rfl (by kernel_rfl) (fun _ _ _ h => h) (Or.inl ⟨by rfl, ?_⟩) ?_ ?_
          rotate_left
          · intro w'
            go_simp
            with_reducible rfl
          rotate_left
          · simp only [Act.put, List.setIfInBounds_toArray, List.set_cons_zero, List.set_cons_succ, i64_w, i32_w]
            rfl
          refine pure_ (i := 9) (N := some 53) (v := ?_) (a' := ?_) #[true, true, true, true, true, false, false, true, true, true, false, false, false] rfl rfl (by kernel_rfl) (fun _ _ _ h => h) (Or.inl ⟨by rfl, ?_⟩) ?_ ?_
          rotate_left
          · intro w'
            go_simp
            with_reducible rfl
          rotate_left
          · simp only [Act.put, List.setIfInBounds_toArray, List.set_cons_zero, List.set_cons_succ, i64_w, i32_w]
            rfl
          refine pure_ (i := 10) (N := some 54) (v := ?_) (a' := ?_) #[true, true, true, true, true, false, false, true, true, true, true, false, false] rfl rfl (by kernel_rfl) (fun _ _ _ h => h) (Or.inl ⟨by rfl, ?_⟩) ?_ ?_
          rotate_left
          · intro w'
            go_simp
            with_reducible rfl
          rotate_left
          · simp only [Act.put, List.setIfInBounds_toArray, List.set_cons_zero, List.set_cons_succ, i64_w, i32_w]
            rfl
          refine take_ (i := 5) (N := some 49) (v := ?_) (a' := ?_) #[true, true, true, true, true, true, false, true, true, true, true, false, false] rfl rfl (by kernel_rfl) (fun _ _ _ h => h) (Or.inl ⟨by rfl, ?_⟩) hHeld ?_ ?_
          rotate_left
          · rintro w' ⟨s0, s1⟩
            go_simp
            with_reducible rfl
          rotate_left
          · simp only [Act.put, List.setIfInBounds_toArray, List.set_cons_zero, List.set_cons_succ, i64_w, i32_w]
            rfl
          refine take_ (i := 11) (N := some 55) (v := ?_) (a' := ?_) #[true, true, true, true, true, true, false, true, true, true, true, true, false] rfl rfl (by kernel_rfl) (fun _ _ _ h => h) (Or.inl ⟨by rfl, ?_⟩) hHeld ?_ ?_
          rotate_left
          · rintro w' ⟨s0, s1⟩
            go_simp
            with_reducible rfl
          rotate_left
          · simp only [Act.put, List.setIfInBounds_toArray, List.set_cons_zero, List.set_cons_succ, i64_w, i32_w]
            rfl
          refine one_ (i := 6) (N := some 50) #[true, true, true, true, true, true, true, true, true, true, true, true, false] rfl rfl (by kernel_rfl) (by decide) (fun K hK => ?_)
          refine goes_ Try.func27 (by kernel_rfl) rfl #[.int .u64 va, .int .i64 p.f1] (by rfl) rfl rfl (by (try simp only [List.map_toArray, List.map_cons, List.map_nil]); first | done | rfl) ?_
          refine (lookasideref02_Base.calls va p.f1 (bv p) wr.drew HPM.out).mono ?_
          rintro e w3 ⟨rfl, hb⟩
          refine ⟨_, rfl, ?_⟩
          have hb3 := hb.below
          obtain ⟨s0, s1⟩ := hHeld
          refine hK.out _ _ ⟨(hb.below.cell (World.block_lt_of_cell? _ _ s0)).trans s0, (hb.below.cell (World.block_lt_of_cell? _ _ s1)).trans s1⟩ (fun hHeld => ?_)
          clear hK K
          refine norm_ (a' := ?_) ?_ ?_
          rotate_left
          · show Act.put _ (some 50) _ = _
            simp only [Act.put, List.setIfInBounds_toArray, List.set_cons_zero, List.set_cons_succ, i64_w, i32_w]
            rfl
          refine pure_ (i := 12) (N := some 56) (v := ?_) (a' := ?_) #[true, true, true, true, true, true, true, true, true, true, true, true, true] rfl rfl (by kernel_rfl) (fun _ _ _ h => h) (Or.inl ⟨by rfl, ?_⟩) ?_ ?_
          rotate_left
          · intro w'
            go_simp
            with_reducible rfl
          rotate_left
          · simp only [Act.put, List.setIfInBounds_toArray, List.set_cons_zero, List.set_cons_succ, i64_w, i32_w]
            rfl
          refine done_ (by kernel_rfl) ?_
          have hbz : Below wr.heap.size wr w3 := below_step (below_drew (Below.refl _ wr)) hb3
          have HO5 := Aside0.mk (Kd.R_below HO.out hbz)
          have HG5 := Aside0.mk (Kd.R_below HVG.out hbz)
          have HB5 := Aside0.mk (below_step HB.out hbz)
          clear hbz hb3 HO HVG HB hHeld x0 x1
          obtain ⟨q, hq⟩ : ∃ q, (bv p == p.f0) = q := ⟨_, rfl⟩
          rw [hq] at HCN
          cases q with
          | true =>
            go_wp2
            go_roundw
            case rel => exact ⟨i + 1, by go_num, by omega, by rw [HCN.out]; go_num, HO5, HG5, HB5⟩
            case measure => simp [intOf]; omega
          | false =>
            go_wp2
            go_roundw
            case rel => exact ⟨i + 1, by go_num, by omega, by rw [HCN.out]; rfl, HO5, HG5, HB5⟩
            case measure => simp [intOf]; omega
        · obtain rfl : i = G.length := by omega
          rw [List.take_length] at hcq ⊢
          have hany : G.any (iA va) = decide (0 < G.countP (fun p => bv p == p.f0)) := by
            rw [Bool.eq_iff_iff, decide_eq_true_eq, List.countP_pos_iff, List.any_eq_true]
            constructor
            · rintro ⟨x, hx, hx2⟩
              refine ⟨x, hx, ?_⟩
              rw [iA, HIN.out x hx] at hx2
              exact hx2
            · rintro ⟨x, hx, hx2⟩
              refine ⟨x, hx, ?_⟩
              rw [iA, HIN.out x hx]
              exact hx2
          have HANY := Aside0.mk hany
          clear hany
          obtain ⟨nG, hnG⟩ : ∃ nG, G.countP (fun p => bv p == p.f0) = nG := ⟨_, rfl⟩
          rw [hnG] at H2 HANY hcq ⊢
          have hso : ∀ p ∈ G, (iN va p).isSome = true := fun p hp => by rw [HIN.out p hp]; rfl
          have HSO := Aside0.mk hso
          clear hnG HBV HIN hso
          go_wp2_with fail
          refine (at_calls Ag cg G va wr (Kd.R_reads' HVG.out).2.2 (Kd.R_reads' HVG.out).2.1 (by omega) HSO.out).mono ?_
          rw [HANY.out]
          rintro e w3 ⟨x, rfl, hb3⟩
          have HO3 := Aside0.mk (Kd.R_below HO.out hb3)
          have HG3 := Aside0.mk (Kd.R_below HVG.out hb3)
          have HB3 := Aside0.mk (below_step HB.out hb3)
          clear hb3 HO HVG HB HANY HSO
          have hgt : decide ((nG : Int) > 0) = decide (0 < nG) := by
            by_cases h : 0 < nG
            · rw [decide_eq_true h, decide_eq_true (by omega)]
            · rw [decide_eq_false h, decide_eq_false (by omega)]
          by_cases hn : nE < 2
          · have hnI : (nE : Int) < 2 := by omega
            by_cases hk : nG < 2
            · have hkI : (nG : Int) < 2 := by omega
              go_wp2_with fail
              have hb := (Below.refl w3.heap.size w3).alloc (Nat.le_refl _) (.cells #[.int .u64 x.f0, .int .i64 x.f1, .int .u64 x.f2, .bool x.f3.f0, .bool x.f3.f1, .bool x.f3.f2, .bool x.f3.f3, .bool x.f3.f4, .bool x.f3.f5, .bool x.f4, .bool x.f5] 30)
              have HO4 := Aside0.mk (Kd.R_below HO3.out hb)
              have HG4 := Aside0.mk (Kd.R_below HG3.out hb)
              have HB4 := Aside0.mk (below_step HB3.out hb)
              clear hb HO3 HG3 HB3
              generalize w3.alloc (.cells #[.int .u64 x.f0, .int .i64 x.f1, .int .u64 x.f2, .bool x.f3.f0, .bool x.f3.f1, .bool x.f3.f2, .bool x.f3.f3, .bool x.f3.f4, .bool x.f3.f5, .bool x.f4, .bool x.f5] 30) = w4 at HO4 HG4 HB4 ⊢
              refine (lookasidelaw19_lives.calls true w4 lives_true).mono ?_
              rintro e w5 ⟨rfl, hb⟩
              have HBL := Aside0.mk (below_step HB4.out hb)
              go_wp2
              go_ret
              exact ⟨rfl, HBL.out⟩
            · have hkI : ¬ (nG : Int) < 2 := by omega
              go_wp2_with fail
              have hb := (Below.refl w3.heap.size w3).alloc (Nat.le_refl _) (.cells #[.int .u64 x.f0, .int .i64 x.f1, .int .u64 x.f2, .bool x.f3.f0, .bool x.f3.f1, .bool x.f3.f2, .bool x.f3.f3, .bool x.f3.f4, .bool x.f3.f5, .bool x.f4, .bool x.f5] 30)
              have HO4 := Aside0.mk (Kd.R_below HO3.out hb)
              have HG4 := Aside0.mk (Kd.R_below HG3.out hb)
              have HB4 := Aside0.mk (below_step HB3.out hb)
              clear hb HO3 HG3 HB3
              generalize w3.alloc (.cells #[.int .u64 x.f0, .int .i64 x.f1, .int .u64 x.f2, .bool x.f3.f0, .bool x.f3.f1, .bool x.f3.f2, .bool x.f3.f3, .bool x.f3.f4, .bool x.f3.f5, .bool x.f4, .bool x.f5] 30) = w4 at HO4 HG4 HB4 ⊢
              refine (shoot_Clear.calls Ag cg G cl w4 (Kd.R_reads' HG4.out).2.2 (Kd.R_reads' HG4.out).2.1 HCL.out).mono ?_
              rintro e w5 ⟨rfl, hb⟩
              have HO5 := Aside0.mk (Kd.R_below HO4.out hb)
              have HG5 := Aside0.mk (Kd.R_below HG4.out hb)
              have HB5 := Aside0.mk (below_step HB4.out hb)
              clear hb HO4 HG4 HB4
              obtain rfl : cl = false := H2.out.resolve_left hk
              go_wp2_with fail
              refine (lookasidelaw19_lives.calls true w5 lives_true).mono ?_
              rintro e w6 ⟨rfl, hb⟩
              have HBL := Aside0.mk (below_step HB5.out hb)
              go_wp2
              go_ret
              exact ⟨rfl, HBL.out⟩
          · have hnI : ¬ (nE : Int) < 2 := by omega
            by_cases hk : nG < 2
            · have hkI : (nG : Int) < 2 := by omega
              go_wp2_with fail
              have hb := (Below.refl w3.heap.size w3).alloc (Nat.le_refl _) (.cells #[.int .u64 x.f0, .int .i64 x.f1, .int .u64 x.f2, .bool x.f3.f0, .bool x.f3.f1, .bool x.f3.f2, .bool x.f3.f3, .bool x.f3.f4, .bool x.f3.f5, .bool x.f4, .bool x.f5] 30)
              have HO4 := Aside0.mk (Kd.R_below HO3.out hb)
              have HG4 := Aside0.mk (Kd.R_below HG3.out hb)
              have HB4 := Aside0.mk (below_step HB3.out hb)
              clear hb HO3 HG3 HB3
              generalize w3.alloc (.cells #[.int .u64 x.f0, .int .i64 x.f1, .int .u64 x.f2, .bool x.f3.f0, .bool x.f3.f1, .bool x.f3.f2, .bool x.f3.f3, .bool x.f3.f4, .bool x.f3.f5, .bool x.f4, .bool x.f5] 30) = w4 at HO4 HG4 HB4 ⊢
              refine (shoot_Apart.calls Ae ce E ap w4 (Kd.R_reads' HO4.out).2.2 (Kd.R_reads' HO4.out).2.1 HAP.out).mono ?_
              rintro e w5 ⟨rfl, hb⟩
              have HO5 := Aside0.mk (Kd.R_below HO4.out hb)
              have HG5 := Aside0.mk (Kd.R_below HG4.out hb)
              have HB5 := Aside0.mk (below_step HB4.out hb)
              clear hb HO4 HG4 HB4
              obtain rfl : ap = false := H1.out.resolve_left hn
              go_wp2_with fail
              refine (lookasidelaw19_lives.calls true w5 lives_true).mono ?_
              rintro e w6 ⟨rfl, hb⟩
              have HBL := Aside0.mk (below_step HB5.out hb)
              go_wp2
              go_ret
              exact ⟨rfl, HBL.out⟩
            · have hkI : ¬ (nG : Int) < 2 := by omega
              go_wp2_with fail
              have hb := (Below.refl w3.heap.size w3).alloc (Nat.le_refl _) (.cells #[.int .u64 x.f0, .int .i64 x.f1, .int .u64 x.f2, .bool x.f3.f0, .bool x.f3.f1, .bool x.f3.f2, .bool x.f3.f3, .bool x.f3.f4, .bool x.f3.f5, .bool x.f4, .bool x.f5] 30)
              have HO4 := Aside0.mk (Kd.R_below HO3.out hb)
              have HG4 := Aside0.mk (Kd.R_below HG3.out hb)
              have HB4 := Aside0.mk (below_step HB3.out hb)
              clear hb HO3 HG3 HB3
              generalize w3.alloc (.cells #[.int .u64 x.f0, .int .i64 x.f1, .int .u64 x.f2, .bool x.f3.f0, .bool x.f3.f1, .bool x.f3.f2, .bool x.f3.f3, .bool x.f3.f4, .bool x.f3.f5, .bool x.f4, .bool x.f5] 30) = w4 at HO4 HG4 HB4 ⊢
              refine (shoot_Apart.calls Ae ce E ap w4 (Kd.R_reads' HO4.out).2.2 (Kd.R_reads' HO4.out).2.1 HAP.out).mono ?_
              rintro e w5 ⟨rfl, hb⟩
              have HO5 := Aside0.mk (Kd.R_below HO4.out hb)
              have HG5 := Aside0.mk (Kd.R_below HG4.out hb)
              have HB5 := Aside0.mk (below_step HB4.out hb)
              clear hb HO4 HG4 HB4
              obtain rfl : ap = false := H1.out.resolve_left hn
              go_wp2_with fail
              refine (shoot_Clear.calls Ag cg G cl w5 (Kd.R_reads' HG5.out).2.2 (Kd.R_reads' HG5.out).2.1 HCL.out).mono ?_
              rintro e w6 ⟨rfl, hb⟩
              have HO6 := Aside0.mk (Kd.R_below HO5.out hb)
              have HG6 := Aside0.mk (Kd.R_below HG5.out hb)
              have HB6 := Aside0.mk (below_step HB5.out hb)
              clear hb HO5 HG5 HB5
              obtain rfl : cl = false := H2.out.resolve_left hk
              go_wp2_with fail
              refine (lookasidelaw19_lives.calls true w6 lives_true).mono ?_
              rintro e w7 ⟨rfl, hb⟩
              have HBL := Aside0.mk (below_step HB6.out hb)
              go_wp2
              go_ret
              exact ⟨rfl, HBL.out⟩



/- ShootRights' walk. Written by mkrl.py. -/
import Derived.Test.YtcbnmmkmgpbfiaaShP
import Derived.Lib.Builder
import Derived.OneCell
namespace Go.Proofs.Ytcbnmmkmgpbfiaa.PS
open Go.RowKit Go.Proofs.YtcbnmmkmgpbfiaaW.PrintWords Go.Proofs.YtcbnmmkmgpbfiaaW.PrintLast Go.Proofs.YtcbnmmkmgpbfiaaW.PrintMore
attribute [local go_sem] max2_int min2_int max_two min_two max_three min_three max_four min_four   -- for this text's walks alone
set_option linter.unusedVariables false
set_option linter.unusedSimpArgs false
def mkE (less : Bool) (p : S30) : S32 := ⟨p.f1, 1, p.f0, p.f2, ⟨!less, p.f3.f1, p.f3.f2, p.f3.f3, p.f3.f4, p.f3.f5⟩, true⟩
set_option maxHeartbeats 8000000 in
set_option maxRecDepth 100000 in
theorem rights_calls (w : World) (A0 : Option Addr) (c0 : Nat) (l0 : List S32) (A1 : Option Addr) (c1 : Nat) (l1 : List S30) (less : Bool) (hr0 : Kd.C k32 w A0 l0.length l0) (hc0 : l0.length ≤ c0) (hr1 : Kd.C k30 w A1 l1.length l1) (hc1 : l1.length ≤ c1) :
    Calls Try.prog 3 #[.slice A0 l0.length c0, .slice A1 l1.length c1, .bool less] w fun e w' => e = .returned (.bool true) ∧ Below w.heap.size w w' := by
  obtain ⟨E0, hE0, hE1⟩ := entries_some l0
  obtain ⟨G, hG0, hG1⟩ := pages_some l1
  have HR1 := Aside0.mk hr1
  have HC1 := Aside0.mk hc1
  have HG0 := Aside0.mk hG0
  go_enter Try.func3, Try.ntmps3
  go_wp2_with fail
  refine (lookasidelaw19_entries.calls 100 A0 c0 l0 E0 w hr0 hc0 hE0).mono ?_
  clear hr0 hc0 hE0 hr1 hc1 hG0
  rintro e w1 ⟨v0, rfl, hv0, hb1⟩
  have HV0 := Aside0.mk hv0
  have HB1 := Aside0.mk hb1
  clear hv0 hb1
  go_wp2_with fail
  refine (lookasidelaw19_pages.calls 100 A1 c1 l1 G w1 (Kd.C_below HR1.out HB1.out) HC1.out HG0.out).mono ?_
  rintro e w2 ⟨vg, rfl, hvg, hb2⟩
  have HV2 := Aside0.mk (Kd.R_below HV0.out hb2)
  have HB2 := Aside0.mk (below_step HB1.out hb2)
  have HVG := Aside0.mk (Kd.R_lower hvg HB1.out.size)
  clear hvg hb2 HV0 HB1 HR1 HC1 HG0
  obtain ⟨Ag, cg, hvg⟩ := Kd.R_slice HVG.out
  subst hvg
  go_wp2_with fail
  go_loopw [7, 9] (fun ov iv wr => ∃ i : Nat, iv = .int .i64 i ∧ i ≤ G.length ∧ Aside0 (Kd.R k32 32 wr w.heap.size (fun _ => True) ov (E0 ++ (G.take i).map (mkE less))) ∧ Aside0 (Kd.R k30 30 wr w.heap.size (fun _ => True) (.slice Ag G.length cg) G) ∧ Aside0 (Below w.heap.size w wr)) (fun _ iv _ => G.length - (intOf iv).toNat)
  case atStart => exact ⟨0, rfl, by omega, by simpa using HV2, HVG, HB2⟩
  case round =>
    clear HV2 HVG HB2
    obtain ⟨i, rfl, hi, HO, HVG, HB⟩ := hrel
    obtain ⟨Ae, ce, hve⟩ := Kd.R_slice HO.out
    subst hve
    have hEl : (E0 ++ (G.take i).map (mkE less)).length ≤ 24 := by simp; omega
    by_cases hil : (i : Int) < (G.length : Int)
    · have hil' : i < G.length := by omega
      have hi0 : (0 : Int) ≤ (i : Int) := by omega
      obtain ⟨ad, ead, x0, x1, x2, x3, x4, x5, x6, x7, x8, -, -⟩ := at_T30 (Kd.R_reads' HVG.out).2.2 i hi0 hil
      subst ead
      rw [rd30 hil', Int.toNat_natCast] at x0 x1 x2 x3 x4 x5 x6 x7 x8
      obtain ⟨p, hp⟩ : ∃ p, G[i] = p := ⟨_, rfl⟩
      rw [hp] at x0 x1 x2 x3 x4 x5 x6 x7 x8
      have htk : E0 ++ (G.take (i + 1)).map (mkE less) = (E0 ++ (G.take i).map (mkE less)) ++ [mkE less p] := by rw [List.take_succ_eq_append_getElem hil', hp]; simp
      have HP := Aside0.mk htk
      clear hp htk
      obtain ⟨E, hE⟩ : ∃ E, E = E0 ++ (G.take i).map (mkE less) := ⟨_, rfl⟩
      rw [← hE] at HO hEl HP ⊢
      clear hE
      go_wp2_with fail
      refine start_ (n := 23) (S := fun w' => w'.cell? (ad.add (i * 11)) = some (.int .u64 p.f0) ∧ w'.cell? ⟨(ad.add (i * 11)).block, (ad.add (i * 11)).off + 1, none⟩ = some (.int .i64 p.f1) ∧ w'.cell? ⟨(ad.add (i * 11)).block, (ad.add (i * 11)).off + 2, none⟩ = some (.int .u64 p.f2) ∧ w'.cell? ⟨(ad.add (i * 11)).block, (ad.add (i * 11)).off + 3, none⟩ = some (.bool p.f3.f0) ∧ w'.cell? ⟨(ad.add (i * 11)).block, (ad.add (i * 11)).off + 4, none⟩ = some (.bool p.f3.f1) ∧ w'.cell? ⟨(ad.add (i * 11)).block, (ad.add (i * 11)).off + 5, none⟩ = some (.bool p.f3.f2) ∧ w'.cell? ⟨(ad.add (i * 11)).block, (ad.add (i * 11)).off + 6, none⟩ = some (.bool p.f3.f3) ∧ w'.cell? ⟨(ad.add (i * 11)).block, (ad.add (i * 11)).off + 7, none⟩ = some (.bool p.f3.f4) ∧ w'.cell? ⟨(ad.add (i * 11)).block, (ad.add (i * 11)).off + 8, none⟩ = some (.bool p.f3.f5)) (ds := [22]) #[false, false, false, false, false, false, false, false, false, false, false, false, false, false, false, false, false, false, false, false, false, false, false] (by kernel_rfl) rfl rfl ⟨x0, x1, x2, x3, x4, x5, x6, x7, x8⟩ (fun hHeld => ?_)
      refine pure_ (i := 0) (N := some 22) (v := ?_) (a' := ?_) #[true, false, false, false, false, false, false, false, false, false, false, false, false, false, false, false, false, false, false, false, false, false, false] rfl rfl (by kernel_rfl) (fun _ _ _ h => h) (Or.inl ⟨by rfl, ?_⟩) ?_ ?_
      rotate_left
      · intro w'
        go_simp
        with_reducible rfl
      rotate_left
      · simp only [Act.put, List.setIfInBounds_toArray, List.set_cons_zero, List.set_cons_succ, i64_w, i32_w]
        rfl
      refine pure_ (i := 1) (N := some 23) (v := ?_) (a' := ?_) #[true, true, false, false, false, false, false, false, false, false, false, false, false, false, false, false, false, false, false, false, false, false, false] rfl rfl (by kernel_rfl) (fun _ _ _ h => h) (Or.inl ⟨by rfl, ?_⟩) ?_ ?_
      rotate_left
      · intro w'
        go_simp
        with_reducible rfl
      rotate_left
      · simp only [Act.put, List.setIfInBounds_toArray, List.set_cons_zero, List.set_cons_succ, i64_w, i32_w]
        rfl
      refine pure_ (i := 2) (N := some 24) (v := ?_) (a' := ?_) #[true, true, true, false, false, false, false, false, false, false, false, false, false, false, false, false, false, false, false, false, false, false, false] rfl rfl (by kernel_rfl) (fun _ _ _ h => h) (Or.inl ⟨by rfl, ?_⟩) ?_ ?_
      rotate_left
      · intro w'
        go_simp
        with_reducible rfl
      rotate_left
      · simp only [Act.put, List.setIfInBounds_toArray, List.set_cons_zero, List.set_cons_succ, i64_w, i32_w]
        rfl
      refine pure_ (i := 3) (N := some 25) (v := ?_) (a' := ?_) #[true, true, true, true, false, false, false, false, false, false, false, false, false, false, false, false, false, false, false, false, false, false, false] rfl rfl (by kernel_rfl) (fun _ _ _ h => h) (Or.inl ⟨by rfl, ?_⟩) ?_ ?_
      rotate_left
      · intro w'
        go_simp
        with_reducible rfl
      rotate_left
      · simp only [Act.put, List.setIfInBounds_toArray, List.set_cons_zero, List.set_cons_succ, i64_w, i32_w]
        rfl
      refine pure_ (i := 5) (N := some 27) (v := ?_) (a' := ?_) #[true, true, true, true, false, true, false, false, false, false, false, false, false, false, false, false, false, false, false, false, false, false, false] rfl rfl (by kernel_rfl) (fun _ _ _ h => h) (Or.inl ⟨by rfl, ?_⟩) ?_ ?_
      rotate_left
      · intro w'
        go_simp
        with_reducible rfl
      rotate_left
      · simp only [Act.put, List.setIfInBounds_toArray, List.set_cons_zero, List.set_cons_succ, i64_w, i32_w]
        rfl
      refine pure_ (i := 6) (N := some 28) (v := ?_) (a' := ?_) #[true, true, true, true, false, true, true, false, false, false, false, false, false, false, false, false, false, false, false, false, false, false, false] rfl rfl (by kernel_rfl) (fun _ _ _ h => h) (Or.inl ⟨by rfl, ?_⟩) ?_ ?_
      rotate_left
      · intro w'
        go_simp
        with_reducible rfl
      rotate_left
      · simp only [Act.put, List.setIfInBounds_toArray, List.set_cons_zero, List.set_cons_succ, i64_w, i32_w]
        rfl
      refine pure_ (i := 7) (N := some 29) (v := ?_) (a' := ?_) #[true, true, true, true, false, true, true, true, false, false, false, false, false, false, false, false, false, false, false, false, false, false, false] rfl rfl (by kernel_rfl) (fun _ _ _ h => h) (Or.inl ⟨by rfl, ?_⟩) ?_ ?_
      rotate_left
      · intro w'
        go_simp
        with_reducible rfl
      rotate_left
      · simp only [Act.put, List.setIfInBounds_toArray, List.set_cons_zero, List.set_cons_succ, i64_w, i32_w]
        rfl
      refine pure_ (i := 8) (N := some 30) (v := ?_) (a' := ?_) #[true, true, true, true, false, true, true, true, true, false, false, false, false, false, false, false, false, false, false, false, false, false, false] rfl rfl (by kernel_rfl) (fun _ _ _ h => h) (Or.inl ⟨by rfl, ?_⟩) ?_ ?_
      rotate_left
      · intro w'
        go_simp
        with_reducible rfl
      rotate_left
      · simp only [Act.put, List.setIfInBounds_toArray, List.set_cons_zero, List.set_cons_succ, i64_w, i32_w]
        rfl
      refine pure_ (i := 10) (N := some 32) (v := ?_) (a' := ?_) #[true, true, true, true, false, true, true, true, true, false, true, false, false, false, false, false, false, false, false, false, false, false, false] rfl rfl (by kernel_rfl) (fun _ _ _ h => h) (Or.inl ⟨by rfl, ?_⟩) ?_ ?_
      rotate_left
      · intro w'
        go_simp
        with_reducible rfl
      rotate_left
      · simp only [Act.put, List.setIfInBounds_toArray, List.set_cons_zero, List.set_cons_succ, i64_w, i32_w]
        rfl
      refine pure_ (i := 11) (N := some 33) (v := ?_) (a' := ?_) #[true, true, true, true, false, true, true, true, true, false, true, true, false, false, false, false, false, false, false, false, false, false, false] rfl rfl (by kernel_rfl) (fun _ _ _ h => h) (Or.inl ⟨by rfl, ?_⟩) ?_ ?_
      rotate_left
      · intro w'
        go_simp
        with_reducible rfl
      rotate_left
      · simp only [Act.put, List.setIfInBounds_toArray, List.set_cons_zero, List.set_cons_succ, i64_w, i32_w]
        rfl
      refine pure_ (i := 12) (N := some 34) (v := ?_) (a' := ?_) #[true, true, true, true, false, true, true, true, true, false, true, true, true, false, false, false, false, false, false, false, false, false, false] rfl rfl (by kernel_rfl) (fun _ _ _ h => h) (Or.inl ⟨by rfl, ?_⟩) ?_ ?_
      rotate_left
      · intro w'
        go_simp
        with_reducible rfl
      rotate_left
      · simp only [Act.put, List.setIfInBounds_toArray, List.set_cons_zero, List.set_cons_succ, i64_w, i32_w]
        rfl
      refine pure_ (i := 13) (N := some 35) (v := ?_) (a' := ?_) #[true, true, true, true, false, true, true, true, true, false, true, true, true, true, false, false, false, false, false, false, false, false, false] rfl rfl (by kernel_rfl) (fun _ _ _ h => h) (Or.inl ⟨by rfl, ?_⟩) ?_ ?_
      rotate_left
      · intro w'
        go_simp
        with_reducible rfl
      rotate_left
      · simp only [Act.put, List.setIfInBounds_toArray, List.set_cons_zero, List.set_cons_succ, i64_w, i32_w]
        rfl
      refine pure_ (i := 15) (N := some 37) (v := ?_) (a' := ?_) #[true, true, true, true, false, true, true, true, true, false, true, true, true, true, false, true, false, false, false, false, false, false, false] rfl rfl (by kernel_rfl) (fun _ _ _ h => h) (Or.inl ⟨by rfl, ?_⟩) ?_ ?_
      rotate_left
      · intro w'
        go_simp
        with_reducible rfl
      rotate_left
      · simp only [Act.put, List.setIfInBounds_toArray, List.set_cons_zero, List.set_cons_succ, i64_w, i32_w]
        rfl
      refine pure_ (i := 16) (N := some 38) (v := ?_) (a' := ?_) #[true, true, true, true, false, true, true, true, true, false, true, true, true, true, false, true, true, false, false, false, false, false, false] rfl rfl (by kernel_rfl) (fun _ _ _ h => h) (Or.inl ⟨by rfl, ?_⟩) ?_ ?_
      rotate_left
      · intro w'
        go_simp
        with_reducible rfl
      rotate_left
      · simp only [Act.put, List.setIfInBounds_toArray, List.set_cons_zero, List.set_cons_succ, i64_w, i32_w]
        rfl
      refine pure_ (i := 17) (N := some 39) (v := ?_) (a' := ?_) #[true, true, true, true, false, true, true, true, true, false, true, true, true, true, false, true, true, true, false, false, false, false, false] rfl rfl (by kernel_rfl) (fun _ _ _ h => h) (Or.inl ⟨by rfl, ?_⟩) ?_ ?_
      rotate_left
      · intro w'
        go_simp
        with_reducible rfl
      rotate_left
      · simp only [Act.put, List.setIfInBounds_toArray, List.set_cons_zero, List.set_cons_succ, i64_w, i32_w]
        rfl
      refine pure_ (i := 18) (N := some 40) (v := ?_) (a' := ?_) #[true, true, true, true, false, true, true, true, true, false, true, true, true, true, false, true, true, true, true, false, false, false, false] rfl rfl (by kernel_rfl) (fun _ _ _ h => h) (Or.inl ⟨by rfl, ?_⟩) ?_ ?_
      rotate_left
      · intro w'
        go_simp
        with_reducible rfl
      rotate_left
      · simp only [Act.put, List.setIfInBounds_toArray, List.set_cons_zero, List.set_cons_succ, i64_w, i32_w]
        rfl
      refine take_ (i := 4) (N := some 26) (v := ?_) (a' := ?_) #[true, true, true, true, true, true, true, true, true, false, true, true, true, true, false, true, true, true, true, false, false, false, false] rfl rfl (by kernel_rfl) (fun _ _ _ h => h) (Or.inl ⟨by rfl, ?_⟩) hHeld ?_ ?_
      rotate_left
      · rintro w' ⟨s0, s1, s2, s3, s4, s5, s6, s7, s8⟩
        go_simp
        with_reducible rfl
      rotate_left
      · simp only [Act.put, List.setIfInBounds_toArray, List.set_cons_zero, List.set_cons_succ, i64_w, i32_w]
        rfl
      refine take_ (i := 9) (N := some 31) (v := ?_) (a' := ?_) #[true, true, true, true, true, true, true, true, true, true, true, true, true, true, false, true, true, true, true, false, false, false, false] rfl rfl (by kernel_rfl) (fun _ _ _ h => h) (Or.inl ⟨by rfl, ?_⟩) hHeld ?_ ?_
      rotate_left
      · rintro w' ⟨s0, s1, s2, s3, s4, s5, s6, s7, s8⟩
        go_simp
        with_reducible rfl
      rotate_left
      · simp only [Act.put, List.setIfInBounds_toArray, List.set_cons_zero, List.set_cons_succ, i64_w, i32_w]
        rfl
      refine take_ (i := 14) (N := some 36) (v := ?_) (a' := ?_) #[true, true, true, true, true, true, true, true, true, true, true, true, true, true, true, true, true, true, true, false, false, false, false] rfl rfl (by kernel_rfl) (fun _ _ _ h => h) (Or.inl ⟨by rfl, ?_⟩) hHeld ?_ ?_
      rotate_left
      · rintro w' ⟨s0, s1, s2, s3, s4, s5, s6, s7, s8⟩
        go_simp
        with_reducible rfl
      rotate_left
      · simp only [Act.put, List.setIfInBounds_toArray, List.set_cons_zero, List.set_cons_succ, i64_w, i32_w]
        rfl
      refine take_ (i := 19) (N := some 41) (v := ?_) (a' := ?_) #[true, true, true, true, true, true, true, true, true, true, true, true, true, true, true, true, true, true, true, true, false, false, false] rfl rfl (by kernel_rfl) (fun _ _ _ h => h) (Or.inl ⟨by rfl, ?_⟩) hHeld ?_ ?_
      rotate_left
      · rintro w' ⟨s0, s1, s2, s3, s4, s5, s6, s7, s8⟩
        go_simp
        with_reducible rfl
      rotate_left
      · simp only [Act.put, List.setIfInBounds_toArray, List.set_cons_zero, List.set_cons_succ, i64_w, i32_w]
        rfl
      refine pure_ (i := 20) (N := some 42) (v := ?_) (a' := ?_) #[true, true, true, true, true, true, true, true, true, true, true, true, true, true, true, true, true, true, true, true, true, false, false] rfl rfl (by kernel_rfl) (fun _ _ _ h => h) (Or.inl ⟨by rfl, ?_⟩) ?_ ?_
      rotate_left
      · intro w'
        go_simp
        with_reducible rfl
      rotate_left
      · simp only [Act.put, List.setIfInBounds_toArray, List.set_cons_zero, List.set_cons_succ, i64_w, i32_w]
        rfl
      refine one_ (i := 21) (N := some 10) #[true, true, true, true, true, true, true, true, true, true, true, true, true, true, true, true, true, true, true, true, true, true, false] rfl rfl (by kernel_rfl) (by decide) (fun K hK => ?_)
      refine value_ (v := .pointer (some ⟨wr.heap.size, 0, none⟩)) (w1 := wr.drew.alloc (.cells #[.int .i64 0, .int .i64 0, .int .u64 0, .int .u64 0, .bool false, .bool false, .bool false, .bool false, .bool false, .bool false, .bool false] 32)) (by rfl) rfl ?_ ?_
      · go_simp
      have hb := (Below.refl wr.drew.heap.size wr.drew).alloc (Nat.le_refl _) (.cells #[.int .i64 0, .int .i64 0, .int .u64 0, .int .u64 0, .bool false, .bool false, .bool false, .bool false, .bool false, .bool false, .bool false] 32)
      refine hK.out _ _ ⟨(hb.cell (World.block_lt_of_cell? _ _ (show wr.drew.cell? _ = _ from x0))).trans x0, (hb.cell (World.block_lt_of_cell? _ _ (show wr.drew.cell? _ = _ from x1))).trans x1, (hb.cell (World.block_lt_of_cell? _ _ (show wr.drew.cell? _ = _ from x2))).trans x2, (hb.cell (World.block_lt_of_cell? _ _ (show wr.drew.cell? _ = _ from x3))).trans x3, (hb.cell (World.block_lt_of_cell? _ _ (show wr.drew.cell? _ = _ from x4))).trans x4, (hb.cell (World.block_lt_of_cell? _ _ (show wr.drew.cell? _ = _ from x5))).trans x5, (hb.cell (World.block_lt_of_cell? _ _ (show wr.drew.cell? _ = _ from x6))).trans x6, (hb.cell (World.block_lt_of_cell? _ _ (show wr.drew.cell? _ = _ from x7))).trans x7, (hb.cell (World.block_lt_of_cell? _ _ (show wr.drew.cell? _ = _ from x8))).trans x8⟩ (fun hHeld => ?_)
      clear hK K
      refine norm_ (a' := ?_) ?_ ?_
      rotate_left
      · show Act.put _ (some 10) _ = _
        simp only [Act.put, List.setIfInBounds_toArray, List.set_cons_zero, List.set_cons_succ, i64_w, i32_w]
        rfl
      refine last_ (i := 22) (N := none) #[true, true, true, true, true, true, true, true, true, true, true, true, true, true, true, true, true, true, true, true, true, true, true] rfl rfl (by kernel_rfl) (by decide) (fun K hK => ?_)
      refine skip_ (w1 := ?_) (by rfl) rfl ?_ ?_
      rotate_left
      · go_simp
        with_reducible rfl
      refine hK.out _ _ ?_
      clear hK K
      refine done_ (by kernel_rfl) ?_
      have hb3 : Below wr.heap.size wr (wr.alloc (.cells #[.int .i64 p.f1, .int .i64 1, .int .u64 p.f0, .int .u64 p.f2, .bool p.f3.f0, .bool p.f3.f1, .bool p.f3.f2, .bool p.f3.f3, .bool p.f3.f4, .bool p.f3.f5, .bool true] 32)).drew := below_drew ((Below.refl _ wr).alloc (Nat.le_refl _) _)
      have hg3 : (wr.alloc (.cells #[.int .i64 p.f1, .int .i64 1, .int .u64 p.f0, .int .u64 p.f2, .bool p.f3.f0, .bool p.f3.f1, .bool p.f3.f2, .bool p.f3.f3, .bool p.f3.f4, .bool p.f3.f5, .bool true] 32)).drew.heap[wr.heap.size]? = some (.cells #[.int .i64 p.f1, .int .i64 1, .int .u64 p.f0, .int .u64 p.f2, .bool p.f3.f0, .bool p.f3.f1, .bool p.f3.f2, .bool p.f3.f3, .bool p.f3.f4, .bool p.f3.f5, .bool true] 32 (0, 0)) := heap_alloc_new wr _
      have hlg : wr.heap.size < (wr.alloc (.cells #[.int .i64 p.f1, .int .i64 1, .int .u64 p.f0, .int .u64 p.f2, .bool p.f3.f0, .bool p.f3.f1, .bool p.f3.f2, .bool p.f3.f3, .bool p.f3.f4, .bool p.f3.f5, .bool true] 32)).drew.heap.size := by
        show wr.heap.size < (wr.alloc (.cells #[.int .i64 p.f1, .int .i64 1, .int .u64 p.f0, .int .u64 p.f2, .bool p.f3.f0, .bool p.f3.f1, .bool p.f3.f2, .bool p.f3.f3, .bool p.f3.f4, .bool p.f3.f5, .bool true] 32)).heap.size
        simp
      have HO3 := Aside0.mk (Kd.R_mono (Kd.R_below (Kd.R_bound HO.out) hb3) (fun k hk => (show (w.heap.size ≤ k ∧ k ≠ wr.heap.size) from ⟨hk.2.1, Nat.ne_of_lt hk.2.2.1⟩)))
      have HG3 := Aside0.mk (Kd.R_mono (Kd.R_below (Kd.R_bound HVG.out) hb3) (fun k hk => (show (w.heap.size ≤ k ∧ k ≠ wr.heap.size) from ⟨hk.2.1, Nat.ne_of_lt hk.2.2.1⟩)))
      have HB3 := Aside0.mk (below_step HB.out hb3)
      have hwg := HB.out.size
      generalize (wr.alloc (.cells #[.int .i64 p.f1, .int .i64 1, .int .u64 p.f0, .int .u64 p.f2, .bool p.f3.f0, .bool p.f3.f1, .bool p.f3.f2, .bool p.f3.f3, .bool p.f3.f4, .bool p.f3.f5, .bool true] 32)).drew = w3 at hb3 hg3 hlg HO3 HG3 HB3 ⊢
      generalize wr.heap.size = g at hg3 hlg HO3 HG3 hwg ⊢
      clear hb3 HO HVG HB hHeld hb x0 x1 x2 x3 x4 x5 x6 x7 x8
      have z0 : w3.cell? ⟨g, 0, none⟩ = some (.int .i64 p.f1) := by rw [Lib.cell_of_heap hg3]; rfl
      have z1 : w3.cell? ⟨g, 1, none⟩ = some (.int .i64 1) := by rw [Lib.cell_of_heap hg3]; rfl
      have z2 : w3.cell? ⟨g, 2, none⟩ = some (.int .u64 p.f0) := by rw [Lib.cell_of_heap hg3]; rfl
      have z3 : w3.cell? ⟨g, 3, none⟩ = some (.int .u64 p.f2) := by rw [Lib.cell_of_heap hg3]; rfl
      have z4 : w3.cell? ⟨g, 4, none⟩ = some (.bool p.f3.f0) := by rw [Lib.cell_of_heap hg3]; rfl
      have z5 : w3.cell? ⟨g, 5, none⟩ = some (.bool p.f3.f1) := by rw [Lib.cell_of_heap hg3]; rfl
      have z6 : w3.cell? ⟨g, 6, none⟩ = some (.bool p.f3.f2) := by rw [Lib.cell_of_heap hg3]; rfl
      have z7 : w3.cell? ⟨g, 7, none⟩ = some (.bool p.f3.f3) := by rw [Lib.cell_of_heap hg3]; rfl
      have z8 : w3.cell? ⟨g, 8, none⟩ = some (.bool p.f3.f4) := by rw [Lib.cell_of_heap hg3]; rfl
      have z9 : w3.cell? ⟨g, 9, none⟩ = some (.bool p.f3.f5) := by rw [Lib.cell_of_heap hg3]; rfl
      have z10 : w3.cell? ⟨g, 10, none⟩ = some (.bool true) := by rw [Lib.cell_of_heap hg3]; rfl
      have f4 : w3.frozen? ⟨g, 4, none⟩ = false := by simp [World.frozen?, hg3]
      clear hg3
      cases less with
      | true =>
        have HB4 := Aside0.mk (HB3.out.setCell (p := ⟨g, 4, none⟩) hwg (.bool false))
        have HO4 := Aside0.mk (Kd.R_mono (Kd.R_far (p := ⟨g, 4, none⟩) HO3.out (fun k hk => hk.2) (.bool false)) (fun _ _ => trivial))
        have HG4 := Aside0.mk (Kd.R_mono (Kd.R_far (p := ⟨g, 4, none⟩) HG3.out (fun k hk => hk.2) (.bool false)) (fun _ _ => trivial))
        clear HB3 HO3 HG3
        go_wp2_with (first | ((with_reducible refine gate_builtin (b := .append) (xs := #[.tmp 48, .tmp 50]) rfl ?_); at_builtin; refine Kd.R_append k32 (w0 := w) w.heap.size rfl (.tmp 48) (.tmp 50) 22 32 (.agg #[(.int .i64 0), (.int .i64 0), (.int .u64 0), (.int .u64 0), (.bool false), (.bool false), (.bool false), (.bool false), (.bool false), (.bool false), (.bool false)]) 40 rfl Try.underlying22 info32 rfl (by decide) (by omega) (.slice Ae E.length ce) E (mkE true p) [.int .i64 p.f1, .int .i64 1, .int .u64 p.f0, .int .u64 p.f2, .bool false, .bool p.f3.f1, .bool p.f3.f2, .bool p.f3.f3, .bool p.f3.f4, .bool p.f3.f5, .bool true] (fun _ => True) (fun _ => False) rfl (by first | rfl | (go_simp; done) | (simp [Act.eval]; done)) ?aP (fun _ hk => hk.elim) ?aF ?aO ?aB ?aS ?aL ?_; (case aP => exact k32_mkM _ _ _ (mkE true p)); (case aB => exact HB4.out); (case aF => exact (fun _ _ => trivial)); (case aO => exact HO4.out); (case aS => exact HB4.out.size); (case aL => omega); intro v5 w5 ho5 hb5 hg5 hat5; have HG5 := Aside0.mk (Kd.R_over HG4.out HO4.out (by decide) hg5)))
        go_wp2
        go_roundw
        case rel => exact ⟨i + 1, by go_num, by omega, ⟨by rw [HP.out]; exact ho5⟩, HG5, ⟨hb5⟩⟩
        case measure => simp [intOf]; omega
      | false =>
        have HB4 := Aside0.mk (HB3.out.setCell (p := ⟨g, 4, none⟩) hwg (.bool true))
        have HO4 := Aside0.mk (Kd.R_mono (Kd.R_far (p := ⟨g, 4, none⟩) HO3.out (fun k hk => hk.2) (.bool true)) (fun _ _ => trivial))
        have HG4 := Aside0.mk (Kd.R_mono (Kd.R_far (p := ⟨g, 4, none⟩) HG3.out (fun k hk => hk.2) (.bool true)) (fun _ _ => trivial))
        clear HB3 HO3 HG3
        go_wp2_with (first | ((with_reducible refine gate_builtin (b := .append) (xs := #[.tmp 48, .tmp 50]) rfl ?_); at_builtin; refine Kd.R_append k32 (w0 := w) w.heap.size rfl (.tmp 48) (.tmp 50) 22 32 (.agg #[(.int .i64 0), (.int .i64 0), (.int .u64 0), (.int .u64 0), (.bool false), (.bool false), (.bool false), (.bool false), (.bool false), (.bool false), (.bool false)]) 40 rfl Try.underlying22 info32 rfl (by decide) (by omega) (.slice Ae E.length ce) E (mkE false p) [.int .i64 p.f1, .int .i64 1, .int .u64 p.f0, .int .u64 p.f2, .bool true, .bool p.f3.f1, .bool p.f3.f2, .bool p.f3.f3, .bool p.f3.f4, .bool p.f3.f5, .bool true] (fun _ => True) (fun _ => False) rfl (by first | rfl | (go_simp; done) | (simp [Act.eval]; done)) ?aP (fun _ hk => hk.elim) ?aF ?aO ?aB ?aS ?aL ?_; (case aP => exact k32_mkM _ _ _ (mkE false p)); (case aB => exact HB4.out); (case aF => exact (fun _ _ => trivial)); (case aO => exact HO4.out); (case aS => exact HB4.out.size); (case aL => omega); intro v5 w5 ho5 hb5 hg5 hat5; have HG5 := Aside0.mk (Kd.R_over HG4.out HO4.out (by decide) hg5)))
        go_wp2
        go_roundw
        case rel => exact ⟨i + 1, by go_num, by omega, ⟨by rw [HP.out]; exact ho5⟩, HG5, ⟨hb5⟩⟩
        case measure => simp [intOf]; omega
    · obtain rfl : i = G.length := by omega
      rw [List.take_length] at HO hEl ⊢
      obtain ⟨E, hE⟩ : ∃ E, E = E0 ++ G.map (mkE less) := ⟨_, rfl⟩
      rw [← hE] at HO hEl ⊢
      clear hE
      have hcg := (Kd.R_reads' HVG.out).2.1
      go_wp2_with fail
      go_loopw [11] (fun jv wr => ∃ j : Nat, jv = .int .i64 j ∧ j ≤ E.length ∧ Aside0 (Kd.R k32 32 wr w.heap.size (fun _ => True) (.slice Ae E.length ce) E) ∧ Aside0 (Kd.R k30 30 wr w.heap.size (fun _ => True) (.slice Ag G.length cg) G) ∧ Aside0 (Below w.heap.size w wr)) (fun jv _ => E.length - (intOf jv).toNat)
      case atStart => exact ⟨0, rfl, by omega, HO, HVG, HB⟩
      case round =>
        clear HO HVG HB
        obtain ⟨j, rfl, hj, HO, HVG, HB⟩ := hrel
        by_cases hjl : (j : Int) < (E.length : Int)
        · have hjl' : j < E.length := by omega
          have hj0 : (0 : Int) ≤ (j : Int) := by omega
          obtain ⟨ad, ead, x0, x1, x2, x3, x4, x5, x6, x7, x8, x9, x10⟩ := at_T32 (Kd.R_reads' HO.out).2.2 j hj0 hjl
          subst ead
          rw [rd32 hjl', Int.toNat_natCast] at x0 x1 x2 x3 x4 x5 x6 x7 x8 x9 x10
          obtain ⟨x, hx⟩ : ∃ x, E[j] = x := ⟨_, rfl⟩
          rw [hx] at x0 x1 x2 x3 x4 x5 x6 x7 x8 x9 x10
          obtain ⟨r, hsr⟩ := sR_some x G
          have HS := Aside0.mk hsr
          clear hx hsr
          go_wp2_with fail
          refine start_ (n := 13) (S := fun w' => w'.cell? (ad.add (j * 11)) = some (.int .i64 x.f0) ∧ w'.cell? ⟨(ad.add (j * 11)).block, (ad.add (j * 11)).off + 1, none⟩ = some (.int .i64 x.f1) ∧ w'.cell? ⟨(ad.add (j * 11)).block, (ad.add (j * 11)).off + 2, none⟩ = some (.int .u64 x.f2) ∧ w'.cell? ⟨(ad.add (j * 11)).block, (ad.add (j * 11)).off + 3, none⟩ = some (.int .u64 x.f3) ∧ w'.cell? ⟨(ad.add (j * 11)).block, (ad.add (j * 11)).off + 4, none⟩ = some (.bool x.f4.f0) ∧ w'.cell? ⟨(ad.add (j * 11)).block, (ad.add (j * 11)).off + 5, none⟩ = some (.bool x.f4.f1) ∧ w'.cell? ⟨(ad.add (j * 11)).block, (ad.add (j * 11)).off + 6, none⟩ = some (.bool x.f4.f2) ∧ w'.cell? ⟨(ad.add (j * 11)).block, (ad.add (j * 11)).off + 7, none⟩ = some (.bool x.f4.f3) ∧ w'.cell? ⟨(ad.add (j * 11)).block, (ad.add (j * 11)).off + 8, none⟩ = some (.bool x.f4.f4) ∧ w'.cell? ⟨(ad.add (j * 11)).block, (ad.add (j * 11)).off + 9, none⟩ = some (.bool x.f4.f5) ∧ w'.cell? ⟨(ad.add (j * 11)).block, (ad.add (j * 11)).off + 10, none⟩ = some (.bool x.f5)) (ds := []) #[false, false, false, false, false, false, false, false, false, false, false, false, false] (by kernel_rfl) rfl rfl ⟨x0, x1, x2, x3, x4, x5, x6, x7, x8, x9, x10⟩ (fun hHeld => ?_)
          refine pure_ (i := 0) (N := some 58) (v := ?_) (a' := ?_) #[true, false, false, false, false, false, false, false, false, false, false, false, false] rfl rfl (by kernel_rfl) (fun _ _ _ h => h) (Or.inl ⟨by rfl, ?_⟩) ?_ ?_
          rotate_left
          · intro w'
            go_simp
            with_reducible rfl
          rotate_left
          · simp only [Act.put, List.setIfInBounds_toArray, List.set_cons_zero, List.set_cons_succ, i64_w, i32_w]
            rfl
          refine pure_ (i := 1) (N := some 59) (v := ?_) (a' := ?_) #[true, true, false, false, false, false, false, false, false, false, false, false, false] rfl rfl (by kernel_rfl) (fun _ _ _ h => h) (Or.inl ⟨by rfl, ?_⟩) ?_ ?_
          rotate_left
          · intro w'
            go_simp
            with_reducible rfl
          rotate_left
          · simp only [Act.put, List.setIfInBounds_toArray, List.set_cons_zero, List.set_cons_succ, i64_w, i32_w]
            rfl
          refine pure_ (i := 2) (N := some 60) (v := ?_) (a' := ?_) #[true, true, true, false, false, false, false, false, false, false, false, false, false] rfl rfl (by kernel_rfl) (fun _ _ _ h => h) (Or.inl ⟨by rfl, ?_⟩) ?_ ?_
          rotate_left
          · intro w'
            go_simp
            with_reducible rfl
          rotate_left
          · simp only [Act.put, List.setIfInBounds_toArray, List.set_cons_zero, List.set_cons_succ, i64_w, i32_w]
            rfl
          refine pure_ (i := 4) (N := some 62) (v := ?_) (a' := ?_) #[true, true, true, false, true, false, false, false, false, false, false, false, false] rfl rfl (by kernel_rfl) (fun _ _ _ h => h) (Or.inl ⟨by rfl, ?_⟩) ?_ ?_
          rotate_left
          · intro w'
            go_simp
            with_reducible rfl
          rotate_left
          · simp only [Act.put, List.setIfInBounds_toArray, List.set_cons_zero, List.set_cons_succ, i64_w, i32_w]
            rfl
          refine pure_ (i := 6) (N := some 64) (v := ?_) (a' := ?_) #[true, true, true, false, true, false, true, false, false, false, false, false, false] rfl rfl (by kernel_rfl) (fun _ _ _ h => h) (Or.inl ⟨by rfl, ?_⟩) ?_ ?_
          rotate_left
          · intro w'
            go_simp
            with_reducible rfl
          rotate_left
          · simp only [Act.put, List.setIfInBounds_toArray, List.set_cons_zero, List.set_cons_succ, i64_w, i32_w]
            rfl
          refine pure_ (i := 7) (N := some 65) (v := ?_) (a' := ?_) #[true, true, true, false, true, false, true, true, false, false, false, false, false] rfl rfl (by kernel_rfl) (fun _ _ _ h => h) (Or.inl ⟨by rfl, ?_⟩) ?_ ?_
          rotate_left
          · intro w'
            go_simp
            with_reducible rfl
          rotate_left
          · simp only [Act.put, List.setIfInBounds_toArray, List.set_cons_zero, List.set_cons_succ, i64_w, i32_w]
            rfl
          refine pure_ (i := 8) (N := some 66) (v := ?_) (a' := ?_) #[true, true, true, false, true, false, true, true, true, false, false, false, false] rfl rfl (by kernel_rfl) (fun _ _ _ h => h) (Or.inl ⟨by rfl, ?_⟩) ?_ ?_
          rotate_left
          · intro w'
            go_simp
            with_reducible rfl
          rotate_left
          · simp only [Act.put, List.setIfInBounds_toArray, List.set_cons_zero, List.set_cons_succ, i64_w, i32_w]
            rfl
          refine pure_ (i := 10) (N := some 68) (v := ?_) (a' := ?_) #[true, true, true, false, true, false, true, true, true, false, true, false, false] rfl rfl (by kernel_rfl) (fun _ _ _ h => h) (Or.inl ⟨by rfl, ?_⟩) ?_ ?_
          rotate_left
          · intro w'
            go_simp
            with_reducible rfl
          rotate_left
          · simp only [Act.put, List.setIfInBounds_toArray, List.set_cons_zero, List.set_cons_succ, i64_w, i32_w]
            rfl
          refine take_ (i := 3) (N := some 61) (v := ?_) (a' := ?_) #[true, true, true, true, true, false, true, true, true, false, true, false, false] rfl rfl (by kernel_rfl) (fun _ _ _ h => h) (Or.inl ⟨by rfl, ?_⟩) hHeld ?_ ?_
          rotate_left
          · rintro w' ⟨s0, s1, s2, s3, s4, s5, s6, s7, s8, s9, s10⟩
            go_simp
            with_reducible rfl
          rotate_left
          · simp only [Act.put, List.setIfInBounds_toArray, List.set_cons_zero, List.set_cons_succ, i64_w, i32_w]
            rfl
          refine take_ (i := 9) (N := some 67) (v := ?_) (a' := ?_) #[true, true, true, true, true, false, true, true, true, true, true, false, false] rfl rfl (by kernel_rfl) (fun _ _ _ h => h) (Or.inl ⟨by rfl, ?_⟩) hHeld ?_ ?_
          rotate_left
          · rintro w' ⟨s0, s1, s2, s3, s4, s5, s6, s7, s8, s9, s10⟩
            go_simp
            with_reducible rfl
          rotate_left
          · simp only [Act.put, List.setIfInBounds_toArray, List.set_cons_zero, List.set_cons_succ, i64_w, i32_w]
            rfl
          refine one_ (i := 5) (N := some 63) #[true, true, true, true, true, true, true, true, true, true, true, false, false] rfl rfl (by kernel_rfl) (by decide) (fun K hK => ?_)
          refine goes_ Try.func14 (by kernel_rfl) rfl #[.agg #[.int .i64 x.f0, .int .i64 x.f1, .int .u64 x.f2, .int .u64 x.f3, .bool x.f4.f0, .bool x.f4.f1, .bool x.f4.f2, .bool x.f4.f3, .bool x.f4.f4, .bool x.f4.f5, .bool x.f5], .slice Ag G.length cg] (by rfl) rfl rfl (by (try simp only [List.map_toArray, List.map_cons, List.map_nil]); first | done | rfl) ?_
          refine (shoot_Right.calls _ _ _ _ _ _ _ _ _ _ _ Ag cg G r wr.drew (Kd.C_below (Kd.R_reads' HVG.out).2.2 (below_drew (Below.refl _ wr))) hcg HS.out).mono ?_
          rintro e w3 ⟨rfl, hb⟩
          refine ⟨_, rfl, ?_⟩
          have hb3 := hb
          obtain ⟨s0, s1, s2, s3, s4, s5, s6, s7, s8, s9, s10⟩ := hHeld
          refine hK.out _ _ ⟨(hb.cell (World.block_lt_of_cell? _ _ s0)).trans s0, (hb.cell (World.block_lt_of_cell? _ _ s1)).trans s1, (hb.cell (World.block_lt_of_cell? _ _ s2)).trans s2, (hb.cell (World.block_lt_of_cell? _ _ s3)).trans s3, (hb.cell (World.block_lt_of_cell? _ _ s4)).trans s4, (hb.cell (World.block_lt_of_cell? _ _ s5)).trans s5, (hb.cell (World.block_lt_of_cell? _ _ s6)).trans s6, (hb.cell (World.block_lt_of_cell? _ _ s7)).trans s7, (hb.cell (World.block_lt_of_cell? _ _ s8)).trans s8, (hb.cell (World.block_lt_of_cell? _ _ s9)).trans s9, (hb.cell (World.block_lt_of_cell? _ _ s10)).trans s10⟩ (fun hHeld => ?_)
          clear hK K
          refine norm_ (a' := ?_) ?_ ?_
          rotate_left
          · show Act.put _ (some 63) _ = _
            simp only [Act.put, List.setIfInBounds_toArray, List.set_cons_zero, List.set_cons_succ, i64_w, i32_w]
            rfl
          refine one_ (i := 11) (N := some 69) #[true, true, true, true, true, true, true, true, true, true, true, true, false] rfl rfl (by kernel_rfl) (by decide) (fun K hK => ?_)
          refine goes_ Try.func15 (by kernel_rfl) rfl #[.agg #[.int .i64 x.f0, .int .i64 x.f1, .int .u64 x.f2, .int .u64 x.f3, .bool x.f4.f0, .bool x.f4.f1, .bool x.f4.f2, .bool x.f4.f3, .bool x.f4.f4, .bool x.f4.f5, .bool x.f5], .slice Ag G.length cg] (by rfl) rfl rfl (by (try simp only [List.map_toArray, List.map_cons, List.map_nil]); first | done | rfl) ?_
          refine (lookasideref18_Right.calls 100 _ _ _ _ _ _ _ _ _ _ _ Ag cg G r w3 (Kd.C_below (Kd.C_below (Kd.R_reads' HVG.out).2.2 (below_drew (Below.refl _ wr))) hb3) hcg ((right_f x G (by omega) 100 (by omega)).trans HS.out)).mono ?_
          rintro e w4 ⟨rfl, hb⟩
          refine ⟨_, rfl, ?_⟩
          have hb4 := hb
          obtain ⟨s0, s1, s2, s3, s4, s5, s6, s7, s8, s9, s10⟩ := hHeld
          refine hK.out _ _ ⟨(hb.cell (World.block_lt_of_cell? _ _ s0)).trans s0, (hb.cell (World.block_lt_of_cell? _ _ s1)).trans s1, (hb.cell (World.block_lt_of_cell? _ _ s2)).trans s2, (hb.cell (World.block_lt_of_cell? _ _ s3)).trans s3, (hb.cell (World.block_lt_of_cell? _ _ s4)).trans s4, (hb.cell (World.block_lt_of_cell? _ _ s5)).trans s5, (hb.cell (World.block_lt_of_cell? _ _ s6)).trans s6, (hb.cell (World.block_lt_of_cell? _ _ s7)).trans s7, (hb.cell (World.block_lt_of_cell? _ _ s8)).trans s8, (hb.cell (World.block_lt_of_cell? _ _ s9)).trans s9, (hb.cell (World.block_lt_of_cell? _ _ s10)).trans s10⟩ (fun hHeld => ?_)
          clear hK K
          refine norm_ (a' := ?_) ?_ ?_
          rotate_left
          · show Act.put _ (some 69) _ = _
            simp only [Act.put, List.setIfInBounds_toArray, List.set_cons_zero, List.set_cons_succ, i64_w, i32_w]
            rfl
          refine pure_ (i := 12) (N := some 70) (v := ?_) (a' := ?_) #[true, true, true, true, true, true, true, true, true, true, true, true, true] rfl rfl (by kernel_rfl) (fun _ _ _ h => h) (Or.inl ⟨by rfl, ?_⟩) ?_ ?_
          rotate_left
          · intro w'
            go_simp
            with_reducible rfl
          rotate_left
          · simp only [Act.put, List.setIfInBounds_toArray, List.set_cons_zero, List.set_cons_succ, i64_w, i32_w]
            rfl
          refine done_ (by kernel_rfl) ?_
          have hbz : Below wr.heap.size wr w4 := below_step (below_step (below_drew (Below.refl _ wr)) hb3) hb4
          have HO5 := Aside0.mk (Kd.R_below HO.out hbz)
          have HG5 := Aside0.mk (Kd.R_below HVG.out hbz)
          have HB5 := Aside0.mk (below_step HB.out hbz)
          clear hbz hb3 hb4 HO HVG HB hHeld x0 x1 x2 x3 x4 x5 x6 x7 x8 x9 x10
          go_wp2
          go_roundw
          case rel => exact ⟨j + 1, by go_num, by omega, HO5, HG5, HB5⟩
          case measure => simp [intOf]; omega
        · have hce := (Kd.R_reads' HO.out).2.1
          have hw1 := wrong_p G E (by omega)
          have hw2 := wrong_f G (by omega) E (by omega) 200 (by omega)
          have HW2 := Aside0.mk hw2
          go_wp2_with fail
          refine (shoot_Wrong.calls Ae ce E Ag cg G _ wr (Kd.R_reads' HO.out).2.2 hce (Kd.R_reads' HVG.out).2.2 hcg hw1).mono ?_
          clear hw1 hw2
          rintro e w3 ⟨v3, rfl, hv3, hb3⟩
          obtain ⟨F, hF⟩ : ∃ F, F = E.filter (sW G) := ⟨_, rfl⟩
          have HFl := Aside0.mk (show F.length ≤ 24 from by rw [hF]; exact Nat.le_trans (List.length_filter_le _ _) hEl)
          rw [← hF] at hv3
          have hw2 := HW2.out
          rw [← hF] at hw2
          clear HW2
          have HW2 := Aside0.mk hw2
          clear hw2 hF
          have HV3 := Aside0.mk hv3
          have HO3 := Aside0.mk (Kd.C_below (Kd.R_reads' HO.out).2.2 hb3)
          have HG3 := Aside0.mk (Kd.C_below (Kd.R_reads' HVG.out).2.2 hb3)
          have HB3 := Aside0.mk (below_step HB.out hb3)
          clear hb3 hv3 HO HVG HB
          obtain ⟨A3, c3, hv3⟩ := Kd.R_slice HV3.out
          subst hv3
          go_wp2_with fail
          refine (lookasideref19_Wrong.calls 200 Ae ce E Ag cg G F w3 HO3.out hce HG3.out hcg HW2.out).mono ?_
          rintro e w4 ⟨v4, rfl, hv4, hb4⟩
          have HV4 := Aside0.mk hv4
          have HV34 := Aside0.mk (Kd.R_below HV3.out hb4)
          have HB4 := Aside0.mk (below_step HB3.out hb4)
          clear hv4 hb4 HV3 HB3 HO3 HG3
          obtain ⟨A4, c4, hv4⟩ := Kd.R_slice HV4.out
          subst hv4
          go_wp2_with fail
          refine (lookasideref06_Same.calls 100 A3 c3 F A4 c4 F true w4 (Kd.R_reads' HV34.out).2.2 (Kd.R_reads' HV34.out).2.1 (Kd.R_reads' HV4.out).2.2 (Kd.R_reads' HV4.out).2.1 (same_f F (by have := HFl.out; omega) 100 (by have := HFl.out; omega))).mono ?_
          rintro e w5 ⟨rfl, hd5⟩
          obtain ⟨nd, rfl⟩ := hd5
          have HB5 := Aside0.mk (pw_below_drewN HB4.out nd)
          clear HB4
          go_wp2_with fail
          refine (lookasidelaw19_lives.calls true _ lives_true).mono ?_
          rintro e w6 ⟨rfl, hb6⟩
          have HB6 := below_step HB5.out hb6
          go_wp2
          go_ret
          exact ⟨rfl, HB6⟩

end Go.Proofs.Ytcbnmmkmgpbfiaa.PS

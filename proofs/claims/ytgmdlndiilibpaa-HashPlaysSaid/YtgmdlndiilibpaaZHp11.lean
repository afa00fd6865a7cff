/- The law HashPlays of layer 11: its row (written by mkrow.py: the parameters opened by hand). -/
import Derived.Test.YtgmdlndiilibpaaZHp10
import Derived.Test.YtgmdlndiilibpaaZHp7
import Derived.Test.YtgmdlndiilibpaaProg
import Derived.Deep.Slices
import Derived.WalkKit
import Derived.ProofKit
import Derived.Deep.Strs
import Derived.ChangeSame
import Derived.Carry
import Derived.OpenShut
import Derived.Test.YtgmdlndiilibpaaZHp3
import Derived.Lib.SmallJoins
import Derived.Test.YtgmdlndiilibpaaRows
import Derived.ShutString
import Derived.ChangeOld
import Derived.Below
import Derived.SizedLaws
namespace Go.Proofs.Ytgmdlndiilibpaa.PH
open Go.RowKit Go.Proofs.YtgmdlndiilibpaaW.PrintWords Go.Proofs.YtgmdlndiilibpaaW.PrintLast Go.Proofs.YtgmdlndiilibpaaW.PrintMore Go.Proofs.Ytgmdlndiilibpaa.Tab
attribute [local go_sem] max2_int min2_int max_two min_two max_three min_three max_four min_four   -- for this text's walks alone
set_option linter.unusedVariables false
set_option linter.unusedSimpArgs false
open Go.Proofs.Ytgmdlndiilibpaa.KeyG
set_option maxHeartbeats 8000000 in
set_option maxRecDepth 100000 in
theorem does_cut (w : World) (bl : Int) (b c : Nat) (L : List (List Nd)) (h : Wt bl L) (hT : Tb bl w b c L) (A0 : Option Addr) (c0 : Nat) (X : Nat → Prop) (hX : ∀ k, X k → k < w.heap.size) (hv : Vr w (ids b c L) X (.slice A0 (img L).length c0) (img L))
    (n : Int) (x : S24) (raw : Bool) (hx : Ok24 x) :
    Calls Try.prog 50 #[.pointer (some ⟨b, 0, none⟩), .agg #[.int .i64 bl, .slice A0 (img L).length c0], .agg #[.int .i64 2, .int .i64 n, .int .i64 x.f0, .int .u64 x.f1, .int .i64 x.f2, .bool raw]] w (DoP bl w b c L X) := by
  obtain ⟨y, hy, hoy⟩ := of_key hx raw 2 n
  obtain ⟨R, f, hg, hcall⟩ := cut_both h hoy 100000 (by omega)
  have HY := Aside0.mk hy
  have HW := Aside0.mk h
  have HT := Aside0.mk hT
  have HV := Aside0.mk hv
  have HX := Aside0.mk hX
  clear hX
  have HG := Aside0.mk hg
  have HC := Aside0.mk hcall
  have HLT := Aside0.mk (At.lt hT)
  clear hy hx hoy h hT hv hg hcall
  obtain ⟨D, hD⟩ : ∃ D, w.heap.size = D := ⟨_, rfl⟩
  have hb0 := (((Below.refl w.heap.size w).alloc (Nat.le_refl _) (.cells #[.int .i64 bl, .slice A0 (img L).length c0] 71)).alloc (by simp) (.cells #[.int .i64 2, .int .i64 n, .int .i64 x.f0, .int .u64 x.f1, .int .i64 x.f2, .bool raw] 93)).alloc (by simp; omega) (.cells #[.int .i64 0, .slice none 0 0] 71)
  have hk4 := blk_alloc (blk_alloc (blk_new w (.cells #[.int .i64 bl, .slice A0 (img L).length c0] 71)) (.cells #[.int .i64 2, .int .i64 n, .int .i64 x.f0, .int .u64 x.f1, .int .i64 x.f2, .bool raw] 93)) (.cells #[.int .i64 0, .slice none 0 0] 71)
  have hk5 := blk_alloc (blk_new (w.alloc (.cells #[.int .i64 bl, .slice A0 (img L).length c0] 71)) (.cells #[.int .i64 2, .int .i64 n, .int .i64 x.f0, .int .u64 x.f1, .int .i64 x.f2, .bool raw] 93)) (.cells #[.int .i64 0, .slice none 0 0] 71)
  have hk6 := blk_new ((w.alloc (.cells #[.int .i64 bl, .slice A0 (img L).length c0] 71)).alloc (.cells #[.int .i64 2, .int .i64 n, .int .i64 x.f0, .int .u64 x.f1, .int .i64 x.f2, .bool raw] 93)) (.cells #[.int .i64 0, .slice none 0 0] 71)
  have hsz : (w.alloc (.cells #[.int .i64 bl, .slice A0 (img L).length c0] 71)).heap.size = D + 1 := by simp [hD]
  have hsz2 : ((w.alloc (.cells #[.int .i64 bl, .slice A0 (img L).length c0] 71)).alloc (.cells #[.int .i64 2, .int .i64 n, .int .i64 x.f0, .int .u64 x.f1, .int .i64 x.f2, .bool raw] 93)).heap.size = D + 1 + 1 := by simp [hD]
  rw [hsz] at hk5
  rw [hsz2] at hk6
  rw [hD] at hk4
  have HB0 := Aside0.mk hb0
  have HK4 := Aside0.mk hk4
  have HK5 := Aside0.mk hk5
  have HK6 := Aside0.mk hk6
  clear hb0 hk4 hk5 hk6 hsz hsz2
  go_enter Try.func50, Try.ntmps50
  go_wp2_with fail
  generalize ((w.alloc (.cells #[.int .i64 bl, .slice A0 (img L).length c0] 71)).alloc (.cells #[.int .i64 2, .int .i64 n, .int .i64 x.f0, .int .u64 x.f1, .int .i64 x.f2, .bool raw] 93)).alloc (.cells #[.int .i64 0, .slice none 0 0] 71) = wD at *
  refine (lookasidelaw11_Deed_of.calls _ _ _ _ _ _ _ _ _ _ HY.out).mono ?_
  rintro e w1 ⟨rfl, hb1⟩
  have hg8z : D + 1 + 1 < w1.heap.size := Nat.lt_of_lt_of_le (blk_lt HK6.out) hb1.size
  have hwz : (w1.alloc (.cells #[.int .i64 y.f0, .int .u64 y.f1, .int .i64 y.f2] 24)).heap.size = w1.heap.size + 1 := World.size_alloc _ _
  have hk8 := blk_new w1 (.cells #[.int .i64 y.f0, .int .u64 y.f1, .int .i64 y.f2] 24)
  have hb2 : Below wD.heap.size wD (w1.alloc (.cells #[.int .i64 y.f0, .int .u64 y.f1, .int .i64 y.f2] 24)) := hb1.alloc hb1.size _
  have hk4 := blk_below HK4.out hb2
  have hk5 := blk_below HK5.out hb2
  have hk6 := blk_below HK6.out hb2
  have hb3 := below_step HB0.out hb2
  obtain ⟨x0, x1⟩ := And.intro ((blk_cell hk4 0).trans rfl) ((blk_cell hk4 1).trans rfl)
  obtain ⟨y0, y1⟩ := And.intro ((blk_cell hk5 0).trans rfl) ((blk_cell hk5 1).trans rfl)
  obtain ⟨z0, z1, z2⟩ := And.intro ((blk_cell hk8 0).trans rfl) (And.intro ((blk_cell hk8 1).trans rfl) ((blk_cell hk8 2).trans rfl))
  replace HK4 := Aside0.mk hk4
  replace HK5 := Aside0.mk hk5
  replace HK6 := Aside0.mk hk6
  have HK8 := Aside0.mk hk8
  replace HB0 := Aside0.mk hb3
  clear hk4 hk5 hk6 hk8 hb1 hb2 hb3
  go_wp2_with fail
  generalize hG8 : w1.heap.size = g8 at *
  generalize w1.alloc (.cells #[.int .i64 y.f0, .int .u64 y.f1, .int .i64 y.f2] 24) = w2z at *
  have hg8 : D + 1 + 1 < g8 := hg8z
  have hvp : Kd.V (Kd.slice 128 k128) 76 w2z w2z.heap.size (fun k_ => (k_ ∉ ids b c L ∧ ¬ X k_) ∧ k_ < D) (.slice A0 (img L).length c0) (img L) := by
    have h1 := Kd.V_bound HV.out
    rw [hD] at h1
    exact Kd.V_below (Kd.V_step h1 (fun _ _ _ => rfl)) HB0.out
  refine (lookasideref11_Cut.calls 100000 bl (fun k_ => (k_ ∉ ids b c L ∧ ¬ X k_) ∧ k_ < D) A0 c0 (img L) y.f0 y.f1 y.f2 bl R f w2z hvp HG.out).mono ?_
  rintro e w3 ⟨v1, rfl, hv1, hb3⟩
  obtain ⟨A1, c1, rfl, hl1, _⟩ := id hv1
  have hb4 : Below w2z.heap.size w2z (w3.alloc (.cells #[.int .i64 bl, .slice A1 R.length c1] 71)) := hb3.alloc hb3.size _
  have hk9 := blk_new w3 (.cells #[.int .i64 bl, .slice A1 R.length c1] 71)
  have hk5 := blk_below HK5.out hb4
  have hk6 := blk_below HK6.out hb4
  have hk8 := blk_below HK8.out hb4
  have hb5 := below_step HB0.out hb4
  have hv4 : Kd.V (Kd.slice 128 k128) 76 (w3.alloc (.cells #[.int .i64 bl, .slice A1 R.length c1] 71)) 0 (fun k => (k ∉ ids b c L ∧ ¬ X k) ∧ k ≠ D + 1 + 1) (.slice A1 R.length c1) R := Kd.V_mono (Kd.V_alloc hv1 _) (fun k hk => ⟨⟨fun hm => by have := HLT.out k hm; rcases hk with hk | hk; exact hk.1.1 hm; omega, fun hx => by have := HX.out k hx; rcases hk with hk | hk; exact hk.1.2 hx; omega⟩, by rcases hk with hk | hk <;> omega⟩)
  have hs9 : w3.heap.size < (w3.alloc (.cells #[.int .i64 bl, .slice A1 R.length c1] 71)).heap.size := by simp
  have hg9 : g8 < w3.heap.size := by have := hb3.size; omega
  generalize hG9 : w3.heap.size = g9 at *
  obtain ⟨W, hW⟩ : ∃ W, w3.alloc (.cells #[.int .i64 bl, .slice A1 R.length c1] 71) = W := ⟨_, rfl⟩
  rw [hW] at hb4 hk9 hk5 hk6 hk8 hb5 hv4 hs9
  clear x0 x1 y0 y1 z0 z1 z2 HK4 HK5 HK6 HK8 hG8 hv1 hb3 hb4 hvp hwz hg8z
  have HV4 := Aside0.mk hv4
  have HB3 := Aside0.mk hb5
  have HK6 := Aside0.mk hk6
  have v0 := (blk_cell hk9 0).trans rfl
  have v1 := (blk_cell hk9 1).trans rfl
  have z0 := (blk_cell hk8 0).trans rfl
  have z1 := (blk_cell hk8 1).trans rfl
  have z2 := (blk_cell hk8 2).trans rfl
  have y1 := (blk_cell hk5 1).trans rfl
  clear hv4 hb5 hk6 hk9 hk8 hk5 hl1
  go_wp2_with fail
  clear hW hG9
  refine start_ (n := 9) (S := fun w' => w'.cell? ⟨g9, 0, none⟩ = some (.int .i64 bl) ∧ w'.cell? ⟨g9, 1, none⟩ = some (.slice A1 R.length c1) ∧ w'.cell? ⟨g8, 0, none⟩ = some (.int .i64 y.f0) ∧ w'.cell? ⟨g8, 1, none⟩ = some (.int .u64 y.f1) ∧ w'.cell? ⟨g8, 2, none⟩ = some (.int .i64 y.f2) ∧ w'.cell? ⟨D + 1, 1, none⟩ = some (.int .i64 n)) (ds := [7]) #[false, false, false, false, false, false, false, false, false] (by kernel_rfl) rfl rfl ⟨v0, v1, z0, z1, z2, y1⟩ (fun hHeld => ?_)
  refine pure_ (i := 1) (N := some 75) (v := ?_) (a' := ?_) #[false, true, false, false, false, false, false, false, false] rfl rfl (by kernel_rfl) (fun _ _ _ h => h) (Or.inl ⟨by rfl, ?_⟩) ?_ ?_
  rotate_left
  · intro w'
    go_simp
    with_reducible rfl
  rotate_left
  · simp only [Act.put, List.setIfInBounds_toArray, List.set_cons_zero, List.set_cons_succ, i64_w, i32_w]
    rfl
  refine pure_ (i := 5) (N := some 79) (v := ?_) (a' := ?_) #[false, true, false, false, false, true, false, false, false] rfl rfl (by kernel_rfl) (fun _ _ _ h => h) (Or.inl ⟨by rfl, ?_⟩) ?_ ?_
  rotate_left
  · intro w'
    go_simp
    with_reducible rfl
  rotate_left
  · simp only [Act.put, List.setIfInBounds_toArray, List.set_cons_zero, List.set_cons_succ, i64_w, i32_w]
    rfl
  refine take_ (i := 0) (N := some 74) (v := ?_) (a' := ?_) #[true, true, false, false, false, true, false, false, false] rfl rfl (by kernel_rfl) (fun _ _ _ h => h) (Or.inl ⟨by rfl, ?_⟩) hHeld ?_ ?_
  rotate_left
  · rintro w' ⟨s0, s1, s2, s3, s4, s5⟩
    go_simp
    with_reducible rfl
  rotate_left
  · simp only [Act.put, List.setIfInBounds_toArray, List.set_cons_zero, List.set_cons_succ, i64_w, i32_w]
    rfl
  refine take_ (i := 2) (N := some 76) (v := ?_) (a' := ?_) #[true, true, true, false, false, true, false, false, false] rfl rfl (by kernel_rfl) (fun _ _ _ h => h) (Or.inl ⟨by rfl, ?_⟩) hHeld ?_ ?_
  rotate_left
  · rintro w' ⟨s0, s1, s2, s3, s4, s5⟩
    go_simp
    with_reducible rfl
  rotate_left
  · simp only [Act.put, List.setIfInBounds_toArray, List.set_cons_zero, List.set_cons_succ, i64_w, i32_w]
    rfl
  refine one_ (i := 3) (N := some 77) #[true, true, true, true, false, true, false, false, false] rfl rfl (by kernel_rfl) (by decide) (fun K hK => ?_)
  refine goes_ Try.func16 (by kernel_rfl) rfl #[.agg #[.int .i64 y.f0, .int .u64 y.f1, .int .i64 y.f2]] (by rfl) rfl rfl (by (try simp only [List.map_toArray, List.map_cons, List.map_nil]); first | done | rfl) ?_
  refine (lookasidelaw11_key.calls y.f0 y.f1 y.f2 _ _ _ _ rfl).mono ?_
  rintro e w4 ⟨rfl, hb4⟩
  refine ⟨_, rfl, ?_⟩
  have HB4 := Aside0.mk hb4
  obtain ⟨s0, s1, s2, s3, s4, s5⟩ := hHeld
  refine hK.out _ _ ⟨(HB4.out.cell (World.block_lt_of_cell? _ _ s0)).trans s0, (HB4.out.cell (World.block_lt_of_cell? _ _ s1)).trans s1, (HB4.out.cell (World.block_lt_of_cell? _ _ s2)).trans s2, (HB4.out.cell (World.block_lt_of_cell? _ _ s3)).trans s3, (HB4.out.cell (World.block_lt_of_cell? _ _ s4)).trans s4, (HB4.out.cell (World.block_lt_of_cell? _ _ s5)).trans s5⟩ (fun hHeld => ?_)
  clear hK K
  refine norm_ (a' := ?_) ?_ ?_
  rotate_left
  · show Act.put _ (some 77) _ = _
    simp only [Act.put, List.setIfInBounds_toArray, List.set_cons_zero, List.set_cons_succ, i64_w, i32_w]
    rfl
  refine one_ (i := 4) (N := some 78) #[true, true, true, true, true, true, false, false, false] rfl rfl (by kernel_rfl) (by decide) (fun K hK => ?_)
  refine goes_ Try.func33 (by kernel_rfl) rfl #[.pointer (some ⟨b, 0, none⟩), .agg #[.int .i64 y.f0, .int .u64 y.f1, .int .i64 y.f2]] (by rfl) rfl rfl (by (try simp only [List.map_toArray, List.map_cons, List.map_nil]); first | done | rfl) ?_
  have hbz := below_step HB3.out ((Below.refl _ _).drew.trans HB4.out)
  refine (HC.out w4 b c (At.below HT.out hbz)).mono ?_
  rintro e w5 ⟨rfl, hout⟩
  refine ⟨_, rfl, ?_⟩
  have HOUT := Aside0.mk hout
  have HBZ := Aside0.mk hbz
  obtain ⟨c', L', hL', hWt', hTb', hid', hMv'⟩ := hout
  have HMV := Aside0.mk hMv'
  have hbW : Below W.heap.size W w4 := (Below.refl _ W).drew.trans HB4.out
  have hn6 : D + 1 + 1 ∉ ids b c L := fun hm => by have := HLT.out _ hm; omega
  have hk6' := (HMV.out.block (D + 1 + 1) (Nat.lt_of_lt_of_le (blk_lt HK6.out) hbW.size) hn6).trans ((hbW.block (D + 1 + 1) (blk_lt HK6.out)).trans HK6.out)
  have HK6' := Aside0.mk hk6'
  clear hbW hn6 hk6'
  clear hL' hWt' hTb' hid' hMv' hbz
  obtain ⟨s0, s1, s2, s3, s4, s5⟩ := hHeld
  refine hK.out _ _ ⟨(mv_cell HMV.out (World.block_lt_of_cell? _ _ s0) (fun hm => by have := HLT.out _ hm; dsimp only at this; omega)).trans s0, (mv_cell HMV.out (World.block_lt_of_cell? _ _ s1) (fun hm => by have := HLT.out _ hm; dsimp only at this; omega)).trans s1, (mv_cell HMV.out (World.block_lt_of_cell? _ _ s2) (fun hm => by have := HLT.out _ hm; dsimp only at this; omega)).trans s2, (mv_cell HMV.out (World.block_lt_of_cell? _ _ s3) (fun hm => by have := HLT.out _ hm; dsimp only at this; omega)).trans s3, (mv_cell HMV.out (World.block_lt_of_cell? _ _ s4) (fun hm => by have := HLT.out _ hm; dsimp only at this; omega)).trans s4, (mv_cell HMV.out (World.block_lt_of_cell? _ _ s5) (fun hm => by have := HLT.out _ hm; dsimp only at this; omega)).trans s5⟩ (fun hHeld => ?_)
  clear hK K
  refine norm_ (a' := ?_) ?_ ?_
  rotate_left
  · show Act.put _ (some 78) _ = _
    simp only [Act.put, List.setIfInBounds_toArray, List.set_cons_zero, List.set_cons_succ, i64_w, i32_w]
    rfl
  refine pure_ (i := 6) (N := some 80) (v := ?_) (a' := ?_) #[true, true, true, true, true, true, true, false, false] rfl rfl (by kernel_rfl) (fun _ _ _ h => h) (Or.inl ⟨by rfl, ?_⟩) ?_ ?_
  rotate_left
  · intro w'
    go_simp
    with_reducible rfl
  rotate_left
  · simp only [Act.put, List.setIfInBounds_toArray, List.set_cons_zero, List.set_cons_succ, i64_w, i32_w]
    rfl
  refine last_ (i := 7) (N := none) #[true, true, true, true, true, true, true, true, false] rfl rfl (by kernel_rfl) (by decide) (fun K hK => ?_)
  obtain ⟨s0, s1, s2, s3, s4, s5⟩ := hHeld
  have f6 := blk_frozen HK6'.out
  obtain ⟨r0, r1⟩ := And.intro ((blk_cell HK6'.out 0).trans rfl) ((blk_cell HK6'.out 1).trans rfl)
  refine skip_ (w1 := ?_) (by rfl) rfl ?_ ?_
  rotate_left
  · go_simp
    with_reducible rfl
  refine hK.out _ _ ?_
  clear hK K
  refine pure_ (i := 8) (N := some 7) (v := ?_) (a' := ?_) #[true, true, true, true, true, true, true, true, true] rfl rfl (by kernel_rfl) (fun _ _ _ h => h) (Or.inl ⟨by rfl, ?_⟩) ?_ ?_
  rotate_left
  · intro w'
    go_simp
    with_reducible rfl
  rotate_left
  · simp only [Act.put, List.setIfInBounds_toArray, List.set_cons_zero, List.set_cons_succ, i64_w, i32_w]
    rfl
  refine done_ (by kernel_rfl) ?_
  obtain ⟨c', L', hL', hWt', hTb', hid', hMv'⟩ := HOUT.out
  have hDP := dop_end HLT.out hD HBZ.out hMv' hid' hL' hWt' hTb' (Kd.V_below (Kd.V_drew HV4.out) HB4.out) (by have := (blk_lt HK6.out); have h2 := HB4.out.size; exact Nat.lt_of_lt_of_le this h2) (v1 := .slice A1 R.length c1)
  have HKF := Aside0.mk (blk_put (blk_put HK6'.out 0 (.int .i64 bl) rfl) 1 (.slice A1 R.length c1) rfl)
  have HDP := Aside0.mk hDP
  clear hDP hL' hWt' hTb' hid' hMv'
  go_wp2_with fail
  refine bodyPost_ret (results_ct rfl _ _ (D + 1 + 1) 71 #[.int .i64 bl, .slice A1 R.length c1] (0, 0) _ rfl HKF.out Try.underlying71 rfl (by kernel_rfl)) rfl ?_
  exact HDP.out

end Go.Proofs.Ytgmdlndiilibpaa.PH

namespace Go.Proofs.Ytgmdlndiilibpaa.PH
open Go.RowKit Go.Proofs.YtgmdlndiilibpaaW.PrintWords Go.Proofs.YtgmdlndiilibpaaW.PrintLast Go.Proofs.YtgmdlndiilibpaaW.PrintMore Go.Proofs.Ytgmdlndiilibpaa.Tab
attribute [local go_sem] max2_int min2_int max_two min_two max_three min_three max_four min_four   -- for this text's walks alone
set_option linter.unusedVariables false
set_option linter.unusedSimpArgs false
open Go.Proofs.Ytgmdlndiilibpaa.KeyG
theorem tmod40 (a : Int) : -40 < Int.tmod a 40 ∧ Int.tmod a 40 < 40 := by
  rcases Int.le_total 0 a with h | h
  · obtain ⟨n, rfl⟩ := Int.eq_ofNat_of_zero_le h
    have e : Int.tmod (n : Int) 40 = ((n % 40 : Nat) : Int) := tmod_nat n 40
    omega
  · obtain ⟨n, hn⟩ := Int.eq_ofNat_of_zero_le (show 0 ≤ -a by omega)
    obtain rfl : a = -(n : Int) := by omega
    have e : Int.tmod (n : Int) 40 = ((n % 40 : Nat) : Int) := tmod_nat n 40
    rw [Int.neg_tmod]
    omega
set_option maxHeartbeats 8000000 in
set_option maxRecDepth 100000 in
theorem does_resize (w : World) (bl : Int) (b c : Nat) (L : List (List Nd)) (h : Wt bl L) (hT : Tb bl w b c L) (A0 : Option Addr) (c0 : Nat) (X : Nat → Prop) (hX : ∀ k, X k → k < w.heap.size) (hv : Vr w (ids b c L) X (.slice A0 (img L).length c0) (img L))
    (n : Int) (x : S24) (raw : Bool) (hx : Ok24 x) :
    Calls Try.prog 50 #[.pointer (some ⟨b, 0, none⟩), .agg #[.int .i64 bl, .slice A0 (img L).length c0], .agg #[.int .i64 3, .int .i64 n, .int .i64 x.f0, .int .u64 x.f1, .int .i64 x.f2, .bool raw]] w (DoP bl w b c L X) := by
  obtain ⟨y, hy, hoy⟩ := of_key hx raw 3 n
  obtain ⟨R, f, hg, hcall⟩ := resize_both h (Int.tmod n 40) (by have := tmod40 n; omega) 100000 (by omega)
  have HY := Aside0.mk hy
  have HW := Aside0.mk h
  have HT := Aside0.mk hT
  have HV := Aside0.mk hv
  have HX := Aside0.mk hX
  clear hX
  have HG := Aside0.mk hg
  have HC := Aside0.mk hcall
  have HLT := Aside0.mk (At.lt hT)
  clear hy hx hoy h hT hv hg hcall
  obtain ⟨D, hD⟩ : ∃ D, w.heap.size = D := ⟨_, rfl⟩
  have hb0 := (((Below.refl w.heap.size w).alloc (Nat.le_refl _) (.cells #[.int .i64 bl, .slice A0 (img L).length c0] 71)).alloc (by simp) (.cells #[.int .i64 3, .int .i64 n, .int .i64 x.f0, .int .u64 x.f1, .int .i64 x.f2, .bool raw] 93)).alloc (by simp; omega) (.cells #[.int .i64 0, .slice none 0 0] 71)
  have hk4 := blk_alloc (blk_alloc (blk_new w (.cells #[.int .i64 bl, .slice A0 (img L).length c0] 71)) (.cells #[.int .i64 3, .int .i64 n, .int .i64 x.f0, .int .u64 x.f1, .int .i64 x.f2, .bool raw] 93)) (.cells #[.int .i64 0, .slice none 0 0] 71)
  have hk5 := blk_alloc (blk_new (w.alloc (.cells #[.int .i64 bl, .slice A0 (img L).length c0] 71)) (.cells #[.int .i64 3, .int .i64 n, .int .i64 x.f0, .int .u64 x.f1, .int .i64 x.f2, .bool raw] 93)) (.cells #[.int .i64 0, .slice none 0 0] 71)
  have hk6 := blk_new ((w.alloc (.cells #[.int .i64 bl, .slice A0 (img L).length c0] 71)).alloc (.cells #[.int .i64 3, .int .i64 n, .int .i64 x.f0, .int .u64 x.f1, .int .i64 x.f2, .bool raw] 93)) (.cells #[.int .i64 0, .slice none 0 0] 71)
  have hsz : (w.alloc (.cells #[.int .i64 bl, .slice A0 (img L).length c0] 71)).heap.size = D + 1 := by simp [hD]
  have hsz2 : ((w.alloc (.cells #[.int .i64 bl, .slice A0 (img L).length c0] 71)).alloc (.cells #[.int .i64 3, .int .i64 n, .int .i64 x.f0, .int .u64 x.f1, .int .i64 x.f2, .bool raw] 93)).heap.size = D + 1 + 1 := by simp [hD]
  rw [hsz] at hk5
  rw [hsz2] at hk6
  rw [hD] at hk4
  have HB0 := Aside0.mk hb0
  have HK4 := Aside0.mk hk4
  have HK5 := Aside0.mk hk5
  have HK6 := Aside0.mk hk6
  clear hb0 hk4 hk5 hk6 hsz hsz2
  go_enter Try.func50, Try.ntmps50
  go_wp2_with fail
  generalize ((w.alloc (.cells #[.int .i64 bl, .slice A0 (img L).length c0] 71)).alloc (.cells #[.int .i64 3, .int .i64 n, .int .i64 x.f0, .int .u64 x.f1, .int .i64 x.f2, .bool raw] 93)).alloc (.cells #[.int .i64 0, .slice none 0 0] 71) = wD at *
  refine (lookasidelaw11_Deed_of.calls _ _ _ _ _ _ _ _ _ _ HY.out).mono ?_
  rintro e w1 ⟨rfl, hb1⟩
  have hg8z : D + 1 + 1 < w1.heap.size := Nat.lt_of_lt_of_le (blk_lt HK6.out) hb1.size
  have hwz : (w1.alloc (.cells #[.int .i64 y.f0, .int .u64 y.f1, .int .i64 y.f2] 24)).heap.size = w1.heap.size + 1 := World.size_alloc _ _
  have hk8 := blk_new w1 (.cells #[.int .i64 y.f0, .int .u64 y.f1, .int .i64 y.f2] 24)
  have hb2 : Below wD.heap.size wD (w1.alloc (.cells #[.int .i64 y.f0, .int .u64 y.f1, .int .i64 y.f2] 24)) := hb1.alloc hb1.size _
  have hk4 := blk_below HK4.out hb2
  have hk5 := blk_below HK5.out hb2
  have hk6 := blk_below HK6.out hb2
  have hb3 := below_step HB0.out hb2
  obtain ⟨x0, x1⟩ := And.intro ((blk_cell hk4 0).trans rfl) ((blk_cell hk4 1).trans rfl)
  obtain ⟨y0, y1⟩ := And.intro ((blk_cell hk5 0).trans rfl) ((blk_cell hk5 1).trans rfl)
  obtain ⟨z0, z1, z2⟩ := And.intro ((blk_cell hk8 0).trans rfl) (And.intro ((blk_cell hk8 1).trans rfl) ((blk_cell hk8 2).trans rfl))
  replace HK4 := Aside0.mk hk4
  replace HK5 := Aside0.mk hk5
  replace HK6 := Aside0.mk hk6
  have HK8 := Aside0.mk hk8
  replace HB0 := Aside0.mk hb3
  clear hk4 hk5 hk6 hk8 hb1 hb2 hb3
  go_wp2_with fail
  generalize hG8 : w1.heap.size = g8 at *
  generalize w1.alloc (.cells #[.int .i64 y.f0, .int .u64 y.f1, .int .i64 y.f2] 24) = w2z at *
  have hg8 : D + 1 + 1 < g8 := hg8z
  have hvp : Kd.V (Kd.slice 128 k128) 76 w2z w2z.heap.size (fun k_ => (k_ ∉ ids b c L ∧ ¬ X k_) ∧ k_ < D) (.slice A0 (img L).length c0) (img L) := by
    have h1 := Kd.V_bound HV.out
    rw [hD] at h1
    exact Kd.V_below (Kd.V_step h1 (fun _ _ _ => rfl)) HB0.out
  refine (lookasideref11_Resize.calls 100000 bl (fun k_ => (k_ ∉ ids b c L ∧ ¬ X k_) ∧ k_ < D) A0 c0 (img L) (Int.tmod n 40) bl R f w2z hvp HG.out).mono ?_
  rintro e w3 ⟨v1, rfl, hv1, hb3⟩
  obtain ⟨A1, c1, rfl, hl1, _⟩ := id hv1
  have hb4 : Below w2z.heap.size w2z (w3.alloc (.cells #[.int .i64 bl, .slice A1 R.length c1] 71)) := hb3.alloc hb3.size _
  have hk9 := blk_new w3 (.cells #[.int .i64 bl, .slice A1 R.length c1] 71)
  have hk5 := blk_below HK5.out hb4
  have hk6 := blk_below HK6.out hb4
  have hk8 := blk_below HK8.out hb4
  have hb5 := below_step HB0.out hb4
  have hv4 : Kd.V (Kd.slice 128 k128) 76 (w3.alloc (.cells #[.int .i64 bl, .slice A1 R.length c1] 71)) 0 (fun k => (k ∉ ids b c L ∧ ¬ X k) ∧ k ≠ D + 1 + 1) (.slice A1 R.length c1) R := Kd.V_mono (Kd.V_alloc hv1 _) (fun k hk => ⟨⟨fun hm => by have := HLT.out k hm; rcases hk with hk | hk; exact hk.1.1 hm; omega, fun hx => by have := HX.out k hx; rcases hk with hk | hk; exact hk.1.2 hx; omega⟩, by rcases hk with hk | hk <;> omega⟩)
  have hs9 : w3.heap.size < (w3.alloc (.cells #[.int .i64 bl, .slice A1 R.length c1] 71)).heap.size := by simp
  have hg9 : g8 < w3.heap.size := by have := hb3.size; omega
  generalize hG9 : w3.heap.size = g9 at *
  obtain ⟨W, hW⟩ : ∃ W, w3.alloc (.cells #[.int .i64 bl, .slice A1 R.length c1] 71) = W := ⟨_, rfl⟩
  rw [hW] at hb4 hk9 hk5 hk6 hk8 hb5 hv4 hs9
  clear x0 x1 y0 y1 z0 z1 z2 HK4 HK5 HK6 HK8 hG8 hv1 hb3 hb4 hvp hwz hg8z
  have HV4 := Aside0.mk hv4
  have HB3 := Aside0.mk hb5
  have HK6 := Aside0.mk hk6
  have v0 := (blk_cell hk9 0).trans rfl
  have v1 := (blk_cell hk9 1).trans rfl
  have z0 := (blk_cell hk8 0).trans rfl
  have z1 := (blk_cell hk8 1).trans rfl
  have z2 := (blk_cell hk8 2).trans rfl
  have y1 := (blk_cell hk5 1).trans rfl
  clear hv4 hb5 hk6 hk9 hk8 hk5 hl1
  go_wp2_with fail
  clear hW hG9
  refine start_ (n := 8) (S := fun w' => w'.cell? ⟨g9, 0, none⟩ = some (.int .i64 bl) ∧ w'.cell? ⟨g9, 1, none⟩ = some (.slice A1 R.length c1) ∧ w'.cell? ⟨g8, 0, none⟩ = some (.int .i64 y.f0) ∧ w'.cell? ⟨g8, 1, none⟩ = some (.int .u64 y.f1) ∧ w'.cell? ⟨g8, 2, none⟩ = some (.int .i64 y.f2) ∧ w'.cell? ⟨D + 1, 1, none⟩ = some (.int .i64 n)) (ds := [6]) #[false, false, false, false, false, false, false, false] (by kernel_rfl) rfl rfl ⟨v0, v1, z0, z1, z2, y1⟩ (fun hHeld => ?_)
  refine pure_ (i := 1) (N := some 93) (v := ?_) (a' := ?_) #[false, true, false, false, false, false, false, false] rfl rfl (by kernel_rfl) (fun _ _ _ h => h) (Or.inl ⟨by rfl, ?_⟩) ?_ ?_
  rotate_left
  · intro w'
    go_simp
    with_reducible rfl
  rotate_left
  · simp only [Act.put, List.setIfInBounds_toArray, List.set_cons_zero, List.set_cons_succ, i64_w, i32_w]
    rfl
  refine pure_ (i := 2) (N := some 94) (v := ?_) (a' := ?_) #[false, true, true, false, false, false, false, false] rfl rfl (by kernel_rfl) (fun _ _ _ h => h) (Or.inl ⟨by rfl, ?_⟩) ?_ ?_
  rotate_left
  · intro w'
    go_simp
    with_reducible rfl
  rotate_left
  · simp only [Act.put, List.setIfInBounds_toArray, List.set_cons_zero, List.set_cons_succ, i64_w, i32_w]
    rfl
  refine pure_ (i := 4) (N := some 96) (v := ?_) (a' := ?_) #[false, true, true, false, true, false, false, false] rfl rfl (by kernel_rfl) (fun _ _ _ h => h) (Or.inl ⟨by rfl, ?_⟩) ?_ ?_
  rotate_left
  · intro w'
    go_simp
    with_reducible rfl
  rotate_left
  · simp only [Act.put, List.setIfInBounds_toArray, List.set_cons_zero, List.set_cons_succ, i64_w, i32_w]
    rfl
  refine take_ (i := 0) (N := some 92) (v := ?_) (a' := ?_) #[true, true, true, false, true, false, false, false] rfl rfl (by kernel_rfl) (fun _ _ _ h => h) (Or.inl ⟨by rfl, ?_⟩) hHeld ?_ ?_
  rotate_left
  · rintro w' ⟨s0, s1, s2, s3, s4, s5⟩
    go_simp
    with_reducible rfl
  rotate_left
  · simp only [Act.put, List.setIfInBounds_toArray, List.set_cons_zero, List.set_cons_succ, i64_w, i32_w]
    rfl
  refine one_ (i := 3) (N := some 95) #[true, true, true, true, true, false, false, false] rfl rfl (by kernel_rfl) (by decide) (fun K hK => ?_)
  refine goes_ Try.func47 (by kernel_rfl) rfl #[.pointer (some ⟨b, 0, none⟩), .int .i64 (Int.tmod n 40)] (by rfl) rfl rfl (by (try simp only [List.map_toArray, List.map_cons, List.map_nil]); first | done | rfl) ?_
  have HB4 := Aside0.mk (Below.refl W.drew.heap.size W.drew)
  have hbz := below_step HB3.out ((Below.refl _ _).drew.trans HB4.out)
  refine (HC.out W.drew b c (At.below HT.out hbz)).mono ?_
  rintro e w5 ⟨rfl, hout⟩
  refine ⟨_, rfl, ?_⟩
  have HOUT := Aside0.mk hout
  have HBZ := Aside0.mk hbz
  obtain ⟨c', L', hL', hWt', hTb', hid', hMv'⟩ := hout
  have HMV := Aside0.mk hMv'
  have hbW : Below W.heap.size W W.drew := (Below.refl _ W).drew.trans HB4.out
  have hn6 : D + 1 + 1 ∉ ids b c L := fun hm => by have := HLT.out _ hm; omega
  have hk6' := (HMV.out.block (D + 1 + 1) (Nat.lt_of_lt_of_le (blk_lt HK6.out) hbW.size) hn6).trans ((hbW.block (D + 1 + 1) (blk_lt HK6.out)).trans HK6.out)
  have HK6' := Aside0.mk hk6'
  clear hbW hn6 hk6'
  clear hL' hWt' hTb' hid' hMv' hbz
  obtain ⟨s0, s1, s2, s3, s4, s5⟩ := hHeld
  refine hK.out _ _ ⟨(mv_cell HMV.out (World.block_lt_of_cell? _ _ s0) (fun hm => by have := HLT.out _ hm; dsimp only at this; omega)).trans s0, (mv_cell HMV.out (World.block_lt_of_cell? _ _ s1) (fun hm => by have := HLT.out _ hm; dsimp only at this; omega)).trans s1, (mv_cell HMV.out (World.block_lt_of_cell? _ _ s2) (fun hm => by have := HLT.out _ hm; dsimp only at this; omega)).trans s2, (mv_cell HMV.out (World.block_lt_of_cell? _ _ s3) (fun hm => by have := HLT.out _ hm; dsimp only at this; omega)).trans s3, (mv_cell HMV.out (World.block_lt_of_cell? _ _ s4) (fun hm => by have := HLT.out _ hm; dsimp only at this; omega)).trans s4, (mv_cell HMV.out (World.block_lt_of_cell? _ _ s5) (fun hm => by have := HLT.out _ hm; dsimp only at this; omega)).trans s5⟩ (fun hHeld => ?_)
  clear hK K
  refine norm_ (a' := ?_) ?_ ?_
  rotate_left
  · show Act.put _ (some 95) _ = _
    simp only [Act.put, List.setIfInBounds_toArray, List.set_cons_zero, List.set_cons_succ, i64_w, i32_w]
    rfl
  refine pure_ (i := 5) (N := some 97) (v := ?_) (a' := ?_) #[true, true, true, true, true, true, false, false] rfl rfl (by kernel_rfl) (fun _ _ _ h => h) (Or.inl ⟨by rfl, ?_⟩) ?_ ?_
  rotate_left
  · intro w'
    go_simp
    with_reducible rfl
  rotate_left
  · simp only [Act.put, List.setIfInBounds_toArray, List.set_cons_zero, List.set_cons_succ, i64_w, i32_w]
    rfl
  refine last_ (i := 6) (N := none) #[true, true, true, true, true, true, true, false] rfl rfl (by kernel_rfl) (by decide) (fun K hK => ?_)
  obtain ⟨s0, s1, s2, s3, s4, s5⟩ := hHeld
  have f6 := blk_frozen HK6'.out
  obtain ⟨r0, r1⟩ := And.intro ((blk_cell HK6'.out 0).trans rfl) ((blk_cell HK6'.out 1).trans rfl)
  refine skip_ (w1 := ?_) (by rfl) rfl ?_ ?_
  rotate_left
  · go_simp
    with_reducible rfl
  refine hK.out _ _ ?_
  clear hK K
  refine pure_ (i := 7) (N := some 7) (v := ?_) (a' := ?_) #[true, true, true, true, true, true, true, true] rfl rfl (by kernel_rfl) (fun _ _ _ h => h) (Or.inl ⟨by rfl, ?_⟩) ?_ ?_
  rotate_left
  · intro w'
    go_simp
    with_reducible rfl
  rotate_left
  · simp only [Act.put, List.setIfInBounds_toArray, List.set_cons_zero, List.set_cons_succ, i64_w, i32_w]
    rfl
  refine done_ (by kernel_rfl) ?_
  obtain ⟨c', L', hL', hWt', hTb', hid', hMv'⟩ := HOUT.out
  have hDP := dop_end HLT.out hD HBZ.out hMv' hid' hL' hWt' hTb' (Kd.V_drew HV4.out) (by have := (blk_lt HK6.out); exact this) (v1 := .slice A1 R.length c1)
  have HKF := Aside0.mk (blk_put (blk_put HK6'.out 0 (.int .i64 bl) rfl) 1 (.slice A1 R.length c1) rfl)
  have HDP := Aside0.mk hDP
  clear hDP hL' hWt' hTb' hid' hMv'
  go_wp2_with fail
  refine bodyPost_ret (results_ct rfl _ _ (D + 1 + 1) 71 #[.int .i64 bl, .slice A1 R.length c1] (0, 0) _ rfl HKF.out Try.underlying71 rfl (by kernel_rfl)) rfl ?_
  exact HDP.out

end Go.Proofs.Ytgmdlndiilibpaa.PH

/- HashPlays: a deed, of both. -/
set_option linter.unusedVariables false
namespace Go.Proofs.Ytgmdlndiilibpaa.PH
open Go.RowKit Go.Proofs.YtgmdlndiilibpaaW.PrintWords Go.Proofs.YtgmdlndiilibpaaW.PrintLast Go.Proofs.YtgmdlndiilibpaaW.PrintMore Go.Proofs.Ytgmdlndiilibpaa.Tab
theorem does_calls (w : World) (bl : Int) (b c : Nat) (L : List (List Nd)) (h : Wt bl L) (hT : Tb bl w b c L) (A0 : Option Addr) (c0 : Nat) (X : Nat → Prop) (hX : ∀ k, X k → k < w.heap.size) (hv : Vr w (ids b c L) X (.slice A0 (img L).length c0) (img L))
    (kd n : Int) (x : S24) (raw : Bool) (hx : Ok24 x) :
    Calls Try.prog 50 #[.pointer (some ⟨b, 0, none⟩), .agg #[.int .i64 bl, .slice A0 (img L).length c0], .agg #[.int .i64 kd, .int .i64 n, .int .i64 x.f0, .int .u64 x.f1, .int .i64 x.f2, .bool raw]] w (DoP bl w b c L X) := by
  by_cases h0 : kd = 0
  · subst h0; exact does_put w bl b c L h hT A0 c0 X hX hv n x raw hx
  by_cases h1 : kd = 1
  · subst h1; exact does_set w bl b c L h hT A0 c0 X hX hv n x raw hx
  by_cases h2 : kd = 2
  · subst h2; exact does_cut w bl b c L h hT A0 c0 X hX hv n x raw hx
  by_cases h3 : kd = 3
  · subst h3; exact does_resize w bl b c L h hT A0 c0 X hX hv n x raw hx
  exact does_get w bl b c L h hT A0 c0 X hX hv kd n x raw hx h0 h1 h2 h3
end Go.Proofs.Ytgmdlndiilibpaa.PH


/- HashPlays: like: the walk. -/
namespace Go.Proofs.Ytgmdlndiilibpaa.PH
open Go.RowKit Go.Proofs.YtgmdlndiilibpaaW.PrintWords Go.Proofs.YtgmdlndiilibpaaW.PrintLast Go.Proofs.YtgmdlndiilibpaaW.PrintMore Go.Proofs.Ytgmdlndiilibpaa.Tab
attribute [local go_sem] max2_int min2_int max_two min_two max_three min_three max_four min_four   -- for this text's walks alone
set_option linter.unusedVariables false
set_option linter.unusedSimpArgs false
open Go.Proofs.Ytgmdlndiilibpaa.KeyG
structure LkS (w W : World) (bl : Int) (b c : Nat) (L : List (List Nd)) (nn : Int) (A0 : Option Addr) : Prop where
  t : At 116 120 123 W b c L (bl - nn) nn
  c : Kd.C (Kd.slice 128 k128) W A0 (img L).length (img L)
  bl : Below w.heap.size w W
theorem LkS.below {w W W' : World} {bl : Int} {b c : Nat} {L : List (List Nd)} {nn : Int} {A0 : Option Addr} (h : LkS w W bl b c L nn A0) (hb : Below W.heap.size W W') : LkS w W' bl b c L nn A0 :=
  ⟨At.below h.t hb, Kd.C_below h.c hb, h.bl.trans (hb.mono h.bl.size)⟩
attribute [local go_sem high] eqA27k
theorem keq_self (a b c : Int) : keq a b c a b c = true := by simp [keq]
theorem same_below {w w' : World} (h : w = w') : Below w.heap.size w w' := h ▸ Below.refl _ _
set_option maxHeartbeats 8000000 in
set_option maxRecDepth 100000 in
theorem like_calls (w : World) (bl : Int) (b c : Nat) (L : List (List Nd)) (h : Wt bl L) (hT : Tb bl w b c L) (A0 : Option Addr) (c0 : Nat) (X : Nat → Prop) (hv : Vr w (ids b c L) X (.slice A0 (img L).length c0) (img L)) :
    Calls Try.prog 51 #[.pointer (some ⟨b, 0, none⟩), .agg #[.int .i64 bl, .slice A0 (img L).length c0]] w fun e w' => e = .returned (.bool true) ∧ Below w.heap.size w w' := by
  have hfew := h.few
  have h20 := h.bl20
  have hsm := h.sm
  have hlen := len_f bl L (by omega) (by omega) 100000 (by omega)
  have hT' : At 116 120 123 w b c L (bl - (L.flatten.length : Int)) (L.flatten.length : Int) := hT
  obtain ⟨nn, hnn, hn0⟩ : ∃ nn : Int, (L.flatten.length : Int) = nn ∧ 0 ≤ nn := ⟨_, rfl, by omega⟩
  rw [hnn] at hfew hlen hT'
  have HNN := Aside0.mk hnn
  have hwr : IntKind.i64.wrap (bl - nn) = bl - nn := by rw [IntKind.wrap_i64]; omega
  clear hnn
  have hcu := (Kd.V_reads' hv).2.1
  have hC := (Kd.V_reads' hv).2.2
  have hb0 := (Below.refl w.heap.size w).alloc (Nat.le_refl _) (.cells #[.int .i64 bl, .slice A0 (img L).length c0] 71)
  have hk3 := blk_new w (.cells #[.int .i64 bl, .slice A0 (img L).length c0] 71)
  have HW := Aside0.mk h
  have HCU := Aside0.mk hcu
  have HLK := Aside0.mk (show LkS w _ bl b c L nn A0 from ⟨At.below hT' hb0, Kd.C_below hC hb0, hb0⟩)
  have hlong := longest_f bl L (by omega) 100000 (by omega)
  have hlb := longL_bd (L := L) hT.few L.length
  obtain ⟨x0, x1⟩ := And.intro ((blk_cell hk3 0).trans rfl) ((blk_cell hk3 1).trans rfl)
  have HLEN := Aside0.mk hlen
  have HLONG := Aside0.mk hlong
  have HIL := Aside0.mk (img_len L)
  clear h hT hT' hv hcu hC hb0 hk3 hlen hlong
  go_enter Try.func51, Try.ntmps51
  go_wp2_with fail
  generalize w.alloc (.cells #[.int .i64 bl, .slice A0 (img L).length c0] 71) = wD at *
  refine (lookasideref11_Len.calls 100000 bl A0 c0 (img L) _ wD HLK.out.c HCU.out HLEN.out).mono ?_
  rintro e w1 ⟨rfl, hb1⟩
  replace x0 := pw_cell_below hb1 x0
  replace x1 := pw_cell_below hb1 x1
  have HL1 := Aside0.mk (HLK.out.below hb1)
  clear HLK hb1
  go_upto_region 2 with fail
  go_cut [38] (fun v38 wx => v38 = .bool false ∧ Aside0 (LkS w wx bl b c L nn A0) ∧ wx.cell? ⟨w.heap.size, 0, none⟩ = some (.int .i64 bl) ∧ wx.cell? ⟨w.heap.size, 1, none⟩ = some (.slice A0 (img L).length c0))
  case first =>
    go_region_held3 (fun W => Aside0 (LkS w W bl b c L nn A0) ∧ W.cell? ⟨w.heap.size, 0, none⟩ = some (.int .i64 bl) ∧ W.cell? ⟨w.heap.size, 1, none⟩ = some (.slice A0 (img L).length c0))
      (first | (exact ⟨⟨HL1.out.below ((Below.refl _ _).drew)⟩, x0, x1⟩) | (go_split_ands; exact ⟨⟨LkS.below (Aside0.out (p := LkS w _ bl b c L nn A0) (by assumption)) hbel⟩, pw_cell_below hbel (by assumption), pw_cell_below hbel (by assumption)⟩))
      (first
        | (go_at_call 36; go_split_ands; refine (len_calls _ b c L _ _ (LkS.t (Aside0.out (p := LkS w _ bl b c L nn A0) (by assumption)))).mono ?_; rintro e w' ⟨rfl, hw⟩; have hbel := same_below hw; clear hw)
        | (go_at_call 37; go_split_ands; refine (free_calls _ b c L _ _ (LkS.t (Aside0.out (p := LkS w _ bl b c L nn A0) (by assumption)))).mono ?_; rintro e w' ⟨rfl, hw⟩; have hbel := same_below hw; clear hw)
        | (go_at_call 48; go_split_ands; refine (chains_calls _ b c L _ _ (LkS.t (Aside0.out (p := LkS w _ bl b c L nn A0) (by assumption)))).mono ?_; rintro e w' ⟨rfl, hw⟩; have hbel := same_below hw; clear hw; rw [← HIL.out])
        | (go_at_call 49; go_split_ands; refine (longest_calls _ b c L _ _ (LkS.t (Aside0.out (p := LkS w _ bl b c L nn A0) (by assumption)))).mono ?_; rintro e w' ⟨rfl, hbel⟩)
        | (go_at_call 84; go_split_ands; refine (lookasideref11_Longest.calls 100000 bl A0 c0 (img L) _ _ (LkS.c (Aside0.out (p := LkS w _ bl b c L nn A0) (by assumption))) HCU.out HLONG.out).mono ?_; rintro e w' ⟨rfl, hbel⟩))
    rename_i hS
    obtain ⟨HS, x0, x1⟩ := hS
    (try simp only [Exit.inBlock, Exit.then])
    go_wp2_with fail
    go_meet
    case rel => exact ⟨rfl, HS, x0, x1⟩
  case rest =>
  clear x0 x1
  obtain ⟨rfl, HS, x0, x1⟩ := hcut
  go_wp2_with fail
  have hll : (img L).length = L.length := HIL.out
  have HLL := Aside0.mk hll
  clear hll
  have hb18 := HS.out.bl
  go_loopg [6] (L.length + 2) (fun k iv wr => ∃ z : Int, iv = .int .i64 z ∧ -1 ≤ z ∧ z + k = L.length + 1 ∧ Aside0 (LkS w wr bl b c L nn A0) ∧ wr.cell? ⟨w.heap.size, 0, none⟩ = some (.int .i64 bl) ∧ wr.cell? ⟨w.heap.size, 1, none⟩ = some (.slice A0 (img L).length c0))
  case atStart => exact ⟨-1, rfl, by omega, by omega, HS, x0, x1⟩
  case round =>
    clear HS x0 x1 hb18
    obtain ⟨z, rfl, hz1, hzk, HS, x0, x1⟩ := hrel
    have HZK := Aside0.mk hzk
    have hzu : z ≤ L.length + 1 := by omega
    clear hzk
    by_cases hz2 : z ≤ (L.length : Int)
    · have d0 : decide (z ≤ ((img L).length : Int)) = true := decide_eq_true (by rw [HLL.out]; exact hz2)
      by_cases hz3 : z = -1
      · subst hz3
        go_wp2_with fail
        refine (row_no _ b c L _ _ HS.out.t (-1) (.inl (by omega))).mono ?_
        rintro e w2 ⟨rfl, rfl⟩
        go_wp2_with fail
        have hjk := HZK.out
        go_roundg (gk - 1)
        case measure => omega
        case rel => exact ⟨0, rfl, by omega, by omega, HS, x0, x1⟩
      · by_cases hz4 : z = (L.length : Int)
        · subst hz4
          have d1 : decide ((img L).length ≤ L.length) = true := decide_eq_true (by rw [HLL.out]; exact Nat.le_refl _)
          have d2 : decide (L.length ≤ (img L).length) = true := decide_eq_true (by rw [HLL.out]; exact Nat.le_refl _)
          go_wp2_with fail
          refine (row_no _ b c L _ _ HS.out.t (L.length : Int) (.inr (by omega))).mono ?_
          rintro e w2 ⟨rfl, rfl⟩
          go_wp2_with fail
          have hjk := HZK.out
          go_roundg (gk - 1)
          case measure => omega
          case rel => exact ⟨(L.length : Int) + 1, by rfl, by omega, by omega, HS, x0, x1⟩
        · obtain ⟨i, rfl⟩ : ∃ i : Nat, z = (i : Int) := ⟨z.toNat, by omega⟩
          have hil : i < L.length := by omega
          have hi0 : (0 : Int) ≤ (i : Int) := by omega
          have hi1 : (i : Int) < (L.length : Int) := by omega
          have d1 : decide ((img L).length ≤ i) = false := decide_eq_false (by rw [HLL.out]; omega)
          have hi2 : (i : Int) < ((img L).length : Int) := by rw [HLL.out]; exact hi1
          obtain ⟨l, hl⟩ : ∃ l, L[i]? = some l := ⟨L[i], List.getElem?_eq_getElem hil⟩
          have HL := Aside0.mk hl
          have hl20 := HW.out.ll hl
          go_wp2_with fail
          refine (row_calls _ b c L _ _ HS.out.t i l HL.out).mono ?_
          rintro e w2 ⟨v2, rfl, hR2, hb2⟩
          obtain ⟨A2, c2, rfl⟩ := Kd.R_slice hR2
          have hC2 := (Kd.R_reads' hR2).2
          have hlen2 : (l.map nk).length = l.length := List.length_map _
          have HC2 := Aside0.mk (show Kd.C k24 w2 A2 l.length (l.map nk) from by have := hC2.2; rwa [hlen2] at this)
          rw [hlen2]
          have HS2 := Aside0.mk (HS.out.below hb2)
          replace x0 := pw_cell_below hb2 x0
          replace x1 := pw_cell_below hb2 x1
          obtain ⟨ad, A3, c3, hA0, x2, hc3, hC3⟩ := at_L4 HS2.out.c i hi0 (by rw [HLL.out]; exact hi1)
          subst hA0
          rw [rd_img hl, List.length_map, Int.toNat_natCast] at x2
          rw [rd_img hl, List.length_map] at hC3
          have HC3 := Aside0.mk hC3
          clear hR2 hb2 hC2 hlen2 hC3 hc3 hl HS
          have d3 : (((l.length : Nat) : Int) != ((l.length : Nat) : Int)) = false := by simp
          go_wp2_with fail
          have HZ := HZK
          obtain ⟨gi, hgi⟩ : ∃ gi : Nat, gi = gk := ⟨_, rfl⟩
          have HGI := Aside0.mk hgi
          clear hgi
          have hb20 := HS2.out.bl
          go_loopg [8] l.length (fun k jv wr => ∃ j : Nat, jv = .int .i64 (j : Int) ∧ j + k = l.length ∧ Aside0 (Below w2.heap.size w2 wr))
          case atStart => exact ⟨0, rfl, by omega, ⟨Below.refl _ _⟩⟩
          case round =>
            rename_i wq _ _ _ _ _ _ _ _ _
            obtain ⟨j, rfl, hjk, HB⟩ := hrel
            have HJK := Aside0.mk hjk
            have hjl : j ≤ l.length := by omega
            clear hjk
            have hj0 : (0 : Int) ≤ (j : Int) := by omega
            replace x0 := pw_cell_below HB.out x0
            replace x1 := pw_cell_below HB.out x1
            replace x2 := pw_cell_below HB.out x2
            by_cases hlt : j < l.length
            · have hj1 : (j : Int) < (l.length : Int) := by omega
              obtain ⟨ad2, hA2, y0, y1, y2⟩ := at_T24 (Kd.C_below HC2.out HB.out) (j : Int) hj0 hj1
              obtain ⟨ad3, hA3, q0, q1, q2, q3⟩ := at_T128 (Kd.C_below HC3.out HB.out) (j : Int) hj0 hj1
              obtain ⟨m, hm⟩ : ∃ m, l[j] = m := ⟨_, rfl⟩
              have e1 : rd_T24 (l.map nk) (j : Int) = nk m := by simp [rd_T24, List.getD_eq_getElem?_getD, hlt, hm]
              have e2 : rd_T128 (l.map nd128) (j : Int) = nd128 m := by simp [rd_T128, List.getD_eq_getElem?_getD, hlt, hm]
              rw [e1, Int.toNat_natCast] at y0 y1 y2
              rw [e2, Int.toNat_natCast] at q0 q1 q2 q3
              simp only [nk] at y0 y1 y2
              simp only [nd128] at q0 q1 q2 q3
              subst hA2 hA3
              have hk1 := keq_self m.sp m.va m.sz
              clear e1 e2 hm q3
              go_wp2_with fail
              go_region_held3 (fun W => W.cell? ⟨w.heap.size, 1, none⟩ = some (.slice (some ad) (img L).length c0) ∧ W.cell? (ad.add i) = some (.slice (some ad3) l.length c3) ∧ W.cell? (ad2.add (j * 3)) = some (.int .i64 m.sp) ∧ W.cell? ⟨(ad2.add (j * 3)).block, (ad2.add (j * 3)).off + 1, none⟩ = some (.int .u64 m.va) ∧ W.cell? ⟨(ad2.add (j * 3)).block, (ad2.add (j * 3)).off + 2, none⟩ = some (.int .i64 m.sz) ∧
                  W.cell? (ad3.add (j * 4)) = some (.int .i64 m.sp) ∧ W.cell? ⟨(ad3.add (j * 4)).block, (ad3.add (j * 4)).off + 1, none⟩ = some (.int .u64 m.va) ∧ W.cell? ⟨(ad3.add (j * 4)).block, (ad3.add (j * 4)).off + 2, none⟩ = some (.int .i64 m.sz) ∧ Aside0 (Below w2.heap.size w2 W))
                (first | (exact ⟨x1, x2, y0, y1, y2, q0, q1, q2, ⟨HB.out.drew⟩⟩) | (go_split_ands; exact ⟨pw_cell_below hbel (by assumption), pw_cell_below hbel (by assumption), pw_cell_below hbel (by assumption), pw_cell_below hbel (by assumption), pw_cell_below hbel (by assumption), pw_cell_below hbel (by assumption), pw_cell_below hbel (by assumption), pw_cell_below hbel (by assumption), ⟨below_step (Aside0.out (p := Below w2.heap.size w2 _) (by assumption)) hbel⟩⟩))
                ((go_at_call 16; refine (lookasidelaw11_key.calls m.sp m.va m.sz m.sp m.va m.sz _ rfl).mono ?_; rintro e w' ⟨rfl, hbel⟩))
              rename_i hS
              have HB5 := hS.2.2.2.2.2.2.2.2
              clear hS
              (try simp only [Exit.inBlock, Exit.then])
              have hw : wrap64 ((j : Int) + 1) = (j : Int) + 1 := by unfold wrap64; omega
              go_wp2_with fail
              clear hw
              have hjk := HJK.out
              go_roundg (gk - 1)
              case measure => omega
              case rel => exact ⟨j + 1, by push_cast; rfl, by omega, HB5⟩
            · have hd : decide (j < l.length) = false := decide_eq_false hlt
              go_wp2_with fail
              have HS5 := Aside0.mk (HS2.out.below HB.out)
              have hjk := HZ.out
              have hgi := HGI.out
              go_roundg (gi - 1)
              case measure => omega
              case rel => exact ⟨(i : Int) + 1, rfl, by omega, by omega, HS5, x0, x1⟩
    · have d0 : decide (z ≤ ((img L).length : Int)) = false := decide_eq_false (by rw [HLL.out]; exact hz2)
      go_wp2_with fail
      have hall := all_f bl L (by have := HNN.out; omega) (by omega) 100000 (by omega)
      obtain ⟨Z, hZ⟩ : ∃ Z, L.flatten.map nd128 = Z := ⟨_, rfl⟩
      have hfl : L.flatten.length ≤ 1000000000000 := by have := HNN.out; omega
      have hac : ∀ (W : World) (A : Option Addr) (cap : Nat), At 116 120 123 W b c L (bl - nn) nn → Z.length ≤ cap → Kd.C k128 W A Z.length Z → Calls Try.prog 41 #[.pointer (some ⟨b, 0, none⟩), .slice A Z.length cap, .int .i64 (-1)] W fun e w' => e = .returned (.bool true) ∧ Below W.heap.size W w' := by
        subst hZ
        exact fun W A cap hT hcap hz => all_calls W b c L _ _ hT hfl (-1) A cap hcap hz
      rw [hZ] at hall
      have HALL := Aside0.mk hall
      have HAC := Aside0.mk hac
      clear hfl hac hZ
      clear hall
      refine (lookasideref11_All.calls 100000 bl A0 c0 (img L) _ wr HS.out.c HCU.out HALL.out).mono ?_
      rintro e w3 ⟨v3, rfl, hR3, hb3⟩
      obtain ⟨A3, c3, rfl⟩ := Kd.R_slice hR3
      have hC3 := (Kd.R_reads' hR3).2
      have HC3 := Aside0.mk hC3
      have HS3 := Aside0.mk (HS.out.below hb3)
      clear hR3 hC3 x0 x1 hb3 HS
      go_wp2_with fail
      refine (HAC.out w3 A3 c3 HS3.out.t HC3.out.1 HC3.out.2).mono ?_
      rintro e w4 ⟨rfl, hb4⟩
      have hbf := below_step HS3.out.bl hb4
      clear hb4
      go_wp2
      go_ret
      exact ⟨rfl, hbf⟩

end Go.Proofs.Ytgmdlndiilibpaa.PH

/- A parameter that is a slice, opened: whatever its elements. -/
set_option linter.unusedVariables false
namespace Go.Proofs.Ytgmdlndiilibpaa.OpenR
open Go.ChangeShapes Go.WideShapes Go.RowKit Go.Deep
/-- A slice in memory: its elements, each so many cells. -/
structure Row {α : Type} (n : Nat) (en : α → List Value) (Good : World → α → Prop) (W : World) (A : Option Addr) (xs : List α) : Prop where
  good : ∀ x ∈ xs, Good W x
  at_ : ∀ i (hi : i < xs.length), ∃ ad, A = some ad ∧ ∀ (j : Nat) u, (en xs[i])[j]? = some u → W.cell? (ad.add (i * n + j)) = some u
theorem choose_list {α : Type} {P : Nat → α → Prop} (n : Nat) (h : ∀ i, i < n → ∃ x, P i x) : ∃ xs : List α, xs.length = n ∧ ∀ i x, xs[i]? = some x → P i x := by
  induction n with
  | zero => exact ⟨[], rfl, by simp⟩
  | succ n ih =>
    obtain ⟨xs, hl, hx⟩ := ih (fun i hi => h i (by omega))
    obtain ⟨y, hy⟩ := h n (by omega)
    refine ⟨xs ++ [y], by simp [hl], fun i x hix => ?_⟩
    by_cases hi : i < xs.length
    · rw [List.getElem?_append_left hi] at hix
      exact hx i x hix
    · have : i < (xs ++ [y]).length := (List.getElem?_eq_some_iff.1 hix).1
      rw [List.length_append, List.length_singleton] at this
      obtain rfl : i = n := by omega
      rw [List.getElem?_append_right (by omega), show i - xs.length = 0 by omega] at hix
      cases hix
      exact hy
section
variable {H : Type} {enc : TypeId × Value → H} {W : World} {P : Program} {T E : TypeId} {α : Type} {n : Nat} {en : α → List Value} {Good : World → α → Prop}
set_option maxRecDepth 100000 in
theorem open_row (hT : P.underlying T = some (.slice E)) (hc : P.cellsOf E = n) (hlen : ∀ x, (en x).length = n)
    (hd : ∀ (k : Nat) (cs : List Value) (x : DataW H × List MemPlace), DataW.trod enc P W 0 (fun _ => true) true k E cs = some x → ∃ a, cs = en a ∧ Good W a)
    {v : Value} {d : DataW H} {p : List MemPlace} (hval : Value.okWide P W .any 0 T v) (h : DataW.Trod enc P W 0 (fun _ => true) true T v d p) :
    ∃ (A : Option Addr) (c : Nat) (xs : List α), v = .slice A xs.length c ∧ xs.length ≤ c ∧ xs.length ≤ maxLen ∧ Row n en Good W A xs := by
  obtain ⟨a0, len, cap, rfl⟩ := okWide_slice hT hval
  obtain ⟨fuel, hf⟩ := h
  rcases open_slice hT hf with ⟨hcs, _⟩ | ⟨a, len', cap', m, q, D, Pl, hcs, hb, hl, hm, hmm, hx, hi⟩
  · simp [Value.cells] at hcs
    obtain ⟨rfl, rfl, rfl⟩ := hcs
    exact ⟨none, 0, [], rfl, by simp, by simp, ⟨by simp, by simp⟩⟩
  · simp [Value.cells] at hcs
    obtain ⟨rfl, rfl, rfl⟩ := hcs
    have hlm : len ≤ m := by rw [hmm]; simp; omega
    obtain ⟨xs, hxl, hxs⟩ := choose_list (P := fun i (k : α) => Good W k ∧ ∀ (j : Nat) u, (en k)[j]? = some u → W.cell? (a.add (i * n + j)) = some u) len (fun i him => by
      obtain ⟨cs', h1, h2⟩ := hi i (by omega)
      obtain ⟨k, rfl, hg⟩ := hd _ _ _ h2
      rw [hc] at h1
      obtain ⟨_, hlen', hat⟩ := World.cells?_some h1
      refine ⟨k, hg, fun j u hu => ?_⟩
      have hj : j < n := by
        have := (List.getElem?_eq_some_iff.1 hu).1
        rwa [hlen] at this
      have := hat j hj
      rw [Go.Deep.add_add] at this
      rw [this, hu])
    refine ⟨some a, cap, xs, by rw [hxl], by omega, by omega, ⟨fun x hx => ?_, fun i hi => ?_⟩⟩
    · obtain ⟨i, hi, rfl⟩ := List.getElem_of_mem hx
      exact (hxs i _ (List.getElem?_eq_getElem hi)).1
    · exact ⟨a, rfl, (hxs i _ (List.getElem?_eq_getElem hi)).2⟩
end
end Go.Proofs.Ytgmdlndiilibpaa.OpenR

/- HashPlays: its walk. -/
namespace Go.Proofs.Ytgmdlndiilibpaa.PH
open Go.RowKit Go.Proofs.YtgmdlndiilibpaaW.PrintWords Go.Proofs.YtgmdlndiilibpaaW.PrintLast Go.Proofs.YtgmdlndiilibpaaW.PrintMore Go.Proofs.Ytgmdlndiilibpaa.Tab
attribute [local go_sem] max2_int min2_int max_two min_two max_three min_three max_four min_four   -- for this text's walks alone
set_option linter.unusedVariables false
set_option linter.unusedSimpArgs false
open Go.Proofs.Ytgmdlndiilibpaa.KeyG Go.Proofs.Ytgmdlndiilibpaa.OpenR
structure Dh where
  kd : Int
  n : Int
  k : S24
  raw : Bool
def encDh (d : Dh) : List Value := [.int .i64 d.kd, .int .i64 d.n, .int .i64 d.k.f0, .int .u64 d.k.f1, .int .i64 d.k.f2, .bool d.raw]
def GoodDh (_ : World) (d : Dh) : Prop := Ok24 d.k
theorem dh_at {W : World} {A : Option Addr} {xs : List Dh} (hD : Row 6 encDh GoodDh W A xs) {i : Nat} (hi : i < xs.length) : ∃ ad, A = some ad ∧ W.cell? (ad.add (i * 6)) = some (.int .i64 xs[i].kd) ∧ W.cell? ⟨(ad.add (i * 6)).block, (ad.add (i * 6)).off + 1, none⟩ = some (.int .i64 xs[i].n) ∧
    W.cell? ⟨(ad.add (i * 6)).block, (ad.add (i * 6)).off + 2, none⟩ = some (.int .i64 xs[i].k.f0) ∧ W.cell? ⟨(ad.add (i * 6)).block, (ad.add (i * 6)).off + 3, none⟩ = some (.int .u64 xs[i].k.f1) ∧ W.cell? ⟨(ad.add (i * 6)).block, (ad.add (i * 6)).off + 4, none⟩ = some (.int .i64 xs[i].k.f2) ∧ W.cell? ⟨(ad.add (i * 6)).block, (ad.add (i * 6)).off + 5, none⟩ = some (.bool xs[i].raw) := by
  obtain ⟨ad, e, h⟩ := hD.at_ i hi
  exact ⟨ad, e, h 0 _ rfl, by rw [← add_field _ _ 1 (by omega)]; exact h 1 _ rfl, by rw [← add_field _ _ 2 (by omega)]; exact h 2 _ rfl, by rw [← add_field _ _ 3 (by omega)]; exact h 3 _ rfl, by rw [← add_field _ _ 4 (by omega)]; exact h 4 _ rfl, by rw [← add_field _ _ 5 (by omega)]; exact h 5 _ rfl⟩
def DhAt (W : World) (a : Addr) (d : Dh) : Prop := W.cell? a = some (.int .i64 d.kd) ∧ W.cell? ⟨a.block, a.off + 1, none⟩ = some (.int .i64 d.n) ∧ W.cell? ⟨a.block, a.off + 2, none⟩ = some (.int .i64 d.k.f0) ∧ W.cell? ⟨a.block, a.off + 3, none⟩ = some (.int .u64 d.k.f1) ∧ W.cell? ⟨a.block, a.off + 4, none⟩ = some (.int .i64 d.k.f2) ∧ W.cell? ⟨a.block, a.off + 5, none⟩ = some (.bool d.raw)
theorem cell_up {w0 W : World} {a : Addr} {v : Value} (hb : Below w0.heap.size w0 W) (h : w0.cell? a = some v) : W.cell? a = some v := (hb.cell (World.block_lt_of_cell? _ _ h)).trans h
theorem DhAt.up {w0 W : World} {a : Addr} {d : Dh} (hb : Below w0.heap.size w0 W) (h : DhAt w0 a d) : DhAt W a d :=
  ⟨cell_up hb h.1, cell_up hb h.2.1, cell_up hb h.2.2.1, cell_up hb h.2.2.2.1, cell_up hb h.2.2.2.2.1, cell_up hb h.2.2.2.2.2⟩
/-- Both stand alike; the document's is in block g. -/
structure HP (w0 W : World) (bl : Int) (b c : Nat) (L : List (List Nd)) (A : Option Addr) (ca g : Nat) : Prop where
  wt : Wt bl L
  tb : Tb bl W b c L
  rv : Vr W (ids b c L) (fun k => k = g) (.slice A (img L).length ca) (img L)
  hk : W.heap[g]? = some (.cells #[.int .i64 bl, .slice A (img L).length ca] 71 (0, 0))
  bl0 : Below w0.heap.size w0 W
  hg : w0.heap.size ≤ g
  hge : ∀ k ∈ ids b c L, w0.heap.size ≤ k
  hn : g ∉ ids b c L
section
variable {w0 W W' : World} {bl : Int} {b c : Nat} {L : List (List Nd)} {A : Option Addr} {ca g : Nat}
theorem HP.below (h : HP w0 W bl b c L A ca g) (hb : Below W.heap.size W W') : HP w0 W' bl b c L A ca g :=
  ⟨h.wt, At.below h.tb hb, h.rv.below hb, blk_below h.hk hb, below_step h.bl0 hb, h.hg, h.hge, h.hn⟩
theorem HP.cells (h : HP w0 W bl b c L A ca g) : W.cell? ⟨g, 0, none⟩ = some (.int .i64 bl) ∧ W.cell? ⟨g, 1, none⟩ = some (.slice A (img L).length ca) :=
  ⟨(blk_cell h.hk 0).trans rfl, (blk_cell h.hk 1).trans rfl⟩
end
/-- What a round's deed leaves. -/
def DoneH (w0 : World) (bl : Int) (b g : Nat) (v10 v11 : Value) (W : World) : Prop :=
  ∃ g2 c' L' A' ca', v10 = .pointer (some ⟨g2, 0, none⟩) ∧ v11 = .bool true ∧ HP w0 W bl b c' L' A' ca' g2 ∧ Vr W (ids b c' L') (fun k => k = g) (.slice A' (img L').length ca') (img L') ∧ g ≠ g2 ∧ (∃ x y, W.heap[g]? = some (.cells #[x, y] 71 (0, 0))) ∧ g ∉ ids b c' L'
theorem cut_b {n : Int} : (n > 20 → ∃ m : Int, n % 21 = m ∧ m ≤ 20) ∧ (¬ n > 20 → n ≤ 20) := ⟨fun h => ⟨n % 21, rfl, by omega⟩, fun h => by omega⟩
theorem tmod31 (a : Int) : -31 < Int.tmod a 31 ∧ Int.tmod a 31 < 31 := by
  rcases Int.le_total 0 a with h | h
  · obtain ⟨n, rfl⟩ := Int.eq_ofNat_of_zero_le h
    have e : Int.tmod (n : Int) 31 = ((n % 31 : Nat) : Int) := tmod_nat n 31
    omega
  · obtain ⟨n, hn⟩ := Int.eq_ofNat_of_zero_le (show 0 ≤ -a by omega)
    obtain rfl : a = -(n : Int) := by omega
    have e0 : Int.tmod (n : Int) 31 = ((n % 31 : Nat) : Int) := tmod_nat n 31
    have e : Int.tmod (-(n : Int)) 31 = -((n % 31 : Nat) : Int) := by rw [Int.neg_tmod, e0]
    omega
theorem ids_far {bl : Int} {w w' : World} {b c c' g : Nat} {L L' : List (List Nd)} (hn : g ∉ ids b c L) (hg : g < w.heap.size) (hid : ∀ k ∈ ids b c' L', k ∈ ids b c L ∨ w.heap.size ≤ k) : g ∉ ids b c' L' :=
  fun h => (hid g h).elim hn (fun h => by omega)
abbrev ZP : Obj := .cells #[.int .i64 0, .slice none 0 0] 71
/-- The deed first, then the box. -/
theorem done1 {w0 wr w5 : World} {bl : Int} {b c g : Nat} {L : List (List Nd)} {A : Option Addr} {ca : Nat} {e : Ending} (HE : HP w0 wr bl b c L A ca g) (h : DoP bl wr.drew b c L (fun k => k = g) e w5) :
    ∃ A5 c5 n5, e = .returned (.tuple #[.agg #[.int .i64 bl, .slice A5 n5 c5], .bool true]) ∧ (Below w0.heap.size w0 w5 ∧ w5.cell? ⟨g, 0, none⟩ = some (.int .i64 bl) ∧ w5.cell? ⟨g, 1, none⟩ = some (.slice A (img L).length ca)) ∧ DoneH w0 bl b g (.pointer (some ⟨w5.heap.size, 0, none⟩)) (.bool true) (w5.alloc (.cells #[.int .i64 bl, .slice A5 n5 c5] 71)) := by
  obtain ⟨v1, c', L', rfl, hW, hT, hid, hM, hV⟩ := h
  obtain ⟨A5, c5, rfl⟩ := Kd.V_slice hV
  have hgl : g < wr.drew.heap.size := blk_lt HE.hk
  have hk5 : w5.heap[g]? = some (.cells #[.int .i64 bl, .slice A (img L).length ca] 71 (0, 0)) := (hM.block g hgl HE.hn).trans HE.hk
  have hgl5 : g < w5.heap.size := blk_lt hk5
  have hb5 : Below w0.heap.size w0 w5 := HE.bl0.drew.trans (hM.below HE.bl0.size HE.hge)
  have hna : Below w5.heap.size w5 (w5.alloc (.cells #[.int .i64 bl, .slice A5 (img L').length c5] 71)) := (Below.refl _ w5).alloc (Nat.le_refl _) _
  have hlt := At.lt hT
  have hvv : Vr (w5.alloc (.cells #[.int .i64 bl, .slice A5 (img L').length c5] 71)) (ids b c' L') (fun k => k = g) (.slice A5 (img L').length c5) (img L') := hV.below hna
  refine ⟨A5, c5, _, rfl, ⟨hb5, (blk_cell hk5 0).trans rfl, (blk_cell hk5 1).trans rfl⟩, w5.heap.size, c', L', A5, c5, rfl, rfl, ⟨hW, At.below hT hna, ?_, blk_new w5 _, hb5.alloc hb5.size _, hb5.size, fun k hk => ?_, fun hm => Nat.lt_irrefl _ (hlt _ hm)⟩, hvv, Nat.ne_of_lt hgl5, ⟨_, _, blk_below hk5 hna⟩, ids_far (bl := bl) (w' := w5) HE.hn hgl hid⟩
  · exact Kd.V_mono (Kd.V_alloc (Kd.V_bound hV) _) (fun k hk => ⟨hk.1.1, Nat.ne_of_lt hk.2⟩)
  · rcases hid k hk with h | h
    · exact HE.hge k h
    · exact Nat.le_trans HE.bl0.size h
/-- The box first. -/
theorem done2 {w0 wr w5 : World} {bl : Int} {b c g : Nat} {L : List (List Nd)} {A : Option Addr} {ca : Nat} {e : Ending} (HE : HP w0 wr bl b c L A ca g) (h : DoP bl (wr.drew.alloc ZP) b c L (fun k => k = g ∨ k = wr.heap.size) e w5) :
    ∃ A5 c5 n5, e = .returned (.tuple #[.agg #[.int .i64 bl, .slice A5 n5 c5], .bool true]) ∧ (Below w0.heap.size w0 w5 ∧ w5.cell? ⟨g, 0, none⟩ = some (.int .i64 bl) ∧ w5.cell? ⟨g, 1, none⟩ = some (.slice A (img L).length ca)) ∧
      (w5.cell? ⟨wr.heap.size, 0, none⟩ = some (.int .i64 0) ∧ w5.cell? ⟨wr.heap.size, 1, none⟩ = some (.slice none 0 0) ∧ ∀ i, w5.frozen? ⟨wr.heap.size, i, none⟩ = false) ∧
      DoneH w0 bl b g (.pointer (some ⟨wr.heap.size, 0, none⟩)) (.bool true) ((w5.setCell ⟨wr.heap.size, 0, none⟩ (.int .i64 bl)).setCell ⟨wr.heap.size, 1, none⟩ (.slice A5 n5 c5)) := by
  obtain ⟨v1, c', L', rfl, hW, hT, hid, hM, hV⟩ := h
  obtain ⟨A5, c5, rfl⟩ := Kd.V_slice hV
  have hz : (wr.drew.alloc ZP).heap.size = wr.heap.size + 1 := by simp
  have hzn : (wr.drew.alloc ZP).heap[wr.heap.size]? = some (.cells #[.int .i64 0, .slice none 0 0] 71 (0, 0)) := blk_new wr.drew ZP
  have hgl : g < wr.heap.size := blk_lt HE.hk
  have hgk : (wr.drew.alloc ZP).heap[g]? = some (.cells #[.int .i64 bl, .slice A (img L).length ca] 71 (0, 0)) := blk_below HE.hk ((Below.refl _ wr).drew.alloc (Nat.le_refl _) _)
  have hltw : ∀ k ∈ ids b c L, k < wr.heap.size := At.lt HE.tb
  have hzi : wr.heap.size ∉ ids b c L := fun hm => Nat.lt_irrefl _ (hltw _ hm)
  have hk5 : w5.heap[g]? = some (.cells #[.int .i64 bl, .slice A (img L).length ca] 71 (0, 0)) := (hM.block g (by omega) HE.hn).trans hgk
  have hz5 : w5.heap[wr.heap.size]? = some (.cells #[.int .i64 0, .slice none 0 0] 71 (0, 0)) := (hM.block _ (by omega) hzi).trans hzn
  have hb5 : Below w0.heap.size w0 w5 := (HE.bl0.drew.alloc HE.bl0.size ZP).trans (hM.below (by have := HE.bl0.size; omega) HE.hge)
  have hzi' : wr.heap.size ∉ ids b c' L' := ids_far (bl := bl) (w' := w5) hzi (by omega) hid
  have hgi' : g ∉ ids b c' L' := ids_far (bl := bl) (w' := w5) HE.hn (by omega) hid
  have hne : g ≠ wr.heap.size := Nat.ne_of_lt hgl
  have hset : ∀ k, k ≠ wr.heap.size → ((w5.setCell ⟨wr.heap.size, 0, none⟩ (.int .i64 bl)).setCell ⟨wr.heap.size, 1, none⟩ (.slice A5 (img L').length c5)).heap[k]? = w5.heap[k]? := fun k hk =>
    (Below.heap_setCell _ ⟨wr.heap.size, 1, none⟩ _ k hk).trans (Below.heap_setCell w5 ⟨wr.heap.size, 0, none⟩ _ k hk)
  have hV2 : Kd.V (Kd.slice 128 k128) 76 ((w5.setCell ⟨wr.heap.size, 0, none⟩ (.int .i64 bl)).setCell ⟨wr.heap.size, 1, none⟩ (.slice A5 (img L').length c5)) 0 _ (.slice A5 (img L').length c5) (img L') :=
    Kd.V_step (Kd.V_bound hV) (fun k hk hlt => hset k (fun e => hk.1.2 (.inr e)))
  have hge' : ∀ k ∈ ids b c' L', w0.heap.size ≤ k := fun k hk => by
    rcases hid k hk with h | h
    · exact HE.hge k h
    · have := HE.bl0.size; omega
  refine ⟨A5, c5, _, rfl, ⟨hb5, (blk_cell hk5 0).trans rfl, (blk_cell hk5 1).trans rfl⟩, ⟨(blk_cell hz5 0).trans rfl, (blk_cell hz5 1).trans rfl, blk_frozen hz5⟩, wr.heap.size, c', L', A5, c5, rfl, rfl,
    ⟨hW, At.move hT (fun k hk => hset k (fun e => hzi' (e ▸ hk))), Kd.V_mono hV2 (fun k hk => ⟨hk.1.1, fun e => hk.1.2 (.inr e)⟩), blk_put (blk_put hz5 0 _ rfl) 1 _ rfl, below_set (below_set hb5 HE.bl0.size) HE.bl0.size, HE.bl0.size, hge', hzi'⟩,
    Kd.V_mono hV2 (fun k hk => ⟨hk.1.1, fun e => hk.1.2 (.inl e)⟩), hne, ⟨_, _, (hset g hne).trans hk5⟩, hgi'⟩
/-- The old box gets what the new one has. -/
theorem HP.store {w0 W : World} {bl : Int} {b c g g2 : Nat} {L : List (List Nd)} {A : Option Addr} {ca : Nat} {x y : Value} (h : HP w0 W bl b c L A ca g2) (hV : Vr W (ids b c L) (fun k => k = g) (.slice A (img L).length ca) (img L)) (hk : W.heap[g]? = some (.cells #[x, y] 71 (0, 0))) (hg : w0.heap.size ≤ g) (hn : g ∉ ids b c L) :
    HP w0 ((W.setCell ⟨g, 0, none⟩ (.int .i64 bl)).setCell ⟨g, 1, none⟩ (.slice A (img L).length ca)) bl b c L A ca g := by
  have hset : ∀ k, k ≠ g → ((W.setCell ⟨g, 0, none⟩ (.int .i64 bl)).setCell ⟨g, 1, none⟩ (.slice A (img L).length ca)).heap[k]? = W.heap[k]? := fun k hk =>
    (Below.heap_setCell _ ⟨g, 1, none⟩ _ k hk).trans (Below.heap_setCell W ⟨g, 0, none⟩ _ k hk)
  exact ⟨h.wt, At.move h.tb (fun k hk => hset k (fun e => hn (e ▸ hk))), Kd.V_mono (Kd.V_step hV (fun k hk _ => hset k hk.2)) (fun k hk => hk), blk_put (blk_put hk 0 _ rfl) 1 _ rfl, below_set (below_set h.bl0 hg) hg, hg, h.hge, hn⟩
theorem HGZ {g : Nat} (wr : World) (h : ∀ k, k = g → k < wr.heap.size) : ∀ k, (k = g ∨ k = wr.heap.size) → k < (wr.drew.alloc ZP).heap.size := fun k hk => by
  have hz : (wr.drew.alloc ZP).heap.size = wr.heap.size + 1 := by simp
  rcases hk with hk | hk
  · have := h k hk; omega
  · omega
theorem HRV {w0 wr : World} {bl : Int} {b c g : Nat} {L : List (List Nd)} {A : Option Addr} {ca : Nat} (h : HP w0 wr bl b c L A ca g) : Vr (wr.drew.alloc ZP) (ids b c L) (fun k => k = g ∨ k = wr.heap.size) (.slice A (img L).length ca) (img L) :=
  Kd.V_mono (Kd.V_below (Kd.V_bound h.rv) ((Below.refl _ wr).drew.alloc (Nat.le_refl _) ZP)) (fun k hk => ⟨hk.1.1, fun e => e.elim hk.1.2 (fun e => by have := hk.2; omega)⟩)
theorem cell_far2 {W : World} {b : Nat} {x y : Value} {p : Addr} {v : Value} (h : W.cell? p = some v) (hn : p.block ≠ b) : ((W.setCell ⟨b, 0, none⟩ x).setCell ⟨b, 1, none⟩ y).cell? p = some v :=
  (World.cell?_of_block ((Below.heap_setCell _ ⟨b, 1, none⟩ y p.block hn).trans (Below.heap_setCell _ ⟨b, 0, none⟩ x p.block hn))).trans h
set_option maxHeartbeats 8000000 in
set_option maxRecDepth 100000 in
theorem plays_calls (n ch : Int) (A0 : Option Addr) (c0 : Nat) (xs : List Dh) (w : World) (hD : Row 6 encDh GoodDh w A0 xs) (hxc : xs.length ≤ c0) :
    Calls Try.prog 13 #[.int .i64 n, .int .i64 ch, .slice A0 xs.length c0] w fun e w' => e = .returned (.bool true) ∧ Below w.heap.size w w' := by
  have HD := Aside0.mk hD
  clear hD
  go_enter Try.func13, Try.ntmps13
  go_upto_if 14 with fail
  go_cut [0] (fun v wx => (∃ m : Int, v = .int .i64 m ∧ m ≤ 20) ∧ wx = w)
  case first =>
    by_cases h1 : n > 20
    · have d1 : decide (n > 20) = true := decide_eq_true h1
      obtain ⟨m, hm, hm2⟩ := cut_b.1 h1
      have HM := Aside0.mk hm
      have h0 : 0 ≤ n := by omega
      go_wp2
      go_meet
      case rel => exact ⟨⟨m, by rw [HM.out], hm2⟩, rfl⟩
    · have d1 : decide (n > 20) = false := decide_eq_false h1
      go_wp2
      go_meet
      case rel => exact ⟨⟨n, rfl, by omega⟩, rfl⟩
  case rest =>
  obtain ⟨⟨m, rfl, hm1⟩, hw⟩ := hcut
  replace hw := hw.symm
  subst hw
  go_wp2_with fail
  obtain ⟨q, hq, hq1, hq2⟩ : ∃ q : Int, Int.tmod ch 31 = q ∧ -31 < q ∧ q < 31 := ⟨_, rfl, tmod31 ch⟩
  rw [hq]
  clear hq
  obtain ⟨N, hN, hN0, hN1⟩ : ∃ N : Nat, (N : Int) = max q 1 ∧ 0 < N ∧ N ≤ 30 := ⟨(max q 1).toNat, by omega, by omega, by omega⟩
  obtain ⟨bl, hbl, hbl0, hbl1⟩ : ∃ bl : Int, max m 0 = bl ∧ 0 ≤ bl ∧ bl ≤ 20 := ⟨_, rfl, by omega, by omega⟩
  have hnew : lookasideref11_New.f m q = some (bl, img (List.replicate N [])) := by
    have hm : mx q 1 = N := by unfold mx; split <;> omega
    have hm2 : mx m 0 = bl := by unfold mx; split <;> omega
    unfold lookasideref11_New.f
    rw [hm, hm2, if_pos (by omega), if_pos (by omega), Int.toNat_natCast]
    simp [img]
  have HNEW := Aside0.mk hnew
  have hnc := new_calls w m q N hN (by omega)
  rw [hbl] at hnc
  have HNC := Aside0.mk hnc
  have hw0 : Wt bl (List.replicate N ([] : List Nd)) := ⟨fun m hm => by simp at hm, by simpa using hN0, by simp; omega, by simp; exact hbl0, hbl1⟩
  have htb : ∀ W b c, At 116 120 123 W b c (List.replicate N []) bl 0 → Tb bl W b c (List.replicate N []) := fun W b c h => by
    unfold Tb
    simpa using h
  have hidn : ∀ b c k, k ∈ ids b c (List.replicate N []) → k = b ∨ k = c := fun b c k hk => by simpa [ids] using hk
  generalize List.replicate N ([] : List Nd) = L0 at *
  have HW0 := Aside0.mk hw0
  have HTB := Aside0.mk htb
  have HIDN := Aside0.mk hidn
  clear hnew hnc hN hbl hw0 htb hidn
  refine HNC.out.mono ?_
  rintro e w1 ⟨b, c, rfl, hT1, hb1, hc1, hB1⟩
  have HT1 := Aside0.mk (HTB.out _ _ _ hT1)
  have HB1 := Aside0.mk hB1
  have HGE := Aside0.mk (show ∀ k ∈ ids b c L0, w.heap.size ≤ k from fun k hk => (HIDN.out b c k hk).elim (fun e => e ▸ hb1) (fun e => e ▸ hc1))
  clear hT1 hB1 hb1 hc1 HNC HTB HIDN
  go_wp2_with fail
  refine (lookasideref11_New.calls m q bl _ w1 HNEW.out).mono ?_
  rintro e w2 ⟨v8, rfl, hv8, hb2⟩
  obtain ⟨A8, c8, hv⟩ := Kd.R_slice (Kd.S_R hv8)
  subst hv
  have hB2 := below_step HB1.out hb2
  have hna : Below w2.heap.size w2 (w2.alloc (.cells #[.int .i64 bl, .slice A8 (img L0).length c8] 71)) := (Below.refl _ w2).alloc (Nat.le_refl _) _
  have hlt1 : ∀ k ∈ ids b c L0, k < w1.heap.size := At.lt HT1.out
  have hsz := hb2.size
  have hHP : HP w (w2.alloc (.cells #[.int .i64 bl, .slice A8 (img L0).length c8] 71)) bl b c L0 A8 c8 w2.heap.size :=
    ⟨HW0.out, At.below (At.below HT1.out hb2) hna, Kd.V_mono (Kd.V_alloc (Kd.R_V (base' := 0) (Kd.R_bound (Kd.S_R hv8))) _) (fun k hk => ⟨fun h => by have := hlt1 k h; have := hk.2.1; omega, fun e => by have := hk.2.2.1; omega⟩), blk_new w2 _, hB2.alloc hB2.size _, hB2.size, HGE.out, fun h => by have := hlt1 _ h; omega⟩
  have HE := Aside0.mk hHP
  obtain ⟨x0, x1⟩ := hHP.cells
  clear hHP hlt1 hsz hna hB2 hv8 hb2 HNEW HT1 HB1 HGE HW0
  go_wp2_with fail
  generalize w2.alloc (.cells #[.int .i64 bl, .slice A8 (img L0).length c8] 71) = w3 at *
  generalize w2.heap.size = g at *
  go_loopg [9] xs.length (fun k iv wr => ∃ (i c : Nat) (L : List (List Nd)) (A : Option Addr) (ca : Nat), iv = .int .i64 i ∧ i + k = xs.length ∧ i ≤ 40 ∧ Aside0 (HP w wr bl b c L A ca g))
  case atStart => exact ⟨0, c, L0, A8, c8, rfl, by omega, by omega, HE⟩
  case round =>
    clear HE x0 x1
    obtain ⟨i, c, L, A, ca, rfl, hik, hi40, HE⟩ := hrel
    have HIK := Aside0.mk hik
    clear hik
    by_cases hl1 : (i : Int) < (xs.length : Int)
    · have hd1 : decide ((i : Int) < (xs.length : Int)) = true := decide_eq_true hl1
      by_cases hl2 : (i : Int) < 40
      · have hd2 : decide ((i : Int) < 40) = true := decide_eq_true hl2
        have hil : i < xs.length := by omega
        go_upto_region 11 with fail
        go_cut [10, 11] (fun v10 v11 wx => DoneH w bl b g v10 v11 wx)
        case first =>
          obtain ⟨ad, rfl, hy⟩ := dh_at HD.out hil
          have hgood : Ok24 xs[i].k := HD.out.good _ (List.getElem_mem hil)
          generalize xs[i] = d at hy hgood
          have HG := Aside0.mk hgood
          have HY := Aside0.mk (show DhAt w (ad.add (i * 6)) d from hy)
          have hgne := Aside0.mk (show g ≠ wr.heap.size from Nat.ne_of_lt (blk_lt HE.out.hk))
          have HGL := Aside0.mk (show ∀ k, k = g → k < wr.heap.size from fun k e => e ▸ blk_lt HE.out.hk)
          obtain ⟨x0, x1⟩ := HE.out.cells
          obtain ⟨y0, y1, y2, y3, y4, y5⟩ := DhAt.up HE.out.bl0 HY.out
          clear hgood hy
          go_region_held3 (fun W => W.cell? ⟨g, 0, none⟩ = some (.int .i64 bl) ∧ W.cell? ⟨g, 1, none⟩ = some (.slice A (img L).length ca) ∧
              W.cell? (ad.add (i * 6)) = some (.int .i64 d.kd) ∧ W.cell? ⟨(ad.add (i * 6)).block, (ad.add (i * 6)).off + 1, none⟩ = some (.int .i64 d.n) ∧ W.cell? ⟨(ad.add (i * 6)).block, (ad.add (i * 6)).off + 2, none⟩ = some (.int .i64 d.k.f0) ∧ W.cell? ⟨(ad.add (i * 6)).block, (ad.add (i * 6)).off + 3, none⟩ = some (.int .u64 d.k.f1) ∧ W.cell? ⟨(ad.add (i * 6)).block, (ad.add (i * 6)).off + 4, none⟩ = some (.int .i64 d.k.f2) ∧ W.cell? ⟨(ad.add (i * 6)).block, (ad.add (i * 6)).off + 5, none⟩ = some (.bool d.raw))
            (first | (exact ⟨x0, x1, y0, y1, y2, y3, y4, y5⟩) | (exact ⟨hx5.2.1, hx5.2.2, DhAt.up hx5.1 HY.out⟩) | (refine ⟨?_, ?_, DhAt.up (hx5.1.alloc hx5.1.size _) HY.out⟩ <;> go_keep) | (exact ⟨(cell_far2 hx5.2.1 hgne.out), (cell_far2 hx5.2.2 hgne.out), DhAt.up (below_set (below_set hx5.1 HE.out.bl0.size) HE.out.bl0.size) HY.out⟩) | (refine ⟨?_, ?_, DhAt.up (HE.out.bl0.drew.alloc HE.out.bl0.size _) HY.out⟩ <;> go_keep) | go_keep)
            (first
              | (go_at_call 50; refine (does_calls wr.drew bl b c L HE.out.wt (HE.out.below (Below.refl _ wr).drew).tb A ca (fun k => k = g) HGL.out (HE.out.below (Below.refl _ wr).drew).rv d.kd d.n d.k d.raw HG.out).mono ?_; rintro e w5 hdo; obtain ⟨A5, c5, n5, rfl, hx5, hdn⟩ := done1 HE.out hdo; have HDN := Aside0.mk hdn; clear hdn hdo)
              | (go_at_call 50; refine (does_calls (wr.drew.alloc ZP) bl b c L HE.out.wt (HE.out.below ((Below.refl _ wr).drew.alloc (Nat.le_refl _) ZP)).tb A ca (fun k => k = g ∨ k = wr.heap.size) (HGZ wr HGL.out) (HRV HE.out) d.kd d.n d.k d.raw HG.out).mono ?_; rintro e w5 hdo; obtain ⟨A5, c5, n5, rfl, hx5, ⟨hz50, hz51, hzf⟩, hdn⟩ := done2 HE.out hdo; have HDN := Aside0.mk hdn; clear hdn hdo))
          all_goals
            (try simp only [Exit.inBlock, Exit.then])
            go_wp2_with fail
            go_meet
            case rel => exact HDN.out
        case rest =>
        obtain ⟨g2, c', L', A', ca', rfl, rfl, hE2, hV2, hne2, ⟨o1, o2, hko⟩, hgi⟩ := hcut
        have HE2 := Aside0.mk hE2
        obtain ⟨z0, z1⟩ := hE2.cells
        obtain ⟨p0, p1⟩ := And.intro ((blk_cell hko 0).trans rfl) ((blk_cell hko 1).trans rfl)
        have f8 := blk_frozen hko
        have HS := Aside0.mk (hE2.store hV2 hko HE.out.hg hgi)
        have HNE := Aside0.mk hne2
        clear hE2 hV2 hko hgi HE hne2
        go_wp2_with fail
        generalize (wc.setCell ⟨g, 0, none⟩ (.int .i64 bl)).setCell ⟨g, 1, none⟩ (.slice A' (img L').length ca') = w9 at *
        clear z0 z1 p0 p1 f8 HE2
        refine (like_calls w9 bl b c' L' HS.out.wt HS.out.tb A' ca' (fun k => k = g) HS.out.rv).mono ?_
        rintro e w4 ⟨rfl, hb4⟩
        have HS4 := Aside0.mk (HS.out.below hb4)
        clear hb4 HS
        have hwj : wrap64 ((i : Int) + 1) = (i : Int) + 1 := by unfold wrap64; omega
        go_wp2
        clear hwj
        have hjk := HIK.out
        go_roundg (gk - 1)
        case measure => omega
        case rel => exact ⟨i + 1, c', L', A', ca', by push_cast; rfl, by omega, by omega, HS4⟩
      · have hd2 : decide ((i : Int) < 40) = false := decide_eq_false hl2
        go_wp2_with fail
        refine (lookasidelaw11_lives.calls true _ rfl).mono ?_
        rintro e w3 ⟨rfl, hb3⟩
        have hbf := below_step HE.out.bl0 hb3
        clear hb3
        go_wp2
        go_ret
        exact ⟨rfl, hbf⟩
    · have hd1 : decide ((i : Int) < (xs.length : Int)) = false := decide_eq_false hl1
      go_wp2_with fail
      refine (lookasidelaw11_lives.calls true _ rfl).mono ?_
      rintro e w3 ⟨rfl, hb3⟩
      have hbf := below_step HE.out.bl0 hb3
      clear hb3
      go_wp2
      go_ret
      exact ⟨rfl, hbf⟩

end Go.Proofs.Ytgmdlndiilibpaa.PH

/- A parameter that is a slice of keys, opened. -/
set_option linter.unusedVariables false
namespace Go.Proofs.Ytgmdlndiilibpaa.Keys
open Go.ChangeShapes Go.WideShapes Go.RowKit Go.Deep Go.Proofs.Ytgmdlndiilibpaa.PH Go.Proofs.YtgmdlndiilibpaaW.PrintWords
theorem cells24 : Try.prog.cellsOf 24 = 3 := by kernel_rfl
theorem cells3 : Try.prog.cellsOf 3 = 1 := by kernel_rfl
theorem cells22 : Try.prog.cellsOf 22 = 1 := by kernel_rfl
theorem laid : laidOutB Try.prog = true := by kernel_rfl
section
variable {H : Type} {enc : TypeId × Value → H} {W : World}
theorem list3 {α : Type} {l : List α} (h : l.length = 3) : ∃ a b c, l = [a, b, c] := by
  match l, h with
  | [a, b, c], _ => exact ⟨a, b, c, rfl⟩

set_option maxRecDepth 100000 in
theorem key_open {n : Nat} {cs : List Value} {x : DataW H × List MemPlace} {base : Nat} {sp : Nat → Bool} {held : Bool} (h : DataW.trod enc Try.prog W base sp held n 24 cs = some x) :
    ∃ k : S24, cs = [.int .i64 k.f0, .int .u64 k.f1, .int .i64 k.f2] ∧ Ok24 k := by
  obtain ⟨y0, y1, y2, m, rfl, hl, h0, h1, h2⟩ := trod_struct3 Try.underlying24 h
  rw [cells24] at hl
  obtain ⟨c0, c1, c2, rfl⟩ := list3 hl
  rw [cells3] at h0 h2
  rw [cells22] at h1
  obtain ⟨a, e0, _, w0⟩ := DataW.trod_int Try.underlying3 h0
  obtain ⟨b, e1, _, w1⟩ := DataW.trod_int Try.underlying22 h1
  obtain ⟨c, e2, _, w2⟩ := DataW.trod_int Try.underlying3 h2
  simp at e0 e1 e2
  subst e0 e1 e2
  exact ⟨⟨a, b, c⟩, rfl, FieldG.wf_i64 w0, FieldG.wf_u64 w1, FieldG.wf_i64 w2⟩
theorem choose_list {α : Type} [Inhabited α] {P : Nat → α → Prop} (n : Nat) (h : ∀ i, i < n → ∃ x, P i x) : ∃ xs : List α, xs.length = n ∧ ∀ i x, xs[i]? = some x → P i x := by
  induction n with
  | zero => exact ⟨[], rfl, by simp⟩
  | succ n ih =>
    obtain ⟨xs, hl, hx⟩ := ih (fun i hi => h i (by omega))
    obtain ⟨y, hy⟩ := h n (by omega)
    refine ⟨xs ++ [y], by simp [hl], fun i x hix => ?_⟩
    by_cases hi : i < xs.length
    · rw [List.getElem?_append_left hi] at hix
      exact hx i x hix
    · have : i < (xs ++ [y]).length := (List.getElem?_eq_some_iff.1 hix).1
      rw [List.length_append, List.length_singleton] at this
      obtain rfl : i = n := by omega
      rw [List.getElem?_append_right (by omega), show i - xs.length = 0 by omega] at hix
      cases hix
      exact hy
instance : Inhabited S24 := ⟨z24⟩
end
end Go.Proofs.Ytgmdlndiilibpaa.Keys

/- A parameter of deeds (lookasidelaw11.Deed), opened. -/
set_option linter.unusedVariables false
namespace Go.Proofs.Ytgmdlndiilibpaa.OpenDh
open Go.WideMaps Go.Joins Go.ChangeShapes Go.WideShapes Go.RowKit Go.Deep Go.Proofs.Ytgmdlndiilibpaa.PH Go.Proofs.Ytgmdlndiilibpaa.OpenR Go.Proofs.Ytgmdlndiilibpaa.Keys
theorem cells93 : Try.prog.cellsOf 93 = 6 := by kernel_rfl
theorem cells4 : Try.prog.cellsOf 4 = 1 := by kernel_rfl
theorem list6 {α : Type} {l : List α} (h : l.length = 6) : ∃ a b c d e f, l = [a, b, c, d, e, f] := by
  match l, h with
  | [a, b, c, d, e, f], _ => exact ⟨a, b, c, d, e, f, rfl⟩
section
variable {H : Type} {enc : TypeId × Value → H} {W : World}
set_option maxRecDepth 100000 in
theorem d_open {n : Nat} {cs : List Value} {x : DataW H × List MemPlace} (h : DataW.trod enc Try.prog W 0 (fun _ => true) true n 93 cs = some x) :
    ∃ k : Dh, cs = encDh k ∧ GoodDh W k := by
  obtain ⟨y0, y1, y2, y3, m, rfl, hl, h0, h1, h2, h3⟩ := trod_struct4 Try.underlying93 h
  rw [cells93] at hl
  obtain ⟨c0, c1, c2, c3, c4, c5, rfl⟩ := list6 hl
  rw [cells3] at h0 h1
  rw [cells24] at h2
  rw [cells4] at h3
  obtain ⟨a, e0, _, w0⟩ := DataW.trod_int Try.underlying3 h0
  obtain ⟨b, e1, _, w1⟩ := DataW.trod_int Try.underlying3 h1
  obtain ⟨k, e2, hk⟩ := key_open h2
  obtain ⟨r, e3, _⟩ := DataW.trod_bool Try.underlying4 h3
  simp at e0 e1 e2 e3
  obtain ⟨rfl, rfl, rfl⟩ := e2
  subst e0 e1 e3
  exact ⟨⟨a, b, k, r⟩, rfl, hk⟩
set_option maxRecDepth 100000 in
theorem open_dh {v : Value} {d : DataW H} {p : List MemPlace} (hval : Value.okWide Try.prog W .any 0 89 v) (h : DataW.Trod enc Try.prog W 0 (fun _ => true) true 89 v d p) :
    ∃ (A : Option Addr) (c : Nat) (xs : List Dh), v = .slice A xs.length c ∧ xs.length ≤ c ∧ xs.length ≤ maxLen ∧ Row 6 encDh GoodDh W A xs :=
  open_row (P := Try.prog) (T := 89) (E := 93) (en := encDh) (Good := GoodDh) (n := 6) Try.underlying89 cells93 (fun _ => rfl) (fun _ _ _ h => d_open h) hval h
end
end Go.Proofs.Ytgmdlndiilibpaa.OpenDh

namespace Go.Proofs.Ytgmdlndiilibpaa.hashPlays
open Go.ChangeShapes Go.WideShapes Go.ChangeAt Go.RowKit
set_option linter.unusedVariables false
theorem own : ownKnob Try.prog.godebug = none := by kernel_rfl
theorem laid : laidOutB Try.prog = true := by kernel_rfl
theorem rec3 : Try.prog.readableRec 3 = true := by kernel_rfl
theorem lt3 : 3 < Try.prog.types.size := of_decide_eq_true (by kernel_rfl)
theorem rec89 : Try.prog.readableRec 89 = true := by kernel_rfl
theorem lt89 : 89 < Try.prog.types.size := of_decide_eq_true (by kernel_rfl)
set_option maxRecDepth 100000 in
theorem lifted (os : Os) (started : os.Started) (H : Type) (enc : TypeId × Value → H) :
    ReturnsInHanded {} Try.checked os 13 .any (Rows.hashPlaysSpec.pre6 enc Try.prog Try.f13 Rows.hashPlaysRow.domain false) (Rows.hashPlaysSpec.post enc Try.prog Try.f13 false true false false) := by
  refine returnsInHanded_of_change_sized (C := Try.checked) own started (by kernel_rfl) Try.func13
    (ChangeSpec.witness6 (enc := enc) (C := Try.checked) false ⟨#[], #[.int .i64 0, .int .i64 0, .slice none 0 0], []⟩ 8 (by kernel_rfl) (by kernel_rfl) (by kernel_rfl) (by kernel_rfl)) ?_
  intro W base args ds gs before hval0 hW hcnd hsz0 _
  have hval : ∀ (j : Nat) t v, Try.f13.params[j]? = some t → args[j]? = some v → Value.okWide Try.prog W .any base t v := hval0
  have hW' := hW
  obtain ⟨p, q, hA0, hV, rfl, hfz, hnd⟩ := hW
  have hA : DataW.TrodAll enc Try.prog W 0 (fun _ => true) true Try.f13.params.toList args.toList ds p := hA0
  rw [Try.params13] at hA hval
  obtain ⟨v0, vs0, d0, ds0, p0, q0, hargs, rfl, rfl, h0, r0⟩ := trodAll_cons hA
  obtain ⟨v1, vs1, d1, ds1, p1, q1, rfl, rfl, rfl, h1, r1⟩ := trodAll_cons r0
  obtain ⟨v2, vs2, d2, ds2, p2, q2, rfl, rfl, rfl, h2, r2⟩ := trodAll_cons r1
  obtain ⟨rfl, rfl, rfl⟩ := trodAll_nil r2
  obtain rfl : args = #[v0, v1, v2] := by cases args; simp_all
  obtain ⟨rfl, rfl⟩ := trodVars_none hV
  have hlt0 : ∀ x ∈ p0, x.block < W.heap.size := fun x hx => by
    obtain ⟨fuel, hf⟩ := h0
    exact DataW.trod_lt fuel _ _ _ hf x hx
  have hlt1 : ∀ x ∈ p1, x.block < W.heap.size := fun x hx => by
    obtain ⟨fuel, hf⟩ := h1
    exact DataW.trod_lt fuel _ _ _ hf x hx
  have hlt2 : ∀ x ∈ p2, x.block < W.heap.size := fun x hx => by
    obtain ⟨fuel, hf⟩ := h2
    exact DataW.trod_lt fuel _ _ _ hf x hx
  obtain ⟨n, rfl, hn⟩ : ∃ a, v0 = .int .i64 a ∧ (Lit.int .i64 a).wf = true := (open_int Try.underlying3 (hval 0 3 v0 rfl rfl) h0).elim fun a h => ⟨a, h.1, h.2.2.2⟩
  obtain ⟨m, rfl, hm⟩ : ∃ a, v1 = .int .i64 a ∧ (Lit.int .i64 a).wf = true := (open_int Try.underlying3 (hval 1 3 v1 rfl rfl) h1).elim fun a h => ⟨a, h.1, h.2.2.2⟩
  obtain ⟨A, c, xs, rfl, hxc, hxm, hC⟩ := OpenDh.open_dh (hval 2 89 v2 rfl rfl) h2
  clear hA0 hval0 hsz0
  refine (PH.plays_calls n m A c xs W hC hxc).mono fun e W' ⟨he, bel⟩ => ?_
  subst he
  exact ⟨_, rfl, _, _, _, [], _, [], hW', trodAll_mk1 (shut_bool Try.underlying4 _), (trodAll_cons_mk (Below.trod laid rec3 lt3 h0 bel hlt0) (trodAll_cons_mk (Below.trod laid rec3 lt3 h1 bel hlt1) (trodAll_cons_mk (Below.trod laid rec89 lt89 h2 bel hlt2) trodAll_mk0))), rfl, bel.frame _, fun h => by cases h⟩
theorem over : Rows.hashPlaysRow.holds Try.pinned (OpenSpec.ofChange Rows.hashPlaysSpec) :=
  OpenClaim.holds_of_wide 13 Try.f13 rfl rfl rfl rfl rfl rfl rfl ⟨rfl, rfl, rfl, rfl, rfl⟩ rfl rfl rfl rfl rfl (by kernel_rfl) Try.func13 (by kernel_rfl)
    (of_decide_eq_true (by kernel_rfl)) (by unfold Func.isWrapper; first | (rw [if_pos (by decide +kernel)]; kernel_rfl) | (rw [if_neg (by decide +kernel)]; exact ⟨rfl, rfl⟩))
    (fun os started H enc _ => lifted os started H enc)
theorem proved : Rows.HashPlaysSaid := over
#print axioms proved
end Go.Proofs.Ytgmdlndiilibpaa.hashPlays
namespace Go.Proofs.Ytgmdlndiilibpaa
/-- The row, under a short name, for the claim. -/
theorem hashPlays_holds : Rows.HashPlaysSaid := hashPlays.proved
end Go.Proofs.Ytgmdlndiilibpaa


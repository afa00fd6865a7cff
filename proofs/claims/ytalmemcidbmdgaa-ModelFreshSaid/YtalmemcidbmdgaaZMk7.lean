import Derived.Test.YtalmemcidbmdgaaZMk6
import Derived.Deep.MidRow
import Derived.Test.YtalmemcidbmdgaaProg
import Derived.Deep.Slices
import Derived.WalkKit
import Derived.ProofKit
import Derived.Deep.Strs
import Derived.ChangeSame
import Derived.Carry
import Derived.OpenShut
import Derived.Test.YtalmemcidbmdgaaZMk5
/- The document's model of spaces (layer 16): Good: the walk. -/
set_option linter.unusedVariables false
set_option linter.unusedSimpArgs false
namespace Go.Proofs.Ytalmemcidbmdgaa.PM
open Go.RowKit Go.Proofs.YtalmemcidbmdgaaW.PrintWords Go.Proofs.YtalmemcidbmdgaaW.PrintLast Go.Proofs.YtalmemcidbmdgaaW.PrintMore Go.Proofs.Ytalmemcidbmdgaa.PageG
attribute [local go_sem] max2_int min2_int max_two min_two max_three min_three max_four min_four   -- for this text's walks alone
def nnI (x : Int) : Int := if x < 0 then -(x + 1) else x
theorem nnI_nat {x : Int} (h : W64 x) : ∃ q : Nat, nnI x = (q : Int) ∧ q < 2 ^ 63 := by
  unfold nnI W64 at *
  split
  · exact ⟨(-(x + 1)).toNat, by omega, by omega⟩
  · exact ⟨x.toNat, by omega, by omega⟩
theorem nn_neg {x : Int} (h : W64 x) (hx : x < 0) {q : Nat} (hq : nnI x = (q : Int)) : wrap64 (-wrap64 (x + 1)) = (q : Int) := by
  unfold nnI W64 at *
  rw [if_pos hx] at hq
  unfold wrap64
  omega
theorem nn_pos {x : Int} (hx : ¬ x < 0) {q : Nat} (hq : nnI x = (q : Int)) : x = (q : Int) := by
  unfold nnI at hq
  rwa [if_neg hx] at hq
def vaS (va : Nat) : Nat := if va / 2 ^ 43 % 2 = 1 then va % 2 ^ 43 + (2 ^ 64 - 2 ^ 43) else va % 2 ^ 43
theorem vaS_lt (va : Nat) : vaS va < 2 ^ 64 := by
  unfold vaS
  have : va % 2 ^ 43 < 2 ^ 43 := Nat.mod_lt _ (by omega)
  split <;> omega
theorem va_r (va : Nat) (hv : va < 2 ^ 64) : lookasideref02_Va.f 90 (va : Int) = some ((vaS va : Nat) : Int) := by
  unfold lookasideref02_Va.f vaS
  have hb := dbit 90 va 43 hv (by omega) (by omega)
  rw [show (43 : Int) = ((43 : Nat) : Int) from rfl, hb, Option.bind_some]
  obtain ⟨M, hM⟩ : ∃ M : Nat, M = 2 ^ 43 := ⟨_, rfl⟩
  obtain ⟨C, hC⟩ : ∃ C : Nat, C = 2 ^ 64 - 2 ^ 43 := ⟨_, rfl⟩
  have h1 : (8796093022208 : Int) = (M : Int) := by omega
  have h2 : (18446735277616529408 : Int) = (C : Int) := by omega
  have hm : va % M < M := Nat.mod_lt _ (by omega)
  rw [h1, h2, tmod_nat, ← hM, show 2 ^ 64 - M = C by omega]
  generalize va / M % 2 = b
  by_cases h : b = 1
  · rw [if_pos (by omega), if_pos h, wu _ (by omega) (by omega)]
    congr 1
  · rw [if_neg (by omega), if_neg h]
/-- Good, as the document tells it. -/
def goodS (o : OpS) (n : Nat) : OpS :=
  ⟨(((nnI o.kind).toNat % 8 : Nat) : Int), (((nnI o.sp).toNat % n : Nat) : Int), (((nnI o.ak).toNat % 4 : Nat) : Int), o.ap, ((vaS o.av.toNat : Nat) : Int), o.byte, (((if (nnI o.kind).toNat % 8 = 1 then bs (vaS o.va.toNat) ((nnI o.size).toNat % 4) else vaS o.va.toNat) : Nat) : Int), (((nnI o.size).toNat % 4 : Nat) : Int), { o.at_ with f3 := false, f4 := false }, (((nnI o.other).toNat % n : Nat) : Int), ((vaS o.too.toNat : Nat) : Int)⟩
structure WO (o : OpS) : Prop where
  k : W64 o.kind
  a : W64 o.ak
  o : OkO o
/-- Two blocks of a walk's own. -/
structure B2 (w W : World) (D : Nat) (t1 t2 : TypeId) (a b : Array Value) : Prop where
  a : W.heap[D]? = some (.cells a t1 (0, 0))
  b : W.heap[D + 1]? = some (.cells b t2 (0, 0))
  lo : Below w.heap.size w W
  hD : w.heap.size = D
theorem B2.below {w W W' : World} {D : Nat} {t1 t2 : TypeId} {a b : Array Value} (h : B2 w W D t1 t2 a b) (hb : Below W.heap.size W W') : B2 w W' D t1 t2 a b :=
  ⟨blk_below h.a hb, blk_below h.b hb, h.lo.trans (hb.mono h.lo.size), h.hD⟩
theorem B2.mk2 {w : World} {D : Nat} (hD : w.heap.size = D) (t1 t2 : TypeId) (a b : Array Value) : B2 w ((w.alloc (.cells a t1)).alloc (.cells b t2)) D t1 t2 a b := by
  have h1 := blk_alloc (blk_new w (.cells a t1)) (.cells b t2)
  have h2 := blk_new (w.alloc (.cells a t1)) (.cells b t2)
  rw [World.size_alloc] at h2
  rw [hD] at h1 h2
  exact ⟨h1, h2, ((Below.refl _ w).alloc (Nat.le_refl _) _).alloc (by simp) _, hD⟩
theorem B2.sa {w W : World} {D : Nat} {t1 t2 : TypeId} {a a' b : Array Value} (h : B2 w W D t1 t2 a b) : B2 w (ChangeMaps.setBlock W D (.cells a' t1 (0, 0))) D t1 t2 a' b :=
  ⟨sb_same h.a _, (sb_other _ (by omega)).trans h.b, below_sb h.lo (by rw [h.hD]; exact Nat.le_refl _) _, h.hD⟩
theorem B2.sb {w W : World} {D : Nat} {t1 t2 : TypeId} {a b b' : Array Value} (h : B2 w W D t1 t2 a b) : B2 w (ChangeMaps.setBlock W (D + 1) (.cells b' t2 (0, 0))) D t1 t2 a b' :=
  ⟨(sb_other _ (by omega)).trans h.a, sb_same h.b _, below_sb h.lo (by rw [h.hD]; omega) _, h.hD⟩
set_option maxHeartbeats 8000000 in
set_option maxRecDepth 100000 in
theorem good09_calls (ak : Int) (ap : Bool) (av q : Nat) (h : W64 ak) (hq : nnI ak = (q : Int)) (hv : av < 2 ^ 64) (w : World) :
    Calls Try.prog 54 #[.agg #[.int .i64 ak, .bool ap, .int .u64 (av : Int)], .bool true] w fun e w' => e = .returned (.agg #[.int .i64 ((q : Int) % 4), .bool ap, .int .u64 ((vaS av : Nat) : Int)]) ∧ Below w.heap.size w w' := by
  have HW := Aside0.mk h
  have HQ := Aside0.mk hq
  have HV := Aside0.mk hv
  clear h hq hv
  obtain ⟨D, hD⟩ : ∃ D, w.heap.size = D := ⟨_, rfl⟩
  go_enter Try.func54, Try.ntmps54
  go_upto_region 1 with fail
  have hx := B2.mk2 hD 32 32 #[.int .i64 ak, .bool ap, .int .u64 (av : Int)] #[.int .i64 0, .bool false, .int .u64 0]
  have HX := Aside0.mk hx
  generalize (w.alloc (.cells #[.int .i64 ak, .bool ap, .int .u64 (av : Int)] 32)).alloc (.cells #[.int .i64 0, .bool false, .int .u64 0] 32) = w1 at *
  clear hx hD
  obtain ⟨a0, -, -⟩ := cells3 HX.out.a
  go_upto_if 9 with fail
  go_cut [5] (fun v wx => v = .int .i64 (q : Int) ∧ wx = w1)
  case first =>
    by_cases h1 : ak < 0
    · have d1 : decide (ak < 0) = true := decide_eq_true h1
      have HN := Aside0.mk (nn_neg HW.out h1 HQ.out)
      go_wp2_with fail
      go_meet
      case rel => exact ⟨by rw [HN.out], rfl⟩
    · have d1 : decide (ak < 0) = false := decide_eq_false h1
      have HN := Aside0.mk (nn_pos h1 HQ.out)
      go_wp2_with fail
      go_meet
      case rel => exact ⟨by rw [HN.out], rfl⟩
  case rest =>
  obtain ⟨rfl, hw⟩ := hcut
  replace hw := hw.symm
  subst hw
  have f0 := blk_frozen HX.out.a 0
  go_upto_region 5 with fail
  rw [setCell_block (t := 32) (i := 0) (cs' := #[.int .i64 ((q : Int) % 4), .bool ap, .int .u64 (av : Int)]) HX.out.a (.int .i64 ((q : Int) % 4)) rfl]
  have HX2 := Aside0.mk (HX.out.sa (a' := #[.int .i64 ((q : Int) % 4), .bool ap, .int .u64 (av : Int)]))
  generalize ChangeMaps.setBlock w1 D (.cells #[.int .i64 ((q : Int) % 4), .bool ap, .int .u64 (av : Int)] 32 (0, 0)) = w2 at *
  clear a0 f0 HX
  obtain ⟨-, -, a2⟩ := cells3 HX2.out.a
  go_wp2_with fail
  refine (lookasideref02_Va.calls 90 (av : Int) ((vaS av : Nat) : Int) w2 (va_r av HV.out)).mono ?_
  rintro e w3 ⟨rfl, hd⟩
  have HX3 := Aside0.mk (HX2.out.below hd.below)
  clear hd a2 HX2
  obtain ⟨-, -, a2⟩ := cells3 HX3.out.a
  have f2 := blk_frozen HX3.out.a 2
  go_upto_region 7 with fail
  rw [setCell_block (t := 32) (i := 2) (cs' := #[.int .i64 ((q : Int) % 4), .bool ap, .int .u64 ((vaS av : Nat) : Int)]) HX3.out.a (.int .u64 ((vaS av : Nat) : Int)) rfl]
  have HX4 := Aside0.mk (HX3.out.sa (a' := #[.int .i64 ((q : Int) % 4), .bool ap, .int .u64 ((vaS av : Nat) : Int)]))
  generalize ChangeMaps.setBlock w3 D (.cells #[.int .i64 ((q : Int) % 4), .bool ap, .int .u64 ((vaS av : Nat) : Int)] 32 (0, 0)) = w4 at *
  clear a2 f2 HX3
  obtain ⟨a0, a1, a2⟩ := cells3 HX4.out.a
  obtain ⟨b0, b1, b2⟩ := cells3 HX4.out.b
  have f0 := blk_frozen HX4.out.b 0
  have f1 := blk_frozen HX4.out.b 1
  have f2 := blk_frozen HX4.out.b 2
  go_wp2_with fail
  rw [set3 HX4.out.b]
  refine bodyPost_ret (results_cell_row rfl _ _ (D + 1) 32 _ (0, 0) _ rfl (sb_same HX4.out.b _) Try.underlying32 rfl (by kernel_rfl)) rfl ?_
  have hx5 := HX4.out.sb (b' := #[.int .i64 ((q : Int) % 4), .bool ap, .int .u64 ((vaS av : Nat) : Int)])
  exact ⟨rfl, hx5.lo⟩
theorem set234 {W : World} {g : Nat} {a0 a1 a2 a3 a4 a5 a6 a7 a8 a9 a10 a11 a12 a13 a14 a15 : Value} {t : TypeId} (h : W.heap[g]? = some (.cells #[a0, a1, a2, a3, a4, a5, a6, a7, a8, a9, a10, a11, a12, a13, a14, a15] t (0, 0))) (b2 b3 b4 : Value) : ((W.setCell ⟨g, 2, none⟩ b2).setCell ⟨g, 3, none⟩ b3).setCell ⟨g, 4, none⟩ b4 = ChangeMaps.setBlock W g (.cells #[a0, a1, b2, b3, b4, a5, a6, a7, a8, a9, a10, a11, a12, a13, a14, a15] t (0, 0)) := by
  have s0 := setCell_block (t := t) (i := 2) (cs' := #[a0, a1, b2, a3, a4, a5, a6, a7, a8, a9, a10, a11, a12, a13, a14, a15]) h b2 rfl
  have s1 := sb_put (t := t) (i := 3) (cs := #[a0, a1, b2, a3, a4, a5, a6, a7, a8, a9, a10, a11, a12, a13, a14, a15]) (cs' := #[a0, a1, b2, b3, a4, a5, a6, a7, a8, a9, a10, a11, a12, a13, a14, a15]) h b3 rfl
  have s2 := sb_put (t := t) (i := 4) (cs := #[a0, a1, b2, b3, a4, a5, a6, a7, a8, a9, a10, a11, a12, a13, a14, a15]) (cs' := #[a0, a1, b2, b3, b4, a5, a6, a7, a8, a9, a10, a11, a12, a13, a14, a15]) h b4 rfl
  rw [s0, s1, s2]
theorem set16 {W : World} {g : Nat} {a0 a1 a2 a3 a4 a5 a6 a7 a8 a9 a10 a11 a12 a13 a14 a15 : Value} {t : TypeId} (h : W.heap[g]? = some (.cells #[a0, a1, a2, a3, a4, a5, a6, a7, a8, a9, a10, a11, a12, a13, a14, a15] t (0, 0))) (b0 b1 b2 b3 b4 b5 b6 b7 b8 b9 b10 b11 b12 b13 b14 b15 : Value) : (((((((((((((((W.setCell ⟨g, 0, none⟩ b0).setCell ⟨g, 1, none⟩ b1).setCell ⟨g, 2, none⟩ b2).setCell ⟨g, 3, none⟩ b3).setCell ⟨g, 4, none⟩ b4).setCell ⟨g, 5, none⟩ b5).setCell ⟨g, 6, none⟩ b6).setCell ⟨g, 7, none⟩ b7).setCell ⟨g, 8, none⟩ b8).setCell ⟨g, 9, none⟩ b9).setCell ⟨g, 10, none⟩ b10).setCell ⟨g, 11, none⟩ b11).setCell ⟨g, 12, none⟩ b12).setCell ⟨g, 13, none⟩ b13).setCell ⟨g, 14, none⟩ b14).setCell ⟨g, 15, none⟩ b15 = ChangeMaps.setBlock W g (.cells #[b0, b1, b2, b3, b4, b5, b6, b7, b8, b9, b10, b11, b12, b13, b14, b15] t (0, 0)) := by
  have s0 := setCell_block (t := t) (i := 0) (cs' := #[b0, a1, a2, a3, a4, a5, a6, a7, a8, a9, a10, a11, a12, a13, a14, a15]) h b0 rfl
  have s1 := sb_put (t := t) (i := 1) (cs := #[b0, a1, a2, a3, a4, a5, a6, a7, a8, a9, a10, a11, a12, a13, a14, a15]) (cs' := #[b0, b1, a2, a3, a4, a5, a6, a7, a8, a9, a10, a11, a12, a13, a14, a15]) h b1 rfl
  have s2 := sb_put (t := t) (i := 2) (cs := #[b0, b1, a2, a3, a4, a5, a6, a7, a8, a9, a10, a11, a12, a13, a14, a15]) (cs' := #[b0, b1, b2, a3, a4, a5, a6, a7, a8, a9, a10, a11, a12, a13, a14, a15]) h b2 rfl
  have s3 := sb_put (t := t) (i := 3) (cs := #[b0, b1, b2, a3, a4, a5, a6, a7, a8, a9, a10, a11, a12, a13, a14, a15]) (cs' := #[b0, b1, b2, b3, a4, a5, a6, a7, a8, a9, a10, a11, a12, a13, a14, a15]) h b3 rfl
  have s4 := sb_put (t := t) (i := 4) (cs := #[b0, b1, b2, b3, a4, a5, a6, a7, a8, a9, a10, a11, a12, a13, a14, a15]) (cs' := #[b0, b1, b2, b3, b4, a5, a6, a7, a8, a9, a10, a11, a12, a13, a14, a15]) h b4 rfl
  have s5 := sb_put (t := t) (i := 5) (cs := #[b0, b1, b2, b3, b4, a5, a6, a7, a8, a9, a10, a11, a12, a13, a14, a15]) (cs' := #[b0, b1, b2, b3, b4, b5, a6, a7, a8, a9, a10, a11, a12, a13, a14, a15]) h b5 rfl
  have s6 := sb_put (t := t) (i := 6) (cs := #[b0, b1, b2, b3, b4, b5, a6, a7, a8, a9, a10, a11, a12, a13, a14, a15]) (cs' := #[b0, b1, b2, b3, b4, b5, b6, a7, a8, a9, a10, a11, a12, a13, a14, a15]) h b6 rfl
  have s7 := sb_put (t := t) (i := 7) (cs := #[b0, b1, b2, b3, b4, b5, b6, a7, a8, a9, a10, a11, a12, a13, a14, a15]) (cs' := #[b0, b1, b2, b3, b4, b5, b6, b7, a8, a9, a10, a11, a12, a13, a14, a15]) h b7 rfl
  have s8 := sb_put (t := t) (i := 8) (cs := #[b0, b1, b2, b3, b4, b5, b6, b7, a8, a9, a10, a11, a12, a13, a14, a15]) (cs' := #[b0, b1, b2, b3, b4, b5, b6, b7, b8, a9, a10, a11, a12, a13, a14, a15]) h b8 rfl
  have s9 := sb_put (t := t) (i := 9) (cs := #[b0, b1, b2, b3, b4, b5, b6, b7, b8, a9, a10, a11, a12, a13, a14, a15]) (cs' := #[b0, b1, b2, b3, b4, b5, b6, b7, b8, b9, a10, a11, a12, a13, a14, a15]) h b9 rfl
  have s10 := sb_put (t := t) (i := 10) (cs := #[b0, b1, b2, b3, b4, b5, b6, b7, b8, b9, a10, a11, a12, a13, a14, a15]) (cs' := #[b0, b1, b2, b3, b4, b5, b6, b7, b8, b9, b10, a11, a12, a13, a14, a15]) h b10 rfl
  have s11 := sb_put (t := t) (i := 11) (cs := #[b0, b1, b2, b3, b4, b5, b6, b7, b8, b9, b10, a11, a12, a13, a14, a15]) (cs' := #[b0, b1, b2, b3, b4, b5, b6, b7, b8, b9, b10, b11, a12, a13, a14, a15]) h b11 rfl
  have s12 := sb_put (t := t) (i := 12) (cs := #[b0, b1, b2, b3, b4, b5, b6, b7, b8, b9, b10, b11, a12, a13, a14, a15]) (cs' := #[b0, b1, b2, b3, b4, b5, b6, b7, b8, b9, b10, b11, b12, a13, a14, a15]) h b12 rfl
  have s13 := sb_put (t := t) (i := 13) (cs := #[b0, b1, b2, b3, b4, b5, b6, b7, b8, b9, b10, b11, b12, a13, a14, a15]) (cs' := #[b0, b1, b2, b3, b4, b5, b6, b7, b8, b9, b10, b11, b12, b13, a14, a15]) h b13 rfl
  have s14 := sb_put (t := t) (i := 14) (cs := #[b0, b1, b2, b3, b4, b5, b6, b7, b8, b9, b10, b11, b12, b13, a14, a15]) (cs' := #[b0, b1, b2, b3, b4, b5, b6, b7, b8, b9, b10, b11, b12, b13, b14, a15]) h b14 rfl
  have s15 := sb_put (t := t) (i := 15) (cs := #[b0, b1, b2, b3, b4, b5, b6, b7, b8, b9, b10, b11, b12, b13, b14, a15]) (cs' := #[b0, b1, b2, b3, b4, b5, b6, b7, b8, b9, b10, b11, b12, b13, b14, b15]) h b15 rfl
  rw [s0, s1, s2, s3, s4, s5, s6, s7, s8, s9, s10, s11, s12, s13, s14, s15]
set_option maxHeartbeats 8000000 in
set_option maxRecDepth 100000 in
theorem good_calls (o : OpS) (ho : WO o) (w : World) :
    Calls Try.prog 29 #[.agg #[.int .i64 o.kind, .int .i64 o.sp, .int .i64 o.ak, .bool o.ap, .int .u64 o.av, .int .u8 o.byte, .int .u64 o.va, .int .i64 o.size, .bool o.at_.f0, .bool o.at_.f1, .bool o.at_.f2, .bool o.at_.f3, .bool o.at_.f4, .bool o.at_.f5, .int .i64 o.other, .int .u64 o.too], .int .i64 3] w fun e w' => e = .returned (.agg #[.int .i64 (goodS o 3).kind, .int .i64 (goodS o 3).sp, .int .i64 (goodS o 3).ak, .bool (goodS o 3).ap, .int .u64 (goodS o 3).av, .int .u8 (goodS o 3).byte, .int .u64 (goodS o 3).va, .int .i64 (goodS o 3).size, .bool (goodS o 3).at_.f0, .bool (goodS o 3).at_.f1, .bool (goodS o 3).at_.f2, .bool (goodS o 3).at_.f3, .bool (goodS o 3).at_.f4, .bool (goodS o 3).at_.f5, .int .i64 (goodS o 3).other, .int .u64 (goodS o 3).too]) ∧ Below w.heap.size w w' := by
  have HO := Aside0.mk ho
  obtain ⟨qk, hqk, hqk1⟩ := nnI_nat ho.k
  obtain ⟨qs, hqs, hqs1⟩ := nnI_nat ho.o.sp
  obtain ⟨qa, hqa, hqa1⟩ := nnI_nat ho.a
  obtain ⟨qo, hqo, hqo1⟩ := nnI_nat ho.o.ot
  obtain ⟨qz, hqz, hqz1⟩ := nnI_nat ho.o.sz
  obtain ⟨va, hva⟩ : ∃ q : Nat, o.va = (q : Int) := ⟨o.va.toNat, by have := ho.o.va; omega⟩
  obtain ⟨av, hav⟩ : ∃ q : Nat, o.av = (q : Int) := ⟨o.av.toNat, by have := ho.o.av; omega⟩
  obtain ⟨ta, hta⟩ : ∃ q : Nat, o.too = (q : Int) := ⟨o.too.toNat, by have := ho.o.to1; omega⟩
  have HVA := Aside0.mk (show va < 2 ^ 64 by have := ho.o.va; omega)
  have HAV := Aside0.mk (show av < 2 ^ 64 by have := ho.o.av; omega)
  have HTA := Aside0.mk (show ta < 2 ^ 64 by have := ho.o.to1; omega)
  have HQK := Aside0.mk hqk
  have HQS := Aside0.mk hqs
  have HQA := Aside0.mk hqa
  have HQO := Aside0.mk hqo
  have HQZ := Aside0.mk hqz
  have HG := Aside0.mk (show goodS o 3 = ⟨(qk : Int) % 8, (qs : Int) % 3, (qa : Int) % 4, o.ap, ((vaS av : Nat) : Int), o.byte, (((if qk % 8 = 1 then bs (vaS va) (qz % 4) else vaS va) : Nat) : Int), (qz : Int) % 4, { o.at_ with f3 := false, f4 := false }, (qo : Int) % 3, ((vaS ta : Nat) : Int)⟩ by
    unfold goodS
    rw [hqk, hqs, hqa, hqo, hqz, hva, hav, hta]
    rfl)
  have HV := Aside0.mk hva
  have HA := Aside0.mk hav
  have HT := Aside0.mk hta
  generalize goodS o 3 = g at *
  have HG2 := Aside0.mk (show g = _ from HG.out)
  clear hqk hqs hqa hqo hqz hva hav hta ho
  obtain ⟨D, hD⟩ : ∃ D, w.heap.size = D := ⟨_, rfl⟩
  go_enter Try.func29, Try.ntmps29
  go_upto_region 1 with fail
  have hx := B2.mk2 hD 36 36 #[.int .i64 o.kind, .int .i64 o.sp, .int .i64 o.ak, .bool o.ap, .int .u64 o.av, .int .u8 o.byte, .int .u64 o.va, .int .i64 o.size, .bool o.at_.f0, .bool o.at_.f1, .bool o.at_.f2, .bool o.at_.f3, .bool o.at_.f4, .bool o.at_.f5, .int .i64 o.other, .int .u64 o.too] #[.int .i64 0, .int .i64 0, .int .i64 0, .bool false, .int .u64 0, .int .u8 0, .int .u64 0, .int .i64 0, .bool false, .bool false, .bool false, .bool false, .bool false, .bool false, .int .i64 0, .int .u64 0]
  have HX := Aside0.mk hx
  generalize (w.alloc (.cells #[.int .i64 o.kind, .int .i64 o.sp, .int .i64 o.ak, .bool o.ap, .int .u64 o.av, .int .u8 o.byte, .int .u64 o.va, .int .i64 o.size, .bool o.at_.f0, .bool o.at_.f1, .bool o.at_.f2, .bool o.at_.f3, .bool o.at_.f4, .bool o.at_.f5, .int .i64 o.other, .int .u64 o.too] 36)).alloc (.cells #[.int .i64 0, .int .i64 0, .int .i64 0, .bool false, .int .u64 0, .int .u8 0, .int .u64 0, .int .i64 0, .bool false, .bool false, .bool false, .bool false, .bool false, .bool false, .int .i64 0, .int .u64 0] 36) = w1 at *
  clear hx hD
  obtain ⟨c0, c1, c2, c3, c4, c5, c6, c7, c8, c9, c10, c11, c12, c13, c14, c15⟩ := cells16 HX.out.a
  go_upto_if 12 with fail
  go_cut [5] (fun v wx => v = .int .i64 (qk : Int) ∧ wx = w1)
  case first =>
    by_cases h1 : o.kind < 0
    · have d1 : decide (o.kind < 0) = true := decide_eq_true h1
      have HN := Aside0.mk (nn_neg HO.out.k h1 HQK.out)
      go_wp2_with fail
      go_meet
      case rel => exact ⟨by rw [HN.out], rfl⟩
    · have d1 : decide (o.kind < 0) = false := decide_eq_false h1
      have HN := Aside0.mk (nn_pos h1 HQK.out)
      go_wp2_with fail
      go_meet
      case rel => exact ⟨by rw [HN.out], rfl⟩
  case rest =>
  obtain ⟨rfl, hw⟩ := hcut
  replace hw := hw.symm
  subst hw
  have f0 := blk_frozen HX.out.a 0
  go_upto_region 5 with fail
  clear c0 c1 c2 c3 c4 c5 c6 c7 c8 c9 c10 c11 c12 c13 c14 c15 f0
  rw [setCell_block (t := 36) (i := 0) (cs' := #[.int .i64 ((qk : Int) % 8), .int .i64 o.sp, .int .i64 o.ak, .bool o.ap, .int .u64 o.av, .int .u8 o.byte, .int .u64 o.va, .int .i64 o.size, .bool o.at_.f0, .bool o.at_.f1, .bool o.at_.f2, .bool o.at_.f3, .bool o.at_.f4, .bool o.at_.f5, .int .i64 o.other, .int .u64 o.too]) HX.out.a (.int .i64 ((qk : Int) % 8)) rfl]
  have HX' := Aside0.mk (HX.out.sa (a' := #[.int .i64 ((qk : Int) % 8), .int .i64 o.sp, .int .i64 o.ak, .bool o.ap, .int .u64 o.av, .int .u8 o.byte, .int .u64 o.va, .int .i64 o.size, .bool o.at_.f0, .bool o.at_.f1, .bool o.at_.f2, .bool o.at_.f3, .bool o.at_.f4, .bool o.at_.f5, .int .i64 o.other, .int .u64 o.too]))
  generalize ChangeMaps.setBlock w1 D (.cells #[.int .i64 ((qk : Int) % 8), .int .i64 o.sp, .int .i64 o.ak, .bool o.ap, .int .u64 o.av, .int .u8 o.byte, .int .u64 o.va, .int .i64 o.size, .bool o.at_.f0, .bool o.at_.f1, .bool o.at_.f2, .bool o.at_.f3, .bool o.at_.f4, .bool o.at_.f5, .int .i64 o.other, .int .u64 o.too] 36 (0, 0)) = w2 at *
  clear HX
  have HX := HX'
  clear HX'
  obtain ⟨c0, c1, c2, c3, c4, c5, c6, c7, c8, c9, c10, c11, c12, c13, c14, c15⟩ := cells16 HX.out.a
  go_upto_if 22 with fail
  go_cut [6] (fun v wx => v = .int .i64 (qs : Int) ∧ wx = w2)
  case first =>
    by_cases h1 : o.sp < 0
    · have d1 : decide (o.sp < 0) = true := decide_eq_true h1
      have HN := Aside0.mk (nn_neg HO.out.o.sp h1 HQS.out)
      go_wp2_with fail
      go_meet
      case rel => exact ⟨by rw [HN.out], rfl⟩
    · have d1 : decide (o.sp < 0) = false := decide_eq_false h1
      have HN := Aside0.mk (nn_pos h1 HQS.out)
      go_wp2_with fail
      go_meet
      case rel => exact ⟨by rw [HN.out], rfl⟩
  case rest =>
  obtain ⟨rfl, hw⟩ := hcut
  replace hw := hw.symm
  subst hw
  have f1 := blk_frozen HX.out.a 1
  go_upto_region 9 with fail
  clear c0 c1 c2 c3 c4 c5 c6 c7 c8 c9 c10 c11 c12 c13 c14 c15 f1
  rw [setCell_block (t := 36) (i := 1) (cs' := #[.int .i64 ((qk : Int) % 8), .int .i64 ((qs : Int) % 3), .int .i64 o.ak, .bool o.ap, .int .u64 o.av, .int .u8 o.byte, .int .u64 o.va, .int .i64 o.size, .bool o.at_.f0, .bool o.at_.f1, .bool o.at_.f2, .bool o.at_.f3, .bool o.at_.f4, .bool o.at_.f5, .int .i64 o.other, .int .u64 o.too]) HX.out.a (.int .i64 ((qs : Int) % 3)) rfl]
  have HX' := Aside0.mk (HX.out.sa (a' := #[.int .i64 ((qk : Int) % 8), .int .i64 ((qs : Int) % 3), .int .i64 o.ak, .bool o.ap, .int .u64 o.av, .int .u8 o.byte, .int .u64 o.va, .int .i64 o.size, .bool o.at_.f0, .bool o.at_.f1, .bool o.at_.f2, .bool o.at_.f3, .bool o.at_.f4, .bool o.at_.f5, .int .i64 o.other, .int .u64 o.too]))
  generalize ChangeMaps.setBlock w2 D (.cells #[.int .i64 ((qk : Int) % 8), .int .i64 ((qs : Int) % 3), .int .i64 o.ak, .bool o.ap, .int .u64 o.av, .int .u8 o.byte, .int .u64 o.va, .int .i64 o.size, .bool o.at_.f0, .bool o.at_.f1, .bool o.at_.f2, .bool o.at_.f3, .bool o.at_.f4, .bool o.at_.f5, .int .i64 o.other, .int .u64 o.too] 36 (0, 0)) = w3 at *
  clear HX
  have HX := HX'
  clear HX'
  obtain ⟨c0, c1, c2, c3, c4, c5, c6, c7, c8, c9, c10, c11, c12, c13, c14, c15⟩ := cells16 HX.out.a
  go_upto_if 33 with fail
  go_cut [7] (fun v wx => v = .int .i64 (qo : Int) ∧ wx = w3)
  case first =>
    by_cases h1 : o.other < 0
    · have d1 : decide (o.other < 0) = true := decide_eq_true h1
      have HN := Aside0.mk (nn_neg HO.out.o.ot h1 HQO.out)
      go_wp2_with fail
      go_meet
      case rel => exact ⟨by rw [HN.out], rfl⟩
    · have d1 : decide (o.other < 0) = false := decide_eq_false h1
      have HN := Aside0.mk (nn_pos h1 HQO.out)
      go_wp2_with fail
      go_meet
      case rel => exact ⟨by rw [HN.out], rfl⟩
  case rest =>
  obtain ⟨rfl, hw⟩ := hcut
  replace hw := hw.symm
  subst hw
  have f14 := blk_frozen HX.out.a 14
  go_upto_region 13 with fail
  clear c0 c1 c2 c3 c4 c5 c6 c7 c8 c9 c10 c11 c12 c13 c14 c15 f14
  rw [setCell_block (t := 36) (i := 14) (cs' := #[.int .i64 ((qk : Int) % 8), .int .i64 ((qs : Int) % 3), .int .i64 o.ak, .bool o.ap, .int .u64 o.av, .int .u8 o.byte, .int .u64 o.va, .int .i64 o.size, .bool o.at_.f0, .bool o.at_.f1, .bool o.at_.f2, .bool o.at_.f3, .bool o.at_.f4, .bool o.at_.f5, .int .i64 ((qo : Int) % 3), .int .u64 o.too]) HX.out.a (.int .i64 ((qo : Int) % 3)) rfl]
  have HX' := Aside0.mk (HX.out.sa (a' := #[.int .i64 ((qk : Int) % 8), .int .i64 ((qs : Int) % 3), .int .i64 o.ak, .bool o.ap, .int .u64 o.av, .int .u8 o.byte, .int .u64 o.va, .int .i64 o.size, .bool o.at_.f0, .bool o.at_.f1, .bool o.at_.f2, .bool o.at_.f3, .bool o.at_.f4, .bool o.at_.f5, .int .i64 ((qo : Int) % 3), .int .u64 o.too]))
  generalize ChangeMaps.setBlock w3 D (.cells #[.int .i64 ((qk : Int) % 8), .int .i64 ((qs : Int) % 3), .int .i64 o.ak, .bool o.ap, .int .u64 o.av, .int .u8 o.byte, .int .u64 o.va, .int .i64 o.size, .bool o.at_.f0, .bool o.at_.f1, .bool o.at_.f2, .bool o.at_.f3, .bool o.at_.f4, .bool o.at_.f5, .int .i64 ((qo : Int) % 3), .int .u64 o.too] 36 (0, 0)) = w4 at *
  clear HX
  have HX := HX'
  clear HX'
  obtain ⟨c0, c1, c2, c3, c4, c5, c6, c7, c8, c9, c10, c11, c12, c13, c14, c15⟩ := cells16 HX.out.a
  go_upto_if 44 with fail
  go_cut [8] (fun v wx => v = .int .i64 (qz : Int) ∧ wx = w4)
  case first =>
    by_cases h1 : o.size < 0
    · have d1 : decide (o.size < 0) = true := decide_eq_true h1
      have HN := Aside0.mk (nn_neg HO.out.o.sz h1 HQZ.out)
      go_wp2_with fail
      go_meet
      case rel => exact ⟨by rw [HN.out], rfl⟩
    · have d1 : decide (o.size < 0) = false := decide_eq_false h1
      have HN := Aside0.mk (nn_pos h1 HQZ.out)
      go_wp2_with fail
      go_meet
      case rel => exact ⟨by rw [HN.out], rfl⟩
  case rest =>
  obtain ⟨rfl, hw⟩ := hcut
  replace hw := hw.symm
  subst hw
  have f7 := blk_frozen HX.out.a 7
  go_upto_region 17 with fail
  clear c0 c1 c2 c3 c4 c5 c6 c7 c8 c9 c10 c11 c12 c13 c14 c15 f7
  rw [setCell_block (t := 36) (i := 7) (cs' := #[.int .i64 ((qk : Int) % 8), .int .i64 ((qs : Int) % 3), .int .i64 o.ak, .bool o.ap, .int .u64 o.av, .int .u8 o.byte, .int .u64 o.va, .int .i64 ((qz : Int) % 4), .bool o.at_.f0, .bool o.at_.f1, .bool o.at_.f2, .bool o.at_.f3, .bool o.at_.f4, .bool o.at_.f5, .int .i64 ((qo : Int) % 3), .int .u64 o.too]) HX.out.a (.int .i64 ((qz : Int) % 4)) rfl]
  have HX' := Aside0.mk (HX.out.sa (a' := #[.int .i64 ((qk : Int) % 8), .int .i64 ((qs : Int) % 3), .int .i64 o.ak, .bool o.ap, .int .u64 o.av, .int .u8 o.byte, .int .u64 o.va, .int .i64 ((qz : Int) % 4), .bool o.at_.f0, .bool o.at_.f1, .bool o.at_.f2, .bool o.at_.f3, .bool o.at_.f4, .bool o.at_.f5, .int .i64 ((qo : Int) % 3), .int .u64 o.too]))
  generalize ChangeMaps.setBlock w4 D (.cells #[.int .i64 ((qk : Int) % 8), .int .i64 ((qs : Int) % 3), .int .i64 o.ak, .bool o.ap, .int .u64 o.av, .int .u8 o.byte, .int .u64 o.va, .int .i64 ((qz : Int) % 4), .bool o.at_.f0, .bool o.at_.f1, .bool o.at_.f2, .bool o.at_.f3, .bool o.at_.f4, .bool o.at_.f5, .int .i64 ((qo : Int) % 3), .int .u64 o.too] 36 (0, 0)) = w5 at *
  clear HX
  have HX := HX'
  clear HX'
  obtain ⟨c0, c1, c2, c3, c4, c5, c6, c7, c8, c9, c10, c11, c12, c13, c14, c15⟩ := cells16 HX.out.a
  have f12 := blk_frozen HX.out.a 12
  go_upto_region 18 with fail
  clear c0 c1 c2 c3 c4 c5 c6 c7 c8 c9 c10 c11 c12 c13 c14 c15 f12
  rw [setCell_block (t := 36) (i := 12) (cs' := #[.int .i64 ((qk : Int) % 8), .int .i64 ((qs : Int) % 3), .int .i64 o.ak, .bool o.ap, .int .u64 o.av, .int .u8 o.byte, .int .u64 o.va, .int .i64 ((qz : Int) % 4), .bool o.at_.f0, .bool o.at_.f1, .bool o.at_.f2, .bool o.at_.f3, .bool false, .bool o.at_.f5, .int .i64 ((qo : Int) % 3), .int .u64 o.too]) HX.out.a (.bool false) rfl]
  have HX' := Aside0.mk (HX.out.sa (a' := #[.int .i64 ((qk : Int) % 8), .int .i64 ((qs : Int) % 3), .int .i64 o.ak, .bool o.ap, .int .u64 o.av, .int .u8 o.byte, .int .u64 o.va, .int .i64 ((qz : Int) % 4), .bool o.at_.f0, .bool o.at_.f1, .bool o.at_.f2, .bool o.at_.f3, .bool false, .bool o.at_.f5, .int .i64 ((qo : Int) % 3), .int .u64 o.too]))
  generalize ChangeMaps.setBlock w5 D (.cells #[.int .i64 ((qk : Int) % 8), .int .i64 ((qs : Int) % 3), .int .i64 o.ak, .bool o.ap, .int .u64 o.av, .int .u8 o.byte, .int .u64 o.va, .int .i64 ((qz : Int) % 4), .bool o.at_.f0, .bool o.at_.f1, .bool o.at_.f2, .bool o.at_.f3, .bool false, .bool o.at_.f5, .int .i64 ((qo : Int) % 3), .int .u64 o.too] 36 (0, 0)) = w6 at *
  clear HX
  have HX := HX'
  clear HX'
  obtain ⟨c0, c1, c2, c3, c4, c5, c6, c7, c8, c9, c10, c11, c12, c13, c14, c15⟩ := cells16 HX.out.a
  have f11 := blk_frozen HX.out.a 11
  go_upto_region 19 with fail
  clear c0 c1 c2 c3 c4 c5 c6 c7 c8 c9 c10 c11 c12 c13 c14 c15 f11
  rw [setCell_block (t := 36) (i := 11) (cs' := #[.int .i64 ((qk : Int) % 8), .int .i64 ((qs : Int) % 3), .int .i64 o.ak, .bool o.ap, .int .u64 o.av, .int .u8 o.byte, .int .u64 o.va, .int .i64 ((qz : Int) % 4), .bool o.at_.f0, .bool o.at_.f1, .bool o.at_.f2, .bool false, .bool false, .bool o.at_.f5, .int .i64 ((qo : Int) % 3), .int .u64 o.too]) HX.out.a (.bool false) rfl]
  have HX' := Aside0.mk (HX.out.sa (a' := #[.int .i64 ((qk : Int) % 8), .int .i64 ((qs : Int) % 3), .int .i64 o.ak, .bool o.ap, .int .u64 o.av, .int .u8 o.byte, .int .u64 o.va, .int .i64 ((qz : Int) % 4), .bool o.at_.f0, .bool o.at_.f1, .bool o.at_.f2, .bool false, .bool false, .bool o.at_.f5, .int .i64 ((qo : Int) % 3), .int .u64 o.too]))
  generalize ChangeMaps.setBlock w6 D (.cells #[.int .i64 ((qk : Int) % 8), .int .i64 ((qs : Int) % 3), .int .i64 o.ak, .bool o.ap, .int .u64 o.av, .int .u8 o.byte, .int .u64 o.va, .int .i64 ((qz : Int) % 4), .bool o.at_.f0, .bool o.at_.f1, .bool o.at_.f2, .bool false, .bool false, .bool o.at_.f5, .int .i64 ((qo : Int) % 3), .int .u64 o.too] 36 (0, 0)) = w7 at *
  clear HX
  have HX := HX'
  clear HX'
  obtain ⟨c0, c1, c2, c3, c4, c5, c6, c7, c8, c9, c10, c11, c12, c13, c14, c15⟩ := cells16 HX.out.a
  rw [HA.out] at c4
  go_wp2_with fail
  refine (good09_calls o.ak o.ap av qa HO.out.a HQA.out HAV.out w7).mono ?_
  rintro e w8 ⟨rfl, hb⟩
  have HX' := Aside0.mk (HX.out.below hb)
  clear HX c0 c1 c2 c3 c4 c5 c6 c7 c8 c9 c10 c11 c12 c13 c14 c15
  have HX := HX'
  clear HX'
  clear hb
  obtain ⟨c0, c1, c2, c3, c4, c5, c6, c7, c8, c9, c10, c11, c12, c13, c14, c15⟩ := cells16 HX.out.a
  have f2 := blk_frozen HX.out.a 2
  have f3 := blk_frozen HX.out.a 3
  have f4 := blk_frozen HX.out.a 4
  go_upto_region 20 with fail
  clear f2 f3 f4 c0 c1 c2 c3 c4 c5 c6 c7 c8 c9 c10 c11 c12 c13 c14 c15
  rw [set234 HX.out.a]
  have HX' := Aside0.mk (HX.out.sa (a' := #[.int .i64 ((qk : Int) % 8), .int .i64 ((qs : Int) % 3), .int .i64 ((qa : Int) % 4), .bool o.ap, .int .u64 ((vaS av : Nat) : Int), .int .u8 o.byte, .int .u64 o.va, .int .i64 ((qz : Int) % 4), .bool o.at_.f0, .bool o.at_.f1, .bool o.at_.f2, .bool false, .bool false, .bool o.at_.f5, .int .i64 ((qo : Int) % 3), .int .u64 o.too]))
  generalize ChangeMaps.setBlock w8 D (.cells #[.int .i64 ((qk : Int) % 8), .int .i64 ((qs : Int) % 3), .int .i64 ((qa : Int) % 4), .bool o.ap, .int .u64 ((vaS av : Nat) : Int), .int .u8 o.byte, .int .u64 o.va, .int .i64 ((qz : Int) % 4), .bool o.at_.f0, .bool o.at_.f1, .bool o.at_.f2, .bool false, .bool false, .bool o.at_.f5, .int .i64 ((qo : Int) % 3), .int .u64 o.too] 36 (0, 0)) = w9 at *
  clear HX
  have HX := HX'
  clear HX'
  obtain ⟨c0, c1, c2, c3, c4, c5, c6, c7, c8, c9, c10, c11, c12, c13, c14, c15⟩ := cells16 HX.out.a
  rw [HV.out] at c6
  go_wp2_with fail
  refine (lookasideref02_Va.calls 90 (va : Int) ((vaS va : Nat) : Int) w9 (va_r va HVA.out)).mono ?_
  rintro e w10 ⟨rfl, hd⟩
  have hb := hd.below
  clear hd
  have HX' := Aside0.mk (HX.out.below hb)
  clear HX c0 c1 c2 c3 c4 c5 c6 c7 c8 c9 c10 c11 c12 c13 c14 c15
  have HX := HX'
  clear HX'
  clear hb
  obtain ⟨c0, c1, c2, c3, c4, c5, c6, c7, c8, c9, c10, c11, c12, c13, c14, c15⟩ := cells16 HX.out.a
  have f6 := blk_frozen HX.out.a 6
  go_upto_region 21 with fail
  clear c0 c1 c2 c3 c4 c5 c6 c7 c8 c9 c10 c11 c12 c13 c14 c15 f6
  rw [setCell_block (t := 36) (i := 6) (cs' := #[.int .i64 ((qk : Int) % 8), .int .i64 ((qs : Int) % 3), .int .i64 ((qa : Int) % 4), .bool o.ap, .int .u64 ((vaS av : Nat) : Int), .int .u8 o.byte, .int .u64 ((vaS va : Nat) : Int), .int .i64 ((qz : Int) % 4), .bool o.at_.f0, .bool o.at_.f1, .bool o.at_.f2, .bool false, .bool false, .bool o.at_.f5, .int .i64 ((qo : Int) % 3), .int .u64 o.too]) HX.out.a (.int .u64 ((vaS va : Nat) : Int)) rfl]
  have HX' := Aside0.mk (HX.out.sa (a' := #[.int .i64 ((qk : Int) % 8), .int .i64 ((qs : Int) % 3), .int .i64 ((qa : Int) % 4), .bool o.ap, .int .u64 ((vaS av : Nat) : Int), .int .u8 o.byte, .int .u64 ((vaS va : Nat) : Int), .int .i64 ((qz : Int) % 4), .bool o.at_.f0, .bool o.at_.f1, .bool o.at_.f2, .bool false, .bool false, .bool o.at_.f5, .int .i64 ((qo : Int) % 3), .int .u64 o.too]))
  generalize ChangeMaps.setBlock w10 D (.cells #[.int .i64 ((qk : Int) % 8), .int .i64 ((qs : Int) % 3), .int .i64 ((qa : Int) % 4), .bool o.ap, .int .u64 ((vaS av : Nat) : Int), .int .u8 o.byte, .int .u64 ((vaS va : Nat) : Int), .int .i64 ((qz : Int) % 4), .bool o.at_.f0, .bool o.at_.f1, .bool o.at_.f2, .bool false, .bool false, .bool o.at_.f5, .int .i64 ((qo : Int) % 3), .int .u64 o.too] 36 (0, 0)) = w11 at *
  clear HX
  have HX := HX'
  clear HX'
  obtain ⟨c0, c1, c2, c3, c4, c5, c6, c7, c8, c9, c10, c11, c12, c13, c14, c15⟩ := cells16 HX.out.a
  rw [HT.out] at c15
  go_wp2_with fail
  refine (lookasideref02_Va.calls 90 (ta : Int) ((vaS ta : Nat) : Int) w11 (va_r ta HTA.out)).mono ?_
  rintro e w12 ⟨rfl, hd⟩
  have hb := hd.below
  clear hd
  have HX' := Aside0.mk (HX.out.below hb)
  clear HX c0 c1 c2 c3 c4 c5 c6 c7 c8 c9 c10 c11 c12 c13 c14 c15
  have HX := HX'
  clear HX'
  clear hb
  obtain ⟨c0, c1, c2, c3, c4, c5, c6, c7, c8, c9, c10, c11, c12, c13, c14, c15⟩ := cells16 HX.out.a
  have f15 := blk_frozen HX.out.a 15
  go_upto_region 22 with fail
  clear c0 c1 c2 c3 c4 c5 c6 c7 c8 c9 c10 c11 c12 c13 c14 c15 f15
  rw [setCell_block (t := 36) (i := 15) (cs' := #[.int .i64 ((qk : Int) % 8), .int .i64 ((qs : Int) % 3), .int .i64 ((qa : Int) % 4), .bool o.ap, .int .u64 ((vaS av : Nat) : Int), .int .u8 o.byte, .int .u64 ((vaS va : Nat) : Int), .int .i64 ((qz : Int) % 4), .bool o.at_.f0, .bool o.at_.f1, .bool o.at_.f2, .bool false, .bool false, .bool o.at_.f5, .int .i64 ((qo : Int) % 3), .int .u64 ((vaS ta : Nat) : Int)]) HX.out.a (.int .u64 ((vaS ta : Nat) : Int)) rfl]
  have HX' := Aside0.mk (HX.out.sa (a' := #[.int .i64 ((qk : Int) % 8), .int .i64 ((qs : Int) % 3), .int .i64 ((qa : Int) % 4), .bool o.ap, .int .u64 ((vaS av : Nat) : Int), .int .u8 o.byte, .int .u64 ((vaS va : Nat) : Int), .int .i64 ((qz : Int) % 4), .bool o.at_.f0, .bool o.at_.f1, .bool o.at_.f2, .bool false, .bool false, .bool o.at_.f5, .int .i64 ((qo : Int) % 3), .int .u64 ((vaS ta : Nat) : Int)]))
  generalize ChangeMaps.setBlock w12 D (.cells #[.int .i64 ((qk : Int) % 8), .int .i64 ((qs : Int) % 3), .int .i64 ((qa : Int) % 4), .bool o.ap, .int .u64 ((vaS av : Nat) : Int), .int .u8 o.byte, .int .u64 ((vaS va : Nat) : Int), .int .i64 ((qz : Int) % 4), .bool o.at_.f0, .bool o.at_.f1, .bool o.at_.f2, .bool false, .bool false, .bool o.at_.f5, .int .i64 ((qo : Int) % 3), .int .u64 ((vaS ta : Nat) : Int)] 36 (0, 0)) = w13 at *
  clear HX
  have HX := HX'
  clear HX'
  by_cases hk : qk % 8 = 1
  · have HK := Aside0.mk hk
    have hb1 : ((qk : Int) % 8 == 1) = true := beq_iff_eq.2 (by omega)
    clear hk
    obtain ⟨c0, c1, c2, c3, c4, c5, c6, c7, c8, c9, c10, c11, c12, c13, c14, c15⟩ := cells16 HX.out.a
    go_wp2_with fail
    refine (lookasideref02_Base.calls ((vaS va : Nat) : Int) ((qz : Int) % 4) ((bs (vaS va) (qz % 4) : Nat) : Int) w13 (by rw [show (qz : Int) % 4 = ((qz % 4 : Nat) : Int) by omega]; exact base_r (vaS va) (qz % 4) (vaS_lt va) (Nat.mod_lt _ (by omega)))).mono ?_
    rintro e w14 ⟨rfl, hd⟩
    have hb := hd.below
    clear hd
    have HX' := Aside0.mk (HX.out.below hb)
    clear HX c0 c1 c2 c3 c4 c5 c6 c7 c8 c9 c10 c11 c12 c13 c14 c15
    have HX := HX'
    clear HX'
    clear hb
    obtain ⟨c0, c1, c2, c3, c4, c5, c6, c7, c8, c9, c10, c11, c12, c13, c14, c15⟩ := cells16 HX.out.a
    have f6 := blk_frozen HX.out.a 6
    go_upto_region 24 with fail
    clear c0 c1 c2 c3 c4 c5 c6 c7 c8 c9 c10 c11 c12 c13 c14 c15 f6
    rw [setCell_block (t := 36) (i := 6) (cs' := #[.int .i64 ((qk : Int) % 8), .int .i64 ((qs : Int) % 3), .int .i64 ((qa : Int) % 4), .bool o.ap, .int .u64 ((vaS av : Nat) : Int), .int .u8 o.byte, .int .u64 ((bs (vaS va) (qz % 4) : Nat) : Int), .int .i64 ((qz : Int) % 4), .bool o.at_.f0, .bool o.at_.f1, .bool o.at_.f2, .bool false, .bool false, .bool o.at_.f5, .int .i64 ((qo : Int) % 3), .int .u64 ((vaS ta : Nat) : Int)]) HX.out.a (.int .u64 ((bs (vaS va) (qz % 4) : Nat) : Int)) rfl]
    have HX' := Aside0.mk (HX.out.sa (a' := #[.int .i64 ((qk : Int) % 8), .int .i64 ((qs : Int) % 3), .int .i64 ((qa : Int) % 4), .bool o.ap, .int .u64 ((vaS av : Nat) : Int), .int .u8 o.byte, .int .u64 ((bs (vaS va) (qz % 4) : Nat) : Int), .int .i64 ((qz : Int) % 4), .bool o.at_.f0, .bool o.at_.f1, .bool o.at_.f2, .bool false, .bool false, .bool o.at_.f5, .int .i64 ((qo : Int) % 3), .int .u64 ((vaS ta : Nat) : Int)]))
    generalize ChangeMaps.setBlock w14 D (.cells #[.int .i64 ((qk : Int) % 8), .int .i64 ((qs : Int) % 3), .int .i64 ((qa : Int) % 4), .bool o.ap, .int .u64 ((vaS av : Nat) : Int), .int .u8 o.byte, .int .u64 ((bs (vaS va) (qz % 4) : Nat) : Int), .int .i64 ((qz : Int) % 4), .bool o.at_.f0, .bool o.at_.f1, .bool o.at_.f2, .bool false, .bool false, .bool o.at_.f5, .int .i64 ((qo : Int) % 3), .int .u64 ((vaS ta : Nat) : Int)] 36 (0, 0)) = w15 at *
    clear HX
    have HX := HX'
    clear HX'
    obtain ⟨d0, d1, d2, d3, d4, d5, d6, d7, d8, d9, d10, d11, d12, d13, d14, d15⟩ := cells16 HX.out.b
    have g0 := blk_frozen HX.out.b 0
    have g1 := blk_frozen HX.out.b 1
    have g2 := blk_frozen HX.out.b 2
    have g3 := blk_frozen HX.out.b 3
    have g4 := blk_frozen HX.out.b 4
    have g5 := blk_frozen HX.out.b 5
    have g6 := blk_frozen HX.out.b 6
    have g7 := blk_frozen HX.out.b 7
    have g8 := blk_frozen HX.out.b 8
    have g9 := blk_frozen HX.out.b 9
    have g10 := blk_frozen HX.out.b 10
    have g11 := blk_frozen HX.out.b 11
    have g12 := blk_frozen HX.out.b 12
    have g13 := blk_frozen HX.out.b 13
    have g14 := blk_frozen HX.out.b 14
    have g15 := blk_frozen HX.out.b 15
    obtain ⟨c0, c1, c2, c3, c4, c5, c6, c7, c8, c9, c10, c11, c12, c13, c14, c15⟩ := cells16 HX.out.a
    go_wp2_with fail
    rw [set16 HX.out.b]
    refine bodyPost_ret (results_cell_row rfl _ _ (D + 1) 36 _ (0, 0) _ rfl (sb_same HX.out.b _) Try.underlying36 rfl (by kernel_rfl)) rfl ?_
    have hx4 := HX.out.sb (b' := #[.int .i64 ((qk : Int) % 8), .int .i64 ((qs : Int) % 3), .int .i64 ((qa : Int) % 4), .bool o.ap, .int .u64 ((vaS av : Nat) : Int), .int .u8 o.byte, .int .u64 ((bs (vaS va) (qz % 4) : Nat) : Int), .int .i64 ((qz : Int) % 4), .bool o.at_.f0, .bool o.at_.f1, .bool o.at_.f2, .bool false, .bool false, .bool o.at_.f5, .int .i64 ((qo : Int) % 3), .int .u64 ((vaS ta : Nat) : Int)])
    rw [HG.out]
    rw [if_pos HK.out]
    exact ⟨rfl, hx4.lo⟩
  · have HK := Aside0.mk hk
    have hb1 : ((qk : Int) % 8 == 1) = false := beq_eq_false_iff_ne.2 (by omega)
    clear hk
    obtain ⟨d0, d1, d2, d3, d4, d5, d6, d7, d8, d9, d10, d11, d12, d13, d14, d15⟩ := cells16 HX.out.b
    have g0 := blk_frozen HX.out.b 0
    have g1 := blk_frozen HX.out.b 1
    have g2 := blk_frozen HX.out.b 2
    have g3 := blk_frozen HX.out.b 3
    have g4 := blk_frozen HX.out.b 4
    have g5 := blk_frozen HX.out.b 5
    have g6 := blk_frozen HX.out.b 6
    have g7 := blk_frozen HX.out.b 7
    have g8 := blk_frozen HX.out.b 8
    have g9 := blk_frozen HX.out.b 9
    have g10 := blk_frozen HX.out.b 10
    have g11 := blk_frozen HX.out.b 11
    have g12 := blk_frozen HX.out.b 12
    have g13 := blk_frozen HX.out.b 13
    have g14 := blk_frozen HX.out.b 14
    have g15 := blk_frozen HX.out.b 15
    obtain ⟨c0, c1, c2, c3, c4, c5, c6, c7, c8, c9, c10, c11, c12, c13, c14, c15⟩ := cells16 HX.out.a
    go_wp2_with fail
    rw [set16 HX.out.b]
    refine bodyPost_ret (results_cell_row rfl _ _ (D + 1) 36 _ (0, 0) _ rfl (sb_same HX.out.b _) Try.underlying36 rfl (by kernel_rfl)) rfl ?_
    have hx4 := HX.out.sb (b' := #[.int .i64 ((qk : Int) % 8), .int .i64 ((qs : Int) % 3), .int .i64 ((qa : Int) % 4), .bool o.ap, .int .u64 ((vaS av : Nat) : Int), .int .u8 o.byte, .int .u64 ((vaS va : Nat) : Int), .int .i64 ((qz : Int) % 4), .bool o.at_.f0, .bool o.at_.f1, .bool o.at_.f2, .bool false, .bool false, .bool o.at_.f5, .int .i64 ((qo : Int) % 3), .int .u64 ((vaS ta : Nat) : Int)])
    rw [HG.out]
    rw [if_neg HK.out]
    exact ⟨rfl, hx4.lo⟩
end Go.Proofs.Ytalmemcidbmdgaa.PM



/- The law's operation of an ask (layer 16): the walk. -/
set_option linter.unusedVariables false
set_option linter.unusedSimpArgs false
namespace Go.Proofs.Ytalmemcidbmdgaa.PM
open Go.RowKit Go.Proofs.YtalmemcidbmdgaaW.PrintWords Go.Proofs.YtalmemcidbmdgaaW.PrintLast Go.Proofs.YtalmemcidbmdgaaW.PrintMore Go.Proofs.Ytalmemcidbmdgaa.PageG
attribute [local go_sem] max2_int min2_int max_two min_two max_three min_three max_four min_four   -- for this text's walks alone
structure AskS where
  o : OpS
  raw : Bool
  near : Bool
  place : Int
structure B3 (w W : World) (D : Nat) (t1 t2 t3 : TypeId) (a b c : Array Value) : Prop where
  a : W.heap[D]? = some (.cells a t1 (0, 0))
  b : W.heap[D + 1]? = some (.cells b t2 (0, 0))
  c : W.heap[D + 1 + 1]? = some (.cells c t3 (0, 0))
  lo : Below w.heap.size w W
  hD : w.heap.size = D
theorem B3.below {w W W' : World} {D : Nat} {t1 t2 t3 : TypeId} {a b c : Array Value} (h : B3 w W D t1 t2 t3 a b c) (hb : Below W.heap.size W W') : B3 w W' D t1 t2 t3 a b c :=
  ⟨blk_below h.a hb, blk_below h.b hb, blk_below h.c hb, h.lo.trans (hb.mono h.lo.size), h.hD⟩
theorem B3.mk3 {w : World} {D : Nat} (hD : w.heap.size = D) (t1 t2 t3 : TypeId) (a b c : Array Value) : B3 w (((w.alloc (.cells a t1)).alloc (.cells b t2)).alloc (.cells c t3)) D t1 t2 t3 a b c := by
  have h1 := blk_alloc (blk_alloc (blk_new w (.cells a t1)) (.cells b t2)) (.cells c t3)
  have h2 := blk_alloc (blk_new (w.alloc (.cells a t1)) (.cells b t2)) (.cells c t3)
  have h3 := blk_new ((w.alloc (.cells a t1)).alloc (.cells b t2)) (.cells c t3)
  rw [World.size_alloc] at h2
  rw [World.size_alloc, World.size_alloc] at h3
  rw [hD] at h1 h2 h3
  exact ⟨h1, h2, h3, (((Below.refl _ w).alloc (Nat.le_refl _) _).alloc (by simp) _).alloc (by simp; omega) _, hD⟩
theorem B3.sc {w W : World} {D : Nat} {t1 t2 t3 : TypeId} {a b c c' : Array Value} (h : B3 w W D t1 t2 t3 a b c) : B3 w (ChangeMaps.setBlock W (D + 1 + 1) (.cells c' t3 (0, 0))) D t1 t2 t3 a b c' :=
  ⟨(sb_other _ (by omega)).trans h.a, (sb_other _ (by omega)).trans h.b, sb_same h.c _, below_sb h.lo (by rw [h.hD]; omega) _, h.hD⟩
theorem B3.sx {w W : World} {D g : Nat} {t1 t2 t3 : TypeId} {a b c : Array Value} (h : B3 w W D t1 t2 t3 a b c) (hg : D + 1 + 1 < g) (o : Obj) : B3 w (ChangeMaps.setBlock W g o) D t1 t2 t3 a b c :=
  ⟨(sb_other _ (by omega)).trans h.a, (sb_other _ (by omega)).trans h.b, (sb_other _ (by omega)).trans h.c, below_sb h.lo (by rw [h.hD]; omega) _, h.hD⟩
theorem bs_le (v s : Nat) : bs v s ≤ v := by unfold bs; exact Nat.div_mul_le_self _ _
theorem good_ok {o : OpS} (h : WO o) : OkO (goodS o 3) := by
  have b1 : bs (vaS o.va.toNat) ((nnI o.size).toNat % 4) ≤ vaS o.va.toNat := bs_le _ _
  have b2 := vaS_lt o.va.toNat
  have b3 := vaS_lt o.av.toNat
  have b4 := vaS_lt o.too.toNat
  refine ⟨⟨?_, ?_⟩, ⟨?_, ?_⟩, ⟨?_, ?_⟩, ⟨?_, ?_⟩, ⟨?_, ?_⟩, ⟨?_, ?_⟩, h.o.by_⟩ <;> unfold goodS <;> dsimp only
  all_goals first | omega | (split <;> omega)
theorem bytes_r (z : Nat) (hz : z < 4) : ∃ M : Nat, lookasideref02_Bytes.f (z : Int) = some (M : Int) ∧ 0 < M ∧ M < 2 ^ 64 := by
  have hc : z = 0 ∨ z = 1 ∨ z = 2 ∨ z = 3 := by omega
  rcases hc with rfl | rfl | rfl | rfl
  · exact ⟨8192, rfl, by omega, by omega⟩
  · exact ⟨65536, rfl, by omega, by omega⟩
  · exact ⟨524288, rfl, by omega, by omega⟩
  · exact ⟨4194304, rfl, by omega, by omega⟩
theorem setRow_sb {W : World} {g : Nat} {a : Array Value} {t : TypeId} {fr : Nat × Nat} (h : W.heap[g]? = some (.cells a t fr)) (b : Array Value) : W.setRow g b = ChangeMaps.setBlock W g (.cells b t fr) := by
  have hlt : g < W.heap.size := (Array.getElem?_eq_some_iff.1 h).1
  have hv : W.heap[g] = .cells a t fr := (Array.getElem?_eq_some_iff.1 h).2
  unfold World.setRow ChangeMaps.setBlock
  congr 1
  apply Array.ext
  · simp
  · intro i h1 h2
    rw [Array.getElem_modify, Array.getElem_setIfInBounds]
    split
    · rename_i e
      subst e
      rw [hv]
    · rfl
theorem one_op (o : OpS) : (#[.int .i64 o.kind, .int .i64 o.sp, .int .i64 o.ak, .bool o.ap, .int .u64 o.av, .int .u8 o.byte, .int .u64 o.va, .int .i64 o.size, .bool o.at_.f0, .bool o.at_.f1, .bool o.at_.f2, .bool o.at_.f3, .bool o.at_.f4, .bool o.at_.f5, .int .i64 o.other, .int .u64 o.too] : Array Value).all (·.oneCell') = true := by simp [Value.oneCell']
theorem wrap_ex (a b : Nat) : ∃ r : Nat, IntKind.u64.wrap ((a : Int) + (b : Int)) = (r : Int) ∧ ((a : Int) + (b : Int)) % 18446744073709551616 = (r : Int) ∧ r < 18446744073709551616 := by
  rw [IntKind.wrap_u64]
  exact ⟨(((a : Int) + (b : Int)) % 18446744073709551616).toNat, by omega, by omega, by omega⟩
/-- An operation, and what was there stays. -/
def OpP (w : World) (e : Ending) (w' : World) : Prop := ∃ o' : OpS, OkO o' ∧ e = .returned (.agg #[.int .i64 o'.kind, .int .i64 o'.sp, .int .i64 o'.ak, .bool o'.ap, .int .u64 o'.av, .int .u8 o'.byte, .int .u64 o'.va, .int .i64 o'.size, .bool o'.at_.f0, .bool o'.at_.f1, .bool o'.at_.f2, .bool o'.at_.f3, .bool o'.at_.f4, .bool o'.at_.f5, .int .i64 o'.other, .int .u64 o'.too]) ∧ Below w.heap.size w w'
section
variable {X : Nat → Prop} {w w' : World} {A1 A2 : Option Addr} {c1 c2 : Nat} {s : MS}
set_option maxHeartbeats 8000000 in
set_option maxRecDepth 100000 in
theorem op_calls (hh : DocM w A1 c1 A2 c2 s) {k : Nat} (hw : WfK k s) (hk : k < 1000) (a : AskS) (ho : WO a.o) (hpl : W64 a.place) :
    Calls Try.prog 12 #[.agg #[.int .i64 s.n, .slice A1 s.L.length c1, .slice A2 s.by_.length c2, .int .i64 s.made], .agg #[.int .i64 a.o.kind, .int .i64 a.o.sp, .int .i64 a.o.ak, .bool a.o.ap, .int .u64 a.o.av, .int .u8 a.o.byte, .int .u64 a.o.va, .int .i64 a.o.size, .bool a.o.at_.f0, .bool a.o.at_.f1, .bool a.o.at_.f2, .bool a.o.at_.f3, .bool a.o.at_.f4, .bool a.o.at_.f5, .int .i64 a.o.other, .int .u64 a.o.too, .bool a.raw, .bool a.near, .int .i64 a.place]] w (OpP w) := by
  have HM := Aside0.mk hh
  have HW := Aside0.mk hw
  have HO := Aside0.mk ho
  have HPL := Aside0.mk hpl
  have hf : s.L.length ≤ 100000 := by have := hw.few; omega
  clear hh hw ho hk hpl
  obtain ⟨D, hD⟩ : ∃ D, w.heap.size = D := ⟨_, rfl⟩
  go_enter Try.func12, Try.ntmps12
  go_upto_region 1 with fail
  have hx := B3.mk3 hD 29 39 36 #[.int .i64 s.n, .slice A1 s.L.length c1, .slice A2 s.by_.length c2, .int .i64 s.made] #[.int .i64 a.o.kind, .int .i64 a.o.sp, .int .i64 a.o.ak, .bool a.o.ap, .int .u64 a.o.av, .int .u8 a.o.byte, .int .u64 a.o.va, .int .i64 a.o.size, .bool a.o.at_.f0, .bool a.o.at_.f1, .bool a.o.at_.f2, .bool a.o.at_.f3, .bool a.o.at_.f4, .bool a.o.at_.f5, .int .i64 a.o.other, .int .u64 a.o.too, .bool a.raw, .bool a.near, .int .i64 a.place] #[.int .i64 0, .int .i64 0, .int .i64 0, .bool false, .int .u64 0, .int .u8 0, .int .u64 0, .int .i64 0, .bool false, .bool false, .bool false, .bool false, .bool false, .bool false, .int .i64 0, .int .u64 0]
  have HX := Aside0.mk hx
  generalize ((w.alloc (.cells #[.int .i64 s.n, .slice A1 s.L.length c1, .slice A2 s.by_.length c2, .int .i64 s.made] 29)).alloc (.cells #[.int .i64 a.o.kind, .int .i64 a.o.sp, .int .i64 a.o.ak, .bool a.o.ap, .int .u64 a.o.av, .int .u8 a.o.byte, .int .u64 a.o.va, .int .i64 a.o.size, .bool a.o.at_.f0, .bool a.o.at_.f1, .bool a.o.at_.f2, .bool a.o.at_.f3, .bool a.o.at_.f4, .bool a.o.at_.f5, .int .i64 a.o.other, .int .u64 a.o.too, .bool a.raw, .bool a.near, .int .i64 a.place] 39)).alloc (.cells #[.int .i64 0, .int .i64 0, .int .i64 0, .bool false, .int .u64 0, .int .u8 0, .int .u64 0, .int .i64 0, .bool false, .bool false, .bool false, .bool false, .bool false, .bool false, .int .i64 0, .int .u64 0] 36) = w1 at *
  clear hx hD
  have a0 : w1.cell? ⟨D + 1, 0, none⟩ = some (.int .i64 a.o.kind) := (blk_cell HX.out.b 0).trans rfl
  have a1 : w1.cell? ⟨D + 1, 1, none⟩ = some (.int .i64 a.o.sp) := (blk_cell HX.out.b 1).trans rfl
  have a2 : w1.cell? ⟨D + 1, 2, none⟩ = some (.int .i64 a.o.ak) := (blk_cell HX.out.b 2).trans rfl
  have a3 : w1.cell? ⟨D + 1, 3, none⟩ = some (.bool a.o.ap) := (blk_cell HX.out.b 3).trans rfl
  have a4 : w1.cell? ⟨D + 1, 4, none⟩ = some (.int .u64 a.o.av) := (blk_cell HX.out.b 4).trans rfl
  have a5 : w1.cell? ⟨D + 1, 5, none⟩ = some (.int .u8 a.o.byte) := (blk_cell HX.out.b 5).trans rfl
  have a6 : w1.cell? ⟨D + 1, 6, none⟩ = some (.int .u64 a.o.va) := (blk_cell HX.out.b 6).trans rfl
  have a7 : w1.cell? ⟨D + 1, 7, none⟩ = some (.int .i64 a.o.size) := (blk_cell HX.out.b 7).trans rfl
  have a8 : w1.cell? ⟨D + 1, 8, none⟩ = some (.bool a.o.at_.f0) := (blk_cell HX.out.b 8).trans rfl
  have a9 : w1.cell? ⟨D + 1, 9, none⟩ = some (.bool a.o.at_.f1) := (blk_cell HX.out.b 9).trans rfl
  have a10 : w1.cell? ⟨D + 1, 10, none⟩ = some (.bool a.o.at_.f2) := (blk_cell HX.out.b 10).trans rfl
  have a11 : w1.cell? ⟨D + 1, 11, none⟩ = some (.bool a.o.at_.f3) := (blk_cell HX.out.b 11).trans rfl
  have a12 : w1.cell? ⟨D + 1, 12, none⟩ = some (.bool a.o.at_.f4) := (blk_cell HX.out.b 12).trans rfl
  have a13 : w1.cell? ⟨D + 1, 13, none⟩ = some (.bool a.o.at_.f5) := (blk_cell HX.out.b 13).trans rfl
  have a14 : w1.cell? ⟨D + 1, 14, none⟩ = some (.int .i64 a.o.other) := (blk_cell HX.out.b 14).trans rfl
  have a15 : w1.cell? ⟨D + 1, 15, none⟩ = some (.int .u64 a.o.too) := (blk_cell HX.out.b 15).trans rfl
  have a16 : w1.cell? ⟨D + 1, 16, none⟩ = some (.bool a.raw) := (blk_cell HX.out.b 16).trans rfl
  have a17 : w1.cell? ⟨D + 1, 17, none⟩ = some (.bool a.near) := (blk_cell HX.out.b 17).trans rfl
  have a18 : w1.cell? ⟨D + 1, 18, none⟩ = some (.int .i64 a.place) := (blk_cell HX.out.b 18).trans rfl
  cases hraw : a.raw with
  | true =>
    rw [hraw] at a16
    clear hraw
    go_wp2_with (refine wpList_store_row rfl 36 _ _ rfl (D + 1 + 1) #[.int .i64 a.o.kind, .int .i64 a.o.sp, .int .i64 a.o.ak, .bool a.o.ap, .int .u64 a.o.av, .int .u8 a.o.byte, .int .u64 a.o.va, .int .i64 a.o.size, .bool a.o.at_.f0, .bool a.o.at_.f1, .bool a.o.at_.f2, .bool a.o.at_.f3, .bool a.o.at_.f4, .bool a.o.at_.f5, .int .i64 a.o.other, .int .u64 a.o.too] rfl rfl 36 #[.int .i64 0, .int .i64 0, .int .i64 0, .bool false, .int .u64 0, .int .u8 0, .int .u64 0, .int .i64 0, .bool false, .bool false, .bool false, .bool false, .bool false, .bool false, .int .i64 0, .int .u64 0] HX.out.c (by kernel_rfl) rfl (one_op a.o) ?_)
    rw [setRow_sb HX.out.c]
    refine bodyPost_ret (results_cell_row rfl _ _ (D + 1 + 1) 36 _ (0, 0) _ rfl (sb_same HX.out.c _) Try.underlying36 rfl (by kernel_rfl)) rfl ?_
    have hx4 := HX.out.sc (c' := #[.int .i64 a.o.kind, .int .i64 a.o.sp, .int .i64 a.o.ak, .bool a.o.ap, .int .u64 a.o.av, .int .u8 a.o.byte, .int .u64 a.o.va, .int .i64 a.o.size, .bool a.o.at_.f0, .bool a.o.at_.f1, .bool a.o.at_.f2, .bool a.o.at_.f3, .bool a.o.at_.f4, .bool a.o.at_.f5, .int .i64 a.o.other, .int .u64 a.o.too])
    exact ⟨a.o, HO.out.o, rfl, hx4.lo⟩
  | false =>
    rw [hraw] at a16
    clear hraw
    go_wp2_with fail
    refine (good_calls a.o HO.out w1).mono ?_
    obtain ⟨g, hg⟩ : ∃ g, goodS a.o 3 = g := ⟨_, rfl⟩
    have hgo := good_ok HO.out
    rw [hg] at hgo ⊢
    have HGO := Aside0.mk hgo
    clear hg hgo
    rintro e w2' ⟨rfl, hb⟩
    have HX2' := Aside0.mk (HX.out.below hb)
    clear hb HX a0 a1 a2 a3 a4 a5 a6 a7 a8 a9 a10 a11 a12 a13 a14 a15 a16 a17 a18
    go_upto_region 4 with fail
    have hal := (Below.refl _ w2').alloc (Nat.le_refl _) (.cells #[.int .i64 g.kind, .int .i64 g.sp, .int .i64 g.ak, .bool g.ap, .int .u64 g.av, .int .u8 g.byte, .int .u64 g.va, .int .i64 g.size, .bool g.at_.f0, .bool g.at_.f1, .bool g.at_.f2, .bool g.at_.f3, .bool g.at_.f4, .bool g.at_.f5, .int .i64 g.other, .int .u64 g.too] 36)
    have hn := blk_new w2' (.cells #[.int .i64 g.kind, .int .i64 g.sp, .int .i64 g.ak, .bool g.ap, .int .u64 g.av, .int .u8 g.byte, .int .u64 g.va, .int .i64 g.size, .bool g.at_.f0, .bool g.at_.f1, .bool g.at_.f2, .bool g.at_.f3, .bool g.at_.f4, .bool g.at_.f5, .int .i64 g.other, .int .u64 g.too] 36)
    have HX2 := Aside0.mk (HX2'.out.below hal)
    have HG2 := Aside0.mk hn
    have HGD := Aside0.mk (show D + 1 + 1 < w2'.heap.size from blk_lt HX2'.out.c)
    generalize w2'.alloc (.cells #[.int .i64 g.kind, .int .i64 g.sp, .int .i64 g.ak, .bool g.ap, .int .u64 g.av, .int .u8 g.byte, .int .u64 g.va, .int .i64 g.size, .bool g.at_.f0, .bool g.at_.f1, .bool g.at_.f2, .bool g.at_.f3, .bool g.at_.f4, .bool g.at_.f5, .int .i64 g.other, .int .u64 g.too] 36) = w2 at *
    generalize w2'.heap.size = G at *
    clear hal hn HX2'
    obtain ⟨x0, x1, x2, x3⟩ := cells4 HX2.out.a
    obtain ⟨-, c1', -⟩ := cells16 HG2.out
    go_wp2_with fail
    refine (lookasideref16_Pages.calls _ s.n A1 c1 s.L A2 c2 s.by_ s.made g.sp (pagesS s g.sp) w2 (HM.out.below HX2.out.lo).l (HM.out.below HX2.out.lo).lc (HM.out.below HX2.out.lo).b (HM.out.below HX2.out.lo).bc (pages_r HW.out.wl hf g.sp)).mono ?_
    rintro e w3 ⟨v0, rfl, hr, hb⟩
    obtain ⟨Ap, cp, rfl⟩ := Kd.R_slice hr
    have HX3 := Aside0.mk (HX2.out.below hb)
    have HG3 := Aside0.mk (blk_below HG2.out hb)
    have HP3 := Aside0.mk hr
    have hplen : (pagesS s g.sp).length ≤ 100000 := Nat.le_trans (pagesS_len s g.sp) hf
    have HPM := Aside0.mk (pagesS_perm s g.sp)
    clear hb hr HX2 HG2 x0 x1 x2 x3 c1'
    obtain ⟨pl, hpe⟩ : ∃ n, (pagesS s g.sp).length = n := ⟨_, rfl⟩
    have HPE := Aside0.mk hpe
    rw [hpe] at hplen ⊢
    rw [hpe] at HP3
    clear hpe
    have a17 : w3.cell? ⟨D + 1, 17, none⟩ = some (.bool a.near) := (blk_cell HX3.out.b 17).trans rfl
    have a18 : w3.cell? ⟨D + 1, 18, none⟩ = some (.int .i64 a.place) := (blk_cell HX3.out.b 18).trans rfl
    cases hnr : a.near with
    | false =>
      rw [hnr] at a17
      clear hnr
      go_wp2_with (first | (refine wpList_load_row rfl 36 _ rfl G rfl 36 #[.int .i64 g.kind, .int .i64 g.sp, .int .i64 g.ak, .bool g.ap, .int .u64 g.av, .int .u8 g.byte, .int .u64 g.va, .int .i64 g.size, .bool g.at_.f0, .bool g.at_.f1, .bool g.at_.f2, .bool g.at_.f3, .bool g.at_.f4, .bool g.at_.f5, .int .i64 g.other, .int .u64 g.too] (0, 0) _ HG3.out Try.underlying36 rfl (by kernel_rfl) ?_) | (refine wpList_store_row rfl 36 _ _ rfl (D + 1 + 1) #[.int .i64 g.kind, .int .i64 g.sp, .int .i64 g.ak, .bool g.ap, .int .u64 g.av, .int .u8 g.byte, .int .u64 g.va, .int .i64 g.size, .bool g.at_.f0, .bool g.at_.f1, .bool g.at_.f2, .bool g.at_.f3, .bool g.at_.f4, .bool g.at_.f5, .int .i64 g.other, .int .u64 g.too] rfl rfl 36 #[.int .i64 0, .int .i64 0, .int .i64 0, .bool false, .int .u64 0, .int .u8 0, .int .u64 0, .int .i64 0, .bool false, .bool false, .bool false, .bool false, .bool false, .bool false, .int .i64 0, .int .u64 0] HX3.out.c (by kernel_rfl) rfl (one_op g) ?_))
      rw [setRow_sb HX3.out.c]
      refine bodyPost_ret (results_cell_row rfl _ _ (D + 1 + 1) 36 _ (0, 0) _ rfl (sb_same HX3.out.c _) Try.underlying36 rfl (by kernel_rfl)) rfl ?_
      have hx4 := HX3.out.sc (c' := #[.int .i64 g.kind, .int .i64 g.sp, .int .i64 g.ak, .bool g.ap, .int .u64 g.av, .int .u8 g.byte, .int .u64 g.va, .int .i64 g.size, .bool g.at_.f0, .bool g.at_.f1, .bool g.at_.f2, .bool g.at_.f3, .bool g.at_.f4, .bool g.at_.f5, .int .i64 g.other, .int .u64 g.too])
      exact ⟨g, HGO.out, rfl, hx4.lo⟩
    | true =>
      rw [hnr] at a17
      clear hnr
      by_cases hl0 : pl = 0
      · subst hl0
        go_wp2_with (first | (refine wpList_load_row rfl 36 _ rfl G rfl 36 #[.int .i64 g.kind, .int .i64 g.sp, .int .i64 g.ak, .bool g.ap, .int .u64 g.av, .int .u8 g.byte, .int .u64 g.va, .int .i64 g.size, .bool g.at_.f0, .bool g.at_.f1, .bool g.at_.f2, .bool g.at_.f3, .bool g.at_.f4, .bool g.at_.f5, .int .i64 g.other, .int .u64 g.too] (0, 0) _ HG3.out Try.underlying36 rfl (by kernel_rfl) ?_) | (refine wpList_store_row rfl 36 _ _ rfl (D + 1 + 1) #[.int .i64 g.kind, .int .i64 g.sp, .int .i64 g.ak, .bool g.ap, .int .u64 g.av, .int .u8 g.byte, .int .u64 g.va, .int .i64 g.size, .bool g.at_.f0, .bool g.at_.f1, .bool g.at_.f2, .bool g.at_.f3, .bool g.at_.f4, .bool g.at_.f5, .int .i64 g.other, .int .u64 g.too] rfl rfl 36 #[.int .i64 0, .int .i64 0, .int .i64 0, .bool false, .int .u64 0, .int .u8 0, .int .u64 0, .int .i64 0, .bool false, .bool false, .bool false, .bool false, .bool false, .bool false, .int .i64 0, .int .u64 0] HX3.out.c (by kernel_rfl) rfl (one_op g) ?_))
        rw [setRow_sb HX3.out.c]
        refine bodyPost_ret (results_cell_row rfl _ _ (D + 1 + 1) 36 _ (0, 0) _ rfl (sb_same HX3.out.c _) Try.underlying36 rfl (by kernel_rfl)) rfl ?_
        have hx4 := HX3.out.sc (c' := #[.int .i64 g.kind, .int .i64 g.sp, .int .i64 g.ak, .bool g.ap, .int .u64 g.av, .int .u8 g.byte, .int .u64 g.va, .int .i64 g.size, .bool g.at_.f0, .bool g.at_.f1, .bool g.at_.f2, .bool g.at_.f3, .bool g.at_.f4, .bool g.at_.f5, .int .i64 g.other, .int .u64 g.too])
        exact ⟨g, HGO.out, rfl, hx4.lo⟩
      · have hb0 : ((pl : Int) == 0) = false := beq_eq_false_iff_ne.2 (by omega)
        obtain ⟨q, hq, hq1⟩ := nnI_nat HPL.out
        have HQ := Aside0.mk hq
        clear hq
        go_upto_if 33 with fail
        clear a17
        go_cut [7] (fun v wx => v = .int .i64 (q : Int) ∧ wx = w3)
        case first =>
          by_cases h1 : a.place < 0
          · have d1 : decide (a.place < 0) = true := decide_eq_true h1
            have HN := Aside0.mk (nn_neg HPL.out h1 HQ.out)
            go_wp2_with fail
            go_meet
            case rel => exact ⟨by rw [HN.out], rfl⟩
          · have d1 : decide (a.place < 0) = false := decide_eq_false h1
            have HN := Aside0.mk (nn_pos h1 HQ.out)
            go_wp2_with fail
            go_meet
            case rel => exact ⟨by rw [HN.out], rfl⟩
        case rest =>
        obtain ⟨rfl, hw⟩ := hcut
        replace hw := hw.symm
        subst hw
        have hjl : q % pl < pl := Nat.mod_lt _ (by omega)
        obtain ⟨j, hj⟩ : ∃ j, q % pl = j := ⟨_, rfl⟩
        rw [hj] at hjl
        have hjm : (q : Int) % (pl : Int) = (j : Int) := by rw [← hj]; exact (Int.natCast_emod q pl).symm
        have hjt : Int.tmod (q : Int) (pl : Int) = (j : Int) := by rw [tmod_nat, hj]
        have hk0 : (0 : Int) ≤ (j : Int) := by omega
        have hk1 : (j : Int) < (pl : Int) := by omega
        have hrd : rd_T50 (pagesS s g.sp) (j : Int) = (pagesS s g.sp)[j]'(by rw [HPE.out]; exact hjl) := by simp [rd_T50, List.getD_eq_getElem?_getD, show j < (pagesS s g.sp).length by rw [HPE.out]; exact hjl]
        obtain ⟨p, hp⟩ : ∃ p, (pagesS s g.sp)[j]'(by rw [HPE.out]; exact hjl) = p := ⟨_, rfl⟩
        have hpm : p ∈ sel g.sp s.L := HPM.out.mem_iff.1 (by rw [← hp]; exact List.getElem_mem _)
        unfold sel at hpm
        obtain ⟨x, hx, hxp⟩ := List.mem_map.1 hpm
        have hxo := HW.out.wl.ok x (List.mem_filter.1 hx).1
        rw [hp] at hrd
        have hpc := (Kd.R_reads' HP3.out)
        rw [HPE.out] at hpc
        obtain ⟨ad, hA, q0, q1, q2, q3, q4, q5, q6, q7, q8, q9, q10⟩ := at_T50 hpc.2.2 (j : Int) hk0 hk1
        subst hA
        rw [hrd, Int.toNat_natCast] at q0 q1 q2 q3 q4 q5 q6 q7 q8 q9 q10
        obtain ⟨sz, hsz⟩ : ∃ z : Nat, p.f1 = (z : Int) := ⟨szN x, by rw [← hxp]; exact hxo.sz⟩
        have hsz4 : sz < 4 := by have := hxo.sz1; have := hxo.sz; rw [hxp] at this; omega
        obtain ⟨pv, hpv⟩ : ∃ z : Nat, p.f0 = (z : Int) := ⟨vaN x, by rw [← hxp]; exact hxo.va⟩
        obtain ⟨M, hM, hM0, hM1⟩ := bytes_r sz hsz4
        have HBY := Aside0.mk hM
        have HSZ := Aside0.mk hsz
        have HPV := Aside0.mk hpv
        have HS4 := Aside0.mk hsz4
        clear hrd hp hpm hx hxp hxo hpc hM hsz hpv HP3 hsz4
        go_upto_region 11 with fail
        have hal := (Below.refl _ w3).alloc (Nat.le_refl _) (.cells #[.int .u64 p.f0, .int .i64 p.f1, .int .u64 p.f2, .bool p.f3.f0, .bool p.f3.f1, .bool p.f3.f2, .bool p.f3.f3, .bool p.f3.f4, .bool p.f3.f5, .bool p.f4, .bool p.f5] 50)
        have hn := blk_new w3 (.cells #[.int .u64 p.f0, .int .i64 p.f1, .int .u64 p.f2, .bool p.f3.f0, .bool p.f3.f1, .bool p.f3.f2, .bool p.f3.f3, .bool p.f3.f4, .bool p.f3.f5, .bool p.f4, .bool p.f5] 50)
        have HX4 := Aside0.mk (HX3.out.below hal)
        have HG4 := Aside0.mk (blk_below HG3.out hal)
        have HP4 := Aside0.mk hn
        have HGG := Aside0.mk (show G < w3.heap.size from blk_lt HG3.out)
        generalize w3.alloc (.cells #[.int .u64 p.f0, .int .i64 p.f1, .int .u64 p.f2, .bool p.f3.f0, .bool p.f3.f1, .bool p.f3.f2, .bool p.f3.f3, .bool p.f3.f4, .bool p.f3.f5, .bool p.f4, .bool p.f5] 50) = w4 at *
        generalize w3.heap.size = G2 at *
        clear hal hn HX3 HG3 a18 q0 q1 q2 q3 q4 q5 q6 q7 q8 q9 q10 hk0 hk1 hjm hjt hjl hj hb0
        obtain ⟨gva, hgva⟩ : ∃ z : Nat, g.va = (z : Int) := ⟨g.va.toNat, by have := HGO.out.va; omega⟩
        have HGV := Aside0.mk hgva
        obtain ⟨-, -, -, -, -, -, c6, -⟩ := cells16 HG4.out
        obtain ⟨-, p1, -⟩ := cells11 HP4.out
        rw [hgva] at c6
        rw [HSZ.out] at p1
        clear hgva
        have hm0 : (M : Int) ≠ 0 := by omega
        have hmz : ¬ M = 0 := by omega
        obtain ⟨off, hoff⟩ : ∃ z, gva % M = z := ⟨_, rfl⟩
        have HOFF := Aside0.mk (show off < 2 ^ 64 by have : gva % M < M := Nat.mod_lt _ hM0; omega)
        have hmm : Int.tmod (gva : Int) (M : Int) = (off : Int) := by rw [tmod_nat, hoff]
        have hme : (gva : Int) % (M : Int) = (off : Int) := by rw [← hoff]; exact (Int.natCast_emod gva M).symm
        have HH := Aside0.mk (show ∀ W, Below w4.heap.size w4 W → (W.cell? ⟨G, 6, none⟩ = some (.int .u64 (gva : Int)) ∧ W.cell? ⟨G2, 1, none⟩ = some (.int .i64 (sz : Int))) from fun W hb => by
          obtain ⟨-, -, -, -, -, -, c6, -⟩ := cells16 (blk_below HG4.out hb)
          obtain ⟨-, p1, -⟩ := cells11 (blk_below HP4.out hb)
          rw [HGV.out] at c6
          rw [HSZ.out] at p1
          exact ⟨c6, p1⟩)
        refine start_ (n := 7) (S := fun w' => w'.cell? ⟨G, 6, none⟩ = some (.int .u64 (gva : Int)) ∧ w'.cell? ⟨G2, 1, none⟩ = some (.int .i64 (sz : Int))) (ds := []) #[false, false, false, false, false, false, false] (by kernel_rfl) rfl rfl (by exact ⟨c6, p1⟩) (fun hHeld => ?_)
        refine pure_ (i := 0) (N := some 44) (v := ?_) (a' := ?_) #[true, false, false, false, false, false, false] rfl rfl (by kernel_rfl) (fun _ _ _ h => h) (Or.inl ⟨by rfl, ?_⟩) ?_ ?_
        rotate_left
        · intro w'
          go_simp
          with_reducible rfl
        rotate_left
        · simp only [Act.put, List.setIfInBounds_toArray, List.set_cons_zero, List.set_cons_succ, i64_w, i32_w]
          rfl
        refine pure_ (i := 2) (N := some 46) (v := ?_) (a' := ?_) #[true, false, true, false, false, false, false] rfl rfl (by kernel_rfl) (fun _ _ _ h => h) (Or.inl ⟨by rfl, ?_⟩) ?_ ?_
        rotate_left
        · intro w'
          go_simp
          with_reducible rfl
        rotate_left
        · simp only [Act.put, List.setIfInBounds_toArray, List.set_cons_zero, List.set_cons_succ, i64_w, i32_w]
          rfl
        refine take_ (i := 1) (N := some 45) (v := ?_) (a' := ?_) #[true, true, true, false, false, false, false] rfl rfl (by kernel_rfl) (fun _ _ _ h => h) (Or.inl ⟨by rfl, ?_⟩) hHeld ?_ ?_
        rotate_left
        · rintro w' ⟨s0, s1⟩
          go_simp
          with_reducible rfl
        rotate_left
        · simp only [Act.put, List.setIfInBounds_toArray, List.set_cons_zero, List.set_cons_succ, i64_w, i32_w]
          rfl
        refine take_ (i := 3) (N := some 47) (v := ?_) (a' := ?_) #[true, true, true, true, false, false, false] rfl rfl (by kernel_rfl) (fun _ _ _ h => h) (Or.inl ⟨by rfl, ?_⟩) hHeld ?_ ?_
        rotate_left
        · rintro w' ⟨s0, s1⟩
          go_simp
          with_reducible rfl
        rotate_left
        · simp only [Act.put, List.setIfInBounds_toArray, List.set_cons_zero, List.set_cons_succ, i64_w, i32_w]
          rfl
        refine one_ (i := 4) (N := some 48) #[true, true, true, true, true, false, false] rfl rfl (by kernel_rfl) (by decide) (fun K hK => ?_)
        refine goes_ Try.func17 (by kernel_rfl) rfl #[.int .i64 (sz : Int)] (by rfl) rfl rfl (by (try simp only [List.map_toArray, List.map_cons, List.map_nil]); first | done | rfl) ?_
        refine (lookasideref02_Bytes.calls (sz : Int) (M : Int) _ HBY.out).mono ?_
        rintro e w5 ⟨rfl, hd⟩
        refine ⟨_, rfl, ?_⟩
        have hb5 := (Below.refl _ w4).drew.trans hd.below
        have HB5 := Aside0.mk hb5
        clear hd hb5
        refine hK.out _ _ (HH.out _ HB5.out) (fun hHeld => ?_)
        clear hK K
        refine norm_ (a' := ?_) ?_ ?_
        rotate_left
        · show Act.put _ (some 48) _ = _
          simp only [Act.put, List.setIfInBounds_toArray, List.set_cons_zero, List.set_cons_succ, i64_w, i32_w]
          rfl
        refine pure_ (i := 5) (N := some 49) (v := ?_) (a' := ?_) #[true, true, true, true, true, true, false] rfl rfl (by kernel_rfl) (fun _ _ _ h => h) (Or.inl ⟨by rfl, ?_⟩) ?_ ?_
        rotate_left
        · intro w'
          go_simp
          with_reducible rfl
        rotate_left
        · simp only [Act.put, List.setIfInBounds_toArray, List.set_cons_zero, List.set_cons_succ, i64_w, i32_w]
          rfl
        refine pure_ (i := 6) (N := some 9) (v := ?_) (a' := ?_) #[true, true, true, true, true, true, true] rfl rfl (by kernel_rfl) (fun _ _ _ h => h) (Or.inl ⟨by rfl, ?_⟩) ?_ ?_
        rotate_left
        · intro w'
          go_simp
          with_reducible rfl
        rotate_left
        · simp only [Act.put, List.setIfInBounds_toArray, List.set_cons_zero, List.set_cons_succ, i64_w, i32_w]
          rfl
        refine done_ (by kernel_rfl) ?_
        (try simp only [Exit.inBlock, Exit.then])
        clear hm0 hmz hmm hme c6 p1 hHeld hoff
        have HX5 := Aside0.mk (HX4.out.below HB5.out)
        have HG5 := Aside0.mk (blk_below HG4.out HB5.out)
        have HP5 := Aside0.mk (blk_below HP4.out HB5.out)
        clear HH HB5 HX4 HG4 HP4
        by_cases hk1 : g.kind = 1
        · have hb1 : (g.kind != 1) = false := by simp [hk1]
          have hb5 : (g.kind == 5) = false := beq_eq_false_iff_ne.2 (by omega)
          clear hk1
          obtain ⟨c0, -⟩ := cells16 HG5.out
          go_wp2_with (first | (refine wpList_load_row rfl 36 _ rfl G rfl 36 #[.int .i64 g.kind, .int .i64 g.sp, .int .i64 g.ak, .bool g.ap, .int .u64 g.av, .int .u8 g.byte, .int .u64 g.va, .int .i64 g.size, .bool g.at_.f0, .bool g.at_.f1, .bool g.at_.f2, .bool g.at_.f3, .bool g.at_.f4, .bool g.at_.f5, .int .i64 g.other, .int .u64 g.too] (0, 0) _ HG5.out Try.underlying36 rfl (by kernel_rfl) ?_) | (refine wpList_store_row rfl 36 _ _ rfl (D + 1 + 1) #[.int .i64 g.kind, .int .i64 g.sp, .int .i64 g.ak, .bool g.ap, .int .u64 g.av, .int .u8 g.byte, .int .u64 g.va, .int .i64 g.size, .bool g.at_.f0, .bool g.at_.f1, .bool g.at_.f2, .bool g.at_.f3, .bool g.at_.f4, .bool g.at_.f5, .int .i64 g.other, .int .u64 g.too] rfl rfl 36 #[.int .i64 0, .int .i64 0, .int .i64 0, .bool false, .int .u64 0, .int .u8 0, .int .u64 0, .int .i64 0, .bool false, .bool false, .bool false, .bool false, .bool false, .bool false, .int .i64 0, .int .u64 0] HX5.out.c (by kernel_rfl) rfl (one_op g) ?_))
          rw [setRow_sb HX5.out.c]
          refine bodyPost_ret (results_cell_row rfl _ _ (D + 1 + 1) 36 _ (0, 0) _ rfl (sb_same HX5.out.c _) Try.underlying36 rfl (by kernel_rfl)) rfl ?_
          have hx4 := HX5.out.sc (c' := #[.int .i64 g.kind, .int .i64 g.sp, .int .i64 g.ak, .bool g.ap, .int .u64 g.av, .int .u8 g.byte, .int .u64 g.va, .int .i64 g.size, .bool g.at_.f0, .bool g.at_.f1, .bool g.at_.f2, .bool g.at_.f3, .bool g.at_.f4, .bool g.at_.f5, .int .i64 g.other, .int .u64 g.too])
          exact ⟨g, HGO.out, rfl, hx4.lo⟩
        · have hb1 : (g.kind != 1) = true := by simp [hk1]
          clear hk1
          obtain ⟨r, hr, hr2, hr1⟩ := wrap_ex pv off
          obtain ⟨c0, -, -, -, c4, -, c6, -⟩ := cells16 HG5.out
          have f4 := blk_frozen HG5.out 4
          have f6 := blk_frozen HG5.out 6
          obtain ⟨p0, -⟩ := cells11 HP5.out
          rw [HPV.out] at p0
          go_upto_region 15 with fail
          clear hb1 hr hr2 c0 c4 c6 f4 f6 p0
          obtain ⟨u, hu⟩ : ∃ u : OpS, u = { g with va := (r : Int), av := (r : Int) } := ⟨_, rfl⟩
          have s0 := setCell_block (t := 36) (i := 6) (cs' := #[.int .i64 g.kind, .int .i64 g.sp, .int .i64 g.ak, .bool g.ap, .int .u64 g.av, .int .u8 g.byte, .int .u64 (r : Int), .int .i64 g.size, .bool g.at_.f0, .bool g.at_.f1, .bool g.at_.f2, .bool g.at_.f3, .bool g.at_.f4, .bool g.at_.f5, .int .i64 g.other, .int .u64 g.too]) HG5.out (.int .u64 (r : Int)) rfl
          have s1 := sb_put (t := 36) (i := 4) (cs := #[.int .i64 g.kind, .int .i64 g.sp, .int .i64 g.ak, .bool g.ap, .int .u64 g.av, .int .u8 g.byte, .int .u64 (r : Int), .int .i64 g.size, .bool g.at_.f0, .bool g.at_.f1, .bool g.at_.f2, .bool g.at_.f3, .bool g.at_.f4, .bool g.at_.f5, .int .i64 g.other, .int .u64 g.too]) (cs' := #[.int .i64 u.kind, .int .i64 u.sp, .int .i64 u.ak, .bool u.ap, .int .u64 u.av, .int .u8 u.byte, .int .u64 u.va, .int .i64 u.size, .bool u.at_.f0, .bool u.at_.f1, .bool u.at_.f2, .bool u.at_.f3, .bool u.at_.f4, .bool u.at_.f5, .int .i64 u.other, .int .u64 u.too]) HG5.out (.int .u64 (r : Int)) (by rw [hu]; rfl)
          rw [s0, s1]
          have huo : OkO u := by rw [hu]; exact ⟨HGO.out.sp, ⟨by dsimp only; omega, by dsimp only; omega⟩, HGO.out.to1, ⟨by dsimp only; omega, by dsimp only; omega⟩, HGO.out.ot, HGO.out.sz, HGO.out.by_⟩
          have HUO := Aside0.mk huo
          have HUK := Aside0.mk (show u.kind = g.kind by rw [hu])
          have HX6 := Aside0.mk (HX5.out.sx (g := G) HGD.out (.cells #[.int .i64 u.kind, .int .i64 u.sp, .int .i64 u.ak, .bool u.ap, .int .u64 u.av, .int .u8 u.byte, .int .u64 u.va, .int .i64 u.size, .bool u.at_.f0, .bool u.at_.f1, .bool u.at_.f2, .bool u.at_.f3, .bool u.at_.f4, .bool u.at_.f5, .int .i64 u.other, .int .u64 u.too] 36 (0, 0)))
          have HG6 := Aside0.mk (sb_same HG5.out (.cells #[.int .i64 u.kind, .int .i64 u.sp, .int .i64 u.ak, .bool u.ap, .int .u64 u.av, .int .u8 u.byte, .int .u64 u.va, .int .i64 u.size, .bool u.at_.f0, .bool u.at_.f1, .bool u.at_.f2, .bool u.at_.f3, .bool u.at_.f4, .bool u.at_.f5, .int .i64 u.other, .int .u64 u.too] 36 (0, 0)))
          have HP6 := Aside0.mk ((sb_other (W := w5) (b := G) (k := G2) (.cells #[.int .i64 u.kind, .int .i64 u.sp, .int .i64 u.ak, .bool u.ap, .int .u64 u.av, .int .u8 u.byte, .int .u64 u.va, .int .i64 u.size, .bool u.at_.f0, .bool u.at_.f1, .bool u.at_.f2, .bool u.at_.f3, .bool u.at_.f4, .bool u.at_.f5, .int .i64 u.other, .int .u64 u.too] 36 (0, 0)) (by have := HGG.out; omega)).trans HP5.out)
          generalize ChangeMaps.setBlock w5 G (.cells #[.int .i64 u.kind, .int .i64 u.sp, .int .i64 u.ak, .bool u.ap, .int .u64 u.av, .int .u8 u.byte, .int .u64 u.va, .int .i64 u.size, .bool u.at_.f0, .bool u.at_.f1, .bool u.at_.f2, .bool u.at_.f3, .bool u.at_.f4, .bool u.at_.f5, .int .i64 u.other, .int .u64 u.too] 36 (0, 0)) = w6 at *
          clear s0 s1 hu huo HX5 HG5 HP5
          by_cases hk5 : u.kind = 5
          · have hb5 : (u.kind == 5) = true := beq_iff_eq.2 hk5
            clear hk5
            obtain ⟨ta, hta⟩ : ∃ z : Nat, u.too = (z : Int) := ⟨u.too.toNat, by have := HUO.out.to1; omega⟩
            have hta1 : ta < 2 ^ 64 := by have := HUO.out.to1; omega
            obtain ⟨c0, -, -, -, -, -, -, -, -, -, -, -, -, -, -, c15⟩ := cells16 HG6.out
            obtain ⟨-, p1, -⟩ := cells11 HP6.out
            rw [hta] at c15
            rw [HSZ.out] at p1
            go_wp2_with fail
            refine (lookasideref02_Base.calls (ta : Int) (sz : Int) ((bs ta sz : Nat) : Int) w6 (base_r ta sz hta1 HS4.out)).mono ?_
            rintro e w7 ⟨rfl, hd⟩
            have HX7 := Aside0.mk (HX6.out.below hd.below)
            have HG7 := Aside0.mk (blk_below HG6.out hd.below)
            have HBS := Aside0.mk (show bs ta sz < 2 ^ 64 from Nat.lt_of_le_of_lt (bs_le ta sz) hta1)
            clear hd HX6 HG6 HP6 c0 c15 p1 hb5 hta hta1
            have f15 := blk_frozen HG7.out 15
            obtain ⟨-, -, -, -, -, -, -, -, -, -, -, -, -, -, -, c15⟩ := cells16 HG7.out
            go_upto_region 17 with fail
            obtain ⟨y, hy⟩ : ∃ y : OpS, y = { u with too := ((bs ta sz : Nat) : Int) } := ⟨_, rfl⟩
            rw [setCell_block (t := 36) (i := 15) (cs' := #[.int .i64 y.kind, .int .i64 y.sp, .int .i64 y.ak, .bool y.ap, .int .u64 y.av, .int .u8 y.byte, .int .u64 y.va, .int .i64 y.size, .bool y.at_.f0, .bool y.at_.f1, .bool y.at_.f2, .bool y.at_.f3, .bool y.at_.f4, .bool y.at_.f5, .int .i64 y.other, .int .u64 y.too]) HG7.out (.int .u64 ((bs ta sz : Nat) : Int)) (by rw [hy]; rfl)]
            have hyo : OkO y := by rw [hy]; exact ⟨HUO.out.sp, HUO.out.va, ⟨by dsimp only; omega, by dsimp only; have := HBS.out; omega⟩, HUO.out.av, HUO.out.ot, HUO.out.sz, HUO.out.by_⟩
            have HYO := Aside0.mk hyo
            have HX8 := Aside0.mk (HX7.out.sx (g := G) HGD.out (.cells #[.int .i64 y.kind, .int .i64 y.sp, .int .i64 y.ak, .bool y.ap, .int .u64 y.av, .int .u8 y.byte, .int .u64 y.va, .int .i64 y.size, .bool y.at_.f0, .bool y.at_.f1, .bool y.at_.f2, .bool y.at_.f3, .bool y.at_.f4, .bool y.at_.f5, .int .i64 y.other, .int .u64 y.too] 36 (0, 0)))
            have HG8 := Aside0.mk (sb_same HG7.out (.cells #[.int .i64 y.kind, .int .i64 y.sp, .int .i64 y.ak, .bool y.ap, .int .u64 y.av, .int .u8 y.byte, .int .u64 y.va, .int .i64 y.size, .bool y.at_.f0, .bool y.at_.f1, .bool y.at_.f2, .bool y.at_.f3, .bool y.at_.f4, .bool y.at_.f5, .int .i64 y.other, .int .u64 y.too] 36 (0, 0)))
            generalize ChangeMaps.setBlock w7 G (.cells #[.int .i64 y.kind, .int .i64 y.sp, .int .i64 y.ak, .bool y.ap, .int .u64 y.av, .int .u8 y.byte, .int .u64 y.va, .int .i64 y.size, .bool y.at_.f0, .bool y.at_.f1, .bool y.at_.f2, .bool y.at_.f3, .bool y.at_.f4, .bool y.at_.f5, .int .i64 y.other, .int .u64 y.too] 36 (0, 0)) = w8 at *
            clear hy hyo f15 c15 HX7 HG7
            go_wp2_with (first | (refine wpList_load_row rfl 36 _ rfl G rfl 36 #[.int .i64 y.kind, .int .i64 y.sp, .int .i64 y.ak, .bool y.ap, .int .u64 y.av, .int .u8 y.byte, .int .u64 y.va, .int .i64 y.size, .bool y.at_.f0, .bool y.at_.f1, .bool y.at_.f2, .bool y.at_.f3, .bool y.at_.f4, .bool y.at_.f5, .int .i64 y.other, .int .u64 y.too] (0, 0) _ HG8.out Try.underlying36 rfl (by kernel_rfl) ?_) | (refine wpList_store_row rfl 36 _ _ rfl (D + 1 + 1) #[.int .i64 y.kind, .int .i64 y.sp, .int .i64 y.ak, .bool y.ap, .int .u64 y.av, .int .u8 y.byte, .int .u64 y.va, .int .i64 y.size, .bool y.at_.f0, .bool y.at_.f1, .bool y.at_.f2, .bool y.at_.f3, .bool y.at_.f4, .bool y.at_.f5, .int .i64 y.other, .int .u64 y.too] rfl rfl 36 #[.int .i64 0, .int .i64 0, .int .i64 0, .bool false, .int .u64 0, .int .u8 0, .int .u64 0, .int .i64 0, .bool false, .bool false, .bool false, .bool false, .bool false, .bool false, .int .i64 0, .int .u64 0] HX8.out.c (by kernel_rfl) rfl (one_op y) ?_))
            rw [setRow_sb HX8.out.c]
            refine bodyPost_ret (results_cell_row rfl _ _ (D + 1 + 1) 36 _ (0, 0) _ rfl (sb_same HX8.out.c _) Try.underlying36 rfl (by kernel_rfl)) rfl ?_
            have hx4 := HX8.out.sc (c' := #[.int .i64 y.kind, .int .i64 y.sp, .int .i64 y.ak, .bool y.ap, .int .u64 y.av, .int .u8 y.byte, .int .u64 y.va, .int .i64 y.size, .bool y.at_.f0, .bool y.at_.f1, .bool y.at_.f2, .bool y.at_.f3, .bool y.at_.f4, .bool y.at_.f5, .int .i64 y.other, .int .u64 y.too])
            exact ⟨y, HYO.out, rfl, hx4.lo⟩
          · have hb5 : (u.kind == 5) = false := beq_eq_false_iff_ne.2 hk5
            clear hk5
            obtain ⟨c0, -⟩ := cells16 HG6.out
            go_wp2_with (first | (refine wpList_load_row rfl 36 _ rfl G rfl 36 #[.int .i64 u.kind, .int .i64 u.sp, .int .i64 u.ak, .bool u.ap, .int .u64 u.av, .int .u8 u.byte, .int .u64 u.va, .int .i64 u.size, .bool u.at_.f0, .bool u.at_.f1, .bool u.at_.f2, .bool u.at_.f3, .bool u.at_.f4, .bool u.at_.f5, .int .i64 u.other, .int .u64 u.too] (0, 0) _ HG6.out Try.underlying36 rfl (by kernel_rfl) ?_) | (refine wpList_store_row rfl 36 _ _ rfl (D + 1 + 1) #[.int .i64 u.kind, .int .i64 u.sp, .int .i64 u.ak, .bool u.ap, .int .u64 u.av, .int .u8 u.byte, .int .u64 u.va, .int .i64 u.size, .bool u.at_.f0, .bool u.at_.f1, .bool u.at_.f2, .bool u.at_.f3, .bool u.at_.f4, .bool u.at_.f5, .int .i64 u.other, .int .u64 u.too] rfl rfl 36 #[.int .i64 0, .int .i64 0, .int .i64 0, .bool false, .int .u64 0, .int .u8 0, .int .u64 0, .int .i64 0, .bool false, .bool false, .bool false, .bool false, .bool false, .bool false, .int .i64 0, .int .u64 0] HX6.out.c (by kernel_rfl) rfl (one_op u) ?_))
            rw [setRow_sb HX6.out.c]
            refine bodyPost_ret (results_cell_row rfl _ _ (D + 1 + 1) 36 _ (0, 0) _ rfl (sb_same HX6.out.c _) Try.underlying36 rfl (by kernel_rfl)) rfl ?_
            have hx4 := HX6.out.sc (c' := #[.int .i64 u.kind, .int .i64 u.sp, .int .i64 u.ak, .bool u.ap, .int .u64 u.av, .int .u8 u.byte, .int .u64 u.va, .int .i64 u.size, .bool u.at_.f0, .bool u.at_.f1, .bool u.at_.f2, .bool u.at_.f3, .bool u.at_.f4, .bool u.at_.f5, .int .i64 u.other, .int .u64 u.too])
            exact ⟨u, HUO.out, rfl, hx4.lo⟩
end
end Go.Proofs.Ytalmemcidbmdgaa.PM



/- Whole structs, read and written, in regions that draw. -/
set_option linter.unusedVariables false
set_option linter.unusedSimpArgs false
namespace Go.Proofs.Ytalmemcidbmdgaa.PM
open Go.RowKit Go.Proofs.YtalmemcidbmdgaaW.PrintWords Go.Proofs.YtalmemcidbmdgaaW.PrintLast Go.Proofs.YtalmemcidbmdgaaW.PrintMore Go.Proofs.Ytalmemcidbmdgaa.PageG
attribute [local go_sem] max2_int min2_int max_two min_two max_three min_three max_four min_four   -- for this text's walks alone
theorem run_loadVar_add {P : Program} (w : World) (ad : Addr) (ty : TypeId) (cs : List Value) (d : TypeDesc) (hc : ∀ j v, cs[j]? = some v → w.cell? (ad.add j) = some v)
    (hu : P.underlying ty = some d) (hd : d.isRow = true) (hi : (P.info? ty).map (·.size) = some cs.length) :
    (loadVar ty ad).run P w = .ok (.agg cs.toArray) w := by
  have hl : (loadCells ad cs.length).run P w = .ok cs.toArray w := run_loadCells_list (P := P) w ad cs hc
  cases hq : P.info? ty with
  | none => simp [hq] at hi
  | some i =>
    have hs : i.size = cs.length := by simpa [hq] using hi
    have hagg : (isAgg ty).run P w = .ok true w := by
      unfold isAgg
      rw [Sem.run_bind, run_underlying hu w]
      cases d <;> simp_all
    simp [loadVar, Sem.run_bind, hagg, sizeOf, typeInfo, hq, hs, hl]
theorem run_load_add {P : Program} {W : World} {ev : Operand → Value} {o : Oper} {x : Operand} {ad : Addr} {ty : TypeId} {cs : List Value} {d : TypeDesc} (ho : o.op = .load ty x) (hx : ev x = .pointer (some ad))
    (hc : ∀ j v, cs[j]? = some v → W.cell? (ad.add j) = some v) (hu : P.underlying ty = some d) (hd : d.isRow = true) (hi : (P.info? ty).map (·.size) = some cs.length) :
    (execOp ev o).run P W = .ok (.value (.agg cs.toArray)) W := by
  unfold execOp
  simp [ho, hx, Instr.loadAt, Instr.sureAddr, Sem.run_bind, Sem.run_pure, Result.andThen, run_loadVar_add W ad ty cs d hc hu hd hi]
theorem run_load_blk {P : Program} {W : World} {ev : Operand → Value} {o : Oper} {x : Operand} {g : Nat} {ty t : TypeId} {cs : Array Value} {d : TypeDesc} (ho : o.op = .load ty x) (hx : ev x = .pointer (some ⟨g, 0, none⟩))
    (hg : W.heap[g]? = some (.cells cs t (0, 0))) (hu : P.underlying ty = some d) (hd : (match d with | .struct _ | .array _ _ => true | _ => false) = true) (hi : (P.info? ty).map (·.size) = some cs.size) :
    (execOp ev o).run P W = .ok (.value (.agg cs)) W := by
  unfold execOp
  simp [ho, hx, Instr.loadAt, Instr.sureAddr, Sem.run_bind, Sem.run_pure, Result.andThen, run_loadVar_row W g t ty cs (0, 0) d hg hu hd hi]
theorem run_store_blk {P : Program} {W : World} {ev : Operand → Value} {o : Oper} {x v : Operand} {g : Nat} {ty t : TypeId} {old cells : Array Value} (ho : o.op = .store ty x v) (hx : ev x = .pointer (some ⟨g, 0, none⟩)) (hv : ev v = .agg cells)
    (hg : W.heap[g]? = some (.cells old t (0, 0))) (hi : (P.info? ty).map (·.size) = some cells.size) (hs : old.size = cells.size) (h1 : cells.all (·.oneCell') = true) :
    (execOp ev o).run P W = .ok .skip (ChangeMaps.setBlock W g (.cells cells t (0, 0))) := by
  have hr : (storeVar ty ⟨g, 0, none⟩ (.agg cells)).run P W = .ok () (ChangeMaps.setBlock W g (.cells cells t (0, 0))) := by
    rw [run_storeVar_row W g t ty old cells hg hi hs h1, setRow_sb hg]
  unfold execOp
  simp [ho, hx, hv, Instr.storeAt, Instr.sureAddr, Sem.run_bind, Sem.run_pure, Result.andThen, hr]
end Go.Proofs.Ytalmemcidbmdgaa.PM


/- A parameter that is a slice, opened: whatever its elements. -/
set_option linter.unusedVariables false
namespace Go.Proofs.Ytalmemcidbmdgaa.OpenR
open Go.ChangeShapes Go.WideShapes Go.RowKit Go.Deep
/-- A slice in memory: its elements, each so many cells. -/
structure Row {α : Type} (n : Nat) (en : α → List Value) (Good : World → α → Prop) (W : World) (A : Option Addr) (xs : List α) : Prop where
  good : ∀ x ∈ xs, Good W x
  at_ : ∀ i (hi : i < xs.length), ∃ ad, A = some ad ∧ ∀ (j : Nat) u, (en xs[i])[j]? = some u → W.cell? (ad.add (i * n + j)) = some u
theorem choose_list {α : Type} {P : Nat → α → Prop} (n : Nat) (h : ∀ i, i < n → ∃ x, P i x) : ∃ xs : List α, xs.length = n ∧ ∀ i x, xs[i]? = some x → P i x := by
  induction n with
  | zero => exact ⟨[], rfl, by simp⟩
  | succ n ih =>
    obtain ⟨xs, hl, hx⟩ := ih (fun i hi => h i (by omega))
    obtain ⟨y, hy⟩ := h n (by omega)
    refine ⟨xs ++ [y], by simp [hl], fun i x hix => ?_⟩
    by_cases hi : i < xs.length
    · rw [List.getElem?_append_left hi] at hix
      exact hx i x hix
    · have : i < (xs ++ [y]).length := (List.getElem?_eq_some_iff.1 hix).1
      rw [List.length_append, List.length_singleton] at this
      obtain rfl : i = n := by omega
      rw [List.getElem?_append_right (by omega), show i - xs.length = 0 by omega] at hix
      cases hix
      exact hy
section
variable {H : Type} {enc : TypeId × Value → H} {W : World} {P : Program} {T E : TypeId} {α : Type} {n : Nat} {en : α → List Value} {Good : World → α → Prop}
set_option maxRecDepth 100000 in
theorem open_row (hT : P.underlying T = some (.slice E)) (hc : P.cellsOf E = n) (hlen : ∀ x, (en x).length = n)
    (hd : ∀ (k : Nat) (cs : List Value) (x : DataW H × List MemPlace), DataW.trod enc P W 0 (fun _ => true) true k E cs = some x → ∃ a, cs = en a ∧ Good W a)
    {v : Value} {d : DataW H} {p : List MemPlace} (hval : Value.okWide P W .any 0 T v) (h : DataW.Trod enc P W 0 (fun _ => true) true T v d p) :
    ∃ (A : Option Addr) (c : Nat) (xs : List α), v = .slice A xs.length c ∧ xs.length ≤ c ∧ xs.length ≤ maxLen ∧ Row n en Good W A xs := by
  obtain ⟨a0, len, cap, rfl⟩ := okWide_slice hT hval
  obtain ⟨fuel, hf⟩ := h
  rcases open_slice hT hf with ⟨hcs, _⟩ | ⟨a, len', cap', m, q, D, Pl, hcs, hb, hl, hm, hmm, hx, hi⟩
  · simp [Value.cells] at hcs
    obtain ⟨rfl, rfl, rfl⟩ := hcs
    exact ⟨none, 0, [], rfl, by simp, by simp, ⟨by simp, by simp⟩⟩
  · simp [Value.cells] at hcs
    obtain ⟨rfl, rfl, rfl⟩ := hcs
    have hlm : len ≤ m := by rw [hmm]; simp; omega
    obtain ⟨xs, hxl, hxs⟩ := choose_list (P := fun i (k : α) => Good W k ∧ ∀ (j : Nat) u, (en k)[j]? = some u → W.cell? (a.add (i * n + j)) = some u) len (fun i him => by
      obtain ⟨cs', h1, h2⟩ := hi i (by omega)
      obtain ⟨k, rfl, hg⟩ := hd _ _ _ h2
      rw [hc] at h1
      obtain ⟨_, hlen', hat⟩ := World.cells?_some h1
      refine ⟨k, hg, fun j u hu => ?_⟩
      have hj : j < n := by
        have := (List.getElem?_eq_some_iff.1 hu).1
        rwa [hlen] at this
      have := hat j hj
      rw [Go.Deep.add_add] at this
      rw [this, hu])
    refine ⟨some a, cap, xs, by rw [hxl], by omega, by omega, ⟨fun x hx => ?_, fun i hi => ?_⟩⟩
    · obtain ⟨i, hi, rfl⟩ := List.getElem_of_mem hx
      exact (hxs i _ (List.getElem?_eq_getElem hi)).1
    · exact ⟨a, rfl, (hxs i _ (List.getElem?_eq_getElem hi)).2⟩
end
end Go.Proofs.Ytalmemcidbmdgaa.OpenR

/- A model (layer 16): the document's example: the walk. -/
set_option linter.unusedVariables false
set_option linter.unusedSimpArgs false
namespace Go.Proofs.Ytalmemcidbmdgaa.PM
open Go.RowKit Go.Proofs.YtalmemcidbmdgaaW.PrintWords Go.Proofs.YtalmemcidbmdgaaW.PrintLast Go.Proofs.YtalmemcidbmdgaaW.PrintMore Go.Proofs.Ytalmemcidbmdgaa.PageG
attribute [local go_sem] max2_int min2_int max_two min_two max_three min_three max_four min_four   -- for this text's walks alone
def lvO1 : OpS := ⟨1, 0, 0, false, 0, 0, 0, 0, ⟨true, false, false, false, false, false⟩, 0, 0⟩
def lvO2 : OpS := ⟨0, 0, 1, false, 5, 7, 0, 0, ⟨false, false, false, false, false, false⟩, 0, 0⟩
def lvO3 : OpS := ⟨5, 0, 0, false, 0, 0, 0, 0, ⟨false, false, false, false, false, false⟩, 0, 8192⟩
def lvS0 : MS := ⟨1, [], [], 0⟩
def lvS1 : MS := ⟨1, [⟨0, ⟨0, 0, 0, ⟨true, false, false, false, false, false⟩, false, false⟩⟩], [], 1⟩
def lvS2 : MS := ⟨1, [⟨0, ⟨0, 0, 0, ⟨true, false, false, false, false, false⟩, true, true⟩⟩], [⟨0, 5, 7⟩], 1⟩
def lvX : Ent := ⟨0, ⟨8192, 0, 0, ⟨false, false, false, false, false, false⟩, false, false⟩⟩
def lvS3 : MS := ⟨1, [⟨0, ⟨0, 0, 0, ⟨true, false, false, false, false, false⟩, true, true⟩⟩, lvX], [⟨0, 5, 7⟩], 1⟩
theorem lv1 : doR lvS0 lvO1 = ((0, 0, 0), lvS1) := by kernel_rfl
theorem lv2 : doR lvS1 lvO2 = ((0, 0, 0), lvS2) := by kernel_rfl
theorem lv3 : doR lvS2 lvO3 = ((0, 0, 0), lvS3) := by kernel_rfl
theorem lv4 : getB lvS3.by_ lvX.f1.f2 (offN lvX 8197) = 7 := by kernel_rfl
theorem lvh : hit 0 8197 lvX = true := by kernel_rfl
theorem lvo1 : OkO lvO1 := ⟨⟨by decide, by decide⟩, ⟨by decide, by decide⟩, ⟨by decide, by decide⟩, ⟨by decide, by decide⟩, ⟨by decide, by decide⟩, ⟨by decide, by decide⟩, ⟨by decide, by decide⟩⟩
theorem lvo2 : OkO lvO2 := ⟨⟨by decide, by decide⟩, ⟨by decide, by decide⟩, ⟨by decide, by decide⟩, ⟨by decide, by decide⟩, ⟨by decide, by decide⟩, ⟨by decide, by decide⟩, ⟨by decide, by decide⟩⟩
theorem lvo3 : OkO lvO3 := ⟨⟨by decide, by decide⟩, ⟨by decide, by decide⟩, ⟨by decide, by decide⟩, ⟨by decide, by decide⟩, ⟨by decide, by decide⟩, ⟨by decide, by decide⟩, ⟨by decide, by decide⟩⟩
theorem lvw0 : WfK 0 lvS0 := WfK.new (by omega) (by omega)
theorem lvw1 : WfK 1 lvS1 := by have := lvw0.step (by omega) lvO1 lvo1; rw [lv1] at this; exact this
theorem lvw2 : WfK 2 lvS2 := by have := lvw1.step (by omega) lvO2 lvo2; rw [lv2] at this; exact this
theorem lvw3 : WfK 3 lvS3 := by have := lvw2.step (by omega) lvO3 lvo3; rw [lv3] at this; exact this
section
variable {w w' : World} {B pm bm : Nat} {s : MS}
theorem lv_do {k : Nat} {s' : MS} (h : Mo w B pm bm s) (hw : WfK k s) (hk : k < 1000) (o : OpS) (ho : OkO o) {a b c : Int} (he : doR s o = ((a, b, c), s')) :
    Calls Try.prog 14 #[.pointer (some ⟨B, 0, none⟩), Value.agg #[.int .i64 o.kind, .int .i64 o.sp, .int .i64 o.ak, .bool o.ap, .int .u64 o.av, .int .u8 o.byte, .int .u64 o.va, .int .i64 o.size, .bool o.at_.f0, .bool o.at_.f1, .bool o.at_.f2, .bool o.at_.f3, .bool o.at_.f4, .bool o.at_.f5, .int .i64 o.other, .int .u64 o.too]] w (fun e w' => e = .returned (.agg #[.int .i64 a, .int .i64 b, .int .u8 c]) ∧ Mo w' B pm bm s' ∧ Mv [B, pm, bm] w w') :=
  (done_calls h hw hk o ho).mono (fun e w' hh => by
    obtain ⟨h1, h2, -, h4⟩ := hh
    rw [he] at h1 h2
    exact ⟨h1, h2, h4⟩)
set_option maxHeartbeats 8000000 in
set_option maxRecDepth 100000 in
theorem lives16_calls (w : World) : Calls Try.prog 16 #[] w fun e w' => e = .returned (.bool true) ∧ Below w.heap.size w w' := by
  go_enter Try.func16, Try.ntmps16
  go_wp2_with fail
  refine (new_calls w 1 1 (by decide)).mono ?_
  rintro e w1 ⟨B, pm, bm, rfl, hm, hb, hge⟩
  have HM := Aside0.mk (show Mo w1 B pm bm lvS0 from hm)
  have HGE := Aside0.mk hge
  have HB := Aside0.mk hb
  clear hm hb hge
  have HM0 := HM
  have HB0 := HB
  clear HM HB
  go_wp2_with fail
  refine (lv_do HM0.out lvw0 (by omega) lvO1 lvo1 lv1).mono ?_
  rintro e w10 ⟨rfl, hm, hv⟩
  have HBa := Aside0.mk (HB0.out.trans (hv.below HB0.out.size HGE.out))
  have hal := (Below.refl _ w10).alloc (Nat.le_refl _) (.cells #[.int .i64 0, .int .i64 0, .int .u8 0] 42)
  have HM1 := Aside0.mk (hm.below hal)
  have hl := blk_new w10 (.cells #[.int .i64 0, .int .i64 0, .int .u8 0] 42)
  have HB1 := Aside0.mk (HBa.out.alloc HBa.out.size (.cells #[.int .i64 0, .int .i64 0, .int .u8 0] 42))
  have hn : w10.heap.size ∉ [B, pm, bm] := fun h => Nat.lt_irrefl _ (hm.lt _ h)
  have HN1 := Aside0.mk hn
  clear hm hv hn hal HM0 HB0 HBa
  go_upto_region 5 with fail
  generalize w10.alloc (.cells #[.int .i64 0, .int .i64 0, .int .u8 0] 42) = w11 at *
  generalize w10.heap.size = G1 at *
  have HL11 := Aside0.mk hl
  clear hl
  go_wp2_with fail
  refine (lv_do HM1.out lvw1 (by omega) lvO2 lvo2 lv2).mono ?_
  rintro e w20 ⟨rfl, hm, hv⟩
  have HBa := Aside0.mk (HB1.out.trans (hv.below HB1.out.size HGE.out))
  have hal := (Below.refl _ w20).alloc (Nat.le_refl _) (.cells #[.int .i64 0, .int .i64 0, .int .u8 0] 42)
  have HM2 := Aside0.mk (hm.below hal)
  have hl := blk_new w20 (.cells #[.int .i64 0, .int .i64 0, .int .u8 0] 42)
  have HB2 := Aside0.mk (HBa.out.alloc HBa.out.size (.cells #[.int .i64 0, .int .i64 0, .int .u8 0] 42))
  have hn : w20.heap.size ∉ [B, pm, bm] := fun h => Nat.lt_irrefl _ (hm.lt _ h)
  have HN2 := Aside0.mk hn
  have HL12 := Aside0.mk (blk_below ((hv.block _ (blk_lt HL11.out) HN1.out).trans HL11.out) hal)
  clear hm hv hn hal HM1 HB1 HBa HL11
  go_upto_region 6 with fail
  generalize w20.alloc (.cells #[.int .i64 0, .int .i64 0, .int .u8 0] 42) = w21 at *
  generalize w20.heap.size = G2 at *
  have HL22 := Aside0.mk hl
  clear hl
  go_wp2_with fail
  refine (lv_do HM2.out lvw2 (by omega) lvO3 lvo3 lv3).mono ?_
  rintro e w30 ⟨rfl, hm, hv⟩
  have HBa := Aside0.mk (HB2.out.trans (hv.below HB2.out.size HGE.out))
  have hal := (Below.refl _ w30).alloc (Nat.le_refl _) (.cells #[.int .i64 0, .int .i64 0, .int .u8 0] 42)
  have HM3 := Aside0.mk (hm.below hal)
  have hl := blk_new w30 (.cells #[.int .i64 0, .int .i64 0, .int .u8 0] 42)
  have HB3 := Aside0.mk (HBa.out.alloc HBa.out.size (.cells #[.int .i64 0, .int .i64 0, .int .u8 0] 42))
  have hn : w30.heap.size ∉ [B, pm, bm] := fun h => Nat.lt_irrefl _ (hm.lt _ h)
  have HN3 := Aside0.mk hn
  have HL13 := Aside0.mk (blk_below ((hv.block _ (blk_lt HL12.out) HN1.out).trans HL12.out) hal)
  have HL23 := Aside0.mk (blk_below ((hv.block _ (blk_lt HL22.out) HN2.out).trans HL22.out) hal)
  clear hm hv hn hal HM2 HB2 HBa HL12 HL22
  go_upto_region 7 with fail
  generalize w30.alloc (.cells #[.int .i64 0, .int .i64 0, .int .u8 0] 42) = w31 at *
  generalize w30.heap.size = G3 at *
  have HL33 := Aside0.mk hl
  clear hl
  go_wp2_with fail
  refine (byte_yes HM3.out lvw3.wl 0 ⟨by decide, by decide⟩ 8197 (by decide) lvX (List.mem_cons_of_mem _ (List.mem_singleton.2 rfl)) lvh).mono ?_
  rintro e w40 ⟨rfl, hb4⟩
  rw [lv4]
  have h1 := blk_below HL13.out hb4
  have h2 := blk_below HL23.out hb4
  have h3 := blk_below HL33.out hb4
  have HB4 := Aside0.mk (HB3.out.trans (hb4.mono HB3.out.size))
  obtain ⟨x0, x1, x2⟩ := cells3 h1
  obtain ⟨y0, y1, y2⟩ := cells3 h2
  obtain ⟨z0, z1, z2⟩ := cells3 h3
  clear h1 h2 h3 hb4 HL13 HL23 HL33 HB3
  go_wp2_with fail
  go_ret
  exact ⟨rfl, HB4.out⟩
end
end Go.Proofs.Ytalmemcidbmdgaa.PM


/- The loop over asks of a law (layer 16): what stays: plain. -/
set_option linter.unusedVariables false
set_option linter.unusedSimpArgs false
namespace Go.Proofs.Ytalmemcidbmdgaa.PM
open Go.RowKit Go.Proofs.YtalmemcidbmdgaaW.PrintWords Go.Proofs.YtalmemcidbmdgaaW.PrintLast Go.Proofs.YtalmemcidbmdgaaW.PrintMore Go.Proofs.Ytalmemcidbmdgaa.PageG
attribute [local go_sem] max2_int min2_int max_two min_two max_three min_three max_four min_four   -- for this text's walks alone
def encA (a : AskS) : List Value := [.int .i64 a.o.kind, .int .i64 a.o.sp, .int .i64 a.o.ak, .bool a.o.ap, .int .u64 a.o.av, .int .u8 a.o.byte, .int .u64 a.o.va, .int .i64 a.o.size, .bool a.o.at_.f0, .bool a.o.at_.f1, .bool a.o.at_.f2, .bool a.o.at_.f3, .bool a.o.at_.f4, .bool a.o.at_.f5, .int .i64 a.o.other, .int .u64 a.o.too, .bool a.raw, .bool a.near, .int .i64 a.place]
def GoodA (_ : World) (a : AskS) : Prop := WO a.o ∧ W64 a.place
/-- Both models, and the box of the document's one, behind i asks. -/
structure LpI (w W : World) (B pm bm g i : Nat) (s : MS) (A1 : Option Addr) (c1 : Nat) (A2 : Option Addr) (c2 : Nat) : Prop where
  wf : WfK i s
  mo : Mo W B pm bm s
  dx : DocX (fun k => g < k ∧ k < W.heap.size) W A1 c1 A2 c2 s
  bx : W.heap[g]? = some (.cells #[.int .i64 s.n, .slice A1 s.L.length c1, .slice A2 s.by_.length c2, .int .i64 s.made] 29 (0, 0))
  lo : Below w.heap.size w W
  ge : ∀ k ∈ [B, pm, bm], w.heap.size ≤ k ∧ k < g
  hg : w.heap.size ≤ g
  n3 : s.n = 3
theorem doR_n (s : MS) (o : OpS) : (doR s o).2.n = s.n := by
  have hp : ∀ sp p, (putS s sp p).2.n = s.n := fun sp p => (putS_made s sp p).2.1
  have hc : ∀ f : Nat → MS, (∀ i, (f i).n = s.n) → (changeR s o f).2.n = s.n := fun f hf => by
    unfold changeR
    split
    · split
      · rfl
      · exact hf _
    · rfl
  have hu : ∀ i, (unmapS s i).n = s.n := fun i => by unfold unmapS; split <;> rfl
  have hpr : ∀ a i, (protS s a i).n = s.n := fun a i => by unfold protS; split <;> rfl
  have hcl : ∀ i, (clearS s i).n = s.n := fun i => by unfold clearS; split <;> rfl
  unfold doR
  split
  · unfold accessR
    split
    · split
      · rfl
      · split
        · rfl
        · split
          · rfl
          · split
            · split <;> rfl
            · rfl
    · rfl
  · split
    · show (mappedR s o).2.n = s.n
      unfold mappedR
      split
      · split
        · exact hp _ _
        · exact hp _ _
      · rfl
    · split
      · exact hc _ hu
      · split
        · show (protectR s o).2.n = s.n
          unfold protectR
          split
          · rfl
          · exact hc _ (hpr _)
        · split
          · exact hc _ hcl
          · split
            · show (shareR s o).2.n = s.n
              unfold shareR
              split
              · split
                · rfl
                · split
                  · exact hp _ _
                  · rfl
              · rfl
            · split
              · rfl
              · split
                · show (destroyR s o).2.n = s.n
                  unfold destroyR
                  split
                  · show (destS s o.sp).n = s.n
                    unfold destS
                    generalize pagesS s o.sp = l
                    have : ∀ (l : List Pg) (t : MS), (l.foldl (dropAt o.sp) t).n = t.n := fun l => by
                      induction l with
                      | nil => exact fun t => rfl
                      | cons p l ih =>
                        intro t
                        rw [List.foldl_cons, ih]
                        unfold dropAt
                        split
                        · unfold unmapS; split <;> rfl
                        · rfl
                    exact this l s
                  · rfl
                · rfl
section
variable {w wr W : World} {B pm bm g i : Nat} {s t : MS} {A1 A2 A3 A4 : Option Addr} {c1 c2 c3 c4 : Nat}
theorem LpI.hlt (h : LpI w wr B pm bm g i s A1 c1 A2 c2) : g < wr.heap.size := blk_lt h.bx
theorem LpI.mo12 (h : LpI w wr B pm bm g i s A1 c1 A2 c2) {w11 : World} (hb : Below wr.heap.size wr w11) (o : Obj) : Mo (ChangeMaps.setBlock w11 g o) B pm bm s :=
  (h.mo.below hb).move (fun k hk => sb_other o (by have := (h.ge k hk).2; omega))
theorem LpI.step (h : LpI w wr B pm bm g i s A1 c1 A2 c2) {w9 w10 w11 w13 : World} {r : Int × Int × Int} {o : OpS} (hr : doR s o = (r, t)) (h9 : Below wr.heap.size wr w9) (hm : ∀ W, KeepsD (fun k => g < k ∧ k < wr.heap.size) w9 w10 W → DocM W A3 c3 A4 c4 t) (h10 : Below w9.heap.size w9 w10) (h11 : Below w10.heap.size w10 w11)
    (hmo : Mo w13 B pm bm t) (hwf : WfK (i + 1) t) (hv : Mv [B, pm, bm] (ChangeMaps.setBlock w11 g (.cells #[.int .i64 t.n, .slice A3 t.L.length c3, .slice A4 t.by_.length c4, .int .i64 t.made] 29 (0, 0))) w13) :
    LpI w w13 B pm bm g (i + 1) t A3 c3 A4 c4 := by
  have hlt := h.hlt
  have hs9 := h9.size
  have hs10 := h10.size
  have hs11 := h11.size
  have hs13 := hv.size
  rw [sb_size] at hs13
  have hng : g ∉ [B, pm, bm] := fun hm => by have := (h.ge g hm).2; omega
  have hbig : ∀ k, g < k → k < w10.heap.size → w13.heap[k]? = w10.heap[k]? := fun k hk hk2 => by
    refine (hv.block k (by rw [sb_size]; omega) (fun hm => by have := (h.ge k hm).2; omega)).trans ?_
    exact (sb_other _ (by omega)).trans (h11.block k hk2)
  have hkeep : ∀ W : World, (∀ k, g < k ∧ k < w13.heap.size → W.heap[k]? = w13.heap[k]?) → DocM W A3 c3 A4 c4 t := fun W hW => by
    refine hm W (fun k hk => ?_)
    rcases hk with hk | hk
    · exact (hW k ⟨hk.1, by omega⟩).trans (hbig k hk.1 (by omega))
    · exact (hW k ⟨by omega, by omega⟩).trans (hbig k (by omega) hk.2)
  have hlo11 := h.lo.trans ((h9.trans ((h10.trans (h11.mono hs10)).mono hs9)).mono h.lo.size)
  refine ⟨hwf, hmo, ⟨fun k hk => hk.2, hkeep w13 (fun _ _ => rfl), hkeep⟩, ?_, ?_, h.ge, h.hg, ?_⟩
  · refine (hv.block g (by rw [sb_size]; omega) hng).trans ?_
    exact sb_same (blk_below (blk_below (blk_below h.bx h9) h10) h11) _
  · have h12 := below_sb hlo11 h.hg (.cells #[.int .i64 t.n, .slice A3 t.L.length c3, .slice A4 t.by_.length c4, .int .i64 t.made] 29 (0, 0))
    exact h12.trans (hv.below h12.size (fun k hk => (h.ge k hk).1))
  · have := doR_n s o
    rw [hr] at this
    exact this.trans h.n3
end
end Go.Proofs.Ytalmemcidbmdgaa.PM


/- The law ModelGoes (layer 16): the walk. -/
set_option linter.unusedVariables false
set_option linter.unusedSimpArgs false
namespace Go.Proofs.Ytalmemcidbmdgaa.PM
open Go.RowKit Go.Proofs.YtalmemcidbmdgaaW.PrintWords Go.Proofs.YtalmemcidbmdgaaW.PrintLast Go.Proofs.YtalmemcidbmdgaaW.PrintMore Go.Proofs.Ytalmemcidbmdgaa.PageG
attribute [local go_sem] max2_int min2_int max_two min_two max_three min_three max_four min_four   -- for this text's walks alone
theorem C_empty {α : Type} {d : Kd α} (w : World) (A : Option Addr) : Kd.C d w A 0 [] := ⟨rfl, by decide, fun h => absurd h (by omega)⟩
theorem doc_empty (w : World) (n : Int) (A1 : Option Addr) (c1 : Nat) (A2 : Option Addr) (c2 : Nat) : DocM w A1 c1 A2 c2 ⟨n, [], [], 0⟩ := ⟨C_empty w A1, Nat.zero_le _, C_empty w A2, Nat.zero_le _⟩
theorem LpI.start {w w1 w2 : World} {B pm bm : Nat} (A1 : Option Addr) (c1 : Nat) (A2 : Option Addr) (c2 : Nat) (hm : Mo w1 B pm bm ⟨3, [], [], 0⟩) (hge : ∀ k ∈ [B, pm, bm], w.heap.size ≤ k) (h1 : Below w.heap.size w w1) (h2 : Below w1.heap.size w1 w2) :
    LpI w (w2.alloc (.cells #[.int .i64 3, .slice A1 0 c1, .slice A2 0 c2, .int .i64 0] 29)) B pm bm w2.heap.size 0 ⟨3, [], [], 0⟩ A1 c1 A2 c2 := by
  have hal := (Below.refl _ w2).alloc (Nat.le_refl _) (.cells #[.int .i64 3, .slice A1 0 c1, .slice A2 0 c2, .int .i64 0] 29)
  have h12 := h2.trans (hal.mono h2.size)
  refine ⟨WfK.new (by omega) (by omega), hm.below h12, ⟨fun k hk => hk.2, doc_empty _ _ _ _ _ _, fun W _ => doc_empty _ _ _ _ _ _⟩, blk_new w2 _, h1.trans (h12.mono h1.size), fun k hk => ⟨hge k hk, Nat.lt_of_lt_of_le (hm.lt k hk) h2.size⟩, Nat.le_trans h1.size h2.size, rfl⟩
theorem wfu64 {k : Int} (h : (Lit.int .u64 k).wf = true) : 0 ≤ k ∧ k < 2 ^ 64 := by
  simp [Lit.wf, IntKind.min, IntKind.max, IntKind.signed, IntKind.bits] at h
  omega
/-- The model alone, behind what a law does. -/
structure Ml (w W : World) (B pm bm k : Nat) (s : MS) : Prop where
  wf : WfK k s
  mo : Mo W B pm bm s
  lo : Below w.heap.size w W
  ge : ∀ k ∈ [B, pm, bm], w.heap.size ≤ k
section
variable {w W W' : World} {B pm bm k g i : Nat} {s s' : MS}
theorem LpI.ml {A1 A2 : Option Addr} {c1 c2 : Nat} (h : LpI w W B pm bm g i s A1 c1 A2 c2) : Ml w W B pm bm i s := ⟨h.wf, h.mo, h.lo, fun k hk => (h.ge k hk).1⟩
theorem Ml.below (h : Ml w W B pm bm k s) (hb : Below W.heap.size W W') : Ml w W' B pm bm k s := ⟨h.wf, h.mo.below hb, h.lo.trans (hb.mono h.lo.size), h.ge⟩
def MlP (w W : World) (B pm bm k : Nat) (a b c : Int) (s' : MS) (e : Ending) (W' : World) : Prop := e = .returned (.agg #[.int .i64 a, .int .i64 b, .int .u8 c]) ∧ Ml w W' B pm bm (k + 1) s' ∧ Mv [B, pm, bm] W W'
theorem Ml.do_ (h : Ml w W B pm bm k s) (hk : k < 1000) (o : OpS) (ho : OkO o) {a b c : Int} (he : doR s o = ((a, b, c), s')) :
    Calls Try.prog 14 #[.pointer (some ⟨B, 0, none⟩), Value.agg #[.int .i64 o.kind, .int .i64 o.sp, .int .i64 o.ak, .bool o.ap, .int .u64 o.av, .int .u8 o.byte, .int .u64 o.va, .int .i64 o.size, .bool o.at_.f0, .bool o.at_.f1, .bool o.at_.f2, .bool o.at_.f3, .bool o.at_.f4, .bool o.at_.f5, .int .i64 o.other, .int .u64 o.too]] W (MlP w W B pm bm k a b c s') :=
  (done_calls h.mo h.wf hk o ho).mono (fun e w' hh => by
    obtain ⟨h1, h2, h3, h4⟩ := hh
    rw [he] at h1 h2 h3
    exact ⟨h1, ⟨h3, h2, h.lo.trans (h4.below h.lo.size h.ge), h.ge⟩, h4⟩)
theorem isAll_z {n z : Int} (hn : n = 3) (hz : 0 ≤ z ∧ z < 3) : isAll n [z] = true := by subst hn; simp [isAll]; omega
theorem hole_vaS (va : Nat) : holeB (vaS va) = false := by
  unfold holeB vaS Go.Proofs.Ytalmemcidbmdgaa.BitsN.get
  have hM : (2 : Nat) ^ 43 = 8796093022208 := by decide
  have hM2 : (2 : Nat) ^ 64 = 18446744073709551616 := by decide
  have h21 : (2 : Nat) ^ 21 = 2097152 := by decide
  rw [hM, hM2, h21]
  have : va % 8796093022208 < 8796093022208 := Nat.mod_lt _ (by omega)
  split
  · have e : (va % 8796093022208 + (18446744073709551616 - 8796093022208)) / 8796093022208 % 2097152 = 2097151 := by omega
    rw [e]; rfl
  · have e : va % 8796093022208 / 8796093022208 % 2097152 = 0 := by omega
    rw [e]; rfl
/-- A list of pages in memory: those of a space, as they rise. -/
def PgL (W : World) (A : Option Addr) (c n : Nat) (l : List Pg) : Prop := Kd.C k50 W A l.length l ∧ l.length ≤ c ∧ n = l.length ∧ l.length ≤ 100000
theorem Ml.pages (h : Ml w W B pm bm k s) (hk : k < 1000) (sp : Int) : Calls Try.prog 15 #[.pointer (some ⟨B, 0, none⟩), .int .i64 sp] W (fun e W' => ∃ A c n, e = .returned (.slice A n c) ∧ PgL W' A c n (pagesS s sp) ∧ Below W.heap.size W W' ∧ (∀ ad, A = some ad → W.heap.size ≤ ad.block)) := by
  refine (pages_calls h.mo (by have := h.wf.few; omega) sp).mono ?_
  rintro e W' ⟨A, c, l, rfl, hc, hp, hs, hC, hb, hA⟩
  have e := pagesS_eq h.wf.wl hp hs
  subst e
  exact ⟨A, c, _, rfl, ⟨hC, hc, rfl, by have := pagesS_len s sp; have := h.wf.few; omega⟩, hb, hA⟩
theorem PgL.below {A : Option Addr} {c n : Nat} {l : List Pg} (h : PgL W A c n l) (hb : Below W.heap.size W W') : PgL W' A c n l := ⟨Kd.C_below h.1 hb, h.2⟩
theorem PgL.mv {A : Option Addr} {c n : Nat} {l : List Pg} {S : List Nat} {b0 : Nat} (h : PgL W A c n l) (hv : Mv S W W') (hA : ∀ ad, A = some ad → b0 ≤ ad.block) (hS : ∀ k ∈ S, k < b0) : PgL W' A c n l := by
  obtain ⟨h1, h2⟩ := h
  refine ⟨⟨h1.1, h1.2.1, fun hn => ?_⟩, h2⟩
  obtain ⟨ad, e, hc⟩ := h1.2.2 hn
  refine ⟨ad, e, fun j p hj => ?_⟩
  obtain ⟨c, hs, hr, hcell⟩ := hc j p hj
  refine ⟨c, hs, ?_, fun i u hu => ?_⟩
  · rw [k50_open hr]; exact k50_mk W' p
  · have hcu := hcell i u hu
    have hbk : (ad.add (j * k50.sz + i)).block = ad.block := by unfold Addr.add; split <;> rfl
    exact (World.cell?_of_block (hv.block _ (World.block_lt_of_cell? _ _ hcu) (fun hm => by have h3 := hS _ hm; rw [hbk] at h3; have h4 := hA ad e; omega))).trans hcu
end
end Go.Proofs.Ytalmemcidbmdgaa.PM



/- What laws do behind the asks (layer 16): plain: a good page, an access in it. -/
set_option linter.unusedVariables false
set_option linter.unusedSimpArgs false
namespace Go.Proofs.Ytalmemcidbmdgaa.PM
open Go.RowKit Go.Proofs.YtalmemcidbmdgaaW.PrintWords Go.Proofs.YtalmemcidbmdgaaW.PrintLast Go.Proofs.YtalmemcidbmdgaaW.PrintMore Go.Proofs.Ytalmemcidbmdgaa.PageG
attribute [local go_sem] max2_int min2_int max_two min_two max_three min_three max_four min_four   -- for this text's walks alone
theorem bytes_r2 (z : Nat) (hz : z < 4) : lookasideref02_Bytes.f (z : Int) = some ((2 ^ (13 + 3 * z) : Nat) : Int) := by
  have hc : z = 0 ∨ z = 1 ∨ z = 2 ∨ z = 3 := by omega
  rcases hc with rfl | rfl | rfl | rfl <;> rfl
theorem get_eq {a b : Nat} (h : a / 2 ^ 43 = b / 2 ^ 43) : holeB a = holeB b := by
  unfold holeB Go.Proofs.Ytalmemcidbmdgaa.BitsN.get
  rw [h]
theorem in_div (v z r : Nat) (hz : z < 4) (hr : r < 2 ^ (13 + 3 * z)) : (bs v z + r) / 2 ^ (13 + 3 * z) = v / 2 ^ (13 + 3 * z) := by
  unfold bs
  rw [Nat.mul_comm, Nat.mul_add_div (Nat.two_pow_pos _), Nat.div_eq_of_lt hr, Nat.add_zero]
theorem in_hole (v z r : Nat) (hz : z < 4) (hr : r < 2 ^ (13 + 3 * z)) : holeB (bs v z + r) = holeB v := by
  apply get_eq
  have e : (2 : Nat) ^ 43 = 2 ^ (13 + 3 * z) * 2 ^ (30 - 3 * z) := by rw [← Nat.pow_add]; congr 1; omega
  rw [e, ← Nat.div_div_eq_div_mul, in_div v z r hz hr, Nat.div_div_eq_div_mul]
theorem in_bs (v z r : Nat) (hz : z < 4) (hr : r < 2 ^ (13 + 3 * z)) : bs (bs v z + r) z = bs v z := by
  show (bs v z + r) / 2 ^ (13 + 3 * z) * 2 ^ (13 + 3 * z) = bs v z
  rw [in_div v z r hz hr]
  rfl
theorem in_mod (v z r : Nat) (hr : r < 2 ^ (13 + 3 * z)) : (bs v z + r) % 2 ^ (13 + 3 * z) = r := by
  unfold bs
  rw [Nat.mul_comm, Nat.mul_add_mod, Nat.mod_eq_of_lt hr]
theorem in_lt (v z r : Nat) (hv : v < 2 ^ 64) (hz : z < 4) (hr : r < 2 ^ (13 + 3 * z)) : bs v z + r < 2 ^ 64 := by
  have h := in_div v z r hz hr
  have e : (2 : Nat) ^ 64 = 2 ^ (13 + 3 * z) * 2 ^ (51 - 3 * z) := by rw [← Nat.pow_add]; congr 1; omega
  rw [e] at hv ⊢
  have h2 : v / 2 ^ (13 + 3 * z) < 2 ^ (51 - 3 * z) := Nat.div_lt_of_lt_mul hv
  rw [← h] at h2
  have := Nat.lt_mul_div_succ (bs v z + r) (Nat.two_pow_pos (13 + 3 * z))
  have h3 : 2 ^ (13 + 3 * z) * ((bs v z + r) / 2 ^ (13 + 3 * z) + 1) ≤ 2 ^ (13 + 3 * z) * 2 ^ (51 - 3 * z) := Nat.mul_le_mul_left _ h2
  omega
theorem starts_bs (v z : Nat) (hz : z < 4) : startsB ((bs v z : Nat) : Int) (z : Int) = true := by
  unfold startsB
  rw [if_pos (by omega)]
  apply decide_eq_true
  rw [Int.toNat_natCast, Int.toNat_natCast]
  have := in_mod v z 0 (Nat.two_pow_pos _)
  simpa using this
theorem hit_set {sp sp' : Int} {va : Nat} {x : Ent} {p : Pg} (h0 : p.f0 = x.f1.f0) (h1 : p.f1 = x.f1.f1) : hit sp va ⟨x.f0, p⟩ = hit sp va x := by
  unfold hit szN vaN
  rw [h0, h1]
theorem find_set {sp : Int} {va : Nat} : ∀ {L : List Ent} {i : Nat} {x y : Ent}, L[i]? = some x → hit sp va y = hit sp va x → find (L.set i y) sp va = find L sp va
  | [], i, x, y, h, _ => by simp at h
  | a :: L, 0, x, y, h, e => by
    simp at h
    subst h
    show (y :: L).findIdx? (hit sp va) = (a :: L).findIdx? (hit sp va)
    rw [List.findIdx?_cons, List.findIdx?_cons, e]
  | a :: L, i + 1, x, y, h, e => by
    have hx : L[i]? = some x := by simpa using h
    have ih : (L.set i y).findIdx? (hit sp va) = L.findIdx? (hit sp va) := find_set hx e
    show (a :: L.set i y).findIdx? (hit sp va) = (a :: L).findIdx? (hit sp va)
    rw [List.findIdx?_cons, List.findIdx?_cons, ih]
theorem set_perm {L : List Ent} {i : Nat} {x y : Ent} (h : L[i]? = some x) : L.Perm (x :: L.eraseIdx i) ∧ (L.set i y).Perm (y :: L.eraseIdx i) := by
  obtain ⟨hi, e⟩ := List.getElem?_eq_some_iff.1 h
  refine ⟨by have := erase_perm hi; rwa [e] at this, ?_⟩
  have hi2 : i < (L.set i y).length := by simpa using hi
  have := erase_perm hi2
  rwa [List.getElem_set_self, List.eraseIdx_set_eq] at this
theorem sel_one {L : List Ent} {i : Nat} {x : Ent} {p : Pg} (h : L[i]? = some x) (hs : sel x.f0 L = [x.f1]) : sel x.f0 (L.set i ⟨x.f0, p⟩) = [p] := by
  obtain ⟨h1, h2⟩ := set_perm (y := ⟨x.f0, p⟩) h
  have p1 := sel_perm h1 x.f0
  have p2 := sel_perm h2 x.f0
  have e1 : ∀ y : Ent, y.f0 = x.f0 → sel x.f0 (y :: L.eraseIdx i) = y.f1 :: sel x.f0 (L.eraseIdx i) := fun y hy => by
    unfold sel
    rw [List.filter_cons, if_pos (by simp [hy]), List.map_cons]
  rw [e1 x rfl, hs] at p1
  have hnil : sel x.f0 (L.eraseIdx i) = [] := by have := p1.length_eq; simpa using this
  rw [e1 ⟨x.f0, p⟩ rfl, hnil] at p2
  exact List.perm_singleton.1 p2
/-- A space with one page, and an address in it. -/
structure RdI (t : MS) (sp : Int) (vv i : Nat) (x : Ent) : Prop where
  n : t.n = 3
  f : find t.L sp vv = some i
  at_ : t.L[i]? = some x
  hsp : x.f0 = sp
  one : sel sp t.L = [x.f1]
def opA (sp k : Int) (vv : Nat) (c : Int) : OpS := ⟨0, sp, k, false, (vv : Int), c, 0, 0, ⟨false, false, false, false, false, false⟩, 0, 0⟩
/-- What an access leaves. -/
def accT (t : MS) (i : Nat) (x : Ent) (k : Int) (vv : Nat) (c : Int) : MS :=
  if k = 1 then { t with L := t.L.set i ⟨x.f0, accP x.f1 k⟩, by_ := putB t.by_ x.f1.f2 ((offN x vv : Nat) : Int) c } else { t with L := t.L.set i ⟨x.f0, accP x.f1 k⟩ }
theorem RdI.do_ {t : MS} {sp : Int} {vv i : Nat} {x : Ent} (h : RdI t sp vv i x) (hs : 0 ≤ sp ∧ sp < 3) (hh : holeB vv = false) {k c : Int} (hk : 0 ≤ k ∧ k < 4) (hj : judgeN x.f1.f3 k false = 0) :
    doR t (opA sp k vv c) = ((0, 0, if k = 1 then 0 else getB t.by_ x.f1.f2 ((offN x vv : Nat) : Int)), accT t i x k vv c) := by
  rw [doR_0 t (opA sp k vv c) rfl, accessR_some (o := opA sp k vv c) ⟨isAll_z h.n hs, hk⟩ (by show holeB ((vv : Nat) : Int).toNat = false; rw [Int.toNat_natCast]; exact hh) (by show find t.L sp ((vv : Nat) : Int).toNat = _; rw [Int.toNat_natCast]; exact h.f) h.at_]
  unfold accD accT
  rw [if_pos (show judgeN x.f1.f3 (opA sp k vv c).ak (opA sp k vv c).ap = 0 from hj)]
  show (if k = 1 then _ else _) = _
  split
  · show _ = ((0, 0, 0), _)
    rw [show ((opA sp k vv c).av.toNat) = vv from Int.toNat_natCast vv]
    rfl
  · rw [show ((opA sp k vv c).av.toNat) = vv from Int.toNat_natCast vv]
    rfl
theorem RdI.step {t : MS} {sp : Int} {vv i : Nat} {x : Ent} (h : RdI t sp vv i x) (k : Int) (c : Int) : RdI (accT t i x k vv c) sp vv i ⟨x.f0, accP x.f1 k⟩ := by
  have hil := (List.getElem?_eq_some_iff.1 h.at_).1
  have key : RdI { t with L := t.L.set i ⟨x.f0, accP x.f1 k⟩ } sp vv i ⟨x.f0, accP x.f1 k⟩ :=
    ⟨h.n, (find_set h.at_ (hit_set (sp' := sp) (p := accP x.f1 k) rfl rfl)).trans h.f, by simp [hil], h.hsp, by
      show sel sp (t.L.set i ⟨x.f0, accP x.f1 k⟩) = [accP x.f1 k]
      have h2 := h.one
      rw [← h.hsp] at h2 ⊢
      exact sel_one h.at_ h2⟩
  unfold accT
  split
  · exact ⟨key.n, key.f, key.at_, key.hsp, key.one⟩
  · exact key
theorem accT_by (t : MS) (i : Nat) (x : Ent) (k : Int) (vv : Nat) (c : Int) (hk : k = 1) : getB (accT t i x k vv c).by_ x.f1.f2 ((offN x vv : Nat) : Int) = c := by
  unfold accT
  rw [if_pos hk]
  show getB (putB t.by_ _ _ c) _ _ = c
  rw [getB_put, if_pos ⟨rfl, rfl⟩]
theorem accT_by_no (t : MS) (i : Nat) (x : Ent) (k : Int) (vv : Nat) (c : Int) (hk : k ≠ 1) : (accT t i x k vv c).by_ = t.by_ := by
  unfold accT
  rw [if_neg hk]
def atWE : Atr := ⟨true, false, true, false, false, false⟩
theorem judge_we (k : Int) : judgeN atWE k false = 0 := by
  unfold judgeN atWE
  simp
/-- A map where the space has no page. -/
def opM (sp : Int) (v z : Nat) (a : Atr) : OpS := ⟨1, sp, 0, false, 0, 0, (v : Int), (z : Int), a, 0, 0⟩
theorem opM_ok {sp : Int} {v z : Nat} {a : Atr} (hs : 0 ≤ sp ∧ sp < 3) (hv : v < 2 ^ 64) (hz : z < 4) : OkO (opM sp v z a) :=
  ⟨⟨by show _ ≤ sp; omega, by show sp ≤ _; omega⟩, ⟨by show (0 : Int) ≤ (v : Int); omega, by show (v : Int) < 2 ^ 64; omega⟩, ⟨show (0 : Int) ≤ 0 by decide, show (0 : Int) < 2 ^ 64 by decide⟩, ⟨show (0 : Int) ≤ 0 by decide, show (0 : Int) < 2 ^ 64 by decide⟩, ⟨show (-9223372036854775808 : Int) ≤ 0 by decide, show (0 : Int) ≤ 9223372036854775807 by decide⟩, ⟨by show _ ≤ (z : Int); omega, by show (z : Int) ≤ _; omega⟩, ⟨show (0 : Int) ≤ 0 by decide, show (0 : Int) < 256 by decide⟩⟩
def mapT (s : MS) (sp : Int) (v z : Nat) (a : Atr) : MS := { s with L := s.L ++ [⟨sp, ⟨(v : Int), (z : Int), s.made, a, false, false⟩⟩], made := s.made + 1 }
theorem map_do {s : MS} (hn : s.n = 3) {sp : Int} (hs : 0 ≤ sp ∧ sp < 3) {va z : Nat} (hz : z < 4) {a : Atr} (ha : a.f4 = false) (hm : (sel sp s.L).any (meetB (⟨((bs (vaS va) z : Nat) : Int), (z : Int), s.made, a, false, false⟩ : Pg)) = false) :
    doR s (opM sp (bs (vaS va) z) z a) = ((0, 0, 0), mapT s sp (bs (vaS va) z) z a) := by
  have hp : putS s sp (mapP s (opM sp (bs (vaS va) z) z a)) = (0, { s with L := s.L ++ [⟨sp, mapP s (opM sp (bs (vaS va) z) z a)⟩] }) := by
    unfold putS
    rw [if_neg (by
      show ¬ holeB ((bs (vaS va) z : Nat) : Int).toNat = true
      rw [Int.toNat_natCast]
      have := in_hole (vaS va) z 0 hz (Nat.two_pow_pos _)
      rw [Nat.add_zero, hole_vaS] at this
      rw [this]; simp), if_neg (by
      show ¬ startsB ((bs (vaS va) z : Nat) : Int) (z : Int) = false
      rw [starts_bs _ z hz]; simp), if_neg (by
      show ¬ (sel sp s.L).any (meetB (⟨((bs (vaS va) z : Nat) : Int), (z : Int), s.made, a, false, false⟩ : Pg)) = true
      rw [hm]; simp)]
  have e := newsD_eq s (opM sp (bs (vaS va) z) z a) (.inl rfl)
  rw [← e, newsD_map (o := opM sp (bs (vaS va) z) z a) rfl ⟨isAll_z hn hs, ha⟩ ⟨by show (0 : Int) ≤ (z : Int); omega, by show (z : Int) < 4; omega⟩ hp, if_pos rfl]
  rfl
end Go.Proofs.Ytalmemcidbmdgaa.PM


/- The document's page that may be (layer 12): Good: the walk. -/
set_option linter.unusedVariables false
set_option linter.unusedSimpArgs false
namespace Go.Proofs.Ytalmemcidbmdgaa.PM
open Go.RowKit Go.Proofs.YtalmemcidbmdgaaW.PrintWords Go.Proofs.YtalmemcidbmdgaaW.PrintLast Go.Proofs.YtalmemcidbmdgaaW.PrintMore Go.Proofs.Ytalmemcidbmdgaa.PageG
attribute [local go_sem] max2_int min2_int max_two min_two max_three min_three max_four min_four   -- for this text's walks alone
theorem set1p {W : World} {g : Nat} {a0 a1 a2 a3 a4 a5 a6 a7 a8 a9 a10 : Value} {t : TypeId} (h : W.heap[g]? = some (.cells #[a0, a1, a2, a3, a4, a5, a6, a7, a8, a9, a10] t (0, 0))) (b : Value) : W.setCell ⟨g, 1, none⟩ b = ChangeMaps.setBlock W g (.cells #[a0, b, a2, a3, a4, a5, a6, a7, a8, a9, a10] t (0, 0)) := setCell_block h b rfl
theorem set0p {W : World} {g : Nat} {a0 a1 a2 a3 a4 a5 a6 a7 a8 a9 a10 : Value} {t : TypeId} (h : W.heap[g]? = some (.cells #[a0, a1, a2, a3, a4, a5, a6, a7, a8, a9, a10] t (0, 0))) (b : Value) : W.setCell ⟨g, 0, none⟩ b = ChangeMaps.setBlock W g (.cells #[b, a1, a2, a3, a4, a5, a6, a7, a8, a9, a10] t (0, 0)) := setCell_block h b rfl
theorem set2p {W : World} {g : Nat} {a0 a1 a2 a3 a4 a5 a6 a7 a8 a9 a10 : Value} {t : TypeId} (h : W.heap[g]? = some (.cells #[a0, a1, a2, a3, a4, a5, a6, a7, a8, a9, a10] t (0, 0))) (b : Value) : W.setCell ⟨g, 2, none⟩ b = ChangeMaps.setBlock W g (.cells #[a0, a1, b, a3, a4, a5, a6, a7, a8, a9, a10] t (0, 0)) := setCell_block h b rfl
theorem one_pg (a0 a1 a2 : Int) (p : Pg) : (#[.int .u64 a0, .int .i64 a1, .int .u64 a2, .bool p.f3.f0, .bool p.f3.f1, .bool p.f3.f2, .bool p.f3.f3, .bool p.f3.f4, .bool p.f3.f5, .bool p.f4, .bool p.f5] : Array Value).all (·.oneCell') = true := by simp [Value.oneCell']
set_option maxHeartbeats 8000000 in
set_option maxRecDepth 100000 in
theorem good12_calls (p : Pg) (va pa zq z pm : Nat) (h0 : p.f0 = (va : Int)) (hv : va < 2 ^ 64) (h2 : p.f2 = (pa : Int)) (h1 : W64 p.f1) (hz : nnI p.f1 = (zq : Int)) (hzz : zq % 4 = z) (hpm : pa % 2199023255552 = pm) (w : World) :
    Calls Try.prog 22 #[.agg #[.int .u64 p.f0, .int .i64 p.f1, .int .u64 p.f2, .bool p.f3.f0, .bool p.f3.f1, .bool p.f3.f2, .bool p.f3.f3, .bool p.f3.f4, .bool p.f3.f5, .bool p.f4, .bool p.f5]] w fun e w' => e = .returned (.agg #[.int .u64 ((bs (vaS va) z : Nat) : Int), .int .i64 (z : Int), .int .u64 ((bs pm z : Nat) : Int), .bool p.f3.f0, .bool p.f3.f1, .bool p.f3.f2, .bool p.f3.f3, .bool p.f3.f4, .bool p.f3.f5, .bool p.f4, .bool p.f5]) ∧ Below w.heap.size w w' := by
  have HV0 := Aside0.mk h0
  have HV := Aside0.mk hv
  have HP2 := Aside0.mk h2
  have HW1 := Aside0.mk h1
  have HQ := Aside0.mk hz
  have hz4 : z < 4 := by omega
  have HZ4 := Aside0.mk hz4
  have HZM := Aside0.mk (show (zq : Int) % 4 = (z : Int) by omega)
  have HPM := Aside0.mk (show (pa : Int) % 2199023255552 = (pm : Int) by omega)
  have HPL := Aside0.mk (show pm < 2 ^ 64 by omega)
  clear h0 hv h2 h1 hz hzz hpm hz4
  obtain ⟨D, hD⟩ : ∃ D, w.heap.size = D := ⟨_, rfl⟩
  go_enter Try.func22, Try.ntmps22
  go_upto_region 1 with fail
  have hx := B2.mk2 hD 50 50 #[.int .u64 p.f0, .int .i64 p.f1, .int .u64 p.f2, .bool p.f3.f0, .bool p.f3.f1, .bool p.f3.f2, .bool p.f3.f3, .bool p.f3.f4, .bool p.f3.f5, .bool p.f4, .bool p.f5] #[.int .u64 0, .int .i64 0, .int .u64 0, .bool false, .bool false, .bool false, .bool false, .bool false, .bool false, .bool false, .bool false]
  have HX := Aside0.mk hx
  generalize (w.alloc (.cells #[.int .u64 p.f0, .int .i64 p.f1, .int .u64 p.f2, .bool p.f3.f0, .bool p.f3.f1, .bool p.f3.f2, .bool p.f3.f3, .bool p.f3.f4, .bool p.f3.f5, .bool p.f4, .bool p.f5] 50)).alloc (.cells #[.int .u64 0, .int .i64 0, .int .u64 0, .bool false, .bool false, .bool false, .bool false, .bool false, .bool false, .bool false, .bool false] 50) = w1 at *
  clear hx hD
  obtain ⟨-, p1, -⟩ := cells11 HX.out.a
  go_upto_if 7 with fail
  go_cut [3] (fun v wx => v = .int .i64 (zq : Int) ∧ wx = w1)
  case first =>
    by_cases h1 : p.f1 < 0
    · have d1 : decide (p.f1 < 0) = true := decide_eq_true h1
      have HN := Aside0.mk (nn_neg HW1.out h1 HQ.out)
      go_wp2_with fail
      go_meet
      case rel => exact ⟨by rw [HN.out], rfl⟩
    · have d1 : decide (p.f1 < 0) = false := decide_eq_false h1
      have HN := Aside0.mk (nn_pos h1 HQ.out)
      go_wp2_with fail
      go_meet
      case rel => exact ⟨by rw [HN.out], rfl⟩
  case rest =>
  obtain ⟨rfl, hw⟩ := hcut
  replace hw := hw.symm
  subst hw
  have f1 := blk_frozen HX.out.a 1
  have hzm := HZM.out
  go_upto_region 5 with fail
  rw [set1p HX.out.a]
  have HX2 := Aside0.mk (HX.out.sa (a' := #[.int .u64 p.f0, .int .i64 (z : Int), .int .u64 p.f2, .bool p.f3.f0, .bool p.f3.f1, .bool p.f3.f2, .bool p.f3.f3, .bool p.f3.f4, .bool p.f3.f5, .bool p.f4, .bool p.f5]))
  generalize ChangeMaps.setBlock w1 D (.cells #[.int .u64 p.f0, .int .i64 (z : Int), .int .u64 p.f2, .bool p.f3.f0, .bool p.f3.f1, .bool p.f3.f2, .bool p.f3.f3, .bool p.f3.f4, .bool p.f3.f5, .bool p.f4, .bool p.f5] 50 (0, 0)) = w2 at *
  clear p1 f1 hzm HX
  have HC0 := Aside0.mk (show w2.cell? ⟨D, 0, none⟩ = some (.int .u64 (va : Int)) by rw [← HV0.out]; exact (blk_cell HX2.out.a 0).trans rfl)
  have HC1 := Aside0.mk (show w2.cell? ⟨D, 1, none⟩ = some (.int .i64 (z : Int)) from (blk_cell HX2.out.a 1).trans rfl)
  refine start_ (n := 8) (S := fun w' => Below w2.heap.size w2 w') (ds := [7]) #[false, false, false, false, false, false, false, false] (by kernel_rfl) rfl rfl (by exact (Below.refl _ _).drew) (fun hHeld => ?_)
  refine pure_ (i := 0) (N := some 14) (v := ?_) (a' := ?_) #[true, false, false, false, false, false, false, false] rfl rfl (by kernel_rfl) (fun _ _ _ h => h) (Or.inl ⟨by rfl, ?_⟩) ?_ ?_
  rotate_left
  · intro w'
    go_simp
    with_reducible rfl
  rotate_left
  · simp only [Act.put, List.setIfInBounds_toArray, List.set_cons_zero, List.set_cons_succ, i64_w, i32_w]
    rfl
  refine pure_ (i := 3) (N := some 17) (v := ?_) (a' := ?_) #[true, false, false, true, false, false, false, false] rfl rfl (by kernel_rfl) (fun _ _ _ h => h) (Or.inl ⟨by rfl, ?_⟩) ?_ ?_
  rotate_left
  · intro w'
    go_simp
    with_reducible rfl
  rotate_left
  · simp only [Act.put, List.setIfInBounds_toArray, List.set_cons_zero, List.set_cons_succ, i64_w, i32_w]
    rfl
  refine take_ (i := 1) (N := some 15) (v := ?_) (a' := ?_) #[true, true, false, true, false, false, false, false] rfl rfl (by kernel_rfl) (fun _ _ _ h => h) (Or.inl ⟨by rfl, ?_⟩) hHeld ?_ ?_
  rotate_left
  · rintro w' s0
    have p0 := (s0.cell (World.block_lt_of_cell? _ _ HC0.out)).trans HC0.out
    have p1 := (s0.cell (World.block_lt_of_cell? _ _ HC1.out)).trans HC1.out
    go_simp
    with_reducible rfl
  rotate_left
  · simp only [Act.put, List.setIfInBounds_toArray, List.set_cons_zero, List.set_cons_succ, i64_w, i32_w]
    rfl
  refine take_ (i := 4) (N := some 18) (v := ?_) (a' := ?_) #[true, true, false, true, true, false, false, false] rfl rfl (by kernel_rfl) (fun _ _ _ h => h) (Or.inl ⟨by rfl, ?_⟩) hHeld ?_ ?_
  rotate_left
  · rintro w' s0
    have p0 := (s0.cell (World.block_lt_of_cell? _ _ HC0.out)).trans HC0.out
    have p1 := (s0.cell (World.block_lt_of_cell? _ _ HC1.out)).trans HC1.out
    go_simp
    with_reducible rfl
  rotate_left
  · simp only [Act.put, List.setIfInBounds_toArray, List.set_cons_zero, List.set_cons_succ, i64_w, i32_w]
    rfl
  refine one_ (i := 2) (N := some 16) #[true, true, true, true, true, false, false, false] rfl rfl (by kernel_rfl) (by decide) (fun K hK => ?_)
  refine goes_ Try.func19 (by kernel_rfl) rfl #[.int .u64 (va : Int)] (by rfl) rfl rfl (by (try simp only [List.map_toArray, List.map_cons, List.map_nil]); first | done | rfl) ?_
  refine (lookasideref02_Va.calls 90 (va : Int) ((vaS va : Nat) : Int) _ (va_r va HV.out)).mono ?_
  rintro e wa ⟨rfl, hd⟩
  refine ⟨_, rfl, ?_⟩
  have HBA := Aside0.mk ((Below.refl w2.heap.size w2).drew.trans hd.below)
  clear hd
  refine hK.out _ _ HBA.out (fun hHeld => ?_)
  clear hK K
  refine norm_ (a' := ?_) ?_ ?_
  rotate_left
  · show Act.put _ (some 16) _ = _
    simp only [Act.put, List.setIfInBounds_toArray, List.set_cons_zero, List.set_cons_succ, i64_w, i32_w]
    rfl
  refine one_ (i := 5) (N := some 19) #[true, true, true, true, true, true, false, false] rfl rfl (by kernel_rfl) (by decide) (fun K hK => ?_)
  refine goes_ Try.func18 (by kernel_rfl) rfl #[.int .u64 ((vaS va : Nat) : Int), .int .i64 (z : Int)] (by rfl) rfl rfl (by (try simp only [List.map_toArray, List.map_cons, List.map_nil]); first | done | rfl) ?_
  refine (lookasideref02_Base.calls ((vaS va : Nat) : Int) (z : Int) ((bs (vaS va) z : Nat) : Int) wa (base_r (vaS va) z (vaS_lt va) HZ4.out)).mono ?_
  rintro e wb ⟨rfl, hd⟩
  refine ⟨_, rfl, ?_⟩
  have HBB := Aside0.mk (HBA.out.trans (hd.below.mono HBA.out.size))
  have HX3 := Aside0.mk (HX2.out.below HBB.out)
  have q0 := (blk_cell HX3.out.a 0).trans rfl
  have f0 := blk_frozen HX3.out.a 0
  clear hd
  refine hK.out _ _ HBB.out (fun hHeld => ?_)
  clear hK K
  refine norm_ (a' := ?_) ?_ ?_
  rotate_left
  · show Act.put _ (some 19) _ = _
    simp only [Act.put, List.setIfInBounds_toArray, List.set_cons_zero, List.set_cons_succ, i64_w, i32_w]
    rfl
  refine pure_ (i := 6) (N := some 20) (v := ?_) (a' := ?_) #[true, true, true, true, true, true, true, false] rfl rfl (by kernel_rfl) (fun _ _ _ h => h) (Or.inl ⟨by rfl, ?_⟩) ?_ ?_
  rotate_left
  · intro w'
    go_simp
    with_reducible rfl
  rotate_left
  · simp only [Act.put, List.setIfInBounds_toArray, List.set_cons_zero, List.set_cons_succ, i64_w, i32_w]
    rfl
  refine last_ (i := 7) (N := none) #[true, true, true, true, true, true, true, true] rfl rfl (by kernel_rfl) (by decide) (fun K hK => ?_)
  refine skip_ (w1 := ?_) (by rfl) rfl ?_ ?_
  rotate_left
  · go_simp
    with_reducible rfl
  refine hK.out _ _ ?_
  clear hK K
  refine done_ (by kernel_rfl) ?_
  (try simp only [Exit.inBlock, Exit.then])
  clear hHeld
  rw [set0p HX3.out.a]
  have HX4 := Aside0.mk (HX3.out.sa (a' := #[.int .u64 ((bs (vaS va) z : Nat) : Int), .int .i64 (z : Int), .int .u64 p.f2, .bool p.f3.f0, .bool p.f3.f1, .bool p.f3.f2, .bool p.f3.f3, .bool p.f3.f4, .bool p.f3.f5, .bool p.f4, .bool p.f5]))
  generalize ChangeMaps.setBlock wb D (.cells #[.int .u64 ((bs (vaS va) z : Nat) : Int), .int .i64 (z : Int), .int .u64 p.f2, .bool p.f3.f0, .bool p.f3.f1, .bool p.f3.f2, .bool p.f3.f3, .bool p.f3.f4, .bool p.f3.f5, .bool p.f4, .bool p.f5] 50 (0, 0)) = w4 at *
  clear HX3 HX2 HC0 HC1 q0 f0
  obtain ⟨-, p1, p2, -⟩ := cells11 HX4.out.a
  rw [HP2.out] at p2
  have hpm := HPM.out
  go_wp2_with fail
  refine (lookasideref02_Base.calls (pm : Int) (z : Int) ((bs pm z : Nat) : Int) w4 (base_r pm z HPL.out HZ4.out)).mono ?_
  rintro e w5 ⟨rfl, hd⟩
  have HX5 := Aside0.mk (HX4.out.below hd.below)
  clear hd p1 p2 hpm HX4
  have q2 := (blk_cell HX5.out.a 2).trans rfl
  have f2 := blk_frozen HX5.out.a 2
  go_upto_region 7 with fail
  rw [set2p HX5.out.a]
  have HX6 := Aside0.mk (HX5.out.sa (a' := #[.int .u64 ((bs (vaS va) z : Nat) : Int), .int .i64 (z : Int), .int .u64 ((bs pm z : Nat) : Int), .bool p.f3.f0, .bool p.f3.f1, .bool p.f3.f2, .bool p.f3.f3, .bool p.f3.f4, .bool p.f3.f5, .bool p.f4, .bool p.f5]))
  generalize ChangeMaps.setBlock w5 D (.cells #[.int .u64 ((bs (vaS va) z : Nat) : Int), .int .i64 (z : Int), .int .u64 ((bs pm z : Nat) : Int), .bool p.f3.f0, .bool p.f3.f1, .bool p.f3.f2, .bool p.f3.f3, .bool p.f3.f4, .bool p.f3.f5, .bool p.f4, .bool p.f5] 50 (0, 0)) = w6 at *
  clear q2 f2 HX5
  go_wp2_with (first | (refine wpList_load_row rfl 50 _ rfl D rfl 50 #[.int .u64 ((bs (vaS va) z : Nat) : Int), .int .i64 (z : Int), .int .u64 ((bs pm z : Nat) : Int), .bool p.f3.f0, .bool p.f3.f1, .bool p.f3.f2, .bool p.f3.f3, .bool p.f3.f4, .bool p.f3.f5, .bool p.f4, .bool p.f5] (0, 0) _ HX6.out.a Try.underlying50 rfl (by kernel_rfl) ?_) | (refine wpList_store_row rfl 50 _ _ rfl (D + 1) #[.int .u64 ((bs (vaS va) z : Nat) : Int), .int .i64 (z : Int), .int .u64 ((bs pm z : Nat) : Int), .bool p.f3.f0, .bool p.f3.f1, .bool p.f3.f2, .bool p.f3.f3, .bool p.f3.f4, .bool p.f3.f5, .bool p.f4, .bool p.f5] rfl rfl 50 #[.int .u64 0, .int .i64 0, .int .u64 0, .bool false, .bool false, .bool false, .bool false, .bool false, .bool false, .bool false, .bool false] HX6.out.b (by kernel_rfl) rfl (one_pg _ _ _ p) ?_))
  rw [setRow_sb HX6.out.b]
  refine bodyPost_ret (results_cell_row rfl _ _ (D + 1) 50 _ (0, 0) _ rfl (sb_same HX6.out.b _) Try.underlying50 rfl (by kernel_rfl)) rfl ?_
  have hx7 := HX6.out.sb (b' := #[.int .u64 ((bs (vaS va) z : Nat) : Int), .int .i64 (z : Int), .int .u64 ((bs pm z : Nat) : Int), .bool p.f3.f0, .bool p.f3.f1, .bool p.f3.f2, .bool p.f3.f3, .bool p.f3.f4, .bool p.f3.f5, .bool p.f4, .bool p.f5])
  exact ⟨rfl, hx7.lo⟩
theorem good12_ex (p : Pg) (va pa zq z : Nat) (h0 : p.f0 = (va : Int)) (hv : va < 2 ^ 64) (h2 : p.f2 = (pa : Int)) (h1 : W64 p.f1) (hz : nnI p.f1 = (zq : Int)) (hzz : zq % 4 = z) :
    ∃ gp : Nat, ∀ w, Calls Try.prog 22 #[.agg #[.int .u64 p.f0, .int .i64 p.f1, .int .u64 p.f2, .bool p.f3.f0, .bool p.f3.f1, .bool p.f3.f2, .bool p.f3.f3, .bool p.f3.f4, .bool p.f3.f5, .bool p.f4, .bool p.f5]] w fun e w' => e = .returned (.agg #[.int .u64 ((bs (vaS va) z : Nat) : Int), .int .i64 (z : Int), .int .u64 (gp : Int), .bool p.f3.f0, .bool p.f3.f1, .bool p.f3.f2, .bool p.f3.f3, .bool p.f3.f4, .bool p.f3.f5, .bool p.f4, .bool p.f5]) ∧ Below w.heap.size w w' :=
  ⟨bs (pa % 2199023255552) z, fun w => good12_calls p va pa zq z _ h0 hv h2 h1 hz hzz rfl w⟩
end Go.Proofs.Ytalmemcidbmdgaa.PM



/- The law ModelReads (layer 16): the walk. -/
set_option linter.unusedVariables false
set_option linter.unusedSimpArgs false
namespace Go.Proofs.Ytalmemcidbmdgaa.PM
open Go.RowKit Go.Proofs.YtalmemcidbmdgaaW.PrintWords Go.Proofs.YtalmemcidbmdgaaW.PrintLast Go.Proofs.YtalmemcidbmdgaaW.PrintMore Go.Proofs.Ytalmemcidbmdgaa.PageG
attribute [local go_sem] max2_int min2_int max_two min_two max_three min_three max_four min_four   -- for this text's walks alone
theorem row_below {w w0 : World} {A : Option Addr} {xs : List AskS} (h : OpenR.Row 19 encA GoodA w A xs) (hb : Below w.heap.size w w0) : OpenR.Row 19 encA GoodA w0 A xs :=
  ⟨h.good, fun i hi => by
    obtain ⟨ad, e, hc⟩ := h.at_ i hi
    exact ⟨ad, e, fun j u hu => (hb.cell (World.block_lt_of_cell? _ _ (hc j u hu))).trans (hc j u hu)⟩⟩
/-- Behind two stores: the page, and its byte. -/
structure FI (t : MS) (x : Ent) (vv ix : Nat) (b : Int) : Prop where
  rd : RdI t 1 vv ix x
  f3 : x.f1.f3 = atWE
  f4 : x.f1.f4 = true
  f5 : x.f1.f5 = true
  by_ : getB t.by_ x.f1.f2 ((offN x vv : Nat) : Int) = b
theorem FI.step {t : MS} {x : Ent} {vv ix : Nat} {b : Int} (h : FI t x vv ix b) (k : Int) : FI (accT t ix x k vv b) ⟨x.f0, accP x.f1 k⟩ vv ix b := by
  refine ⟨h.rd.step k b, h.f3, rfl, by show (x.f1.f5 || _) = true; rw [h.f5]; rfl, ?_⟩
  show getB (accT t ix x k vv b).by_ x.f1.f2 ((offN x vv : Nat) : Int) = b
  by_cases hk : k = 1
  · exact accT_by t ix x k vv b hk
  · rw [accT_by_no t ix x k vv b hk]
    exact h.by_
theorem FI.do_ {t : MS} {x : Ent} {vv ix : Nat} {b : Int} (h : FI t x vv ix b) (hh : holeB vv = false) {k : Int} (hk : 0 ≤ k ∧ k < 4) : doR t (opA 1 k vv b) = ((0, 0, if k = 1 then 0 else b), accT t ix x k vv b) := by
  rw [h.rd.do_ ⟨by decide, by decide⟩ hh hk (by rw [h.f3]; exact judge_we k), h.by_]
section
variable {w : World}
end
end Go.Proofs.Ytalmemcidbmdgaa.PM



/- The law ModelShares (layer 16): the walk. -/
set_option linter.unusedVariables false
set_option linter.unusedSimpArgs false
namespace Go.Proofs.Ytalmemcidbmdgaa.PM
open Go.RowKit Go.Proofs.YtalmemcidbmdgaaW.PrintWords Go.Proofs.YtalmemcidbmdgaaW.PrintLast Go.Proofs.YtalmemcidbmdgaaW.PrintMore Go.Proofs.Ytalmemcidbmdgaa.PageG
attribute [local go_sem] max2_int min2_int max_two min_two max_three min_three max_four min_four   -- for this text's walks alone
end Go.Proofs.Ytalmemcidbmdgaa.PM


/- The law ModelShares (layer 16): the walk. -/
set_option linter.unusedVariables false
set_option linter.unusedSimpArgs false
namespace Go.Proofs.Ytalmemcidbmdgaa.PM
open Go.RowKit Go.Proofs.YtalmemcidbmdgaaW.PrintWords Go.Proofs.YtalmemcidbmdgaaW.PrintLast Go.Proofs.YtalmemcidbmdgaaW.PrintMore Go.Proofs.Ytalmemcidbmdgaa.PageG
attribute [local go_sem] max2_int min2_int max_two min_two max_three min_three max_four min_four   -- for this text's walks alone
theorem i64w {k : Int} (h : W64 k) : IntKind.i64.wrap k = k := by unfold W64 at h; simp only [IntKind.wrap, IntKind.bits, IntKind.signed]; first | omega | (simp; omega)
section
variable {w : World}
end
end Go.Proofs.Ytalmemcidbmdgaa.PM




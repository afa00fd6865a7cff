/- The law StoryAhead of layer 21: its row (written by mkrow.py: the parameters opened by hand). -/
import Derived.Test.YtalmemcidbmdgaaZSb8
import Derived.Test.YtalmemcidbmdgaaProg
import Derived.WalkKit
import Derived.ProofKit
import Derived.ChangeSame
import Derived.Carry
import Derived.OpenShut
import Derived.WideKeyArr2
import Derived.Lib.SmallJoins
import Derived.Test.YtalmemcidbmdgaaRows
import Derived.ShutString
import Derived.ChangeOld
import Derived.Below
import Derived.SizedLaws
/- A story (layer 21): the law StoryAhead: the walk. -/
set_option linter.unusedVariables false
set_option linter.unusedSimpArgs false
namespace Go.Proofs.Ytalmemcidbmdgaa.PM
open Go.RowKit Go.Proofs.YtalmemcidbmdgaaW.PrintWords Go.Proofs.YtalmemcidbmdgaaW.PrintLast Go.Proofs.YtalmemcidbmdgaaW.PrintMore Go.Proofs.Ytalmemcidbmdgaa.PageG
attribute [local go_sem] max2_int min2_int max_two min_two max_three min_three max_four min_four   -- for this text's walks alone
section
variable {w w' : World}
theorem ahead_f (z : List Int) (a0 a1 b0 b1 : Int) : story_Ahead.f 0 0 0 0 false 0 0 0 0 false false false false false false 0 0 a0 a1 0 0 0 0 0 0 0 0 0 false 0 0 0 0 false false false false false false 0 0 b0 b1 0 0 0 0 0 = some (decide (0 ≤ a1 ∧ a1 < b0)) := by
  unfold story_Ahead.f
  by_cases h : 0 ≤ a1
  · by_cases h2 : a1 < b0 <;> simp [h, h2] <;> omega
  · simp [h]
theorem one24 (x y : Int) : (#[.int .i64 0, .int .i64 0, .int .i64 0, .int .i64 0, .bool false, .int .u64 0, .int .u8 0, .int .u64 0, .int .i64 0, .bool false, .bool false, .bool false, .bool false, .bool false, .bool false, .int .i64 0, .int .u64 0, .int .i64 x, .int .i64 y, .int .i64 0, .int .i64 0, .int .i64 0, .int .u8 0, .int .i64 0] : Array Value).all (·.oneCell') = true := by simp [Value.oneCell']
set_option maxHeartbeats 8000000 in
set_option maxRecDepth 100000 in
theorem ahead_law (a0 a1 b0 b1 : Int) (w : World) : Calls Try.prog 9 #[.agg #[.int .i64 a0, .int .i64 a1], .agg #[.int .i64 b0, .int .i64 b1]] w fun e w' => e = .returned (.bool true) ∧ Below w.heap.size w w' := by
  have HF1 := Aside0.mk (ahead_f [] a0 a1 b0 b1)
  have HF2 := Aside0.mk (ahead_f [] b0 b1 a0 a1)
  have hone : (decide (0 ≤ a1) = false ∧ decide (0 ≤ a1 ∧ a1 < b0) = false) ∨ (decide (0 ≤ a1) = true ∧ decide (a1 < b0) = false ∧ decide (0 ≤ a1 ∧ a1 < b0) = false) ∨ (decide (0 ≤ a1) = true ∧ decide (a1 < b0) = true ∧ decide (0 ≤ a1 ∧ a1 < b0) = true) := by
    by_cases h1 : 0 ≤ a1 <;> by_cases h2 : a1 < b0 <;> simp [h1, h2]
  have htwo : (decide (0 ≤ b1) = false ∧ decide (0 ≤ b1 ∧ b1 < a0) = false) ∨ (decide (0 ≤ b1) = true ∧ decide (b1 < a0) = false ∧ decide (0 ≤ b1 ∧ b1 < a0) = false) ∨ (decide (0 ≤ b1) = true ∧ decide (b1 < a0) = true ∧ decide (0 ≤ b1 ∧ b1 < a0) = true) := by
    by_cases h1 : 0 ≤ b1 <;> by_cases h2 : b1 < a0 <;> simp [h1, h2]
  have HNO := Aside0.mk (show ¬ (decide (a1 < a0) = false ∧ decide (b1 < b0) = false ∧ decide (0 ≤ a1 ∧ a1 < b0) = true ∧ decide (0 ≤ b1 ∧ b1 < a0) = true) by simp only [decide_eq_true_eq, decide_eq_false_iff_not]; omega)
  have hlt : decide (a1 < a0) = true ∨ (decide (a1 < a0) = false ∧ decide (b1 < b0) = true) ∨ (decide (a1 < a0) = false ∧ decide (b1 < b0) = false) := by
    by_cases h1 : a1 < a0 <;> by_cases h2 : b1 < b0 <;> simp [h1, h2]
  generalize decide (0 ≤ a1 ∧ a1 < b0) = one at *
  generalize decide (0 ≤ b1 ∧ b1 < a0) = two at *
  have HONE := Aside0.mk hone
  have HTWO := Aside0.mk htwo
  have HLT := Aside0.mk hlt
  clear hone htwo hlt
  obtain ⟨D, hD⟩ : ∃ D, w.heap.size = D := ⟨_, rfl⟩
  go_enter Try.func9, Try.ntmps9
  go_upto_region 1 with fail
  have ha := blk_alloc (blk_new w (.cells #[.int .i64 a0, .int .i64 a1] 67)) (.cells #[.int .i64 b0, .int .i64 b1] 67)
  have hb := blk_new (w.alloc (.cells #[.int .i64 a0, .int .i64 a1] 67)) (.cells #[.int .i64 b0, .int .i64 b1] 67)
  have hB : Below w.heap.size w ((w.alloc (.cells #[.int .i64 a0, .int .i64 a1] 67)).alloc (.cells #[.int .i64 b0, .int .i64 b1] 67)) := ((Below.refl _ w).alloc (Nat.le_refl _) _).alloc (by simp) _
  rw [World.size_alloc] at hb
  rw [hD] at ha hb
  generalize (w.alloc (.cells #[.int .i64 a0, .int .i64 a1] 67)).alloc (.cells #[.int .i64 b0, .int .i64 b1] 67) = w1 at *
  have HA1 := Aside0.mk ha
  have HB1 := Aside0.mk hb
  have HW1 := Aside0.mk hB
  have ca0 := (blk_cell ha 0).trans rfl
  have ca1 := (blk_cell ha 1).trans rfl
  clear ha hb hB
  go_upto_region 2 with (refine wpList_store_new rfl rfl 69 _ _ rfl 69 #[.int .i64 0, .int .i64 0, .int .i64 0, .int .i64 0, .bool false, .int .u64 0, .int .u8 0, .int .u64 0, .int .i64 0, .bool false, .bool false, .bool false, .bool false, .bool false, .bool false, .int .i64 0, .int .u64 0, .int .i64 0, .int .i64 0, .int .i64 0, .int .i64 0, .int .i64 0, .int .u8 0, .int .i64 0] #[.int .i64 0, .int .i64 0, .int .i64 0, .int .i64 0, .bool false, .int .u64 0, .int .u8 0, .int .u64 0, .int .i64 0, .bool false, .bool false, .bool false, .bool false, .bool false, .bool false, .int .i64 0, .int .u64 0, .int .i64 a0, .int .i64 a1, .int .i64 0, .int .i64 0, .int .i64 0, .int .u8 0, .int .i64 0] rfl rfl (by kernel_rfl) rfl (one24 _ _) ?_)
  have hal := (Below.refl _ w1).alloc (Nat.le_refl _) (.cells #[.int .i64 0, .int .i64 0, .int .i64 0, .int .i64 0, .bool false, .int .u64 0, .int .u8 0, .int .u64 0, .int .i64 0, .bool false, .bool false, .bool false, .bool false, .bool false, .bool false, .int .i64 0, .int .u64 0, .int .i64 a0, .int .i64 a1, .int .i64 0, .int .i64 0, .int .i64 0, .int .u8 0, .int .i64 0] 69)
  have hx := blk_new w1 (.cells #[.int .i64 0, .int .i64 0, .int .i64 0, .int .i64 0, .bool false, .int .u64 0, .int .u8 0, .int .u64 0, .int .i64 0, .bool false, .bool false, .bool false, .bool false, .bool false, .bool false, .int .i64 0, .int .u64 0, .int .i64 a0, .int .i64 a1, .int .i64 0, .int .i64 0, .int .i64 0, .int .u8 0, .int .i64 0] 69)
  have HA2 := Aside0.mk (blk_below HA1.out hal)
  have HB2 := Aside0.mk (blk_below HB1.out hal)
  have HW2 := Aside0.mk (below_step HW1.out hal)
  generalize w1.alloc (.cells #[.int .i64 0, .int .i64 0, .int .i64 0, .int .i64 0, .bool false, .int .u64 0, .int .u8 0, .int .u64 0, .int .i64 0, .bool false, .bool false, .bool false, .bool false, .bool false, .bool false, .int .i64 0, .int .u64 0, .int .i64 a0, .int .i64 a1, .int .i64 0, .int .i64 0, .int .i64 0, .int .u8 0, .int .i64 0] 69) = w2 at *
  generalize w1.heap.size = X at *
  have HX2 := Aside0.mk hx
  clear hx hal HA1 HB1 HW1 ca0 ca1
  have cb0 := (blk_cell HB2.out 0).trans rfl
  have cb1 := (blk_cell HB2.out 1).trans rfl
  go_upto_region 3 with (refine wpList_store_new rfl rfl 69 _ _ rfl 69 #[.int .i64 0, .int .i64 0, .int .i64 0, .int .i64 0, .bool false, .int .u64 0, .int .u8 0, .int .u64 0, .int .i64 0, .bool false, .bool false, .bool false, .bool false, .bool false, .bool false, .int .i64 0, .int .u64 0, .int .i64 0, .int .i64 0, .int .i64 0, .int .i64 0, .int .i64 0, .int .u8 0, .int .i64 0] #[.int .i64 0, .int .i64 0, .int .i64 0, .int .i64 0, .bool false, .int .u64 0, .int .u8 0, .int .u64 0, .int .i64 0, .bool false, .bool false, .bool false, .bool false, .bool false, .bool false, .int .i64 0, .int .u64 0, .int .i64 b0, .int .i64 b1, .int .i64 0, .int .i64 0, .int .i64 0, .int .u8 0, .int .i64 0] rfl rfl (by kernel_rfl) rfl (one24 _ _) ?_)
  have hal := (Below.refl _ w2).alloc (Nat.le_refl _) (.cells #[.int .i64 0, .int .i64 0, .int .i64 0, .int .i64 0, .bool false, .int .u64 0, .int .u8 0, .int .u64 0, .int .i64 0, .bool false, .bool false, .bool false, .bool false, .bool false, .bool false, .int .i64 0, .int .u64 0, .int .i64 b0, .int .i64 b1, .int .i64 0, .int .i64 0, .int .i64 0, .int .u8 0, .int .i64 0] 69)
  have hy := blk_new w2 (.cells #[.int .i64 0, .int .i64 0, .int .i64 0, .int .i64 0, .bool false, .int .u64 0, .int .u8 0, .int .u64 0, .int .i64 0, .bool false, .bool false, .bool false, .bool false, .bool false, .bool false, .int .i64 0, .int .u64 0, .int .i64 b0, .int .i64 b1, .int .i64 0, .int .i64 0, .int .i64 0, .int .u8 0, .int .i64 0] 69)
  have HA3 := Aside0.mk (blk_below HA2.out hal)
  have HB3 := Aside0.mk (blk_below HB2.out hal)
  have HX3 := Aside0.mk (blk_below HX2.out hal)
  have HW3 := Aside0.mk (below_step HW2.out hal)
  generalize w2.alloc (.cells #[.int .i64 0, .int .i64 0, .int .i64 0, .int .i64 0, .bool false, .int .u64 0, .int .u8 0, .int .u64 0, .int .i64 0, .bool false, .bool false, .bool false, .bool false, .bool false, .bool false, .int .i64 0, .int .u64 0, .int .i64 b0, .int .i64 b1, .int .i64 0, .int .i64 0, .int .i64 0, .int .u8 0, .int .i64 0] 69) = w3 at *
  generalize w2.heap.size = Y at *
  have HY3 := Aside0.mk hy
  clear hy hal HA2 HB2 HW2 HX2 cb0 cb1
  go_wp2_with (first | (refine wpList_load_row rfl 69 _ rfl X rfl 69 #[.int .i64 0, .int .i64 0, .int .i64 0, .int .i64 0, .bool false, .int .u64 0, .int .u8 0, .int .u64 0, .int .i64 0, .bool false, .bool false, .bool false, .bool false, .bool false, .bool false, .int .i64 0, .int .u64 0, .int .i64 a0, .int .i64 a1, .int .i64 0, .int .i64 0, .int .i64 0, .int .u8 0, .int .i64 0] (0, 0) _ HX3.out Try.underlying69 rfl (by kernel_rfl) ?_) | (refine wpList_load_row rfl 69 _ rfl Y rfl 69 #[.int .i64 0, .int .i64 0, .int .i64 0, .int .i64 0, .bool false, .int .u64 0, .int .u8 0, .int .u64 0, .int .i64 0, .bool false, .bool false, .bool false, .bool false, .bool false, .bool false, .int .i64 0, .int .u64 0, .int .i64 b0, .int .i64 b1, .int .i64 0, .int .i64 0, .int .i64 0, .int .u8 0, .int .i64 0] (0, 0) _ HY3.out Try.underlying69 rfl (by kernel_rfl) ?_))
  refine (story_Ahead.calls 0 0 0 0 false 0 0 0 0 false false false false false false 0 0 a0 a1 0 0 0 0 0 0 0 0 0 false 0 0 0 0 false false false false false false 0 0 b0 b1 0 0 0 0 0 one w3 HF1.out).mono ?_
  rintro e w4 ⟨rfl, hd⟩
  have HA4 := Aside0.mk (blk_below HA3.out hd)
  have HB4 := Aside0.mk (blk_below HB3.out hd)
  have HX4 := Aside0.mk (blk_below HX3.out hd)
  have HY4 := Aside0.mk (blk_below HY3.out hd)
  have HW4 := Aside0.mk (below_step HW3.out hd)
  clear hd HA3 HB3 HX3 HY3 HW3 HF1
  go_wp2_with (first | (refine wpList_load_row rfl 69 _ rfl X rfl 69 #[.int .i64 0, .int .i64 0, .int .i64 0, .int .i64 0, .bool false, .int .u64 0, .int .u8 0, .int .u64 0, .int .i64 0, .bool false, .bool false, .bool false, .bool false, .bool false, .bool false, .int .i64 0, .int .u64 0, .int .i64 a0, .int .i64 a1, .int .i64 0, .int .i64 0, .int .i64 0, .int .u8 0, .int .i64 0] (0, 0) _ HX4.out Try.underlying69 rfl (by kernel_rfl) ?_) | (refine wpList_load_row rfl 69 _ rfl Y rfl 69 #[.int .i64 0, .int .i64 0, .int .i64 0, .int .i64 0, .bool false, .int .u64 0, .int .u8 0, .int .u64 0, .int .i64 0, .bool false, .bool false, .bool false, .bool false, .bool false, .bool false, .int .i64 0, .int .u64 0, .int .i64 b0, .int .i64 b1, .int .i64 0, .int .i64 0, .int .i64 0, .int .u8 0, .int .i64 0] (0, 0) _ HY4.out Try.underlying69 rfl (by kernel_rfl) ?_))
  refine (story_Ahead.calls 0 0 0 0 false 0 0 0 0 false false false false false false 0 0 b0 b1 0 0 0 0 0 0 0 0 0 false 0 0 0 0 false false false false false false 0 0 a0 a1 0 0 0 0 0 two w4 HF2.out).mono ?_
  rintro e w5 ⟨rfl, hd⟩
  have HA5 := Aside0.mk (blk_below HA4.out hd)
  have HB5 := Aside0.mk (blk_below HB4.out hd)
  have HW5 := Aside0.mk (below_step HW4.out hd)
  clear hd HA4 HB4 HX4 HY4 HW4 HF2
  go_upto_region 5 with fail
  generalize Value.agg #[.int .i64 0, .int .i64 0, .int .i64 0, .int .i64 0, .bool false, .int .u64 0, .int .u8 0, .int .u64 0, .int .i64 0, .bool false, .bool false, .bool false, .bool false, .bool false, .bool false, .int .i64 0, .int .u64 0, .int .i64 a0, .int .i64 a1, .int .i64 0, .int .i64 0, .int .i64 0, .int .u8 0, .int .i64 0] = va
  generalize Value.agg #[.int .i64 0, .int .i64 0, .int .i64 0, .int .i64 0, .bool false, .int .u64 0, .int .u8 0, .int .u64 0, .int .i64 0, .bool false, .bool false, .bool false, .bool false, .bool false, .bool false, .int .i64 0, .int .u64 0, .int .i64 b0, .int .i64 b1, .int .i64 0, .int .i64 0, .int .i64 0, .int .u8 0, .int .i64 0] = vb
  have ca0 := (blk_cell HA5.out 0).trans rfl
  have ca1 := (blk_cell HA5.out 1).trans rfl
  have cb0 := (blk_cell HB5.out 0).trans rfl
  have cb1 := (blk_cell HB5.out 1).trans rfl
  rcases HONE.out with ⟨p1, rfl⟩ | ⟨p1, p2, rfl⟩ | ⟨p1, p2, rfl⟩ <;> rcases HTWO.out with ⟨q1, rfl⟩ | ⟨q1, q2, rfl⟩ | ⟨q1, q2, rfl⟩ <;> rcases HLT.out with l1 | ⟨l1, l2⟩ | ⟨l1, l2⟩
  all_goals
    first
    | (exfalso; refine HNO.out ⟨?_, ?_, ?_, ?_⟩ <;> first | assumption | rfl)
    | (go_wp2_with fail
       refine (lives21_calls w5).mono ?_
       rintro e w6 ⟨rfl, hb⟩
       have HW6 := Aside0.mk (below_step HW5.out hb)
       clear hb ca0 ca1 cb0 cb1
       go_wp2_with fail
       go_ret
       exact ⟨rfl, HW6.out⟩)
end
end Go.Proofs.Ytalmemcidbmdgaa.PM


/- Parameters of laws, opened: a reply, an array of two numbers. -/
set_option linter.unusedVariables false
namespace Go.Proofs.Ytalmemcidbmdgaa.Args4
open Go.WideMaps Go.Joins Go.ChangeShapes Go.WideShapes Go.Deep
theorem cells3 : Try.prog.cellsOf 3 = 1 := by kernel_rfl
section
variable {H : Type} {enc : TypeId × Value → H} {W : World}
theorem wf64 {n : Int} (h : (Lit.int .i64 n).wf = true) : -2 ^ 63 ≤ n ∧ n < 2 ^ 63 := by
  have := bounds_i64 h
  omega
theorem arr2key : ArrKey Try.prog 67 3 2 := ⟨Try.underlying67, by kernel_rfl, by kernel_rfl, by kernel_rfl⟩
set_option maxRecDepth 100000 in
theorem open_arr2 {v : Value} {d : DataW H} {p : List MemPlace} (hval : Value.okWide Try.prog W .any 0 67 v) (h : DataW.Trod enc Try.prog W 0 (fun _ => true) true 67 v d p) :
    ∃ a b : Int, v = .agg #[.int .i64 a, .int .i64 b] ∧ (-2 ^ 63 ≤ a ∧ a < 2 ^ 63) ∧ (-2 ^ 63 ≤ b ∧ b < 2 ^ 63) := by
  obtain ⟨xs, rfl, hs⟩ := Go.WideMaps.okWide_arr arr2key hval
  obtain ⟨fuel, hf⟩ := h
  obtain ⟨c0, c1, rfl⟩ : ∃ a b, xs = #[a, b] := by
    match xs, hs with
    | ⟨[a, b]⟩, _ => exact ⟨a, b, rfl⟩
  obtain ⟨ys, m, _, ex, hlen, hl, hel⟩ := DataW.trod_array Try.underlying67 hf
  match ys, hl with
  | [x0, x1], _ =>
    have k0 := hel 0 (by omega)
    have k1 := hel 1 (by omega)
    rw [cells3] at k0 k1
    obtain ⟨z0, a0, b0, w0⟩ := DataW.trod_int Try.underlying3 k0
    obtain ⟨z1, a1, b1, w1⟩ := DataW.trod_int Try.underlying3 k1
    simp [Value.cells] at a0 a1
    subst a0 a1
    exact ⟨_, _, rfl, wf64 w0, wf64 w1⟩
end
end Go.Proofs.Ytalmemcidbmdgaa.Args4

namespace Go.Proofs.Ytalmemcidbmdgaa.storyAhead
open Go.ChangeShapes Go.WideShapes Go.ChangeAt Go.RowKit
set_option linter.unusedVariables false
theorem own : ownKnob Try.prog.godebug = none := by kernel_rfl
theorem laid : laidOutB Try.prog = true := by kernel_rfl
theorem rec67 : Try.prog.readableRec 67 = true := by kernel_rfl
theorem lt67 : 67 < Try.prog.types.size := of_decide_eq_true (by kernel_rfl)
set_option maxRecDepth 100000 in
theorem lifted (os : Os) (started : os.Started) (H : Type) (enc : TypeId × Value → H) :
    ReturnsInHanded {} Try.checked os 9 .any (Rows.storyAheadSpec.pre6 enc Try.prog Try.f9 Rows.storyAheadRow.domain false) (Rows.storyAheadSpec.post enc Try.prog Try.f9 false true false false) := by
  refine returnsInHanded_of_change_sized (C := Try.checked) own started (by kernel_rfl) Try.func9
    (ChangeSpec.witness6 (enc := enc) (C := Try.checked) false ⟨#[], #[.agg #[.int .i64 0, .int .i64 0], .agg #[.int .i64 0, .int .i64 0]], []⟩ 8 (by kernel_rfl) (by kernel_rfl) (by kernel_rfl) (by kernel_rfl)) ?_
  intro W base args ds gs before hval0 hW hcnd hsz0 _
  have hval : ∀ (j : Nat) t v, Try.f9.params[j]? = some t → args[j]? = some v → Value.okWide Try.prog W .any base t v := hval0
  have hW' := hW
  obtain ⟨p, q, hA0, hV, rfl, hfz, hnd⟩ := hW
  have hA : DataW.TrodAll enc Try.prog W 0 (fun _ => true) true Try.f9.params.toList args.toList ds p := hA0
  rw [Try.params9] at hA hval
  obtain ⟨v0, vs0, d0, ds0, p0, q0, hargs, rfl, rfl, h0, r0⟩ := trodAll_cons hA
  obtain ⟨v1, vs1, d1, ds1, p1, q1, rfl, rfl, rfl, h1, r1⟩ := trodAll_cons r0
  obtain ⟨rfl, rfl, rfl⟩ := trodAll_nil r1
  obtain rfl : args = #[v0, v1] := by cases args; simp_all
  obtain ⟨rfl, rfl⟩ := trodVars_none hV
  have hlt0 : ∀ x ∈ p0, x.block < W.heap.size := fun x hx => by
    obtain ⟨fuel, hf⟩ := h0
    exact DataW.trod_lt fuel _ _ _ hf x hx
  have hlt1 : ∀ x ∈ p1, x.block < W.heap.size := fun x hx => by
    obtain ⟨fuel, hf⟩ := h1
    exact DataW.trod_lt fuel _ _ _ hf x hx
  obtain ⟨a0, a1, rfl, ha0, ha1⟩ := Args4.open_arr2 (hval 0 67 v0 rfl rfl) h0
  obtain ⟨b0, b1, rfl, hb0, hb1⟩ := Args4.open_arr2 (hval 1 67 v1 rfl rfl) h1
  clear hA0 hval0 hsz0
  refine ((PM.ahead_law a0 a1 b0 b1 W)).mono fun e W' ⟨he, bel⟩ => ?_
  subst he
  exact ⟨_, rfl, _, _, _, [], _, [], hW', trodAll_mk1 (shut_bool Try.underlying4 _), (trodAll_cons_mk (Below.trod laid rec67 lt67 h0 bel hlt0) (trodAll_cons_mk (Below.trod laid rec67 lt67 h1 bel hlt1) trodAll_mk0)), rfl, bel.frame _, fun h => by cases h⟩
theorem over : Rows.storyAheadRow.holds Try.pinned (OpenSpec.ofChange Rows.storyAheadSpec) :=
  OpenClaim.holds_of_wide 9 Try.f9 rfl rfl rfl rfl rfl rfl rfl ⟨rfl, rfl, rfl, rfl, rfl⟩ rfl rfl rfl rfl rfl (by kernel_rfl) Try.func9 (by kernel_rfl)
    (of_decide_eq_true (by kernel_rfl)) (by unfold Func.isWrapper; first | (rw [if_pos (by decide +kernel)]; kernel_rfl) | (rw [if_neg (by decide +kernel)]; exact ⟨rfl, rfl⟩))
    (fun os started H enc _ => lifted os started H enc)
theorem proved : Rows.StoryAheadSaid := over
#print axioms proved
end Go.Proofs.Ytalmemcidbmdgaa.storyAhead
namespace Go.Proofs.Ytalmemcidbmdgaa
/-- The row, under a short name, for the claim. -/
theorem storyAhead_holds : Rows.StoryAheadSaid := storyAhead.proved
end Go.Proofs.Ytalmemcidbmdgaa


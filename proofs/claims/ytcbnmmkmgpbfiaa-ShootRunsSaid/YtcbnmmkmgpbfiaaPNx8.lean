-- written by xprint.py, a program of this session, over the kit's print (functions told by hand: see the texts)
import Derived.Test.YtcbnmmkmgpbfiaaPNx0
namespace Go.Proofs.Ytcbnmmkmgpbfiaa.PN
open Go.RowKit Go.Proofs.YtcbnmmkmgpbfiaaW.PrintWords Go.Proofs.YtcbnmmkmgpbfiaaW.PrintLast Go.Proofs.YtcbnmmkmgpbfiaaW.PrintMore
attribute [local go_sem] max2_int min2_int max_two min_two max_three min_three max_four min_four   -- for this text's walks alone
set_option linter.unusedVariables false
set_option linter.unusedSimpArgs false

/-! ### fault_Judge: function 59 -/
mutual
def fault_Judge.j0 : Nat → Bool → Bool → Bool → Bool → Bool → Bool → Bool → Int → Bool → Int → Option (Int)
  | 0, _, _, _, _, _, _, _, _, _, _ => none
  | k + 1, x5, x153000, x153001, x153002, x153003, x153004, x153005, x154000, x154001, x154002 => if x5 = true then (some 3) else (if x153005 = true then (fault_Judge.j1 k (x154000 != 3) x153000 x153001 x153002 x153003 x153004 x153005 x154000 x154001 x154002) else (fault_Judge.j1 k false x153000 x153001 x153002 x153003 x153004 x153005 x154000 x154001 x154002))
def fault_Judge.j1 : Nat → Bool → Bool → Bool → Bool → Bool → Bool → Bool → Int → Bool → Int → Option (Int)
  | 0, _, _, _, _, _, _, _, _, _, _ => none
  | k + 1, x13, x153000, x153001, x153002, x153003, x153004, x153005, x154000, x154001, x154002 => if x13 = true then (some 4) else (if x154000 = 1 then (fault_Judge.j2 k (!x153000) x153000 x153001 x153002 x153003 x153004 x153005 x154000 x154001 x154002) else (fault_Judge.j2 k false x153000 x153001 x153002 x153003 x153004 x153005 x154000 x154001 x154002))
def fault_Judge.j2 : Nat → Bool → Bool → Bool → Bool → Bool → Bool → Bool → Int → Bool → Int → Option (Int)
  | 0, _, _, _, _, _, _, _, _, _, _ => none
  | k + 1, x21, x153000, x153001, x153002, x153003, x153004, x153005, x154000, x154001, x154002 => if x21 = true then (some 5) else (if x154000 = 2 then (if x153002 = true then (some 0) else (some 6)) else (some 0))
end
def fault_Judge.f (k : Nat) (a0_0 : Bool) (a0_1 : Bool) (a0_2 : Bool) (a0_3 : Bool) (a0_4 : Bool) (a0_5 : Bool) (a1_0 : Int) (a1_1 : Bool) (a1_2 : Int) : Option (Int) := if a0_1 = true then (fault_Judge.j0 k (!a1_1) a0_0 a0_1 a0_2 a0_3 a0_4 a0_5 a1_0 a1_1 a1_2) else (fault_Judge.j0 k false a0_0 a0_1 a0_2 a0_3 a0_4 a0_5 a1_0 a1_1 a1_2)
theorem fault_Judge.mono_l : ∀ k, (∀ y0 y1 y2 y3 y4 y5 y6 y7 y8 y9, LeO (fault_Judge.j0 k y0 y1 y2 y3 y4 y5 y6 y7 y8 y9) (fault_Judge.j0 (k + 1) y0 y1 y2 y3 y4 y5 y6 y7 y8 y9)) ∧ (∀ y0 y1 y2 y3 y4 y5 y6 y7 y8 y9, LeO (fault_Judge.j1 k y0 y1 y2 y3 y4 y5 y6 y7 y8 y9) (fault_Judge.j1 (k + 1) y0 y1 y2 y3 y4 y5 y6 y7 y8 y9)) ∧ (∀ y0 y1 y2 y3 y4 y5 y6 y7 y8 y9, LeO (fault_Judge.j2 k y0 y1 y2 y3 y4 y5 y6 y7 y8 y9) (fault_Judge.j2 (k + 1) y0 y1 y2 y3 y4 y5 y6 y7 y8 y9))
  | 0 => ⟨fun _ _ _ _ _ _ _ _ _ _ r h => by simp [fault_Judge.j0] at h, fun _ _ _ _ _ _ _ _ _ _ r h => by simp [fault_Judge.j1] at h, fun _ _ _ _ _ _ _ _ _ _ r h => by simp [fault_Judge.j2] at h⟩
  | k + 1 => by
    obtain ⟨ih0, ih1, ih2⟩ := fault_Judge.mono_l k
    refine ⟨?_, ?_, ?_⟩
    · intro y0 y1 y2 y3 y4 y5 y6 y7 y8 y9
      unfold fault_Judge.j0
      repeat' first
      | (with_reducible exact ih0 _ _ _ _ _ _ _ _ _ _)
      | (with_reducible exact ih1 _ _ _ _ _ _ _ _ _ _)
      | (with_reducible exact ih2 _ _ _ _ _ _ _ _ _ _)
      | (with_reducible exact LeO.refl _)
      | (with_reducible exact LeO.none _)
      | (with_reducible refine LeO.ite ?_ ?_)
      | (with_reducible refine LeO.bind ?_ (fun _ => ?_))
      | exact ih0 _ _ _ _ _ _ _ _ _ _
      | exact ih1 _ _ _ _ _ _ _ _ _ _
      | exact ih2 _ _ _ _ _ _ _ _ _ _
      | exact LeO.none _
      | refine LeO.ite ?_ ?_
      | refine LeO.bind ?_ (fun _ => ?_)
    · intro y0 y1 y2 y3 y4 y5 y6 y7 y8 y9
      unfold fault_Judge.j1
      repeat' first
      | (with_reducible exact ih0 _ _ _ _ _ _ _ _ _ _)
      | (with_reducible exact ih1 _ _ _ _ _ _ _ _ _ _)
      | (with_reducible exact ih2 _ _ _ _ _ _ _ _ _ _)
      | (with_reducible exact LeO.refl _)
      | (with_reducible exact LeO.none _)
      | (with_reducible refine LeO.ite ?_ ?_)
      | (with_reducible refine LeO.bind ?_ (fun _ => ?_))
      | exact ih0 _ _ _ _ _ _ _ _ _ _
      | exact ih1 _ _ _ _ _ _ _ _ _ _
      | exact ih2 _ _ _ _ _ _ _ _ _ _
      | exact LeO.none _
      | refine LeO.ite ?_ ?_
      | refine LeO.bind ?_ (fun _ => ?_)
    · intro y0 y1 y2 y3 y4 y5 y6 y7 y8 y9
      unfold fault_Judge.j2
      repeat' first
      | (with_reducible exact ih0 _ _ _ _ _ _ _ _ _ _)
      | (with_reducible exact ih1 _ _ _ _ _ _ _ _ _ _)
      | (with_reducible exact ih2 _ _ _ _ _ _ _ _ _ _)
      | (with_reducible exact LeO.refl _)
      | (with_reducible exact LeO.none _)
      | (with_reducible refine LeO.ite ?_ ?_)
      | (with_reducible refine LeO.bind ?_ (fun _ => ?_))
      | exact ih0 _ _ _ _ _ _ _ _ _ _
      | exact ih1 _ _ _ _ _ _ _ _ _ _
      | exact ih2 _ _ _ _ _ _ _ _ _ _
      | exact LeO.none _
      | refine LeO.ite ?_ ?_
      | refine LeO.bind ?_ (fun _ => ?_)
theorem fault_Judge.mono : ∀ a0 a1 a2 a3 a4 a5 a6 a7 a8 k, LeO (fault_Judge.f k a0 a1 a2 a3 a4 a5 a6 a7 a8) (fault_Judge.f (k + 1) a0 a1 a2 a3 a4 a5 a6 a7 a8) := by
  intro a0 a1 a2 a3 a4 a5 a6 a7 a8 k
  obtain ⟨ih0, ih1, ih2⟩ := fault_Judge.mono_l k
  unfold fault_Judge.f
  repeat' first
      | (with_reducible exact ih0 _ _ _ _ _ _ _ _ _ _)
      | (with_reducible exact ih1 _ _ _ _ _ _ _ _ _ _)
      | (with_reducible exact ih2 _ _ _ _ _ _ _ _ _ _)
      | (with_reducible exact LeO.refl _)
      | (with_reducible exact LeO.none _)
      | (with_reducible refine LeO.ite ?_ ?_)
      | (with_reducible refine LeO.bind ?_ (fun _ => ?_))
      | exact ih0 _ _ _ _ _ _ _ _ _ _
      | exact ih1 _ _ _ _ _ _ _ _ _ _
      | exact ih2 _ _ _ _ _ _ _ _ _ _
      | exact LeO.none _
      | refine LeO.ite ?_ ?_
      | refine LeO.bind ?_ (fun _ => ?_)
set_option maxHeartbeats 8000000 in
set_option maxRecDepth 100000 in
theorem fault_Judge.calls (k : Nat) (a0_0 : Bool) (a0_1 : Bool) (a0_2 : Bool) (a0_3 : Bool) (a0_4 : Bool) (a0_5 : Bool) (a1_0 : Int) (a1_1 : Bool) (a1_2 : Int) (r : Int) (w : World) (h : fault_Judge.f k a0_0 a0_1 a0_2 a0_3 a0_4 a0_5 a1_0 a1_1 a1_2 = some r) :
    Calls Try.prog 59 #[.agg #[.bool a0_0, .bool a0_1, .bool a0_2, .bool a0_3, .bool a0_4, .bool a0_5], .agg #[.int .i64 a1_0, .bool a1_1, .int .u64 a1_2]] w fun e w' => e = .returned (.int .i64 r) ∧ Below w.heap.size w w' := by
  have hu28 := Try.underlying28
  have hu39 := Try.underlying39
  have HB := Aside0.mk (Below.refl w.heap.size w)
  have H : (if a0_1 = true then (fault_Judge.j0 k (!a1_1) a0_0 a0_1 a0_2 a0_3 a0_4 a0_5 a1_0 a1_1 a1_2) else (fault_Judge.j0 k false a0_0 a0_1 a0_2 a0_3 a0_4 a0_5 a1_0 a1_1 a1_2)) = some r := h
  clear h
  have HC3 := Aside0.mk H
  clear H
  go_enter Try.func59, Try.ntmps59
  go_upto_region 1 with (first | ((with_reducible refine gate_dst (N := 2) rfl ?_); refine box_event ?hg (N := 2) ?hd (cs := #[.bool a0_0, .bool a0_1, .bool a0_2, .bool a0_3, .bool a0_4, .bool a0_5]) (t := 28) ?hr ?_; (case hd => rfl); (case hg => rfl); (case hr => first | (go_simp; done) | (go_simp; rfl)); intro gb152 hg w4 hbox hb; have n0_ := Aside0.mk (below_step (by repeat (first | (with_reducible first | exact HB.out | apply below_alloc | apply pw_below_drewN | apply below_drew1) | exact HB.out)) hb); have n1_ := Aside0.mk (hbox); have n2_ := Aside0.mk ((by rw [hg]; exact (below_size (by repeat (first | (with_reducible first | exact HB.out | apply below_alloc | apply pw_below_drewN | apply below_drew1) | exact HB.out))) : w.heap.size ≤ gb152)); have n3_ := Aside0.mk ((by rw [hg]; exact (below_size (by repeat (first | (with_reducible first | exact HB.out | apply below_alloc | apply pw_below_drewN | apply below_drew1) | exact HB.out))) : w.heap.size ≤ gb152)); clear HB; have HB := n0_; have BK152 := n1_; have GW152 := n2_; have GE152 := n3_; clear n0_ n1_ n2_ n3_; clear hb hbox hg) | ((with_reducible refine gate_dst (N := 3) rfl ?_); refine box_event ?hg (N := 3) ?hd (cs := #[.int .i64 a1_0, .bool a1_1, .int .u64 a1_2]) (t := 39) ?hr ?_; (case hd => rfl); (case hg => rfl); (case hr => first | (go_simp; done) | (go_simp; rfl)); intro gb153 hg w5 hbox hb; have n0_ := Aside0.mk (blk_below (g := gb152) (o := .cells #[.bool a0_0, .bool a0_1, .bool a0_2, .bool a0_3, .bool a0_4, .bool a0_5] 28 (0, 0)) (by (with_reducible repeat (first | refine blk_drewN ?_ _ | refine blk_drew ?_ | refine blk_alloc ?_ _)); exact BK152.out) hb); have n1_ := Aside0.mk (below_step (by repeat (first | (with_reducible first | exact HB.out | apply below_alloc | apply pw_below_drewN | apply below_drew1 | refine below_set ?_ GE152.out) | exact HB.out)) hb); have n2_ := Aside0.mk (hbox); have n3_ := Aside0.mk ((by rw [hg]; exact (below_size (by repeat (first | (with_reducible first | exact HB.out | apply below_alloc | apply pw_below_drewN | apply below_drew1 | refine below_set ?_ GE152.out) | exact HB.out))) : w.heap.size ≤ gb153)); have n4_ := Aside0.mk ((by rw [hg]; exact (below_size (by repeat (first | (with_reducible first | exact HB.out | apply below_alloc | apply pw_below_drewN | apply below_drew1 | refine below_set ?_ GE152.out) | exact HB.out))) : w.heap.size ≤ gb153)); have n5_ := Aside0.mk ((by rw [hg]; exact Nat.ne_of_lt (blk_lt (g := gb152) (o := .cells #[.bool a0_0, .bool a0_1, .bool a0_2, .bool a0_3, .bool a0_4, .bool a0_5] 28 (0, 0)) (by (with_reducible repeat (first | refine blk_drewN ?_ _ | refine blk_drew ?_ | refine blk_alloc ?_ _)); exact BK152.out)) : gb152 ≠ gb153)); have n6_ := Aside0.mk ((by rw [hg]; exact Nat.ne_of_gt (blk_lt (g := gb152) (o := .cells #[.bool a0_0, .bool a0_1, .bool a0_2, .bool a0_3, .bool a0_4, .bool a0_5] 28 (0, 0)) (by (with_reducible repeat (first | refine blk_drewN ?_ _ | refine blk_drew ?_ | refine blk_alloc ?_ _)); exact BK152.out)) : gb153 ≠ gb152)); clear BK152; clear HB; have BK152 := n0_; have HB := n1_; have BK153 := n2_; have GW153 := n3_; have GE153 := n4_; have NB152_153 := n5_; have NB153_152 := n6_; clear n0_ n1_ n2_ n3_ n4_ n5_ n6_; clear hb hbox hg))
  (try simp only [Act.put, List.setIfInBounds_toArray, List.set_cons_zero, List.set_cons_succ])
  go_cut [5] (fun v5 wc => ∃ (kq : Nat) (x5_2 : Bool), v5 = .bool x5_2 ∧ Aside0 (fault_Judge.j0 kq x5_2 a0_0 a0_1 a0_2 a0_3 a0_4 a0_5 a1_0 a1_1 a1_2 = some r) ∧ Aside0 (kq ≤ k) ∧ Aside0 (wc.heap[gb152]? = some (.cells #[.bool a0_0, .bool a0_1, .bool a0_2, .bool a0_3, .bool a0_4, .bool a0_5] 28 (0, 0))) ∧ Aside0 (wc.heap[gb153]? = some (.cells #[.int .i64 a1_0, .bool a1_1, .int .u64 a1_2] 39 (0, 0))) ∧ Aside0 (Below w.heap.size w wc))
  case first =>
    have H := HC3.out
    clear HC3
    by_cases c6 : a0_1 = true
    · subst c6
      have H1 : (fault_Judge.j0 k (!a1_1) a0_0 true a0_2 a0_3 a0_4 a0_5 a1_0 a1_1 a1_2) = some r := by rw [if_pos rfl] at H; exact H
      clear H
      have H := H1
      clear H1
      have H' := Aside0.mk H
      clear H
      have hnb7 := NB152_153.out
      have hnc7 := NB153_152.out
      have hcz8_0 : w5.cell? ⟨gb152, 0, none⟩ = some (.bool a0_0) := (blk_cell BK152.out 0).trans rfl
      have hcz8_1 : w5.cell? ⟨gb152, 1, none⟩ = some (.bool true) := (blk_cell BK152.out 1).trans rfl
      have hcz8_2 : w5.cell? ⟨gb152, 2, none⟩ = some (.bool a0_2) := (blk_cell BK152.out 2).trans rfl
      have hcz8_3 : w5.cell? ⟨gb152, 3, none⟩ = some (.bool a0_3) := (blk_cell BK152.out 3).trans rfl
      have hcz8_4 : w5.cell? ⟨gb152, 4, none⟩ = some (.bool a0_4) := (blk_cell BK152.out 4).trans rfl
      have hcz8_5 : w5.cell? ⟨gb152, 5, none⟩ = some (.bool a0_5) := (blk_cell BK152.out 5).trans rfl
      have hfz8_0 := blk_frozen BK152.out 0
      have hfz8_1 := blk_frozen BK152.out 1
      have hfz8_2 := blk_frozen BK152.out 2
      have hfz8_3 := blk_frozen BK152.out 3
      have hfz8_4 := blk_frozen BK152.out 4
      have hfz8_5 := blk_frozen BK152.out 5
      have hcz9_0 : w5.cell? ⟨gb153, 0, none⟩ = some (.int .i64 a1_0) := (blk_cell BK153.out 0).trans rfl
      have hcz9_1 : w5.cell? ⟨gb153, 1, none⟩ = some (.bool a1_1) := (blk_cell BK153.out 1).trans rfl
      have hcz9_2 : w5.cell? ⟨gb153, 2, none⟩ = some (.int .u64 a1_2) := (blk_cell BK153.out 2).trans rfl
      have hfz9_0 := blk_frozen BK153.out 0
      have hfz9_1 := blk_frozen BK153.out 1
      have hfz9_2 := blk_frozen BK153.out 2
      go_wp2
      go_meet
      case rel => exact ⟨_, (!a1_1), (by first | rfl | (simp; done) | (simp [*]; done)), H', ⟨by first | omega | exact Nat.le_refl _⟩, ⟨by (with_reducible repeat (first | refine blk_drewN ?_ _ | refine blk_drew ?_ | refine blk_alloc ?_ _)); exact BK152.out⟩, ⟨by (with_reducible repeat (first | refine blk_drewN ?_ _ | refine blk_drew ?_ | refine blk_alloc ?_ _)); exact BK153.out⟩, ⟨by repeat (first | (with_reducible first | exact HB.out | apply below_alloc | apply pw_below_drewN | apply below_drew1 | refine below_set ?_ GE152.out | refine below_set ?_ GE153.out) | exact HB.out)⟩⟩
    · replace c6 := Bool.eq_false_iff.mpr c6
      subst c6
      have H1 : (fault_Judge.j0 k false a0_0 false a0_2 a0_3 a0_4 a0_5 a1_0 a1_1 a1_2) = some r := by rw [if_neg (show ¬ (false = true) by decide)] at H; exact H
      clear H
      have H := H1
      clear H1
      have H' := Aside0.mk H
      clear H
      have hnb10 := NB152_153.out
      have hnc10 := NB153_152.out
      have hcz11_0 : w5.cell? ⟨gb152, 0, none⟩ = some (.bool a0_0) := (blk_cell BK152.out 0).trans rfl
      have hcz11_1 : w5.cell? ⟨gb152, 1, none⟩ = some (.bool false) := (blk_cell BK152.out 1).trans rfl
      have hcz11_2 : w5.cell? ⟨gb152, 2, none⟩ = some (.bool a0_2) := (blk_cell BK152.out 2).trans rfl
      have hcz11_3 : w5.cell? ⟨gb152, 3, none⟩ = some (.bool a0_3) := (blk_cell BK152.out 3).trans rfl
      have hcz11_4 : w5.cell? ⟨gb152, 4, none⟩ = some (.bool a0_4) := (blk_cell BK152.out 4).trans rfl
      have hcz11_5 : w5.cell? ⟨gb152, 5, none⟩ = some (.bool a0_5) := (blk_cell BK152.out 5).trans rfl
      have hfz11_0 := blk_frozen BK152.out 0
      have hfz11_1 := blk_frozen BK152.out 1
      have hfz11_2 := blk_frozen BK152.out 2
      have hfz11_3 := blk_frozen BK152.out 3
      have hfz11_4 := blk_frozen BK152.out 4
      have hfz11_5 := blk_frozen BK152.out 5
      go_wp2
      go_meet
      case rel => exact ⟨_, (false), (by first | rfl | (simp; done) | (simp [*]; done)), H', ⟨by first | omega | exact Nat.le_refl _⟩, ⟨by (with_reducible repeat (first | refine blk_drewN ?_ _ | refine blk_drew ?_ | refine blk_alloc ?_ _)); exact BK152.out⟩, ⟨by (with_reducible repeat (first | refine blk_drewN ?_ _ | refine blk_drew ?_ | refine blk_alloc ?_ _)); exact BK153.out⟩, ⟨by repeat (first | (with_reducible first | exact HB.out | apply below_alloc | apply pw_below_drewN | apply below_drew1 | refine below_set ?_ GE152.out | refine below_set ?_ GE153.out) | exact HB.out)⟩⟩
  case rest =>
    clear HC3
    try clear c1
    try clear p2
    try clear c5
    try clear c6
    try clear c7
    try clear c10
    try clear hcz11_0
    try clear hcz11_1
    try clear hcz11_2
    try clear hcz11_3
    try clear hcz11_4
    try clear hcz11_5
    try clear hcz8_0
    try clear hcz8_1
    try clear hcz8_2
    try clear hcz8_3
    try clear hcz8_4
    try clear hcz8_5
    try clear hcz9_0
    try clear hcz9_1
    try clear hcz9_2
    try clear hfz11_0
    try clear hfz11_1
    try clear hfz11_2
    try clear hfz11_3
    try clear hfz11_4
    try clear hfz11_5
    try clear hfz8_0
    try clear hfz8_1
    try clear hfz8_2
    try clear hfz8_3
    try clear hfz8_4
    try clear hfz8_5
    try clear hfz9_0
    try clear hfz9_1
    try clear hfz9_2
    obtain ⟨kq, x5_2, rfl, HA, HJ2, BK152, BK153, HB⟩ := hcut
    cases kq with
    | zero => exact absurd HA.out (by simp [fault_Judge.j0])
    | succ kj2 =>
      have H := HA.out
      clear HA
      simp only [fault_Judge.j0] at H
      by_cases c12 : x5_2 = true
      · subst c12
        have H1 : (some 3) = some r := by rw [if_pos rfl] at H; exact H
        clear H
        have H := H1
        clear H1
        obtain rfl := Option.some.inj H
        go_wp2
        go_ret
        exact ⟨by first | rfl | (simp [errW_none, errW_some] <;> rfl) | (simp [*, errW_none, errW_some] <;> rfl), by repeat (first | (with_reducible first | exact HB.out | apply below_alloc | apply pw_below_drewN | apply below_drew1 | refine below_set ?_ GE152.out | refine below_set ?_ GE153.out) | exact HB.out)⟩
      · replace c12 := Bool.eq_false_iff.mpr c12
        subst c12
        have H1 : (if a0_5 = true then (fault_Judge.j1 kj2 (a1_0 != 3) a0_0 a0_1 a0_2 a0_3 a0_4 a0_5 a1_0 a1_1 a1_2) else (fault_Judge.j1 kj2 false a0_0 a0_1 a0_2 a0_3 a0_4 a0_5 a1_0 a1_1 a1_2)) = some r := by rw [if_neg (show ¬ (false = true) by decide)] at H; exact H
        clear H
        have H := H1
        clear H1
        have HC13 := Aside0.mk H
        clear H
        go_upto_region 3 with (fail)
        go_cut [13] (fun v13 wc => ∃ (kq : Nat) (x13_12 : Bool), v13 = .bool x13_12 ∧ Aside0 (fault_Judge.j1 kq x13_12 a0_0 a0_1 a0_2 a0_3 a0_4 a0_5 a1_0 a1_1 a1_2 = some r) ∧ Aside0 (kq ≤ kj2) ∧ Aside0 (wc.heap[gb152]? = some (.cells #[.bool a0_0, .bool a0_1, .bool a0_2, .bool a0_3, .bool a0_4, .bool a0_5] 28 (0, 0))) ∧ Aside0 (wc.heap[gb153]? = some (.cells #[.int .i64 a1_0, .bool a1_1, .int .u64 a1_2] 39 (0, 0))) ∧ Aside0 (Below w.heap.size w wc))
        case first =>
          have H := HC13.out
          clear HC13
          by_cases c14 : a0_5 = true
          · subst c14
            have H1 : (fault_Judge.j1 kj2 (a1_0 != 3) a0_0 a0_1 a0_2 a0_3 a0_4 true a1_0 a1_1 a1_2) = some r := by rw [if_pos rfl] at H; exact H
            clear H
            have H := H1
            clear H1
            have H' := Aside0.mk H
            clear H
            have hnb15 := NB152_153.out
            have hnc15 := NB153_152.out
            have hcz16_0 : wc.cell? ⟨gb152, 0, none⟩ = some (.bool a0_0) := (blk_cell BK152.out 0).trans rfl
            have hcz16_1 : wc.cell? ⟨gb152, 1, none⟩ = some (.bool a0_1) := (blk_cell BK152.out 1).trans rfl
            have hcz16_2 : wc.cell? ⟨gb152, 2, none⟩ = some (.bool a0_2) := (blk_cell BK152.out 2).trans rfl
            have hcz16_3 : wc.cell? ⟨gb152, 3, none⟩ = some (.bool a0_3) := (blk_cell BK152.out 3).trans rfl
            have hcz16_4 : wc.cell? ⟨gb152, 4, none⟩ = some (.bool a0_4) := (blk_cell BK152.out 4).trans rfl
            have hcz16_5 : wc.cell? ⟨gb152, 5, none⟩ = some (.bool true) := (blk_cell BK152.out 5).trans rfl
            have hfz16_0 := blk_frozen BK152.out 0
            have hfz16_1 := blk_frozen BK152.out 1
            have hfz16_2 := blk_frozen BK152.out 2
            have hfz16_3 := blk_frozen BK152.out 3
            have hfz16_4 := blk_frozen BK152.out 4
            have hfz16_5 := blk_frozen BK152.out 5
            have hcz17_0 : wc.cell? ⟨gb153, 0, none⟩ = some (.int .i64 a1_0) := (blk_cell BK153.out 0).trans rfl
            have hcz17_1 : wc.cell? ⟨gb153, 1, none⟩ = some (.bool a1_1) := (blk_cell BK153.out 1).trans rfl
            have hcz17_2 : wc.cell? ⟨gb153, 2, none⟩ = some (.int .u64 a1_2) := (blk_cell BK153.out 2).trans rfl
            have hfz17_0 := blk_frozen BK153.out 0
            have hfz17_1 := blk_frozen BK153.out 1
            have hfz17_2 := blk_frozen BK153.out 2
            go_wp2
            go_meet
            case rel => exact ⟨_, ((a1_0 != 3)), (by first | rfl | (simp; done) | (simp [*]; done)), H', ⟨by have := HJ2.out; first | omega | exact Nat.le_refl _⟩, ⟨by (with_reducible repeat (first | refine blk_drewN ?_ _ | refine blk_drew ?_ | refine blk_alloc ?_ _)); exact BK152.out⟩, ⟨by (with_reducible repeat (first | refine blk_drewN ?_ _ | refine blk_drew ?_ | refine blk_alloc ?_ _)); exact BK153.out⟩, ⟨by repeat (first | (with_reducible first | exact HB.out | apply below_alloc | apply pw_below_drewN | apply below_drew1 | refine below_set ?_ GE152.out | refine below_set ?_ GE153.out) | exact HB.out)⟩⟩
          · replace c14 := Bool.eq_false_iff.mpr c14
            subst c14
            have H1 : (fault_Judge.j1 kj2 false a0_0 a0_1 a0_2 a0_3 a0_4 false a1_0 a1_1 a1_2) = some r := by rw [if_neg (show ¬ (false = true) by decide)] at H; exact H
            clear H
            have H := H1
            clear H1
            have H' := Aside0.mk H
            clear H
            have hnb18 := NB152_153.out
            have hnc18 := NB153_152.out
            have hcz19_0 : wc.cell? ⟨gb152, 0, none⟩ = some (.bool a0_0) := (blk_cell BK152.out 0).trans rfl
            have hcz19_1 : wc.cell? ⟨gb152, 1, none⟩ = some (.bool a0_1) := (blk_cell BK152.out 1).trans rfl
            have hcz19_2 : wc.cell? ⟨gb152, 2, none⟩ = some (.bool a0_2) := (blk_cell BK152.out 2).trans rfl
            have hcz19_3 : wc.cell? ⟨gb152, 3, none⟩ = some (.bool a0_3) := (blk_cell BK152.out 3).trans rfl
            have hcz19_4 : wc.cell? ⟨gb152, 4, none⟩ = some (.bool a0_4) := (blk_cell BK152.out 4).trans rfl
            have hcz19_5 : wc.cell? ⟨gb152, 5, none⟩ = some (.bool false) := (blk_cell BK152.out 5).trans rfl
            have hfz19_0 := blk_frozen BK152.out 0
            have hfz19_1 := blk_frozen BK152.out 1
            have hfz19_2 := blk_frozen BK152.out 2
            have hfz19_3 := blk_frozen BK152.out 3
            have hfz19_4 := blk_frozen BK152.out 4
            have hfz19_5 := blk_frozen BK152.out 5
            go_wp2
            go_meet
            case rel => exact ⟨_, (false), (by first | rfl | (simp; done) | (simp [*]; done)), H', ⟨by have := HJ2.out; first | omega | exact Nat.le_refl _⟩, ⟨by (with_reducible repeat (first | refine blk_drewN ?_ _ | refine blk_drew ?_ | refine blk_alloc ?_ _)); exact BK152.out⟩, ⟨by (with_reducible repeat (first | refine blk_drewN ?_ _ | refine blk_drew ?_ | refine blk_alloc ?_ _)); exact BK153.out⟩, ⟨by repeat (first | (with_reducible first | exact HB.out | apply below_alloc | apply pw_below_drewN | apply below_drew1 | refine below_set ?_ GE152.out | refine below_set ?_ GE153.out) | exact HB.out)⟩⟩
        case rest =>
          clear HC13
          try clear c1
          try clear p2
          try clear c5
          try clear c6
          try clear c7
          try clear c10
          try clear c12
          try clear c14
          try clear c15
          try clear c18
          try clear hcz11_0
          try clear hcz11_1
          try clear hcz11_2
          try clear hcz11_3
          try clear hcz11_4
          try clear hcz11_5
          try clear hcz16_0
          try clear hcz16_1
          try clear hcz16_2
          try clear hcz16_3
          try clear hcz16_4
          try clear hcz16_5
          try clear hcz17_0
          try clear hcz17_1
          try clear hcz17_2
          try clear hcz19_0
          try clear hcz19_1
          try clear hcz19_2
          try clear hcz19_3
          try clear hcz19_4
          try clear hcz19_5
          try clear hcz8_0
          try clear hcz8_1
          try clear hcz8_2
          try clear hcz8_3
          try clear hcz8_4
          try clear hcz8_5
          try clear hcz9_0
          try clear hcz9_1
          try clear hcz9_2
          try clear hfz11_0
          try clear hfz11_1
          try clear hfz11_2
          try clear hfz11_3
          try clear hfz11_4
          try clear hfz11_5
          try clear hfz16_0
          try clear hfz16_1
          try clear hfz16_2
          try clear hfz16_3
          try clear hfz16_4
          try clear hfz16_5
          try clear hfz17_0
          try clear hfz17_1
          try clear hfz17_2
          try clear hfz19_0
          try clear hfz19_1
          try clear hfz19_2
          try clear hfz19_3
          try clear hfz19_4
          try clear hfz19_5
          try clear hfz8_0
          try clear hfz8_1
          try clear hfz8_2
          try clear hfz8_3
          try clear hfz8_4
          try clear hfz8_5
          try clear hfz9_0
          try clear hfz9_1
          try clear hfz9_2
          try clear p2
          obtain ⟨kq, x13_12, rfl, HA, HJ12, BK152, BK153, HB⟩ := hcut
          cases kq with
          | zero => exact absurd HA.out (by simp [fault_Judge.j1])
          | succ kj12 =>
            have H := HA.out
            clear HA
            simp only [fault_Judge.j1] at H
            by_cases c20 : x13_12 = true
            · subst c20
              have H1 : (some 4) = some r := by rw [if_pos rfl] at H; exact H
              clear H
              have H := H1
              clear H1
              obtain rfl := Option.some.inj H
              go_wp2
              go_ret
              exact ⟨by first | rfl | (simp [errW_none, errW_some] <;> rfl) | (simp [*, errW_none, errW_some] <;> rfl), by repeat (first | (with_reducible first | exact HB.out | apply below_alloc | apply pw_below_drewN | apply below_drew1 | refine below_set ?_ GE152.out | refine below_set ?_ GE153.out) | exact HB.out)⟩
            · replace c20 := Bool.eq_false_iff.mpr c20
              subst c20
              have H1 : (if a1_0 = 1 then (fault_Judge.j2 kj12 (!a0_0) a0_0 a0_1 a0_2 a0_3 a0_4 a0_5 a1_0 a1_1 a1_2) else (fault_Judge.j2 kj12 false a0_0 a0_1 a0_2 a0_3 a0_4 a0_5 a1_0 a1_1 a1_2)) = some r := by rw [if_neg (show ¬ (false = true) by decide)] at H; exact H
              clear H
              have H := H1
              clear H1
              have HC21 := Aside0.mk H
              clear H
              go_upto_region 5 with (fail)
              go_cut [21] (fun v21 wc => ∃ (kq : Nat) (x21_20 : Bool), v21 = .bool x21_20 ∧ Aside0 (fault_Judge.j2 kq x21_20 a0_0 a0_1 a0_2 a0_3 a0_4 a0_5 a1_0 a1_1 a1_2 = some r) ∧ Aside0 (kq ≤ kj12) ∧ Aside0 (wc.heap[gb152]? = some (.cells #[.bool a0_0, .bool a0_1, .bool a0_2, .bool a0_3, .bool a0_4, .bool a0_5] 28 (0, 0))) ∧ Aside0 (wc.heap[gb153]? = some (.cells #[.int .i64 a1_0, .bool a1_1, .int .u64 a1_2] 39 (0, 0))) ∧ Aside0 (Below w.heap.size w wc))
              case first =>
                have H := HC21.out
                clear HC21
                by_cases c22 : a1_0 = 1
                · rw [if_pos c22] at H
                  have c22b0 : (a1_0 == 1) = true := beq_iff_eq.mpr c22
                  have c22b1 : (a1_0 != 1) = false := bne_eq_false_iff_eq.mpr c22
                  clear c22
                  (first | rw [c22b0] | (simp only [i64_w, i32_w]; rw [c22b0]) | skip)
                  have H' := Aside0.mk H
                  clear H
                  have hnb23 := NB153_152.out
                  have hnc23 := NB152_153.out
                  have hcz24_0 : wc.cell? ⟨gb153, 0, none⟩ = some (.int .i64 a1_0) := (blk_cell BK153.out 0).trans rfl
                  have hcz24_1 : wc.cell? ⟨gb153, 1, none⟩ = some (.bool a1_1) := (blk_cell BK153.out 1).trans rfl
                  have hcz24_2 : wc.cell? ⟨gb153, 2, none⟩ = some (.int .u64 a1_2) := (blk_cell BK153.out 2).trans rfl
                  have hfz24_0 := blk_frozen BK153.out 0
                  have hfz24_1 := blk_frozen BK153.out 1
                  have hfz24_2 := blk_frozen BK153.out 2
                  have hcz25_0 : wc.cell? ⟨gb152, 0, none⟩ = some (.bool a0_0) := (blk_cell BK152.out 0).trans rfl
                  have hcz25_1 : wc.cell? ⟨gb152, 1, none⟩ = some (.bool a0_1) := (blk_cell BK152.out 1).trans rfl
                  have hcz25_2 : wc.cell? ⟨gb152, 2, none⟩ = some (.bool a0_2) := (blk_cell BK152.out 2).trans rfl
                  have hcz25_3 : wc.cell? ⟨gb152, 3, none⟩ = some (.bool a0_3) := (blk_cell BK152.out 3).trans rfl
                  have hcz25_4 : wc.cell? ⟨gb152, 4, none⟩ = some (.bool a0_4) := (blk_cell BK152.out 4).trans rfl
                  have hcz25_5 : wc.cell? ⟨gb152, 5, none⟩ = some (.bool a0_5) := (blk_cell BK152.out 5).trans rfl
                  have hfz25_0 := blk_frozen BK152.out 0
                  have hfz25_1 := blk_frozen BK152.out 1
                  have hfz25_2 := blk_frozen BK152.out 2
                  have hfz25_3 := blk_frozen BK152.out 3
                  have hfz25_4 := blk_frozen BK152.out 4
                  have hfz25_5 := blk_frozen BK152.out 5
                  go_wp2
                  go_meet
                  case rel => exact ⟨_, (!a0_0), (by first | rfl | (simp; done) | (simp [*]; done)), H', ⟨by have := HJ2.out; have := HJ12.out; first | omega | exact Nat.le_refl _⟩, ⟨by (with_reducible repeat (first | refine blk_drewN ?_ _ | refine blk_drew ?_ | refine blk_alloc ?_ _)); exact BK152.out⟩, ⟨by (with_reducible repeat (first | refine blk_drewN ?_ _ | refine blk_drew ?_ | refine blk_alloc ?_ _)); exact BK153.out⟩, ⟨by repeat (first | (with_reducible first | exact HB.out | apply below_alloc | apply pw_below_drewN | apply below_drew1 | refine below_set ?_ GE152.out | refine below_set ?_ GE153.out) | exact HB.out)⟩⟩
                · rw [if_neg c22] at H
                  have c22b0 : (a1_0 == 1) = false := beq_eq_false_iff_ne.mpr c22
                  have c22b1 : (a1_0 != 1) = true := bne_iff_ne.mpr c22
                  (first | rw [c22b0] | (simp only [i64_w, i32_w]; rw [c22b0]) | skip)
                  have H' := Aside0.mk H
                  clear H
                  have hnb26 := NB153_152.out
                  have hnc26 := NB152_153.out
                  have hcz27_0 : wc.cell? ⟨gb153, 0, none⟩ = some (.int .i64 a1_0) := (blk_cell BK153.out 0).trans rfl
                  have hcz27_1 : wc.cell? ⟨gb153, 1, none⟩ = some (.bool a1_1) := (blk_cell BK153.out 1).trans rfl
                  have hcz27_2 : wc.cell? ⟨gb153, 2, none⟩ = some (.int .u64 a1_2) := (blk_cell BK153.out 2).trans rfl
                  have hfz27_0 := blk_frozen BK153.out 0
                  have hfz27_1 := blk_frozen BK153.out 1
                  have hfz27_2 := blk_frozen BK153.out 2
                  go_wp2
                  go_meet
                  case rel => exact ⟨_, (false), (by first | rfl | (simp; done) | (simp [*]; done)), H', ⟨by have := HJ2.out; have := HJ12.out; first | omega | exact Nat.le_refl _⟩, ⟨by (with_reducible repeat (first | refine blk_drewN ?_ _ | refine blk_drew ?_ | refine blk_alloc ?_ _)); exact BK152.out⟩, ⟨by (with_reducible repeat (first | refine blk_drewN ?_ _ | refine blk_drew ?_ | refine blk_alloc ?_ _)); exact BK153.out⟩, ⟨by repeat (first | (with_reducible first | exact HB.out | apply below_alloc | apply pw_below_drewN | apply below_drew1 | refine below_set ?_ GE152.out | refine below_set ?_ GE153.out) | exact HB.out)⟩⟩
              case rest =>
                clear HC21
                try clear c1
                try clear c2
                try clear p2
                try clear c5
                try clear c6
                try clear c7
                try clear c10
                try clear c12
                try clear c14
                try clear c15
                try clear c18
                try clear c20
                try clear c22
                try clear c22b0
                try clear c22b1
                try clear c23
                try clear c26
                try clear hcz11_0
                try clear hcz11_1
                try clear hcz11_2
                try clear hcz11_3
                try clear hcz11_4
                try clear hcz11_5
                try clear hcz16_0
                try clear hcz16_1
                try clear hcz16_2
                try clear hcz16_3
                try clear hcz16_4
                try clear hcz16_5
                try clear hcz17_0
                try clear hcz17_1
                try clear hcz17_2
                try clear hcz19_0
                try clear hcz19_1
                try clear hcz19_2
                try clear hcz19_3
                try clear hcz19_4
                try clear hcz19_5
                try clear hcz24_0
                try clear hcz24_1
                try clear hcz24_2
                try clear hcz25_0
                try clear hcz25_1
                try clear hcz25_2
                try clear hcz25_3
                try clear hcz25_4
                try clear hcz25_5
                try clear hcz27_0
                try clear hcz27_1
                try clear hcz27_2
                try clear hcz8_0
                try clear hcz8_1
                try clear hcz8_2
                try clear hcz8_3
                try clear hcz8_4
                try clear hcz8_5
                try clear hcz9_0
                try clear hcz9_1
                try clear hcz9_2
                try clear hfz11_0
                try clear hfz11_1
                try clear hfz11_2
                try clear hfz11_3
                try clear hfz11_4
                try clear hfz11_5
                try clear hfz16_0
                try clear hfz16_1
                try clear hfz16_2
                try clear hfz16_3
                try clear hfz16_4
                try clear hfz16_5
                try clear hfz17_0
                try clear hfz17_1
                try clear hfz17_2
                try clear hfz19_0
                try clear hfz19_1
                try clear hfz19_2
                try clear hfz19_3
                try clear hfz19_4
                try clear hfz19_5
                try clear hfz24_0
                try clear hfz24_1
                try clear hfz24_2
                try clear hfz25_0
                try clear hfz25_1
                try clear hfz25_2
                try clear hfz25_3
                try clear hfz25_4
                try clear hfz25_5
                try clear hfz27_0
                try clear hfz27_1
                try clear hfz27_2
                try clear hfz8_0
                try clear hfz8_1
                try clear hfz8_2
                try clear hfz8_3
                try clear hfz8_4
                try clear hfz8_5
                try clear hfz9_0
                try clear hfz9_1
                try clear hfz9_2
                try clear p2
                obtain ⟨kq, x21_20, rfl, HA, HJ20, BK152, BK153, HB⟩ := hcut
                cases kq with
                | zero => exact absurd HA.out (by simp [fault_Judge.j2])
                | succ kj20 =>
                  have H := HA.out
                  clear HA
                  simp only [fault_Judge.j2] at H
                  by_cases c28 : x21_20 = true
                  · subst c28
                    have H1 : (some 5) = some r := by rw [if_pos rfl] at H; exact H
                    clear H
                    have H := H1
                    clear H1
                    obtain rfl := Option.some.inj H
                    go_wp2
                    go_ret
                    exact ⟨by first | rfl | (simp [errW_none, errW_some] <;> rfl) | (simp [*, errW_none, errW_some] <;> rfl), by repeat (first | (with_reducible first | exact HB.out | apply below_alloc | apply pw_below_drewN | apply below_drew1 | refine below_set ?_ GE152.out | refine below_set ?_ GE153.out) | exact HB.out)⟩
                  · replace c28 := Bool.eq_false_iff.mpr c28
                    subst c28
                    have H1 : (if a1_0 = 2 then (if a0_2 = true then (some 0) else (some 6)) else (some 0)) = some r := by rw [if_neg (show ¬ (false = true) by decide)] at H; exact H
                    clear H
                    have H := H1
                    clear H1
                    by_cases c29 : a1_0 = 2
                    · rw [if_pos c29] at H
                      have c29b0 : (a1_0 == 2) = true := beq_iff_eq.mpr c29
                      have c29b1 : (a1_0 != 2) = false := bne_eq_false_iff_eq.mpr c29
                      clear c29
                      by_cases c30 : a0_2 = true
                      · subst c30
                        have H1 : (some 0) = some r := by rw [if_pos rfl] at H; exact H
                        clear H
                        have H := H1
                        clear H1
                        obtain rfl := Option.some.inj H
                        have hnb31 := NB153_152.out
                        have hnc31 := NB152_153.out
                        have hcz32_0 : wc.cell? ⟨gb153, 0, none⟩ = some (.int .i64 a1_0) := (blk_cell BK153.out 0).trans rfl
                        have hcz32_1 : wc.cell? ⟨gb153, 1, none⟩ = some (.bool a1_1) := (blk_cell BK153.out 1).trans rfl
                        have hcz32_2 : wc.cell? ⟨gb153, 2, none⟩ = some (.int .u64 a1_2) := (blk_cell BK153.out 2).trans rfl
                        have hfz32_0 := blk_frozen BK153.out 0
                        have hfz32_1 := blk_frozen BK153.out 1
                        have hfz32_2 := blk_frozen BK153.out 2
                        have hcz33_0 : wc.cell? ⟨gb152, 0, none⟩ = some (.bool a0_0) := (blk_cell BK152.out 0).trans rfl
                        have hcz33_1 : wc.cell? ⟨gb152, 1, none⟩ = some (.bool a0_1) := (blk_cell BK152.out 1).trans rfl
                        have hcz33_2 : wc.cell? ⟨gb152, 2, none⟩ = some (.bool true) := (blk_cell BK152.out 2).trans rfl
                        have hcz33_3 : wc.cell? ⟨gb152, 3, none⟩ = some (.bool a0_3) := (blk_cell BK152.out 3).trans rfl
                        have hcz33_4 : wc.cell? ⟨gb152, 4, none⟩ = some (.bool a0_4) := (blk_cell BK152.out 4).trans rfl
                        have hcz33_5 : wc.cell? ⟨gb152, 5, none⟩ = some (.bool a0_5) := (blk_cell BK152.out 5).trans rfl
                        have hfz33_0 := blk_frozen BK152.out 0
                        have hfz33_1 := blk_frozen BK152.out 1
                        have hfz33_2 := blk_frozen BK152.out 2
                        have hfz33_3 := blk_frozen BK152.out 3
                        have hfz33_4 := blk_frozen BK152.out 4
                        have hfz33_5 := blk_frozen BK152.out 5
                        go_wp2
                        go_ret
                        exact ⟨by first | rfl | (simp [errW_none, errW_some] <;> rfl) | (simp [*, errW_none, errW_some] <;> rfl), by repeat (first | (with_reducible first | exact HB.out | apply below_alloc | apply pw_below_drewN | apply below_drew1 | refine below_set ?_ GE152.out | refine below_set ?_ GE153.out) | exact HB.out)⟩
                      · replace c30 := Bool.eq_false_iff.mpr c30
                        subst c30
                        have H1 : (some 6) = some r := by rw [if_neg (show ¬ (false = true) by decide)] at H; exact H
                        clear H
                        have H := H1
                        clear H1
                        obtain rfl := Option.some.inj H
                        have hnb34 := NB153_152.out
                        have hnc34 := NB152_153.out
                        have hcz35_0 : wc.cell? ⟨gb153, 0, none⟩ = some (.int .i64 a1_0) := (blk_cell BK153.out 0).trans rfl
                        have hcz35_1 : wc.cell? ⟨gb153, 1, none⟩ = some (.bool a1_1) := (blk_cell BK153.out 1).trans rfl
                        have hcz35_2 : wc.cell? ⟨gb153, 2, none⟩ = some (.int .u64 a1_2) := (blk_cell BK153.out 2).trans rfl
                        have hfz35_0 := blk_frozen BK153.out 0
                        have hfz35_1 := blk_frozen BK153.out 1
                        have hfz35_2 := blk_frozen BK153.out 2
                        have hcz36_0 : wc.cell? ⟨gb152, 0, none⟩ = some (.bool a0_0) := (blk_cell BK152.out 0).trans rfl
                        have hcz36_1 : wc.cell? ⟨gb152, 1, none⟩ = some (.bool a0_1) := (blk_cell BK152.out 1).trans rfl
                        have hcz36_2 : wc.cell? ⟨gb152, 2, none⟩ = some (.bool false) := (blk_cell BK152.out 2).trans rfl
                        have hcz36_3 : wc.cell? ⟨gb152, 3, none⟩ = some (.bool a0_3) := (blk_cell BK152.out 3).trans rfl
                        have hcz36_4 : wc.cell? ⟨gb152, 4, none⟩ = some (.bool a0_4) := (blk_cell BK152.out 4).trans rfl
                        have hcz36_5 : wc.cell? ⟨gb152, 5, none⟩ = some (.bool a0_5) := (blk_cell BK152.out 5).trans rfl
                        have hfz36_0 := blk_frozen BK152.out 0
                        have hfz36_1 := blk_frozen BK152.out 1
                        have hfz36_2 := blk_frozen BK152.out 2
                        have hfz36_3 := blk_frozen BK152.out 3
                        have hfz36_4 := blk_frozen BK152.out 4
                        have hfz36_5 := blk_frozen BK152.out 5
                        go_wp2
                        go_ret
                        exact ⟨by first | rfl | (simp [errW_none, errW_some] <;> rfl) | (simp [*, errW_none, errW_some] <;> rfl), by repeat (first | (with_reducible first | exact HB.out | apply below_alloc | apply pw_below_drewN | apply below_drew1 | refine below_set ?_ GE152.out | refine below_set ?_ GE153.out) | exact HB.out)⟩
                    · rw [if_neg c29] at H
                      have c29b0 : (a1_0 == 2) = false := beq_eq_false_iff_ne.mpr c29
                      have c29b1 : (a1_0 != 2) = true := bne_iff_ne.mpr c29
                      obtain rfl := Option.some.inj H
                      have hnb37 := NB153_152.out
                      have hnc37 := NB152_153.out
                      have hcz38_0 : wc.cell? ⟨gb153, 0, none⟩ = some (.int .i64 a1_0) := (blk_cell BK153.out 0).trans rfl
                      have hcz38_1 : wc.cell? ⟨gb153, 1, none⟩ = some (.bool a1_1) := (blk_cell BK153.out 1).trans rfl
                      have hcz38_2 : wc.cell? ⟨gb153, 2, none⟩ = some (.int .u64 a1_2) := (blk_cell BK153.out 2).trans rfl
                      have hfz38_0 := blk_frozen BK153.out 0
                      have hfz38_1 := blk_frozen BK153.out 1
                      have hfz38_2 := blk_frozen BK153.out 2
                      go_wp2
                      go_ret
                      exact ⟨by first | rfl | (simp [errW_none, errW_some] <;> rfl) | (simp [*, errW_none, errW_some] <;> rfl), by repeat (first | (with_reducible first | exact HB.out | apply below_alloc | apply pw_below_drewN | apply below_drew1 | refine below_set ?_ GE152.out | refine below_set ?_ GE153.out) | exact HB.out)⟩

end Go.Proofs.Ytcbnmmkmgpbfiaa.PN

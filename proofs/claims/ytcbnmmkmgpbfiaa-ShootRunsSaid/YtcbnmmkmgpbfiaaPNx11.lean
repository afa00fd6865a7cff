-- written by xprint.py, a program of this session, over the kit's print (functions told by hand: see the texts)
import Derived.Test.YtcbnmmkmgpbfiaaPNx0
import Derived.Test.YtcbnmmkmgpbfiaaPNx10
namespace Go.Proofs.Ytcbnmmkmgpbfiaa.PN
open Go.RowKit Go.Proofs.YtcbnmmkmgpbfiaaW.PrintWords Go.Proofs.YtcbnmmkmgpbfiaaW.PrintLast Go.Proofs.YtcbnmmkmgpbfiaaW.PrintMore
attribute [local go_sem] max2_int min2_int max_two min_two max_three min_three max_four min_four   -- for this text's walks alone
set_option linter.unusedVariables false
set_option linter.unusedSimpArgs false

/-! ### lookasideref09_Less: function 51 -/
mutual
def lookasideref09_Less.l0 : Nat → Int → Bool → Bool → Bool → Bool → Bool → Bool → Bool → Bool → Bool → Bool → Bool → Bool → Option (Bool)
  | 0, _, _, _, _, _, _, _, _, _, _, _, _, _ => none
  | k + 1, x5, x162000, x162001, x162002, x162003, x162004, x162005, x163000, x163001, x163002, x163003, x163004, x163005 => if x5 < 4 then ((lookasideref09_Judge.f k x162000 x162001 x162002 x162003 x162004 x162005 x5 false 0).bind fun t165 => (if t165 = 0 then ((lookasideref09_Judge.f k x163000 x163001 x163002 x163003 x163004 x163005 x5 false 0).bind fun t166 => (lookasideref09_Less.j1 k x5 (t166 != 0) x162000 x162001 x162002 x162003 x162004 x162005 x163000 x163001 x163002 x163003 x163004 x163005 x5 true 0)) else (lookasideref09_Less.j1 k x5 false x162000 x162001 x162002 x162003 x162004 x162005 x163000 x163001 x163002 x163003 x163004 x163005 x5 true 0))) else (some true)
def lookasideref09_Less.j1 : Nat → Int → Bool → Bool → Bool → Bool → Bool → Bool → Bool → Bool → Bool → Bool → Bool → Bool → Bool → Int → Bool → Int → Option (Bool)
  | 0, _, _, _, _, _, _, _, _, _, _, _, _, _, _, _, _, _ => none
  | k + 1, x5, x25, x162000, x162001, x162002, x162003, x162004, x162005, x163000, x163001, x163002, x163003, x163004, x163005, x165000, x165001, x165002 => if x25 = true then (some false) else ((lookasideref09_Judge.f k x162000 x162001 x162002 x162003 x162004 x162005 x165000 x165001 x165002).bind fun t167 => (if t167 = 0 then ((lookasideref09_Judge.f k x163000 x163001 x163002 x163003 x163004 x163005 x165000 x165001 x165002).bind fun t168 => (if t168 = 0 then (lookasideref09_Less.l0 k (wrap64 (x5 + 1)) x162000 x162001 x162002 x162003 x162004 x162005 x163000 x163001 x163002 x163003 x163004 x163005) else (some false))) else (lookasideref09_Less.l0 k (wrap64 (x5 + 1)) x162000 x162001 x162002 x162003 x162004 x162005 x163000 x163001 x163002 x163003 x163004 x163005)))
end
def lookasideref09_Less.f (k : Nat) (a0_0 : Bool) (a0_1 : Bool) (a0_2 : Bool) (a0_3 : Bool) (a0_4 : Bool) (a0_5 : Bool) (a1_0 : Bool) (a1_1 : Bool) (a1_2 : Bool) (a1_3 : Bool) (a1_4 : Bool) (a1_5 : Bool) : Option (Bool) := lookasideref09_Less.l0 k 0 a0_0 a0_1 a0_2 a0_3 a0_4 a0_5 a1_0 a1_1 a1_2 a1_3 a1_4 a1_5
theorem lookasideref09_Less.mono_l : ∀ k, (∀ y0 y1 y2 y3 y4 y5 y6 y7 y8 y9 y10 y11 y12, LeO (lookasideref09_Less.l0 k y0 y1 y2 y3 y4 y5 y6 y7 y8 y9 y10 y11 y12) (lookasideref09_Less.l0 (k + 1) y0 y1 y2 y3 y4 y5 y6 y7 y8 y9 y10 y11 y12)) ∧ (∀ y0 y1 y2 y3 y4 y5 y6 y7 y8 y9 y10 y11 y12 y13 y14 y15 y16, LeO (lookasideref09_Less.j1 k y0 y1 y2 y3 y4 y5 y6 y7 y8 y9 y10 y11 y12 y13 y14 y15 y16) (lookasideref09_Less.j1 (k + 1) y0 y1 y2 y3 y4 y5 y6 y7 y8 y9 y10 y11 y12 y13 y14 y15 y16))
  | 0 => ⟨fun _ _ _ _ _ _ _ _ _ _ _ _ _ r h => by simp [lookasideref09_Less.l0] at h, fun _ _ _ _ _ _ _ _ _ _ _ _ _ _ _ _ _ r h => by simp [lookasideref09_Less.j1] at h⟩
  | k + 1 => by
    obtain ⟨ih0, ih1⟩ := lookasideref09_Less.mono_l k
    refine ⟨?_, ?_⟩
    · intro y0 y1 y2 y3 y4 y5 y6 y7 y8 y9 y10 y11 y12
      unfold lookasideref09_Less.l0
      repeat' first
      | (with_reducible exact ih0 _ _ _ _ _ _ _ _ _ _ _ _ _)
      | (with_reducible exact ih1 _ _ _ _ _ _ _ _ _ _ _ _ _ _ _ _ _)
      | (with_reducible exact lookasideref09_Judge.mono _ _ _ _ _ _ _ _ _ _)
      | (with_reducible exact LeO.refl _)
      | (with_reducible exact LeO.none _)
      | (with_reducible refine LeO.ite ?_ ?_)
      | (with_reducible refine LeO.bind ?_ (fun _ => ?_))
      | exact ih0 _ _ _ _ _ _ _ _ _ _ _ _ _
      | exact ih1 _ _ _ _ _ _ _ _ _ _ _ _ _ _ _ _ _
      | exact lookasideref09_Judge.mono _ _ _ _ _ _ _ _ _ _
      | exact LeO.none _
      | refine LeO.ite ?_ ?_
      | refine LeO.bind ?_ (fun _ => ?_)
    · intro y0 y1 y2 y3 y4 y5 y6 y7 y8 y9 y10 y11 y12 y13 y14 y15 y16
      unfold lookasideref09_Less.j1
      repeat' first
      | (with_reducible exact ih0 _ _ _ _ _ _ _ _ _ _ _ _ _)
      | (with_reducible exact ih1 _ _ _ _ _ _ _ _ _ _ _ _ _ _ _ _ _)
      | (with_reducible exact lookasideref09_Judge.mono _ _ _ _ _ _ _ _ _ _)
      | (with_reducible exact LeO.refl _)
      | (with_reducible exact LeO.none _)
      | (with_reducible refine LeO.ite ?_ ?_)
      | (with_reducible refine LeO.bind ?_ (fun _ => ?_))
      | exact ih0 _ _ _ _ _ _ _ _ _ _ _ _ _
      | exact ih1 _ _ _ _ _ _ _ _ _ _ _ _ _ _ _ _ _
      | exact lookasideref09_Judge.mono _ _ _ _ _ _ _ _ _ _
      | exact LeO.none _
      | refine LeO.ite ?_ ?_
      | refine LeO.bind ?_ (fun _ => ?_)
theorem lookasideref09_Less.mono : ∀ a0 a1 a2 a3 a4 a5 a6 a7 a8 a9 a10 a11 k, LeO (lookasideref09_Less.f k a0 a1 a2 a3 a4 a5 a6 a7 a8 a9 a10 a11) (lookasideref09_Less.f (k + 1) a0 a1 a2 a3 a4 a5 a6 a7 a8 a9 a10 a11) := by
  intro a0 a1 a2 a3 a4 a5 a6 a7 a8 a9 a10 a11 k
  obtain ⟨ih0, ih1⟩ := lookasideref09_Less.mono_l k
  unfold lookasideref09_Less.f
  repeat' first
      | (with_reducible exact ih0 _ _ _ _ _ _ _ _ _ _ _ _ _)
      | (with_reducible exact ih1 _ _ _ _ _ _ _ _ _ _ _ _ _ _ _ _ _)
      | (with_reducible exact lookasideref09_Judge.mono _ _ _ _ _ _ _ _ _ _)
      | (with_reducible exact LeO.refl _)
      | (with_reducible exact LeO.none _)
      | (with_reducible refine LeO.ite ?_ ?_)
      | (with_reducible refine LeO.bind ?_ (fun _ => ?_))
      | exact ih0 _ _ _ _ _ _ _ _ _ _ _ _ _
      | exact ih1 _ _ _ _ _ _ _ _ _ _ _ _ _ _ _ _ _
      | exact lookasideref09_Judge.mono _ _ _ _ _ _ _ _ _ _
      | exact LeO.none _
      | refine LeO.ite ?_ ?_
      | refine LeO.bind ?_ (fun _ => ?_)
set_option maxHeartbeats 8000000 in
set_option maxRecDepth 100000 in
theorem lookasideref09_Less.calls (k : Nat) (a0_0 : Bool) (a0_1 : Bool) (a0_2 : Bool) (a0_3 : Bool) (a0_4 : Bool) (a0_5 : Bool) (a1_0 : Bool) (a1_1 : Bool) (a1_2 : Bool) (a1_3 : Bool) (a1_4 : Bool) (a1_5 : Bool) (r : Bool) (w : World) (h : lookasideref09_Less.f k a0_0 a0_1 a0_2 a0_3 a0_4 a0_5 a1_0 a1_1 a1_2 a1_3 a1_4 a1_5 = some r) :
    Calls Try.prog 51 #[.agg #[.bool a0_0, .bool a0_1, .bool a0_2, .bool a0_3, .bool a0_4, .bool a0_5], .agg #[.bool a1_0, .bool a1_1, .bool a1_2, .bool a1_3, .bool a1_4, .bool a1_5]] w fun e w' => e = .returned (.bool r) ∧ Below w.heap.size w w' := by
  have hu28 := Try.underlying28
  have hu39 := Try.underlying39
  have HB := Aside0.mk (Below.refl w.heap.size w)
  have H : (lookasideref09_Less.l0 k 0 a0_0 a0_1 a0_2 a0_3 a0_4 a0_5 a1_0 a1_1 a1_2 a1_3 a1_4 a1_5) = some r := h
  clear h
  have H' := Aside0.mk H
  clear H
  go_enter Try.func51, Try.ntmps51
  go_wp2_with (first | ((with_reducible refine gate_dst (N := 2) rfl ?_); refine box_event ?hg (N := 2) ?hd (cs := #[.bool a0_0, .bool a0_1, .bool a0_2, .bool a0_3, .bool a0_4, .bool a0_5]) (t := 28) ?hr ?_; (case hd => rfl); (case hg => rfl); (case hr => first | (go_simp; done) | (go_simp; rfl)); intro gb161 hg w3 hbox hb; have n0_ := Aside0.mk (below_step (by repeat (first | (with_reducible first | exact HB.out | apply below_alloc | apply pw_below_drewN | apply below_drew1) | exact HB.out)) hb); have n1_ := Aside0.mk (hbox); have n2_ := Aside0.mk ((by rw [hg]; exact (below_size (by repeat (first | (with_reducible first | exact HB.out | apply below_alloc | apply pw_below_drewN | apply below_drew1) | exact HB.out))) : w.heap.size ≤ gb161)); have n3_ := Aside0.mk ((by rw [hg]; exact (below_size (by repeat (first | (with_reducible first | exact HB.out | apply below_alloc | apply pw_below_drewN | apply below_drew1) | exact HB.out))) : w.heap.size ≤ gb161)); clear HB; have HB := n0_; have BK161 := n1_; have GW161 := n2_; have GE161 := n3_; clear n0_ n1_ n2_ n3_; clear hb hbox hg) | ((with_reducible refine gate_dst (N := 3) rfl ?_); refine box_event ?hg (N := 3) ?hd (cs := #[.bool a1_0, .bool a1_1, .bool a1_2, .bool a1_3, .bool a1_4, .bool a1_5]) (t := 28) ?hr ?_; (case hd => rfl); (case hg => rfl); (case hr => first | (go_simp; done) | (go_simp; rfl)); intro gb162 hg w4 hbox hb; have n0_ := Aside0.mk (blk_below (g := gb161) (o := .cells #[.bool a0_0, .bool a0_1, .bool a0_2, .bool a0_3, .bool a0_4, .bool a0_5] 28 (0, 0)) (by (with_reducible repeat (first | refine blk_drewN ?_ _ | refine blk_drew ?_ | refine blk_alloc ?_ _)); exact BK161.out) hb); have n1_ := Aside0.mk (below_step (by repeat (first | (with_reducible first | exact HB.out | apply below_alloc | apply pw_below_drewN | apply below_drew1 | refine below_set ?_ GE161.out) | exact HB.out)) hb); have n2_ := Aside0.mk (hbox); have n3_ := Aside0.mk ((by rw [hg]; exact (below_size (by repeat (first | (with_reducible first | exact HB.out | apply below_alloc | apply pw_below_drewN | apply below_drew1 | refine below_set ?_ GE161.out) | exact HB.out))) : w.heap.size ≤ gb162)); have n4_ := Aside0.mk ((by rw [hg]; exact (below_size (by repeat (first | (with_reducible first | exact HB.out | apply below_alloc | apply pw_below_drewN | apply below_drew1 | refine below_set ?_ GE161.out) | exact HB.out))) : w.heap.size ≤ gb162)); have n5_ := Aside0.mk ((by rw [hg]; exact Nat.ne_of_lt (blk_lt (g := gb161) (o := .cells #[.bool a0_0, .bool a0_1, .bool a0_2, .bool a0_3, .bool a0_4, .bool a0_5] 28 (0, 0)) (by (with_reducible repeat (first | refine blk_drewN ?_ _ | refine blk_drew ?_ | refine blk_alloc ?_ _)); exact BK161.out)) : gb161 ≠ gb162)); have n6_ := Aside0.mk ((by rw [hg]; exact Nat.ne_of_gt (blk_lt (g := gb161) (o := .cells #[.bool a0_0, .bool a0_1, .bool a0_2, .bool a0_3, .bool a0_4, .bool a0_5] 28 (0, 0)) (by (with_reducible repeat (first | refine blk_drewN ?_ _ | refine blk_drew ?_ | refine blk_alloc ?_ _)); exact BK161.out)) : gb162 ≠ gb161)); clear BK161; clear HB; have BK161 := n0_; have HB := n1_; have BK162 := n2_; have GW162 := n3_; have GE162 := n4_; have NB161_162 := n5_; have NB162_161 := n6_; clear n0_ n1_ n2_ n3_ n4_ n5_ n6_; clear hb hbox hg))
  go_loopg [5] k (fun kq v5 w' => ∃ (x5_1 : Int), v5 = .int .i64 x5_1 ∧ Aside0 (lookasideref09_Less.l0 kq x5_1 a0_0 a0_1 a0_2 a0_3 a0_4 a0_5 a1_0 a1_1 a1_2 a1_3 a1_4 a1_5 = some r) ∧ Aside0 (kq ≤ k) ∧ Aside0 (w'.heap[gb161]? = some (.cells #[.bool a0_0, .bool a0_1, .bool a0_2, .bool a0_3, .bool a0_4, .bool a0_5] 28 (0, 0))) ∧ Aside0 (w'.heap[gb162]? = some (.cells #[.bool a1_0, .bool a1_1, .bool a1_2, .bool a1_3, .bool a1_4, .bool a1_5] 28 (0, 0))) ∧ Aside0 (Below w.heap.size w w'))
  case atStart => exact ⟨(0), (by first | rfl | (simp; done) | (simp [*]; done)), H', ⟨Nat.le_refl _⟩, ⟨by (with_reducible repeat (first | refine blk_drewN ?_ _ | refine blk_drew ?_ | refine blk_alloc ?_ _)); exact BK161.out⟩, ⟨by (with_reducible repeat (first | refine blk_drewN ?_ _ | refine blk_drew ?_ | refine blk_alloc ?_ _)); exact BK162.out⟩, ⟨by repeat (first | (with_reducible first | exact HB.out | apply below_alloc | apply pw_below_drewN | apply below_drew1 | refine below_set ?_ GE161.out | refine below_set ?_ GE162.out) | exact HB.out)⟩⟩
  case round =>
    clear H'
    try clear p2
    obtain ⟨x5_1, rfl, HA, HK1, BK161, BK162, HB⟩ := hrel
    cases gk with
    | zero => exact absurd HA.out (by simp [lookasideref09_Less.l0])
    | succ k1 =>
      have H := HA.out
      clear HA
      simp only [lookasideref09_Less.l0] at H
      by_cases c5 : x5_1 < 4
      · rw [if_pos c5] at H
        have c5b0 : decide (x5_1 < 4) = true := decide_eq_true c5
        clear c5
        have HC6 := Aside0.mk H
        clear H
        go_upto_region 6 with (first | ((with_reducible refine gate_dst (N := 6) rfl ?_); refine box_event ?hg (N := 6) ?hd (cs := #[.int .i64 0, .bool false, .int .u64 0]) (t := 39) ?hr ?_; (case hd => rfl); (case hg => rfl); (case hr => first | (go_simp; done) | (go_simp; rfl)); intro gb163 hg w7 hbox hb; have n0_ := Aside0.mk (blk_below (g := gb161) (o := .cells #[.bool a0_0, .bool a0_1, .bool a0_2, .bool a0_3, .bool a0_4, .bool a0_5] 28 (0, 0)) (by (with_reducible repeat (first | refine blk_drewN ?_ _ | refine blk_drew ?_ | refine blk_alloc ?_ _)); exact BK161.out) hb); have n1_ := Aside0.mk (blk_below (g := gb162) (o := .cells #[.bool a1_0, .bool a1_1, .bool a1_2, .bool a1_3, .bool a1_4, .bool a1_5] 28 (0, 0)) (by (with_reducible repeat (first | refine blk_drewN ?_ _ | refine blk_drew ?_ | refine blk_alloc ?_ _)); exact BK162.out) hb); have n2_ := Aside0.mk (below_step (by repeat (first | (with_reducible first | exact HB.out | apply below_alloc | apply pw_below_drewN | apply below_drew1 | refine below_set ?_ GE161.out | refine below_set ?_ GE162.out) | exact HB.out)) hb); have n3_ := Aside0.mk (hbox); have n4_ := Aside0.mk ((by rw [hg]; exact (below_size (by repeat (first | (with_reducible first | exact HB.out | apply below_alloc | apply pw_below_drewN | apply below_drew1 | refine below_set ?_ GE161.out | refine below_set ?_ GE162.out) | exact HB.out))) : w.heap.size ≤ gb163)); have n5_ := Aside0.mk ((by rw [hg]; exact (below_size (by repeat (first | (with_reducible first | exact HB.out | apply below_alloc | apply pw_below_drewN | apply below_drew1 | refine below_set ?_ GE161.out | refine below_set ?_ GE162.out) | exact HB.out))) : w.heap.size ≤ gb163)); have n6_ := Aside0.mk ((by rw [hg]; exact Nat.ne_of_lt (blk_lt (g := gb161) (o := .cells #[.bool a0_0, .bool a0_1, .bool a0_2, .bool a0_3, .bool a0_4, .bool a0_5] 28 (0, 0)) (by (with_reducible repeat (first | refine blk_drewN ?_ _ | refine blk_drew ?_ | refine blk_alloc ?_ _)); exact BK161.out)) : gb161 ≠ gb163)); have n7_ := Aside0.mk ((by rw [hg]; exact Nat.ne_of_gt (blk_lt (g := gb161) (o := .cells #[.bool a0_0, .bool a0_1, .bool a0_2, .bool a0_3, .bool a0_4, .bool a0_5] 28 (0, 0)) (by (with_reducible repeat (first | refine blk_drewN ?_ _ | refine blk_drew ?_ | refine blk_alloc ?_ _)); exact BK161.out)) : gb163 ≠ gb161)); have n8_ := Aside0.mk ((by rw [hg]; exact Nat.ne_of_lt (blk_lt (g := gb162) (o := .cells #[.bool a1_0, .bool a1_1, .bool a1_2, .bool a1_3, .bool a1_4, .bool a1_5] 28 (0, 0)) (by (with_reducible repeat (first | refine blk_drewN ?_ _ | refine blk_drew ?_ | refine blk_alloc ?_ _)); exact BK162.out)) : gb162 ≠ gb163)); have n9_ := Aside0.mk ((by rw [hg]; exact Nat.ne_of_gt (blk_lt (g := gb162) (o := .cells #[.bool a1_0, .bool a1_1, .bool a1_2, .bool a1_3, .bool a1_4, .bool a1_5] 28 (0, 0)) (by (with_reducible repeat (first | refine blk_drewN ?_ _ | refine blk_drew ?_ | refine blk_alloc ?_ _)); exact BK162.out)) : gb163 ≠ gb162)); clear BK161; clear BK162; clear HB; have BK161 := n0_; have BK162 := n1_; have HB := n2_; have BK163 := n3_; have GW163 := n4_; have GE163 := n5_; have NB161_163 := n6_; have NB163_161 := n7_; have NB162_163 := n8_; have NB163_162 := n9_; clear n0_ n1_ n2_ n3_ n4_ n5_ n6_ n7_ n8_ n9_; clear hb hbox hg; have hnb8 := NB163_161.out; have hnc8 := NB161_163.out; have hnb9 := NB163_162.out; have hnc9 := NB162_163.out; have hcz10_0 : w7.cell? ⟨gb163, 0, none⟩ = some (.int .i64 0) := (blk_cell BK163.out 0).trans rfl; have hcz10_1 : w7.cell? ⟨gb163, 1, none⟩ = some (.bool false) := (blk_cell BK163.out 1).trans rfl; have hcz10_2 : w7.cell? ⟨gb163, 2, none⟩ = some (.int .u64 0) := (blk_cell BK163.out 2).trans rfl; have hfz10_0 := blk_frozen BK163.out 0; have hfz10_1 := blk_frozen BK163.out 1; have hfz10_2 := blk_frozen BK163.out 2) | ((with_reducible refine gate_dst (N := 7) rfl ?_); refine box_event ?hg (N := 7) ?hd (cs := #[.int .i64 0, .bool false, .int .u64 0]) (t := 39) ?hr ?_; (case hd => rfl); (case hg => rfl); (case hr => first | (go_simp; done) | (go_simp; rfl)); intro gb164 hg w11 hbox hb; have n0_ := Aside0.mk (blk_below (g := gb161) (o := .cells #[.bool a0_0, .bool a0_1, .bool a0_2, .bool a0_3, .bool a0_4, .bool a0_5] 28 (0, 0)) (by (with_reducible repeat (first | refine blk_drewN ?_ _ | refine blk_drew ?_ | refine blk_alloc ?_ _)); refine blk_far ?_ NB161_163.out _; (with_reducible repeat (first | refine blk_drewN ?_ _ | refine blk_drew ?_ | refine blk_alloc ?_ _)); refine blk_far ?_ NB161_163.out _; (with_reducible repeat (first | refine blk_drewN ?_ _ | refine blk_drew ?_ | refine blk_alloc ?_ _)); refine blk_far ?_ NB161_163.out _; (with_reducible repeat (first | refine blk_drewN ?_ _ | refine blk_drew ?_ | refine blk_alloc ?_ _)); exact BK161.out) hb); have n1_ := Aside0.mk (blk_below (g := gb162) (o := .cells #[.bool a1_0, .bool a1_1, .bool a1_2, .bool a1_3, .bool a1_4, .bool a1_5] 28 (0, 0)) (by (with_reducible repeat (first | refine blk_drewN ?_ _ | refine blk_drew ?_ | refine blk_alloc ?_ _)); refine blk_far ?_ NB162_163.out _; (with_reducible repeat (first | refine blk_drewN ?_ _ | refine blk_drew ?_ | refine blk_alloc ?_ _)); refine blk_far ?_ NB162_163.out _; (with_reducible repeat (first | refine blk_drewN ?_ _ | refine blk_drew ?_ | refine blk_alloc ?_ _)); refine blk_far ?_ NB162_163.out _; (with_reducible repeat (first | refine blk_drewN ?_ _ | refine blk_drew ?_ | refine blk_alloc ?_ _)); exact BK162.out) hb); have n2_ := Aside0.mk (blk_below (g := gb163) (o := .cells #[.int .i64 x5_1, .bool false, .int .u64 0] 39 (0, 0)) (by (with_reducible repeat (first | refine blk_drewN ?_ _ | refine blk_drew ?_ | refine blk_alloc ?_ _)); refine blk_put (cs := #[.int .i64 x5_1, .bool false, .int .u64 0]) ?_ 2 _ rfl; (with_reducible repeat (first | refine blk_drewN ?_ _ | refine blk_drew ?_ | refine blk_alloc ?_ _)); refine blk_put (cs := #[.int .i64 x5_1, .bool false, .int .u64 0]) ?_ 1 _ rfl; (with_reducible repeat (first | refine blk_drewN ?_ _ | refine blk_drew ?_ | refine blk_alloc ?_ _)); refine blk_put (cs := #[.int .i64 0, .bool false, .int .u64 0]) ?_ 0 _ rfl; (with_reducible repeat (first | refine blk_drewN ?_ _ | refine blk_drew ?_ | refine blk_alloc ?_ _)); exact BK163.out) hb); have n3_ := Aside0.mk (below_step (by repeat (first | (with_reducible first | exact HB.out | apply below_alloc | apply pw_below_drewN | apply below_drew1 | refine below_set ?_ GE161.out | refine below_set ?_ GE162.out | refine below_set ?_ GE163.out) | exact HB.out)) hb); have n4_ := Aside0.mk (hbox); have n5_ := Aside0.mk ((by rw [hg]; exact (below_size (by repeat (first | (with_reducible first | exact HB.out | apply below_alloc | apply pw_below_drewN | apply below_drew1 | refine below_set ?_ GE161.out | refine below_set ?_ GE162.out | refine below_set ?_ GE163.out) | exact HB.out))) : w.heap.size ≤ gb164)); have n6_ := Aside0.mk ((by rw [hg]; exact (below_size (by repeat (first | (with_reducible first | exact HB.out | apply below_alloc | apply pw_below_drewN | apply below_drew1 | refine below_set ?_ GE161.out | refine below_set ?_ GE162.out | refine below_set ?_ GE163.out) | exact HB.out))) : w.heap.size ≤ gb164)); have n7_ := Aside0.mk ((by rw [hg]; exact Nat.ne_of_lt (blk_lt (g := gb161) (o := .cells #[.bool a0_0, .bool a0_1, .bool a0_2, .bool a0_3, .bool a0_4, .bool a0_5] 28 (0, 0)) (by (with_reducible repeat (first | refine blk_drewN ?_ _ | refine blk_drew ?_ | refine blk_alloc ?_ _)); refine blk_far ?_ NB161_163.out _; (with_reducible repeat (first | refine blk_drewN ?_ _ | refine blk_drew ?_ | refine blk_alloc ?_ _)); refine blk_far ?_ NB161_163.out _; (with_reducible repeat (first | refine blk_drewN ?_ _ | refine blk_drew ?_ | refine blk_alloc ?_ _)); refine blk_far ?_ NB161_163.out _; (with_reducible repeat (first | refine blk_drewN ?_ _ | refine blk_drew ?_ | refine blk_alloc ?_ _)); exact BK161.out)) : gb161 ≠ gb164)); have n8_ := Aside0.mk ((by rw [hg]; exact Nat.ne_of_gt (blk_lt (g := gb161) (o := .cells #[.bool a0_0, .bool a0_1, .bool a0_2, .bool a0_3, .bool a0_4, .bool a0_5] 28 (0, 0)) (by (with_reducible repeat (first | refine blk_drewN ?_ _ | refine blk_drew ?_ | refine blk_alloc ?_ _)); refine blk_far ?_ NB161_163.out _; (with_reducible repeat (first | refine blk_drewN ?_ _ | refine blk_drew ?_ | refine blk_alloc ?_ _)); refine blk_far ?_ NB161_163.out _; (with_reducible repeat (first | refine blk_drewN ?_ _ | refine blk_drew ?_ | refine blk_alloc ?_ _)); refine blk_far ?_ NB161_163.out _; (with_reducible repeat (first | refine blk_drewN ?_ _ | refine blk_drew ?_ | refine blk_alloc ?_ _)); exact BK161.out)) : gb164 ≠ gb161)); have n9_ := Aside0.mk ((by rw [hg]; exact Nat.ne_of_lt (blk_lt (g := gb162) (o := .cells #[.bool a1_0, .bool a1_1, .bool a1_2, .bool a1_3, .bool a1_4, .bool a1_5] 28 (0, 0)) (by (with_reducible repeat (first | refine blk_drewN ?_ _ | refine blk_drew ?_ | refine blk_alloc ?_ _)); refine blk_far ?_ NB162_163.out _; (with_reducible repeat (first | refine blk_drewN ?_ _ | refine blk_drew ?_ | refine blk_alloc ?_ _)); refine blk_far ?_ NB162_163.out _; (with_reducible repeat (first | refine blk_drewN ?_ _ | refine blk_drew ?_ | refine blk_alloc ?_ _)); refine blk_far ?_ NB162_163.out _; (with_reducible repeat (first | refine blk_drewN ?_ _ | refine blk_drew ?_ | refine blk_alloc ?_ _)); exact BK162.out)) : gb162 ≠ gb164)); have n10_ := Aside0.mk ((by rw [hg]; exact Nat.ne_of_gt (blk_lt (g := gb162) (o := .cells #[.bool a1_0, .bool a1_1, .bool a1_2, .bool a1_3, .bool a1_4, .bool a1_5] 28 (0, 0)) (by (with_reducible repeat (first | refine blk_drewN ?_ _ | refine blk_drew ?_ | refine blk_alloc ?_ _)); refine blk_far ?_ NB162_163.out _; (with_reducible repeat (first | refine blk_drewN ?_ _ | refine blk_drew ?_ | refine blk_alloc ?_ _)); refine blk_far ?_ NB162_163.out _; (with_reducible repeat (first | refine blk_drewN ?_ _ | refine blk_drew ?_ | refine blk_alloc ?_ _)); refine blk_far ?_ NB162_163.out _; (with_reducible repeat (first | refine blk_drewN ?_ _ | refine blk_drew ?_ | refine blk_alloc ?_ _)); exact BK162.out)) : gb164 ≠ gb162)); have n11_ := Aside0.mk ((by rw [hg]; exact Nat.ne_of_lt (blk_lt (g := gb163) (o := .cells #[.int .i64 x5_1, .bool false, .int .u64 0] 39 (0, 0)) (by (with_reducible repeat (first | refine blk_drewN ?_ _ | refine blk_drew ?_ | refine blk_alloc ?_ _)); refine blk_put (cs := #[.int .i64 x5_1, .bool false, .int .u64 0]) ?_ 2 _ rfl; (with_reducible repeat (first | refine blk_drewN ?_ _ | refine blk_drew ?_ | refine blk_alloc ?_ _)); refine blk_put (cs := #[.int .i64 x5_1, .bool false, .int .u64 0]) ?_ 1 _ rfl; (with_reducible repeat (first | refine blk_drewN ?_ _ | refine blk_drew ?_ | refine blk_alloc ?_ _)); refine blk_put (cs := #[.int .i64 0, .bool false, .int .u64 0]) ?_ 0 _ rfl; (with_reducible repeat (first | refine blk_drewN ?_ _ | refine blk_drew ?_ | refine blk_alloc ?_ _)); exact BK163.out)) : gb163 ≠ gb164)); have n12_ := Aside0.mk ((by rw [hg]; exact Nat.ne_of_gt (blk_lt (g := gb163) (o := .cells #[.int .i64 x5_1, .bool false, .int .u64 0] 39 (0, 0)) (by (with_reducible repeat (first | refine blk_drewN ?_ _ | refine blk_drew ?_ | refine blk_alloc ?_ _)); refine blk_put (cs := #[.int .i64 x5_1, .bool false, .int .u64 0]) ?_ 2 _ rfl; (with_reducible repeat (first | refine blk_drewN ?_ _ | refine blk_drew ?_ | refine blk_alloc ?_ _)); refine blk_put (cs := #[.int .i64 x5_1, .bool false, .int .u64 0]) ?_ 1 _ rfl; (with_reducible repeat (first | refine blk_drewN ?_ _ | refine blk_drew ?_ | refine blk_alloc ?_ _)); refine blk_put (cs := #[.int .i64 0, .bool false, .int .u64 0]) ?_ 0 _ rfl; (with_reducible repeat (first | refine blk_drewN ?_ _ | refine blk_drew ?_ | refine blk_alloc ?_ _)); exact BK163.out)) : gb164 ≠ gb163)); clear BK161; clear BK162; clear BK163; clear HB; have BK161 := n0_; have BK162 := n1_; have BK163 := n2_; have HB := n3_; have BK164 := n4_; have GW164 := n5_; have GE164 := n6_; have NB161_164 := n7_; have NB164_161 := n8_; have NB162_164 := n9_; have NB164_162 := n10_; have NB163_164 := n11_; have NB164_163 := n12_; clear n0_ n1_ n2_ n3_ n4_ n5_ n6_ n7_ n8_ n9_ n10_ n11_ n12_; clear hb hbox hg; have hnb12 := NB164_161.out; have hnc12 := NB161_164.out; have hnb13 := NB164_162.out; have hnc13 := NB162_164.out; have hnb14 := NB164_163.out; have hnc14 := NB163_164.out; have hcz15_0 : w11.cell? ⟨gb164, 0, none⟩ = some (.int .i64 0) := (blk_cell BK164.out 0).trans rfl; have hcz15_1 : w11.cell? ⟨gb164, 1, none⟩ = some (.bool false) := (blk_cell BK164.out 1).trans rfl; have hcz15_2 : w11.cell? ⟨gb164, 2, none⟩ = some (.int .u64 0) := (blk_cell BK164.out 2).trans rfl; have hfz15_0 := blk_frozen BK164.out 0; have hfz15_1 := blk_frozen BK164.out 1; have hfz15_2 := blk_frozen BK164.out 2))
        (try simp only [Act.put, List.setIfInBounds_toArray, List.set_cons_zero, List.set_cons_succ])
        go_cut [25] (fun v25 wc => ∃ (kq : Nat) (x25_5 : Bool), v25 = .bool x25_5 ∧ Aside0 (lookasideref09_Less.j1 kq x5_1 x25_5 a0_0 a0_1 a0_2 a0_3 a0_4 a0_5 a1_0 a1_1 a1_2 a1_3 a1_4 a1_5 x5_1 true 0 = some r) ∧ Aside0 (kq ≤ k1) ∧ Aside0 (wc.heap[gb161]? = some (.cells #[.bool a0_0, .bool a0_1, .bool a0_2, .bool a0_3, .bool a0_4, .bool a0_5] 28 (0, 0))) ∧ Aside0 (wc.heap[gb162]? = some (.cells #[.bool a1_0, .bool a1_1, .bool a1_2, .bool a1_3, .bool a1_4, .bool a1_5] 28 (0, 0))) ∧ Aside0 (wc.heap[gb163]? = some (.cells #[.int .i64 x5_1, .bool false, .int .u64 0] 39 (0, 0))) ∧ Aside0 (wc.heap[gb164]? = some (.cells #[.int .i64 x5_1, .bool true, .int .u64 0] 39 (0, 0))) ∧ Aside0 (Below w.heap.size w wc))
        case first =>
          have H := HC6.out
          clear HC6
          replace H := Option.bind_eq_some_iff.mp H
          obtain ⟨t165, A160, H⟩ := H
          replace H : (if t165 = 0 then ((lookasideref09_Judge.f k1 a1_0 a1_1 a1_2 a1_3 a1_4 a1_5 x5_1 false 0).bind fun t166 => (lookasideref09_Less.j1 k1 x5_1 (t166 != 0) a0_0 a0_1 a0_2 a0_3 a0_4 a0_5 a1_0 a1_1 a1_2 a1_3 a1_4 a1_5 x5_1 true 0)) else (lookasideref09_Less.j1 k1 x5_1 false a0_0 a0_1 a0_2 a0_3 a0_4 a0_5 a1_0 a1_1 a1_2 a1_3 a1_4 a1_5 x5_1 true 0)) = some r := H
          have A16 := Aside0.mk A160
          clear A160
          by_cases c17 : t165 = 0
          · rw [if_pos c17] at H
            have c17b0 : (t165 == 0) = true := beq_iff_eq.mpr c17
            have c17b1 : (t165 != 0) = false := bne_eq_false_iff_eq.mpr c17
            clear c17
            (first | rw [c17b0] | (simp only [i64_w, i32_w]; rw [c17b0]) | skip)
            replace H := Option.bind_eq_some_iff.mp H
            obtain ⟨t166, A180, H⟩ := H
            replace H : (lookasideref09_Less.j1 k1 x5_1 (t166 != 0) a0_0 a0_1 a0_2 a0_3 a0_4 a0_5 a1_0 a1_1 a1_2 a1_3 a1_4 a1_5 x5_1 true 0) = some r := H
            have A18 := Aside0.mk A180
            clear A180
            have H' := Aside0.mk H
            clear H
            have hnb19 := NB161_162.out
            have hnc19 := NB162_161.out
            have hnb20 := NB161_163.out
            have hnc20 := NB163_161.out
            have hnb21 := NB161_164.out
            have hnc21 := NB164_161.out
            have hcz22_0 : w11.cell? ⟨gb161, 0, none⟩ = some (.bool a0_0) := (blk_cell BK161.out 0).trans rfl
            have hcz22_1 : w11.cell? ⟨gb161, 1, none⟩ = some (.bool a0_1) := (blk_cell BK161.out 1).trans rfl
            have hcz22_2 : w11.cell? ⟨gb161, 2, none⟩ = some (.bool a0_2) := (blk_cell BK161.out 2).trans rfl
            have hcz22_3 : w11.cell? ⟨gb161, 3, none⟩ = some (.bool a0_3) := (blk_cell BK161.out 3).trans rfl
            have hcz22_4 : w11.cell? ⟨gb161, 4, none⟩ = some (.bool a0_4) := (blk_cell BK161.out 4).trans rfl
            have hcz22_5 : w11.cell? ⟨gb161, 5, none⟩ = some (.bool a0_5) := (blk_cell BK161.out 5).trans rfl
            have hfz22_0 := blk_frozen BK161.out 0
            have hfz22_1 := blk_frozen BK161.out 1
            have hfz22_2 := blk_frozen BK161.out 2
            have hfz22_3 := blk_frozen BK161.out 3
            have hfz22_4 := blk_frozen BK161.out 4
            have hfz22_5 := blk_frozen BK161.out 5
            have hnb23 := NB163_162.out
            have hnc23 := NB162_163.out
            have hnb24 := NB163_164.out
            have hnc24 := NB164_163.out
            have hcz25_0 : w11.cell? ⟨gb163, 0, none⟩ = some (.int .i64 x5_1) := (blk_cell BK163.out 0).trans rfl
            have hcz25_1 : w11.cell? ⟨gb163, 1, none⟩ = some (.bool false) := (blk_cell BK163.out 1).trans rfl
            have hcz25_2 : w11.cell? ⟨gb163, 2, none⟩ = some (.int .u64 0) := (blk_cell BK163.out 2).trans rfl
            have hfz25_0 := blk_frozen BK163.out 0
            have hfz25_1 := blk_frozen BK163.out 1
            have hfz25_2 := blk_frozen BK163.out 2
            go_wp2_with (first | ((with_reducible refine gate_callee (f := 60) rfl ?_); refine goesL_ (some 18) rfl rfl Try.func60 (by kernel_rfl) rfl #[.agg #[.bool a0_0, .bool a0_1, .bool a0_2, .bool a0_3, .bool a0_4, .bool a0_5], .agg #[.int .i64 x5_1, .bool false, .int .u64 0]] rfl (by (try simp only [List.map_toArray, List.map_cons, List.map_nil]); first | done | rfl | (simp only [List.length_drop, List.length_take]; rfl)) ?_; (with_reducible refine (lookasideref09_Judge.calls k1 a0_0 a0_1 a0_2 a0_3 a0_4 a0_5 x5_1 false 0 t165 _ A16.out).mono ?_); rintro e w26 ⟨rfl, hb⟩; refine ⟨_, rfl, ?_⟩; have n0_ := Aside0.mk (blk_below (g := gb161) (o := .cells #[.bool a0_0, .bool a0_1, .bool a0_2, .bool a0_3, .bool a0_4, .bool a0_5] 28 (0, 0)) (by (with_reducible repeat (first | refine blk_drewN ?_ _ | refine blk_drew ?_ | refine blk_alloc ?_ _)); refine blk_far ?_ NB161_164.out _; (with_reducible repeat (first | refine blk_drewN ?_ _ | refine blk_drew ?_ | refine blk_alloc ?_ _)); refine blk_far ?_ NB161_164.out _; (with_reducible repeat (first | refine blk_drewN ?_ _ | refine blk_drew ?_ | refine blk_alloc ?_ _)); refine blk_far ?_ NB161_164.out _; (with_reducible repeat (first | refine blk_drewN ?_ _ | refine blk_drew ?_ | refine blk_alloc ?_ _)); exact BK161.out) hb); have n1_ := Aside0.mk (blk_below (g := gb162) (o := .cells #[.bool a1_0, .bool a1_1, .bool a1_2, .bool a1_3, .bool a1_4, .bool a1_5] 28 (0, 0)) (by (with_reducible repeat (first | refine blk_drewN ?_ _ | refine blk_drew ?_ | refine blk_alloc ?_ _)); refine blk_far ?_ NB162_164.out _; (with_reducible repeat (first | refine blk_drewN ?_ _ | refine blk_drew ?_ | refine blk_alloc ?_ _)); refine blk_far ?_ NB162_164.out _; (with_reducible repeat (first | refine blk_drewN ?_ _ | refine blk_drew ?_ | refine blk_alloc ?_ _)); refine blk_far ?_ NB162_164.out _; (with_reducible repeat (first | refine blk_drewN ?_ _ | refine blk_drew ?_ | refine blk_alloc ?_ _)); exact BK162.out) hb); have n2_ := Aside0.mk (blk_below (g := gb163) (o := .cells #[.int .i64 x5_1, .bool false, .int .u64 0] 39 (0, 0)) (by (with_reducible repeat (first | refine blk_drewN ?_ _ | refine blk_drew ?_ | refine blk_alloc ?_ _)); refine blk_far ?_ NB163_164.out _; (with_reducible repeat (first | refine blk_drewN ?_ _ | refine blk_drew ?_ | refine blk_alloc ?_ _)); refine blk_far ?_ NB163_164.out _; (with_reducible repeat (first | refine blk_drewN ?_ _ | refine blk_drew ?_ | refine blk_alloc ?_ _)); refine blk_far ?_ NB163_164.out _; (with_reducible repeat (first | refine blk_drewN ?_ _ | refine blk_drew ?_ | refine blk_alloc ?_ _)); exact BK163.out) hb); have n3_ := Aside0.mk (blk_below (g := gb164) (o := .cells #[.int .i64 x5_1, .bool true, .int .u64 0] 39 (0, 0)) (by (with_reducible repeat (first | refine blk_drewN ?_ _ | refine blk_drew ?_ | refine blk_alloc ?_ _)); refine blk_put (cs := #[.int .i64 x5_1, .bool true, .int .u64 0]) ?_ 2 _ rfl; (with_reducible repeat (first | refine blk_drewN ?_ _ | refine blk_drew ?_ | refine blk_alloc ?_ _)); refine blk_put (cs := #[.int .i64 x5_1, .bool false, .int .u64 0]) ?_ 1 _ rfl; (with_reducible repeat (first | refine blk_drewN ?_ _ | refine blk_drew ?_ | refine blk_alloc ?_ _)); refine blk_put (cs := #[.int .i64 0, .bool false, .int .u64 0]) ?_ 0 _ rfl; (with_reducible repeat (first | refine blk_drewN ?_ _ | refine blk_drew ?_ | refine blk_alloc ?_ _)); exact BK164.out) hb); have n4_ := Aside0.mk (below_step (by repeat (first | (with_reducible first | exact HB.out | apply below_alloc | apply pw_below_drewN | apply below_drew1 | refine below_set ?_ GE161.out | refine below_set ?_ GE162.out | refine below_set ?_ GE163.out | refine below_set ?_ GE164.out) | exact HB.out)) hb); clear BK161; clear BK162; clear BK163; clear BK164; clear HB; have BK161 := n0_; have BK162 := n1_; have BK163 := n2_; have BK164 := n3_; have HB := n4_; clear n0_ n1_ n2_ n3_ n4_; (try clear hb); (try clear hb2); (try clear hk); (try clear hi); have hnb27 := NB162_164.out; have hnc27 := NB164_162.out; have hcz28_0 : w26.cell? ⟨gb162, 0, none⟩ = some (.bool a1_0) := (blk_cell BK162.out 0).trans rfl; have hcz28_1 : w26.cell? ⟨gb162, 1, none⟩ = some (.bool a1_1) := (blk_cell BK162.out 1).trans rfl; have hcz28_2 : w26.cell? ⟨gb162, 2, none⟩ = some (.bool a1_2) := (blk_cell BK162.out 2).trans rfl; have hcz28_3 : w26.cell? ⟨gb162, 3, none⟩ = some (.bool a1_3) := (blk_cell BK162.out 3).trans rfl; have hcz28_4 : w26.cell? ⟨gb162, 4, none⟩ = some (.bool a1_4) := (blk_cell BK162.out 4).trans rfl; have hcz28_5 : w26.cell? ⟨gb162, 5, none⟩ = some (.bool a1_5) := (blk_cell BK162.out 5).trans rfl; have hfz28_0 := blk_frozen BK162.out 0; have hfz28_1 := blk_frozen BK162.out 1; have hfz28_2 := blk_frozen BK162.out 2; have hfz28_3 := blk_frozen BK162.out 3; have hfz28_4 := blk_frozen BK162.out 4; have hfz28_5 := blk_frozen BK162.out 5; have hcz29_0 : w26.cell? ⟨gb163, 0, none⟩ = some (.int .i64 x5_1) := (blk_cell BK163.out 0).trans rfl; have hcz29_1 : w26.cell? ⟨gb163, 1, none⟩ = some (.bool false) := (blk_cell BK163.out 1).trans rfl; have hcz29_2 : w26.cell? ⟨gb163, 2, none⟩ = some (.int .u64 0) := (blk_cell BK163.out 2).trans rfl; have hfz29_0 := blk_frozen BK163.out 0; have hfz29_1 := blk_frozen BK163.out 1; have hfz29_2 := blk_frozen BK163.out 2) | (go_at_call 60; (with_reducible refine (lookasideref09_Judge.calls k1 a1_0 a1_1 a1_2 a1_3 a1_4 a1_5 x5_1 false 0 t166 _ A18.out).mono ?_); rintro e w30 ⟨rfl, hb⟩; have n0_ := Aside0.mk (blk_below (g := gb161) (o := .cells #[.bool a0_0, .bool a0_1, .bool a0_2, .bool a0_3, .bool a0_4, .bool a0_5] 28 (0, 0)) (by (with_reducible repeat (first | refine blk_drewN ?_ _ | refine blk_drew ?_ | refine blk_alloc ?_ _)); exact BK161.out) hb); have n1_ := Aside0.mk (blk_below (g := gb162) (o := .cells #[.bool a1_0, .bool a1_1, .bool a1_2, .bool a1_3, .bool a1_4, .bool a1_5] 28 (0, 0)) (by (with_reducible repeat (first | refine blk_drewN ?_ _ | refine blk_drew ?_ | refine blk_alloc ?_ _)); exact BK162.out) hb); have n2_ := Aside0.mk (blk_below (g := gb163) (o := .cells #[.int .i64 x5_1, .bool false, .int .u64 0] 39 (0, 0)) (by (with_reducible repeat (first | refine blk_drewN ?_ _ | refine blk_drew ?_ | refine blk_alloc ?_ _)); exact BK163.out) hb); have n3_ := Aside0.mk (blk_below (g := gb164) (o := .cells #[.int .i64 x5_1, .bool true, .int .u64 0] 39 (0, 0)) (by (with_reducible repeat (first | refine blk_drewN ?_ _ | refine blk_drew ?_ | refine blk_alloc ?_ _)); exact BK164.out) hb); have n4_ := Aside0.mk (below_step (by repeat (first | (with_reducible first | exact HB.out | apply below_alloc | apply pw_below_drewN | apply below_drew1 | refine below_set ?_ GE161.out | refine below_set ?_ GE162.out | refine below_set ?_ GE163.out | refine below_set ?_ GE164.out) | exact HB.out)) hb); clear BK161; clear BK162; clear BK163; clear BK164; clear HB; have BK161 := n0_; have BK162 := n1_; have BK163 := n2_; have BK164 := n3_; have HB := n4_; clear n0_ n1_ n2_ n3_ n4_; (try clear hb); (try clear hb2); (try clear hk); (try clear hi)))
            go_meet
            case rel => exact ⟨_, ((t166 != 0)), (by first | rfl | (simp; done) | (simp [*]; done)), H', ⟨by have := HK1.out; first | omega | exact Nat.le_refl _⟩, ⟨by (with_reducible repeat (first | refine blk_drewN ?_ _ | refine blk_drew ?_ | refine blk_alloc ?_ _)); exact BK161.out⟩, ⟨by (with_reducible repeat (first | refine blk_drewN ?_ _ | refine blk_drew ?_ | refine blk_alloc ?_ _)); exact BK162.out⟩, ⟨by (with_reducible repeat (first | refine blk_drewN ?_ _ | refine blk_drew ?_ | refine blk_alloc ?_ _)); exact BK163.out⟩, ⟨by (with_reducible repeat (first | refine blk_drewN ?_ _ | refine blk_drew ?_ | refine blk_alloc ?_ _)); exact BK164.out⟩, ⟨by repeat (first | (with_reducible first | exact HB.out | apply below_alloc | apply pw_below_drewN | apply below_drew1 | refine below_set ?_ GE161.out | refine below_set ?_ GE162.out | refine below_set ?_ GE163.out | refine below_set ?_ GE164.out) | exact HB.out)⟩⟩
          · rw [if_neg c17] at H
            have c17b0 : (t165 == 0) = false := beq_eq_false_iff_ne.mpr c17
            have c17b1 : (t165 != 0) = true := bne_iff_ne.mpr c17
            (first | rw [c17b0] | (simp only [i64_w, i32_w]; rw [c17b0]) | skip)
            have H' := Aside0.mk H
            clear H
            have hnb31 := NB161_162.out
            have hnc31 := NB162_161.out
            have hnb32 := NB161_163.out
            have hnc32 := NB163_161.out
            have hnb33 := NB161_164.out
            have hnc33 := NB164_161.out
            have hcz34_0 : w11.cell? ⟨gb161, 0, none⟩ = some (.bool a0_0) := (blk_cell BK161.out 0).trans rfl
            have hcz34_1 : w11.cell? ⟨gb161, 1, none⟩ = some (.bool a0_1) := (blk_cell BK161.out 1).trans rfl
            have hcz34_2 : w11.cell? ⟨gb161, 2, none⟩ = some (.bool a0_2) := (blk_cell BK161.out 2).trans rfl
            have hcz34_3 : w11.cell? ⟨gb161, 3, none⟩ = some (.bool a0_3) := (blk_cell BK161.out 3).trans rfl
            have hcz34_4 : w11.cell? ⟨gb161, 4, none⟩ = some (.bool a0_4) := (blk_cell BK161.out 4).trans rfl
            have hcz34_5 : w11.cell? ⟨gb161, 5, none⟩ = some (.bool a0_5) := (blk_cell BK161.out 5).trans rfl
            have hfz34_0 := blk_frozen BK161.out 0
            have hfz34_1 := blk_frozen BK161.out 1
            have hfz34_2 := blk_frozen BK161.out 2
            have hfz34_3 := blk_frozen BK161.out 3
            have hfz34_4 := blk_frozen BK161.out 4
            have hfz34_5 := blk_frozen BK161.out 5
            have hnb35 := NB163_162.out
            have hnc35 := NB162_163.out
            have hnb36 := NB163_164.out
            have hnc36 := NB164_163.out
            have hcz37_0 : w11.cell? ⟨gb163, 0, none⟩ = some (.int .i64 x5_1) := (blk_cell BK163.out 0).trans rfl
            have hcz37_1 : w11.cell? ⟨gb163, 1, none⟩ = some (.bool false) := (blk_cell BK163.out 1).trans rfl
            have hcz37_2 : w11.cell? ⟨gb163, 2, none⟩ = some (.int .u64 0) := (blk_cell BK163.out 2).trans rfl
            have hfz37_0 := blk_frozen BK163.out 0
            have hfz37_1 := blk_frozen BK163.out 1
            have hfz37_2 := blk_frozen BK163.out 2
            go_wp2_with (first | ((with_reducible refine gate_callee (f := 60) rfl ?_); refine goesL_ (some 18) rfl rfl Try.func60 (by kernel_rfl) rfl #[.agg #[.bool a0_0, .bool a0_1, .bool a0_2, .bool a0_3, .bool a0_4, .bool a0_5], .agg #[.int .i64 x5_1, .bool false, .int .u64 0]] rfl (by (try simp only [List.map_toArray, List.map_cons, List.map_nil]); first | done | rfl | (simp only [List.length_drop, List.length_take]; rfl)) ?_; (with_reducible refine (lookasideref09_Judge.calls k1 a0_0 a0_1 a0_2 a0_3 a0_4 a0_5 x5_1 false 0 t165 _ A16.out).mono ?_); rintro e w38 ⟨rfl, hb⟩; refine ⟨_, rfl, ?_⟩; have n0_ := Aside0.mk (blk_below (g := gb161) (o := .cells #[.bool a0_0, .bool a0_1, .bool a0_2, .bool a0_3, .bool a0_4, .bool a0_5] 28 (0, 0)) (by (with_reducible repeat (first | refine blk_drewN ?_ _ | refine blk_drew ?_ | refine blk_alloc ?_ _)); refine blk_far ?_ NB161_164.out _; (with_reducible repeat (first | refine blk_drewN ?_ _ | refine blk_drew ?_ | refine blk_alloc ?_ _)); refine blk_far ?_ NB161_164.out _; (with_reducible repeat (first | refine blk_drewN ?_ _ | refine blk_drew ?_ | refine blk_alloc ?_ _)); refine blk_far ?_ NB161_164.out _; (with_reducible repeat (first | refine blk_drewN ?_ _ | refine blk_drew ?_ | refine blk_alloc ?_ _)); exact BK161.out) hb); have n1_ := Aside0.mk (blk_below (g := gb162) (o := .cells #[.bool a1_0, .bool a1_1, .bool a1_2, .bool a1_3, .bool a1_4, .bool a1_5] 28 (0, 0)) (by (with_reducible repeat (first | refine blk_drewN ?_ _ | refine blk_drew ?_ | refine blk_alloc ?_ _)); refine blk_far ?_ NB162_164.out _; (with_reducible repeat (first | refine blk_drewN ?_ _ | refine blk_drew ?_ | refine blk_alloc ?_ _)); refine blk_far ?_ NB162_164.out _; (with_reducible repeat (first | refine blk_drewN ?_ _ | refine blk_drew ?_ | refine blk_alloc ?_ _)); refine blk_far ?_ NB162_164.out _; (with_reducible repeat (first | refine blk_drewN ?_ _ | refine blk_drew ?_ | refine blk_alloc ?_ _)); exact BK162.out) hb); have n2_ := Aside0.mk (blk_below (g := gb163) (o := .cells #[.int .i64 x5_1, .bool false, .int .u64 0] 39 (0, 0)) (by (with_reducible repeat (first | refine blk_drewN ?_ _ | refine blk_drew ?_ | refine blk_alloc ?_ _)); refine blk_far ?_ NB163_164.out _; (with_reducible repeat (first | refine blk_drewN ?_ _ | refine blk_drew ?_ | refine blk_alloc ?_ _)); refine blk_far ?_ NB163_164.out _; (with_reducible repeat (first | refine blk_drewN ?_ _ | refine blk_drew ?_ | refine blk_alloc ?_ _)); refine blk_far ?_ NB163_164.out _; (with_reducible repeat (first | refine blk_drewN ?_ _ | refine blk_drew ?_ | refine blk_alloc ?_ _)); exact BK163.out) hb); have n3_ := Aside0.mk (blk_below (g := gb164) (o := .cells #[.int .i64 x5_1, .bool true, .int .u64 0] 39 (0, 0)) (by (with_reducible repeat (first | refine blk_drewN ?_ _ | refine blk_drew ?_ | refine blk_alloc ?_ _)); refine blk_put (cs := #[.int .i64 x5_1, .bool true, .int .u64 0]) ?_ 2 _ rfl; (with_reducible repeat (first | refine blk_drewN ?_ _ | refine blk_drew ?_ | refine blk_alloc ?_ _)); refine blk_put (cs := #[.int .i64 x5_1, .bool false, .int .u64 0]) ?_ 1 _ rfl; (with_reducible repeat (first | refine blk_drewN ?_ _ | refine blk_drew ?_ | refine blk_alloc ?_ _)); refine blk_put (cs := #[.int .i64 0, .bool false, .int .u64 0]) ?_ 0 _ rfl; (with_reducible repeat (first | refine blk_drewN ?_ _ | refine blk_drew ?_ | refine blk_alloc ?_ _)); exact BK164.out) hb); have n4_ := Aside0.mk (below_step (by repeat (first | (with_reducible first | exact HB.out | apply below_alloc | apply pw_below_drewN | apply below_drew1 | refine below_set ?_ GE161.out | refine below_set ?_ GE162.out | refine below_set ?_ GE163.out | refine below_set ?_ GE164.out) | exact HB.out)) hb); clear BK161; clear BK162; clear BK163; clear BK164; clear HB; have BK161 := n0_; have BK162 := n1_; have BK163 := n2_; have BK164 := n3_; have HB := n4_; clear n0_ n1_ n2_ n3_ n4_; (try clear hb); (try clear hb2); (try clear hk); (try clear hi)))
            go_meet
            case rel => exact ⟨_, (false), (by first | rfl | (simp; done) | (simp [*]; done)), H', ⟨by have := HK1.out; first | omega | exact Nat.le_refl _⟩, ⟨by (with_reducible repeat (first | refine blk_drewN ?_ _ | refine blk_drew ?_ | refine blk_alloc ?_ _)); exact BK161.out⟩, ⟨by (with_reducible repeat (first | refine blk_drewN ?_ _ | refine blk_drew ?_ | refine blk_alloc ?_ _)); exact BK162.out⟩, ⟨by (with_reducible repeat (first | refine blk_drewN ?_ _ | refine blk_drew ?_ | refine blk_alloc ?_ _)); exact BK163.out⟩, ⟨by (with_reducible repeat (first | refine blk_drewN ?_ _ | refine blk_drew ?_ | refine blk_alloc ?_ _)); exact BK164.out⟩, ⟨by repeat (first | (with_reducible first | exact HB.out | apply below_alloc | apply pw_below_drewN | apply below_drew1 | refine below_set ?_ GE161.out | refine below_set ?_ GE162.out | refine below_set ?_ GE163.out | refine below_set ?_ GE164.out) | exact HB.out)⟩⟩
        case rest =>
          clear HC6
          try clear c1
          try clear c2
          try clear p2
          try clear c3
          try clear c5
          try clear c5b0
          try clear c6
          try clear c8
          try clear c9
          try clear c12
          try clear c13
          try clear c14
          try clear c17
          try clear c17b0
          try clear c17b1
          try clear c19
          try clear c20
          try clear c21
          try clear c23
          try clear c24
          try clear c27
          try clear c31
          try clear c32
          try clear c33
          try clear c35
          try clear c36
          try clear hcz10_0
          try clear hcz10_1
          try clear hcz10_2
          try clear hcz15_0
          try clear hcz15_1
          try clear hcz15_2
          try clear hcz22_0
          try clear hcz22_1
          try clear hcz22_2
          try clear hcz22_3
          try clear hcz22_4
          try clear hcz22_5
          try clear hcz25_0
          try clear hcz25_1
          try clear hcz25_2
          try clear hcz28_0
          try clear hcz28_1
          try clear hcz28_2
          try clear hcz28_3
          try clear hcz28_4
          try clear hcz28_5
          try clear hcz29_0
          try clear hcz29_1
          try clear hcz29_2
          try clear hcz34_0
          try clear hcz34_1
          try clear hcz34_2
          try clear hcz34_3
          try clear hcz34_4
          try clear hcz34_5
          try clear hcz37_0
          try clear hcz37_1
          try clear hcz37_2
          try clear hfz10_0
          try clear hfz10_1
          try clear hfz10_2
          try clear hfz15_0
          try clear hfz15_1
          try clear hfz15_2
          try clear hfz22_0
          try clear hfz22_1
          try clear hfz22_2
          try clear hfz22_3
          try clear hfz22_4
          try clear hfz22_5
          try clear hfz25_0
          try clear hfz25_1
          try clear hfz25_2
          try clear hfz28_0
          try clear hfz28_1
          try clear hfz28_2
          try clear hfz28_3
          try clear hfz28_4
          try clear hfz28_5
          try clear hfz29_0
          try clear hfz29_1
          try clear hfz29_2
          try clear hfz34_0
          try clear hfz34_1
          try clear hfz34_2
          try clear hfz34_3
          try clear hfz34_4
          try clear hfz34_5
          try clear hfz37_0
          try clear hfz37_1
          try clear hfz37_2
          try clear p2
          obtain ⟨kq, x25_5, rfl, HA, HJ5, BK161, BK162, BK163, BK164, HB⟩ := hcut
          cases kq with
          | zero => exact absurd HA.out (by simp [lookasideref09_Less.j1])
          | succ kj5 =>
            have H := HA.out
            clear HA
            simp only [lookasideref09_Less.j1] at H
            by_cases c39 : x25_5 = true
            · subst c39
              have H1 : (some false) = some r := by rw [if_pos rfl] at H; exact H
              clear H
              have H := H1
              clear H1
              obtain rfl := Option.some.inj H
              go_wp2
              go_ret
              exact ⟨by first | rfl | (simp [errW_none, errW_some] <;> rfl) | (simp [*, errW_none, errW_some] <;> rfl), by repeat (first | (with_reducible first | exact HB.out | apply below_alloc | apply pw_below_drewN | apply below_drew1 | refine below_set ?_ GE161.out | refine below_set ?_ GE162.out | refine below_set ?_ GE163.out | refine below_set ?_ GE164.out) | exact HB.out)⟩
            · replace c39 := Bool.eq_false_iff.mpr c39
              subst c39
              have H1 : ((lookasideref09_Judge.f kj5 a0_0 a0_1 a0_2 a0_3 a0_4 a0_5 x5_1 true 0).bind fun t167 => (if t167 = 0 then ((lookasideref09_Judge.f kj5 a1_0 a1_1 a1_2 a1_3 a1_4 a1_5 x5_1 true 0).bind fun t168 => (if t168 = 0 then (lookasideref09_Less.l0 kj5 (wrap64 (x5_1 + 1)) a0_0 a0_1 a0_2 a0_3 a0_4 a0_5 a1_0 a1_1 a1_2 a1_3 a1_4 a1_5) else (some false))) else (lookasideref09_Less.l0 kj5 (wrap64 (x5_1 + 1)) a0_0 a0_1 a0_2 a0_3 a0_4 a0_5 a1_0 a1_1 a1_2 a1_3 a1_4 a1_5))) = some r := by rw [if_neg (show ¬ (false = true) by decide)] at H; exact H
              clear H
              have H := H1
              clear H1
              replace H := Option.bind_eq_some_iff.mp H
              obtain ⟨t167, A400, H⟩ := H
              replace H : (if t167 = 0 then ((lookasideref09_Judge.f kj5 a1_0 a1_1 a1_2 a1_3 a1_4 a1_5 x5_1 true 0).bind fun t168 => (if t168 = 0 then (lookasideref09_Less.l0 kj5 (wrap64 (x5_1 + 1)) a0_0 a0_1 a0_2 a0_3 a0_4 a0_5 a1_0 a1_1 a1_2 a1_3 a1_4 a1_5) else (some false))) else (lookasideref09_Less.l0 kj5 (wrap64 (x5_1 + 1)) a0_0 a0_1 a0_2 a0_3 a0_4 a0_5 a1_0 a1_1 a1_2 a1_3 a1_4 a1_5)) = some r := H
              have A40 := Aside0.mk A400
              clear A400
              by_cases c41 : t167 = 0
              · rw [if_pos c41] at H
                have c41b0 : (t167 == 0) = true := beq_iff_eq.mpr c41
                have c41b1 : (t167 != 0) = false := bne_eq_false_iff_eq.mpr c41
                clear c41
                replace H := Option.bind_eq_some_iff.mp H
                obtain ⟨t168, A420, H⟩ := H
                replace H : (if t168 = 0 then (lookasideref09_Less.l0 kj5 (wrap64 (x5_1 + 1)) a0_0 a0_1 a0_2 a0_3 a0_4 a0_5 a1_0 a1_1 a1_2 a1_3 a1_4 a1_5) else (some false)) = some r := H
                have A42 := Aside0.mk A420
                clear A420
                by_cases c43 : t168 = 0
                · rw [if_pos c43] at H
                  have c43b0 : (t168 == 0) = true := beq_iff_eq.mpr c43
                  have c43b1 : (t168 != 0) = false := bne_eq_false_iff_eq.mpr c43
                  clear c43
                  have H' := Aside0.mk H
                  clear H
                  have hnb44 := NB161_162.out
                  have hnc44 := NB162_161.out
                  have hnb45 := NB161_163.out
                  have hnc45 := NB163_161.out
                  have hnb46 := NB161_164.out
                  have hnc46 := NB164_161.out
                  have hcz47_0 : wc.cell? ⟨gb161, 0, none⟩ = some (.bool a0_0) := (blk_cell BK161.out 0).trans rfl
                  have hcz47_1 : wc.cell? ⟨gb161, 1, none⟩ = some (.bool a0_1) := (blk_cell BK161.out 1).trans rfl
                  have hcz47_2 : wc.cell? ⟨gb161, 2, none⟩ = some (.bool a0_2) := (blk_cell BK161.out 2).trans rfl
                  have hcz47_3 : wc.cell? ⟨gb161, 3, none⟩ = some (.bool a0_3) := (blk_cell BK161.out 3).trans rfl
                  have hcz47_4 : wc.cell? ⟨gb161, 4, none⟩ = some (.bool a0_4) := (blk_cell BK161.out 4).trans rfl
                  have hcz47_5 : wc.cell? ⟨gb161, 5, none⟩ = some (.bool a0_5) := (blk_cell BK161.out 5).trans rfl
                  have hfz47_0 := blk_frozen BK161.out 0
                  have hfz47_1 := blk_frozen BK161.out 1
                  have hfz47_2 := blk_frozen BK161.out 2
                  have hfz47_3 := blk_frozen BK161.out 3
                  have hfz47_4 := blk_frozen BK161.out 4
                  have hfz47_5 := blk_frozen BK161.out 5
                  have hnb48 := NB164_162.out
                  have hnc48 := NB162_164.out
                  have hnb49 := NB164_163.out
                  have hnc49 := NB163_164.out
                  have hcz50_0 : wc.cell? ⟨gb164, 0, none⟩ = some (.int .i64 x5_1) := (blk_cell BK164.out 0).trans rfl
                  have hcz50_1 : wc.cell? ⟨gb164, 1, none⟩ = some (.bool true) := (blk_cell BK164.out 1).trans rfl
                  have hcz50_2 : wc.cell? ⟨gb164, 2, none⟩ = some (.int .u64 0) := (blk_cell BK164.out 2).trans rfl
                  have hfz50_0 := blk_frozen BK164.out 0
                  have hfz50_1 := blk_frozen BK164.out 1
                  have hfz50_2 := blk_frozen BK164.out 2
                  go_wp2_with (first | ((with_reducible refine gate_callee (f := 60) rfl ?_); refine goesL_ (some 28) rfl rfl Try.func60 (by kernel_rfl) rfl #[.agg #[.bool a0_0, .bool a0_1, .bool a0_2, .bool a0_3, .bool a0_4, .bool a0_5], .agg #[.int .i64 x5_1, .bool true, .int .u64 0]] rfl (by (try simp only [List.map_toArray, List.map_cons, List.map_nil]); first | done | rfl | (simp only [List.length_drop, List.length_take]; rfl)) ?_; (with_reducible refine (lookasideref09_Judge.calls kj5 a0_0 a0_1 a0_2 a0_3 a0_4 a0_5 x5_1 true 0 t167 _ A40.out).mono ?_); rintro e w51 ⟨rfl, hb⟩; refine ⟨_, rfl, ?_⟩; have n0_ := Aside0.mk (blk_below (g := gb161) (o := .cells #[.bool a0_0, .bool a0_1, .bool a0_2, .bool a0_3, .bool a0_4, .bool a0_5] 28 (0, 0)) (by (with_reducible repeat (first | refine blk_drewN ?_ _ | refine blk_drew ?_ | refine blk_alloc ?_ _)); exact BK161.out) hb); have n1_ := Aside0.mk (blk_below (g := gb162) (o := .cells #[.bool a1_0, .bool a1_1, .bool a1_2, .bool a1_3, .bool a1_4, .bool a1_5] 28 (0, 0)) (by (with_reducible repeat (first | refine blk_drewN ?_ _ | refine blk_drew ?_ | refine blk_alloc ?_ _)); exact BK162.out) hb); have n2_ := Aside0.mk (blk_below (g := gb163) (o := .cells #[.int .i64 x5_1, .bool false, .int .u64 0] 39 (0, 0)) (by (with_reducible repeat (first | refine blk_drewN ?_ _ | refine blk_drew ?_ | refine blk_alloc ?_ _)); exact BK163.out) hb); have n3_ := Aside0.mk (blk_below (g := gb164) (o := .cells #[.int .i64 x5_1, .bool true, .int .u64 0] 39 (0, 0)) (by (with_reducible repeat (first | refine blk_drewN ?_ _ | refine blk_drew ?_ | refine blk_alloc ?_ _)); exact BK164.out) hb); have n4_ := Aside0.mk (below_step (by repeat (first | (with_reducible first | exact HB.out | apply below_alloc | apply pw_below_drewN | apply below_drew1 | refine below_set ?_ GE161.out | refine below_set ?_ GE162.out | refine below_set ?_ GE163.out | refine below_set ?_ GE164.out) | exact HB.out)) hb); clear BK161; clear BK162; clear BK163; clear BK164; clear HB; have BK161 := n0_; have BK162 := n1_; have BK163 := n2_; have BK164 := n3_; have HB := n4_; clear n0_ n1_ n2_ n3_ n4_; (try clear hb); (try clear hb2); (try clear hk); (try clear hi); have hnb52 := NB162_163.out; have hnc52 := NB163_162.out; have hcz53_0 : w51.cell? ⟨gb162, 0, none⟩ = some (.bool a1_0) := (blk_cell BK162.out 0).trans rfl; have hcz53_1 : w51.cell? ⟨gb162, 1, none⟩ = some (.bool a1_1) := (blk_cell BK162.out 1).trans rfl; have hcz53_2 : w51.cell? ⟨gb162, 2, none⟩ = some (.bool a1_2) := (blk_cell BK162.out 2).trans rfl; have hcz53_3 : w51.cell? ⟨gb162, 3, none⟩ = some (.bool a1_3) := (blk_cell BK162.out 3).trans rfl; have hcz53_4 : w51.cell? ⟨gb162, 4, none⟩ = some (.bool a1_4) := (blk_cell BK162.out 4).trans rfl; have hcz53_5 : w51.cell? ⟨gb162, 5, none⟩ = some (.bool a1_5) := (blk_cell BK162.out 5).trans rfl; have hfz53_0 := blk_frozen BK162.out 0; have hfz53_1 := blk_frozen BK162.out 1; have hfz53_2 := blk_frozen BK162.out 2; have hfz53_3 := blk_frozen BK162.out 3; have hfz53_4 := blk_frozen BK162.out 4; have hfz53_5 := blk_frozen BK162.out 5; have hcz54_0 : w51.cell? ⟨gb164, 0, none⟩ = some (.int .i64 x5_1) := (blk_cell BK164.out 0).trans rfl; have hcz54_1 : w51.cell? ⟨gb164, 1, none⟩ = some (.bool true) := (blk_cell BK164.out 1).trans rfl; have hcz54_2 : w51.cell? ⟨gb164, 2, none⟩ = some (.int .u64 0) := (blk_cell BK164.out 2).trans rfl; have hfz54_0 := blk_frozen BK164.out 0; have hfz54_1 := blk_frozen BK164.out 1; have hfz54_2 := blk_frozen BK164.out 2) | (go_at_call 60; (with_reducible refine (lookasideref09_Judge.calls kj5 a1_0 a1_1 a1_2 a1_3 a1_4 a1_5 x5_1 true 0 t168 _ A42.out).mono ?_); rintro e w55 ⟨rfl, hb⟩; have n0_ := Aside0.mk (blk_below (g := gb161) (o := .cells #[.bool a0_0, .bool a0_1, .bool a0_2, .bool a0_3, .bool a0_4, .bool a0_5] 28 (0, 0)) (by (with_reducible repeat (first | refine blk_drewN ?_ _ | refine blk_drew ?_ | refine blk_alloc ?_ _)); exact BK161.out) hb); have n1_ := Aside0.mk (blk_below (g := gb162) (o := .cells #[.bool a1_0, .bool a1_1, .bool a1_2, .bool a1_3, .bool a1_4, .bool a1_5] 28 (0, 0)) (by (with_reducible repeat (first | refine blk_drewN ?_ _ | refine blk_drew ?_ | refine blk_alloc ?_ _)); exact BK162.out) hb); have n2_ := Aside0.mk (blk_below (g := gb163) (o := .cells #[.int .i64 x5_1, .bool false, .int .u64 0] 39 (0, 0)) (by (with_reducible repeat (first | refine blk_drewN ?_ _ | refine blk_drew ?_ | refine blk_alloc ?_ _)); exact BK163.out) hb); have n3_ := Aside0.mk (blk_below (g := gb164) (o := .cells #[.int .i64 x5_1, .bool true, .int .u64 0] 39 (0, 0)) (by (with_reducible repeat (first | refine blk_drewN ?_ _ | refine blk_drew ?_ | refine blk_alloc ?_ _)); exact BK164.out) hb); have n4_ := Aside0.mk (below_step (by repeat (first | (with_reducible first | exact HB.out | apply below_alloc | apply pw_below_drewN | apply below_drew1 | refine below_set ?_ GE161.out | refine below_set ?_ GE162.out | refine below_set ?_ GE163.out | refine below_set ?_ GE164.out) | exact HB.out)) hb); clear BK161; clear BK162; clear BK163; clear BK164; clear HB; have BK161 := n0_; have BK162 := n1_; have BK163 := n2_; have BK164 := n3_; have HB := n4_; clear n0_ n1_ n2_ n3_ n4_; (try clear hb); (try clear hb2); (try clear hk); (try clear hi)))
                  go_roundg kj5
                  case measure => have := HK1.out; have := HJ5.out; omega
                  case rel => exact ⟨(wrap64 (x5_1 + 1)), (by first | rfl | (simp; done) | (simp [*]; done)), H', ⟨by have := HK1.out; have := HJ5.out; omega⟩, ⟨by (with_reducible repeat (first | refine blk_drewN ?_ _ | refine blk_drew ?_ | refine blk_alloc ?_ _)); exact BK161.out⟩, ⟨by (with_reducible repeat (first | refine blk_drewN ?_ _ | refine blk_drew ?_ | refine blk_alloc ?_ _)); exact BK162.out⟩, ⟨by repeat (first | (with_reducible first | exact HB.out | apply below_alloc | apply pw_below_drewN | apply below_drew1 | refine below_set ?_ GE161.out | refine below_set ?_ GE162.out | refine below_set ?_ GE163.out | refine below_set ?_ GE164.out) | exact HB.out)⟩⟩
                · rw [if_neg c43] at H
                  have c43b0 : (t168 == 0) = false := beq_eq_false_iff_ne.mpr c43
                  have c43b1 : (t168 != 0) = true := bne_iff_ne.mpr c43
                  obtain rfl := Option.some.inj H
                  have hnb56 := NB161_162.out
                  have hnc56 := NB162_161.out
                  have hnb57 := NB161_163.out
                  have hnc57 := NB163_161.out
                  have hnb58 := NB161_164.out
                  have hnc58 := NB164_161.out
                  have hcz59_0 : wc.cell? ⟨gb161, 0, none⟩ = some (.bool a0_0) := (blk_cell BK161.out 0).trans rfl
                  have hcz59_1 : wc.cell? ⟨gb161, 1, none⟩ = some (.bool a0_1) := (blk_cell BK161.out 1).trans rfl
                  have hcz59_2 : wc.cell? ⟨gb161, 2, none⟩ = some (.bool a0_2) := (blk_cell BK161.out 2).trans rfl
                  have hcz59_3 : wc.cell? ⟨gb161, 3, none⟩ = some (.bool a0_3) := (blk_cell BK161.out 3).trans rfl
                  have hcz59_4 : wc.cell? ⟨gb161, 4, none⟩ = some (.bool a0_4) := (blk_cell BK161.out 4).trans rfl
                  have hcz59_5 : wc.cell? ⟨gb161, 5, none⟩ = some (.bool a0_5) := (blk_cell BK161.out 5).trans rfl
                  have hfz59_0 := blk_frozen BK161.out 0
                  have hfz59_1 := blk_frozen BK161.out 1
                  have hfz59_2 := blk_frozen BK161.out 2
                  have hfz59_3 := blk_frozen BK161.out 3
                  have hfz59_4 := blk_frozen BK161.out 4
                  have hfz59_5 := blk_frozen BK161.out 5
                  have hnb60 := NB164_162.out
                  have hnc60 := NB162_164.out
                  have hnb61 := NB164_163.out
                  have hnc61 := NB163_164.out
                  have hcz62_0 : wc.cell? ⟨gb164, 0, none⟩ = some (.int .i64 x5_1) := (blk_cell BK164.out 0).trans rfl
                  have hcz62_1 : wc.cell? ⟨gb164, 1, none⟩ = some (.bool true) := (blk_cell BK164.out 1).trans rfl
                  have hcz62_2 : wc.cell? ⟨gb164, 2, none⟩ = some (.int .u64 0) := (blk_cell BK164.out 2).trans rfl
                  have hfz62_0 := blk_frozen BK164.out 0
                  have hfz62_1 := blk_frozen BK164.out 1
                  have hfz62_2 := blk_frozen BK164.out 2
                  go_wp2_with (first | ((with_reducible refine gate_callee (f := 60) rfl ?_); refine goesL_ (some 28) rfl rfl Try.func60 (by kernel_rfl) rfl #[.agg #[.bool a0_0, .bool a0_1, .bool a0_2, .bool a0_3, .bool a0_4, .bool a0_5], .agg #[.int .i64 x5_1, .bool true, .int .u64 0]] rfl (by (try simp only [List.map_toArray, List.map_cons, List.map_nil]); first | done | rfl | (simp only [List.length_drop, List.length_take]; rfl)) ?_; (with_reducible refine (lookasideref09_Judge.calls kj5 a0_0 a0_1 a0_2 a0_3 a0_4 a0_5 x5_1 true 0 t167 _ A40.out).mono ?_); rintro e w63 ⟨rfl, hb⟩; refine ⟨_, rfl, ?_⟩; have n0_ := Aside0.mk (blk_below (g := gb161) (o := .cells #[.bool a0_0, .bool a0_1, .bool a0_2, .bool a0_3, .bool a0_4, .bool a0_5] 28 (0, 0)) (by (with_reducible repeat (first | refine blk_drewN ?_ _ | refine blk_drew ?_ | refine blk_alloc ?_ _)); exact BK161.out) hb); have n1_ := Aside0.mk (blk_below (g := gb162) (o := .cells #[.bool a1_0, .bool a1_1, .bool a1_2, .bool a1_3, .bool a1_4, .bool a1_5] 28 (0, 0)) (by (with_reducible repeat (first | refine blk_drewN ?_ _ | refine blk_drew ?_ | refine blk_alloc ?_ _)); exact BK162.out) hb); have n2_ := Aside0.mk (blk_below (g := gb163) (o := .cells #[.int .i64 x5_1, .bool false, .int .u64 0] 39 (0, 0)) (by (with_reducible repeat (first | refine blk_drewN ?_ _ | refine blk_drew ?_ | refine blk_alloc ?_ _)); exact BK163.out) hb); have n3_ := Aside0.mk (blk_below (g := gb164) (o := .cells #[.int .i64 x5_1, .bool true, .int .u64 0] 39 (0, 0)) (by (with_reducible repeat (first | refine blk_drewN ?_ _ | refine blk_drew ?_ | refine blk_alloc ?_ _)); exact BK164.out) hb); have n4_ := Aside0.mk (below_step (by repeat (first | (with_reducible first | exact HB.out | apply below_alloc | apply pw_below_drewN | apply below_drew1 | refine below_set ?_ GE161.out | refine below_set ?_ GE162.out | refine below_set ?_ GE163.out | refine below_set ?_ GE164.out) | exact HB.out)) hb); clear BK161; clear BK162; clear BK163; clear BK164; clear HB; have BK161 := n0_; have BK162 := n1_; have BK163 := n2_; have BK164 := n3_; have HB := n4_; clear n0_ n1_ n2_ n3_ n4_; (try clear hb); (try clear hb2); (try clear hk); (try clear hi); have hnb64 := NB162_163.out; have hnc64 := NB163_162.out; have hcz65_0 : w63.cell? ⟨gb162, 0, none⟩ = some (.bool a1_0) := (blk_cell BK162.out 0).trans rfl; have hcz65_1 : w63.cell? ⟨gb162, 1, none⟩ = some (.bool a1_1) := (blk_cell BK162.out 1).trans rfl; have hcz65_2 : w63.cell? ⟨gb162, 2, none⟩ = some (.bool a1_2) := (blk_cell BK162.out 2).trans rfl; have hcz65_3 : w63.cell? ⟨gb162, 3, none⟩ = some (.bool a1_3) := (blk_cell BK162.out 3).trans rfl; have hcz65_4 : w63.cell? ⟨gb162, 4, none⟩ = some (.bool a1_4) := (blk_cell BK162.out 4).trans rfl; have hcz65_5 : w63.cell? ⟨gb162, 5, none⟩ = some (.bool a1_5) := (blk_cell BK162.out 5).trans rfl; have hfz65_0 := blk_frozen BK162.out 0; have hfz65_1 := blk_frozen BK162.out 1; have hfz65_2 := blk_frozen BK162.out 2; have hfz65_3 := blk_frozen BK162.out 3; have hfz65_4 := blk_frozen BK162.out 4; have hfz65_5 := blk_frozen BK162.out 5; have hcz66_0 : w63.cell? ⟨gb164, 0, none⟩ = some (.int .i64 x5_1) := (blk_cell BK164.out 0).trans rfl; have hcz66_1 : w63.cell? ⟨gb164, 1, none⟩ = some (.bool true) := (blk_cell BK164.out 1).trans rfl; have hcz66_2 : w63.cell? ⟨gb164, 2, none⟩ = some (.int .u64 0) := (blk_cell BK164.out 2).trans rfl; have hfz66_0 := blk_frozen BK164.out 0; have hfz66_1 := blk_frozen BK164.out 1; have hfz66_2 := blk_frozen BK164.out 2) | (go_at_call 60; (with_reducible refine (lookasideref09_Judge.calls kj5 a1_0 a1_1 a1_2 a1_3 a1_4 a1_5 x5_1 true 0 t168 _ A42.out).mono ?_); rintro e w67 ⟨rfl, hb⟩; have n0_ := Aside0.mk (blk_below (g := gb161) (o := .cells #[.bool a0_0, .bool a0_1, .bool a0_2, .bool a0_3, .bool a0_4, .bool a0_5] 28 (0, 0)) (by (with_reducible repeat (first | refine blk_drewN ?_ _ | refine blk_drew ?_ | refine blk_alloc ?_ _)); exact BK161.out) hb); have n1_ := Aside0.mk (blk_below (g := gb162) (o := .cells #[.bool a1_0, .bool a1_1, .bool a1_2, .bool a1_3, .bool a1_4, .bool a1_5] 28 (0, 0)) (by (with_reducible repeat (first | refine blk_drewN ?_ _ | refine blk_drew ?_ | refine blk_alloc ?_ _)); exact BK162.out) hb); have n2_ := Aside0.mk (blk_below (g := gb163) (o := .cells #[.int .i64 x5_1, .bool false, .int .u64 0] 39 (0, 0)) (by (with_reducible repeat (first | refine blk_drewN ?_ _ | refine blk_drew ?_ | refine blk_alloc ?_ _)); exact BK163.out) hb); have n3_ := Aside0.mk (blk_below (g := gb164) (o := .cells #[.int .i64 x5_1, .bool true, .int .u64 0] 39 (0, 0)) (by (with_reducible repeat (first | refine blk_drewN ?_ _ | refine blk_drew ?_ | refine blk_alloc ?_ _)); exact BK164.out) hb); have n4_ := Aside0.mk (below_step (by repeat (first | (with_reducible first | exact HB.out | apply below_alloc | apply pw_below_drewN | apply below_drew1 | refine below_set ?_ GE161.out | refine below_set ?_ GE162.out | refine below_set ?_ GE163.out | refine below_set ?_ GE164.out) | exact HB.out)) hb); clear BK161; clear BK162; clear BK163; clear BK164; clear HB; have BK161 := n0_; have BK162 := n1_; have BK163 := n2_; have BK164 := n3_; have HB := n4_; clear n0_ n1_ n2_ n3_ n4_; (try clear hb); (try clear hb2); (try clear hk); (try clear hi)))
                  go_ret
                  exact ⟨by first | rfl | (simp [errW_none, errW_some] <;> rfl) | (simp [*, errW_none, errW_some] <;> rfl), by repeat (first | (with_reducible first | exact HB.out | apply below_alloc | apply pw_below_drewN | apply below_drew1 | refine below_set ?_ GE161.out | refine below_set ?_ GE162.out | refine below_set ?_ GE163.out | refine below_set ?_ GE164.out) | exact HB.out)⟩
              · rw [if_neg c41] at H
                have c41b0 : (t167 == 0) = false := beq_eq_false_iff_ne.mpr c41
                have c41b1 : (t167 != 0) = true := bne_iff_ne.mpr c41
                have H' := Aside0.mk H
                clear H
                have hnb68 := NB161_162.out
                have hnc68 := NB162_161.out
                have hnb69 := NB161_163.out
                have hnc69 := NB163_161.out
                have hnb70 := NB161_164.out
                have hnc70 := NB164_161.out
                have hcz71_0 : wc.cell? ⟨gb161, 0, none⟩ = some (.bool a0_0) := (blk_cell BK161.out 0).trans rfl
                have hcz71_1 : wc.cell? ⟨gb161, 1, none⟩ = some (.bool a0_1) := (blk_cell BK161.out 1).trans rfl
                have hcz71_2 : wc.cell? ⟨gb161, 2, none⟩ = some (.bool a0_2) := (blk_cell BK161.out 2).trans rfl
                have hcz71_3 : wc.cell? ⟨gb161, 3, none⟩ = some (.bool a0_3) := (blk_cell BK161.out 3).trans rfl
                have hcz71_4 : wc.cell? ⟨gb161, 4, none⟩ = some (.bool a0_4) := (blk_cell BK161.out 4).trans rfl
                have hcz71_5 : wc.cell? ⟨gb161, 5, none⟩ = some (.bool a0_5) := (blk_cell BK161.out 5).trans rfl
                have hfz71_0 := blk_frozen BK161.out 0
                have hfz71_1 := blk_frozen BK161.out 1
                have hfz71_2 := blk_frozen BK161.out 2
                have hfz71_3 := blk_frozen BK161.out 3
                have hfz71_4 := blk_frozen BK161.out 4
                have hfz71_5 := blk_frozen BK161.out 5
                have hnb72 := NB164_162.out
                have hnc72 := NB162_164.out
                have hnb73 := NB164_163.out
                have hnc73 := NB163_164.out
                have hcz74_0 : wc.cell? ⟨gb164, 0, none⟩ = some (.int .i64 x5_1) := (blk_cell BK164.out 0).trans rfl
                have hcz74_1 : wc.cell? ⟨gb164, 1, none⟩ = some (.bool true) := (blk_cell BK164.out 1).trans rfl
                have hcz74_2 : wc.cell? ⟨gb164, 2, none⟩ = some (.int .u64 0) := (blk_cell BK164.out 2).trans rfl
                have hfz74_0 := blk_frozen BK164.out 0
                have hfz74_1 := blk_frozen BK164.out 1
                have hfz74_2 := blk_frozen BK164.out 2
                go_wp2_with (first | ((with_reducible refine gate_callee (f := 60) rfl ?_); refine goesL_ (some 28) rfl rfl Try.func60 (by kernel_rfl) rfl #[.agg #[.bool a0_0, .bool a0_1, .bool a0_2, .bool a0_3, .bool a0_4, .bool a0_5], .agg #[.int .i64 x5_1, .bool true, .int .u64 0]] rfl (by (try simp only [List.map_toArray, List.map_cons, List.map_nil]); first | done | rfl | (simp only [List.length_drop, List.length_take]; rfl)) ?_; (with_reducible refine (lookasideref09_Judge.calls kj5 a0_0 a0_1 a0_2 a0_3 a0_4 a0_5 x5_1 true 0 t167 _ A40.out).mono ?_); rintro e w75 ⟨rfl, hb⟩; refine ⟨_, rfl, ?_⟩; have n0_ := Aside0.mk (blk_below (g := gb161) (o := .cells #[.bool a0_0, .bool a0_1, .bool a0_2, .bool a0_3, .bool a0_4, .bool a0_5] 28 (0, 0)) (by (with_reducible repeat (first | refine blk_drewN ?_ _ | refine blk_drew ?_ | refine blk_alloc ?_ _)); exact BK161.out) hb); have n1_ := Aside0.mk (blk_below (g := gb162) (o := .cells #[.bool a1_0, .bool a1_1, .bool a1_2, .bool a1_3, .bool a1_4, .bool a1_5] 28 (0, 0)) (by (with_reducible repeat (first | refine blk_drewN ?_ _ | refine blk_drew ?_ | refine blk_alloc ?_ _)); exact BK162.out) hb); have n2_ := Aside0.mk (blk_below (g := gb163) (o := .cells #[.int .i64 x5_1, .bool false, .int .u64 0] 39 (0, 0)) (by (with_reducible repeat (first | refine blk_drewN ?_ _ | refine blk_drew ?_ | refine blk_alloc ?_ _)); exact BK163.out) hb); have n3_ := Aside0.mk (blk_below (g := gb164) (o := .cells #[.int .i64 x5_1, .bool true, .int .u64 0] 39 (0, 0)) (by (with_reducible repeat (first | refine blk_drewN ?_ _ | refine blk_drew ?_ | refine blk_alloc ?_ _)); exact BK164.out) hb); have n4_ := Aside0.mk (below_step (by repeat (first | (with_reducible first | exact HB.out | apply below_alloc | apply pw_below_drewN | apply below_drew1 | refine below_set ?_ GE161.out | refine below_set ?_ GE162.out | refine below_set ?_ GE163.out | refine below_set ?_ GE164.out) | exact HB.out)) hb); clear BK161; clear BK162; clear BK163; clear BK164; clear HB; have BK161 := n0_; have BK162 := n1_; have BK163 := n2_; have BK164 := n3_; have HB := n4_; clear n0_ n1_ n2_ n3_ n4_; (try clear hb); (try clear hb2); (try clear hk); (try clear hi)))
                go_roundg kj5
                case measure => have := HK1.out; have := HJ5.out; omega
                case rel => exact ⟨(wrap64 (x5_1 + 1)), (by first | rfl | (simp; done) | (simp [*]; done)), H', ⟨by have := HK1.out; have := HJ5.out; omega⟩, ⟨by (with_reducible repeat (first | refine blk_drewN ?_ _ | refine blk_drew ?_ | refine blk_alloc ?_ _)); exact BK161.out⟩, ⟨by (with_reducible repeat (first | refine blk_drewN ?_ _ | refine blk_drew ?_ | refine blk_alloc ?_ _)); exact BK162.out⟩, ⟨by repeat (first | (with_reducible first | exact HB.out | apply below_alloc | apply pw_below_drewN | apply below_drew1 | refine below_set ?_ GE161.out | refine below_set ?_ GE162.out | refine below_set ?_ GE163.out | refine below_set ?_ GE164.out) | exact HB.out)⟩⟩
      · rw [if_neg c5] at H
        have c5b0 : decide (x5_1 < 4) = false := decide_eq_false c5
        clear c5
        obtain rfl := Option.some.inj H
        go_wp2
        go_ret
        exact ⟨by first | rfl | (simp [errW_none, errW_some] <;> rfl) | (simp [*, errW_none, errW_some] <;> rfl), by repeat (first | (with_reducible first | exact HB.out | apply below_alloc | apply pw_below_drewN | apply below_drew1 | refine below_set ?_ GE161.out | refine below_set ?_ GE162.out) | exact HB.out)⟩

end Go.Proofs.Ytcbnmmkmgpbfiaa.PN

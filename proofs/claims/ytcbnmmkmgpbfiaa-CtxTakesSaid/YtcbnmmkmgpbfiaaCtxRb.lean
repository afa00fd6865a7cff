/- The document's Take, Give, Steal write nothing that was there: the printed proofs (xprint.py over the kit's print), turned by a program: what stays is all. -/
import Derived.Test.YtcbnmmkmgpbfiaaPXx5
import Derived.Test.YtcbnmmkmgpbfiaaPXx6
import Derived.Test.YtcbnmmkmgpbfiaaPXx9
import Derived.Test.YtcbnmmkmgpbfiaaCtxQa
import Derived.Test.YtcbnmmkmgpbfiaaRegIn
import Derived.Lib.Builder
import Derived.OneCell
import Derived.Deep.RegionHeld3
-- written by xprint.py, a program of this session, over the kit's print (functions told by hand: see the texts)
namespace Go.Proofs.Ytcbnmmkmgpbfiaa.PX
open Go.RowKit Go.Proofs.YtcbnmmkmgpbfiaaW.PrintWords Go.Proofs.YtcbnmmkmgpbfiaaW.PrintLast Go.Proofs.YtcbnmmkmgpbfiaaW.PrintMore
attribute [local go_sem] max2_int min2_int max_two min_two max_three min_three max_four min_four   -- for this text's walks alone
set_option linter.unusedVariables false
set_option linter.unusedSimpArgs false

/-! ### lookasideref14_Take: function 73 -/
set_option maxHeartbeats 8000000 in
set_option maxRecDepth 100000 in
theorem lookasideref14_Take_keep (k : Nat) (P0_0_ : Nat → Prop) (u9000_ : Value) (l0_0 : List Int) (a0_1 : Int) (a0_2 : Int) (a1 : Int) (r1 : List Int) (r2 : Int) (r3 : Int) (r4 : Int) (r5 : Int) (w0 w : World) (hB : Below w0.heap.size w0 w) (ho0_0 : Kd.R (Kd.int .i64) 3 w w0.heap.size P0_0_ u9000_ l0_0) (h : lookasideref14_Take.f k l0_0 a0_1 a0_2 a1 = some (r1, r2, r3, r4, r5)) :
    Calls Try.prog 73 #[.agg #[u9000_, .int .i64 a0_1, .int .i64 a0_2], .int .i64 a1] w fun e w' => ∃ v0_ : Value, e = .returned (.tuple #[.agg #[v0_, .int .i64 r2, .int .i64 r3], .int .i64 r4, .int .i64 r5]) ∧ Kd.R (Kd.int .i64) 3 w' w0.heap.size (fun k_ => (P0_0_ k_ ∨ w.heap.size ≤ k_)) v0_ r1 ∧ Below w0.heap.size w0 w' ∧ Kept w w' (fun _ => False) := by
  have hu67 := Try.underlying67
  have HO0_0 := Aside0.mk (show Kd.R (Kd.int .i64) 3 w w0.heap.size (fun k_ => (P0_0_ k_ ∨ w.heap.size ≤ k_)) u9000_ l0_0 from Kd.R_mono ho0_0 (fun k_ hk => (.inl hk)))
  have HK := Aside0.mk (Kept.refl w (fun _ => False))
  have HW0 := Aside0.mk hB.size
  have HB := Aside0.mk hB
  clear hB
  have H : (if a1 < 0 then (some (l0_0, a0_1, a0_2, 0, 1)) else ((lookasideref14_Of.f k l0_0 a0_1 a0_2 a1).bind fun t132 => (if t132 > 0 then (some (l0_0, a0_1, a0_2, t132, 0)) else (lookasideref14_Take.l0 k a1 a0_1 0 l0_0 a0_1 a0_2)))) = some (r1, r2, r3, r4, r5) := h
  clear h
  by_cases c3 : a1 < 0
  · rw [if_pos c3] at H
    have c3b0 : decide (a1 < 0) = true := decide_eq_true c3
    clear c3
    simp only [Option.some.injEq, Prod.mk.injEq] at H
    obtain ⟨rfl, rfl, rfl, rfl, rfl⟩ := H
    obtain ⟨Ao4, co4, eo4⟩ := Kd.R_slice HO0_0.out
    subst eo4
    go_enter Try.func73, Try.ntmps73
    go_wp2_with (first | ((with_reducible refine gate_dst (N := 2) rfl ?_); refine box_event ?hg (N := 2) ?hd (cs := #[.slice Ao4 l0_0.length co4, .int .i64 a0_1, .int .i64 a0_2]) (t := 67) ?hr ?_; (case hd => rfl); (case hg => rfl); (case hr => first | (go_simp; done) | (go_simp; rfl)); intro gb130 hg w5 hbox hb; have n0_ := Aside0.mk (Kd.R_below (by (with_reducible repeat (first | apply Kd.R_alloc | apply Kd.R_drewN | apply Kd.R_drew)); exact HO0_0.out) hb); have n1_ := Aside0.mk (Kept.below (S := (fun _ => False)) (by repeat (first | (with_reducible first | exact HK.out | apply Kept.alloc | apply Kept.drewN | apply Kept.drew) | exact HK.out)) hb); have n2_ := Aside0.mk (below_step (by repeat (first | (with_reducible first | exact HB.out | apply below_alloc | apply pw_below_drewN | apply below_drew1) | exact HB.out)) hb); have n3_ := Aside0.mk (hbox); have n4_ := Aside0.mk ((by rw [hg]; exact (by first | exact HK.out.1 | exact (show Kept w _ (fun _ => False) from by repeat (first | (with_reducible first | exact HK.out | apply Kept.alloc | apply Kept.drewN | apply Kept.drew) | exact HK.out)).1) : w.heap.size ≤ gb130)); have n5_ := Aside0.mk ((by rw [hg]; exact (below_size (by repeat (first | (with_reducible first | exact HB.out | apply below_alloc | apply pw_below_drewN | apply below_drew1) | exact HB.out))) : w0.heap.size ≤ gb130)); clear HO0_0; clear HK; clear HB; have HO0_0 := n0_; have HK := n1_; have HB := n2_; have BK130 := n3_; have GW130 := n4_; have GE130 := n5_; clear n0_ n1_ n2_ n3_ n4_ n5_; clear hb hbox hg) | ((with_reducible refine gate_dst (N := 4) rfl ?_); refine box_event ?hg (N := 4) ?hd (cs := #[.slice none 0 0, .int .i64 0, .int .i64 0]) (t := 67) ?hr ?_; (case hd => rfl); (case hg => rfl); (case hr => first | (go_simp; done) | (go_simp; rfl)); intro gb131 hg w6 hbox hb; have n0_ := Aside0.mk (Kd.R_below (by (with_reducible repeat (first | apply Kd.R_alloc | apply Kd.R_drewN | apply Kd.R_drew)); exact HO0_0.out) hb); have n1_ := Aside0.mk (blk_below (g := gb130) (o := .cells #[.slice Ao4 l0_0.length co4, .int .i64 a0_1, .int .i64 a0_2] 67 (0, 0)) (by (with_reducible repeat (first | refine blk_drewN ?_ _ | refine blk_drew ?_ | refine blk_alloc ?_ _)); exact BK130.out) hb); have n2_ := Aside0.mk (Kept.below (S := (fun _ => False)) (by repeat (first | (with_reducible first | exact HK.out | apply Kept.alloc | apply Kept.drewN | apply Kept.drew | refine Kept.setCell ?_ (.inr GW130.out) _) | exact HK.out)) hb); have n3_ := Aside0.mk (below_step (by repeat (first | (with_reducible first | exact HB.out | apply below_alloc | apply pw_below_drewN | apply below_drew1 | refine below_set ?_ GE130.out) | exact HB.out)) hb); have n4_ := Aside0.mk (hbox); have n5_ := Aside0.mk ((by rw [hg]; exact (by first | exact HK.out.1 | exact (show Kept w _ (fun _ => False) from by repeat (first | (with_reducible first | exact HK.out | apply Kept.alloc | apply Kept.drewN | apply Kept.drew | refine Kept.setCell ?_ (.inr GW130.out) _) | exact HK.out)).1) : w.heap.size ≤ gb131)); have n6_ := Aside0.mk ((by rw [hg]; exact (below_size (by repeat (first | (with_reducible first | exact HB.out | apply below_alloc | apply pw_below_drewN | apply below_drew1 | refine below_set ?_ GE130.out) | exact HB.out))) : w0.heap.size ≤ gb131)); have n7_ := Aside0.mk ((by rw [hg]; exact Nat.ne_of_lt (blk_lt (g := gb130) (o := .cells #[.slice Ao4 l0_0.length co4, .int .i64 a0_1, .int .i64 a0_2] 67 (0, 0)) (by (with_reducible repeat (first | refine blk_drewN ?_ _ | refine blk_drew ?_ | refine blk_alloc ?_ _)); exact BK130.out)) : gb130 ≠ gb131)); have n8_ := Aside0.mk ((by rw [hg]; exact Nat.ne_of_gt (blk_lt (g := gb130) (o := .cells #[.slice Ao4 l0_0.length co4, .int .i64 a0_1, .int .i64 a0_2] 67 (0, 0)) (by (with_reducible repeat (first | refine blk_drewN ?_ _ | refine blk_drew ?_ | refine blk_alloc ?_ _)); exact BK130.out)) : gb131 ≠ gb130)); clear HO0_0; clear BK130; clear HK; clear HB; have HO0_0 := n0_; have BK130 := n1_; have HK := n2_; have HB := n3_; have BK131 := n4_; have GW131 := n5_; have GE131 := n6_; have NB130_131 := n7_; have NB131_130 := n8_; clear n0_ n1_ n2_ n3_ n4_ n5_ n6_ n7_ n8_; clear hb hbox hg; have hnb7 := NB130_131.out; have hnc7 := NB131_130.out; have hcz8_0 : w6.cell? ⟨gb130, 0, none⟩ = some (.slice Ao4 l0_0.length co4) := (blk_cell BK130.out 0).trans rfl; have hcz8_1 : w6.cell? ⟨gb130, 1, none⟩ = some (.int .i64 a0_1) := (blk_cell BK130.out 1).trans rfl; have hcz8_2 : w6.cell? ⟨gb130, 2, none⟩ = some (.int .i64 a0_2) := (blk_cell BK130.out 2).trans rfl; have hfz8_0 := blk_frozen BK130.out 0; have hfz8_1 := blk_frozen BK130.out 1; have hfz8_2 := blk_frozen BK130.out 2; have hcz9_0 : w6.cell? ⟨gb131, 0, none⟩ = some (.slice none 0 0) := (blk_cell BK131.out 0).trans rfl; have hcz9_1 : w6.cell? ⟨gb131, 1, none⟩ = some (.int .i64 0) := (blk_cell BK131.out 1).trans rfl; have hcz9_2 : w6.cell? ⟨gb131, 2, none⟩ = some (.int .i64 0) := (blk_cell BK131.out 2).trans rfl; have hfz9_0 := blk_frozen BK131.out 0; have hfz9_1 := blk_frozen BK131.out 1; have hfz9_2 := blk_frozen BK131.out 2))
    refine bodyPost_ret (results_ctt rfl _ _ gb131 67 #[.slice Ao4 l0_0.length co4, .int .i64 a0_1, .int .i64 a0_2] (0, 0) _ rfl (by (with_reducible repeat (first | refine blk_drewN ?_ _ | refine blk_drew ?_ | refine blk_alloc ?_ _)); refine blk_put (cs := #[.slice Ao4 l0_0.length co4, .int .i64 a0_1, .int .i64 0]) ?_ 2 _ rfl; (with_reducible repeat (first | refine blk_drewN ?_ _ | refine blk_drew ?_ | refine blk_alloc ?_ _)); refine blk_put (cs := #[.slice Ao4 l0_0.length co4, .int .i64 0, .int .i64 0]) ?_ 1 _ rfl; (with_reducible repeat (first | refine blk_drewN ?_ _ | refine blk_drew ?_ | refine blk_alloc ?_ _)); refine blk_put (cs := #[.slice none 0 0, .int .i64 0, .int .i64 0]) ?_ 0 _ rfl; (with_reducible repeat (first | refine blk_drewN ?_ _ | refine blk_drew ?_ | refine blk_alloc ?_ _)); exact BK131.out) Try.underlying67 rfl (by kernel_rfl)) rfl ?_
    exact ⟨_, by first | rfl | (simp [errW_none, errW_some] <;> rfl) | (simp [*, errW_none, errW_some] <;> rfl), by (with_reducible repeat (first | apply Kd.R_alloc | apply Kd.R_drewN | apply Kd.R_drew)); exact Kd.R_mono (Kd.R_far (p := ⟨gb131, 2, none⟩) (Kd.R_far (p := ⟨gb131, 1, none⟩) (Kd.R_far (p := ⟨gb131, 0, none⟩) (Kd.R_types HO0_0.out BK131.out (by decide)) (fun _ hk => hk.2) (.slice Ao4 l0_0.length co4)) (fun _ hk => hk.2) (.int .i64 a0_1)) (fun _ hk => hk.2) (.int .i64 a0_2)) (fun _ hk => hk.1), by repeat (first | (with_reducible first | exact HB.out | apply below_alloc | apply pw_below_drewN | apply below_drew1 | refine below_set ?_ GE130.out | refine below_set ?_ GE131.out) | exact HB.out), by repeat (first | (with_reducible first | exact HK.out | apply Kept.alloc | apply Kept.drewN | apply Kept.drew | refine Kept.setCell ?_ (.inr GW130.out) _ | refine Kept.setCell ?_ (.inr GW131.out) _) | exact HK.out)⟩
  · rw [if_neg c3] at H
    have c3b0 : decide (a1 < 0) = false := decide_eq_false c3
    clear c3
    replace H := Option.bind_eq_some_iff.mp H
    obtain ⟨t132, A100, H⟩ := H
    replace H : (if t132 > 0 then (some (l0_0, a0_1, a0_2, t132, 0)) else (lookasideref14_Take.l0 k a1 a0_1 0 l0_0 a0_1 a0_2)) = some (r1, r2, r3, r4, r5) := H
    have A10 := Aside0.mk A100
    clear A100
    by_cases c11 : t132 > 0
    · rw [if_pos c11] at H
      have c11b0 : decide (0 < t132) = true := decide_eq_true c11
      clear c11
      simp only [Option.some.injEq, Prod.mk.injEq] at H
      obtain ⟨rfl, rfl, rfl, rfl, rfl⟩ := H
      obtain ⟨Ao12, co12, eo12⟩ := Kd.R_slice HO0_0.out
      subst eo12
      go_enter Try.func73, Try.ntmps73
      go_wp2_with (first | ((with_reducible refine gate_dst (N := 2) rfl ?_); refine box_event ?hg (N := 2) ?hd (cs := #[.slice Ao12 l0_0.length co12, .int .i64 a0_1, .int .i64 a0_2]) (t := 67) ?hr ?_; (case hd => rfl); (case hg => rfl); (case hr => first | (go_simp; done) | (go_simp; rfl)); intro gb130 hg w13 hbox hb; have n0_ := Aside0.mk (Kd.R_below (by (with_reducible repeat (first | apply Kd.R_alloc | apply Kd.R_drewN | apply Kd.R_drew)); exact HO0_0.out) hb); have n1_ := Aside0.mk (Kept.below (S := (fun _ => False)) (by repeat (first | (with_reducible first | exact HK.out | apply Kept.alloc | apply Kept.drewN | apply Kept.drew) | exact HK.out)) hb); have n2_ := Aside0.mk (below_step (by repeat (first | (with_reducible first | exact HB.out | apply below_alloc | apply pw_below_drewN | apply below_drew1) | exact HB.out)) hb); have n3_ := Aside0.mk (hbox); have n4_ := Aside0.mk ((by rw [hg]; exact (by first | exact HK.out.1 | exact (show Kept w _ (fun _ => False) from by repeat (first | (with_reducible first | exact HK.out | apply Kept.alloc | apply Kept.drewN | apply Kept.drew) | exact HK.out)).1) : w.heap.size ≤ gb130)); have n5_ := Aside0.mk ((by rw [hg]; exact (below_size (by repeat (first | (with_reducible first | exact HB.out | apply below_alloc | apply pw_below_drewN | apply below_drew1) | exact HB.out))) : w0.heap.size ≤ gb130)); clear HO0_0; clear HK; clear HB; have HO0_0 := n0_; have HK := n1_; have HB := n2_; have BK130 := n3_; have GW130 := n4_; have GE130 := n5_; clear n0_ n1_ n2_ n3_ n4_ n5_; clear hb hbox hg) | ((with_reducible refine gate_dst (N := 4) rfl ?_); refine box_event ?hg (N := 4) ?hd (cs := #[.slice none 0 0, .int .i64 0, .int .i64 0]) (t := 67) ?hr ?_; (case hd => rfl); (case hg => rfl); (case hr => first | (go_simp; done) | (go_simp; rfl)); intro gb131 hg w14 hbox hb; have n0_ := Aside0.mk (Kd.R_below (by (with_reducible repeat (first | apply Kd.R_alloc | apply Kd.R_drewN | apply Kd.R_drew)); exact HO0_0.out) hb); have n1_ := Aside0.mk (blk_below (g := gb130) (o := .cells #[.slice Ao12 l0_0.length co12, .int .i64 a0_1, .int .i64 a0_2] 67 (0, 0)) (by (with_reducible repeat (first | refine blk_drewN ?_ _ | refine blk_drew ?_ | refine blk_alloc ?_ _)); exact BK130.out) hb); have n2_ := Aside0.mk (Kept.below (S := (fun _ => False)) (by repeat (first | (with_reducible first | exact HK.out | apply Kept.alloc | apply Kept.drewN | apply Kept.drew | refine Kept.setCell ?_ (.inr GW130.out) _) | exact HK.out)) hb); have n3_ := Aside0.mk (below_step (by repeat (first | (with_reducible first | exact HB.out | apply below_alloc | apply pw_below_drewN | apply below_drew1 | refine below_set ?_ GE130.out) | exact HB.out)) hb); have n4_ := Aside0.mk (hbox); have n5_ := Aside0.mk ((by rw [hg]; exact (by first | exact HK.out.1 | exact (show Kept w _ (fun _ => False) from by repeat (first | (with_reducible first | exact HK.out | apply Kept.alloc | apply Kept.drewN | apply Kept.drew | refine Kept.setCell ?_ (.inr GW130.out) _) | exact HK.out)).1) : w.heap.size ≤ gb131)); have n6_ := Aside0.mk ((by rw [hg]; exact (below_size (by repeat (first | (with_reducible first | exact HB.out | apply below_alloc | apply pw_below_drewN | apply below_drew1 | refine below_set ?_ GE130.out) | exact HB.out))) : w0.heap.size ≤ gb131)); have n7_ := Aside0.mk ((by rw [hg]; exact Nat.ne_of_lt (blk_lt (g := gb130) (o := .cells #[.slice Ao12 l0_0.length co12, .int .i64 a0_1, .int .i64 a0_2] 67 (0, 0)) (by (with_reducible repeat (first | refine blk_drewN ?_ _ | refine blk_drew ?_ | refine blk_alloc ?_ _)); exact BK130.out)) : gb130 ≠ gb131)); have n8_ := Aside0.mk ((by rw [hg]; exact Nat.ne_of_gt (blk_lt (g := gb130) (o := .cells #[.slice Ao12 l0_0.length co12, .int .i64 a0_1, .int .i64 a0_2] 67 (0, 0)) (by (with_reducible repeat (first | refine blk_drewN ?_ _ | refine blk_drew ?_ | refine blk_alloc ?_ _)); exact BK130.out)) : gb131 ≠ gb130)); clear HO0_0; clear BK130; clear HK; clear HB; have HO0_0 := n0_; have BK130 := n1_; have HK := n2_; have HB := n3_; have BK131 := n4_; have GW131 := n5_; have GE131 := n6_; have NB130_131 := n7_; have NB131_130 := n8_; clear n0_ n1_ n2_ n3_ n4_ n5_ n6_ n7_ n8_; clear hb hbox hg; have hnb15 := NB130_131.out; have hnc15 := NB131_130.out; have hcz16_0 : w14.cell? ⟨gb130, 0, none⟩ = some (.slice Ao12 l0_0.length co12) := (blk_cell BK130.out 0).trans rfl; have hcz16_1 : w14.cell? ⟨gb130, 1, none⟩ = some (.int .i64 a0_1) := (blk_cell BK130.out 1).trans rfl; have hcz16_2 : w14.cell? ⟨gb130, 2, none⟩ = some (.int .i64 a0_2) := (blk_cell BK130.out 2).trans rfl; have hfz16_0 := blk_frozen BK130.out 0; have hfz16_1 := blk_frozen BK130.out 1; have hfz16_2 := blk_frozen BK130.out 2) | ((with_reducible refine gate_callee (f := 92) rfl ?_); refine goesL_ (some 14) rfl rfl Try.func92 (by kernel_rfl) rfl #[.agg #[.slice Ao12 l0_0.length co12, .int .i64 a0_1, .int .i64 a0_2], .int .i64 a1] rfl (by (try simp only [List.map_toArray, List.map_cons, List.map_nil]); first | done | rfl | (simp only [List.length_drop, List.length_take]; rfl)) ?_; (with_reducible refine (lookasideref14_Of.calls k _ _ l0_0 a0_1 a0_2 a1 t132 _ ?side1 ?side2 A10.out).mono ?_); (case side1 => repeat (first | exact (Kd.R_reads' HO0_0.out).2.2 | (with_reducible refine Kd.C_alloc ?_ _) | (with_reducible refine Kd.C_drewN ?_ _) | (with_reducible refine Kd.C_drew ?_))); (case side2 => exact (Kd.R_reads' HO0_0.out).2.1); rintro e w17 ⟨rfl, hb⟩; refine ⟨_, rfl, ?_⟩; have n0_ := Aside0.mk (Kd.R_below (by (with_reducible repeat (first | apply Kd.R_alloc | apply Kd.R_drewN | apply Kd.R_drew)); exact HO0_0.out) hb); have n1_ := Aside0.mk (blk_below (g := gb130) (o := .cells #[.slice Ao12 l0_0.length co12, .int .i64 a0_1, .int .i64 a0_2] 67 (0, 0)) (by (with_reducible repeat (first | refine blk_drewN ?_ _ | refine blk_drew ?_ | refine blk_alloc ?_ _)); exact BK130.out) hb); have n2_ := Aside0.mk (blk_below (g := gb131) (o := .cells #[.slice none 0 0, .int .i64 0, .int .i64 0] 67 (0, 0)) (by (with_reducible repeat (first | refine blk_drewN ?_ _ | refine blk_drew ?_ | refine blk_alloc ?_ _)); exact BK131.out) hb); have n3_ := Aside0.mk (Kept.below (S := (fun _ => False)) (by repeat (first | (with_reducible first | exact HK.out | apply Kept.alloc | apply Kept.drewN | apply Kept.drew | refine Kept.setCell ?_ (.inr GW130.out) _ | refine Kept.setCell ?_ (.inr GW131.out) _) | exact HK.out)) hb); have n4_ := Aside0.mk (below_step (by repeat (first | (with_reducible first | exact HB.out | apply below_alloc | apply pw_below_drewN | apply below_drew1 | refine below_set ?_ GE130.out | refine below_set ?_ GE131.out) | exact HB.out)) hb); clear HO0_0; clear BK130; clear BK131; clear HK; clear HB; have HO0_0 := n0_; have BK130 := n1_; have BK131 := n2_; have HK := n3_; have HB := n4_; clear n0_ n1_ n2_ n3_ n4_; (try clear hb); (try clear hb2); (try clear hk); (try clear hi); have hcz18_0 : w17.cell? ⟨gb130, 0, none⟩ = some (.slice Ao12 l0_0.length co12) := (blk_cell BK130.out 0).trans rfl; have hcz18_1 : w17.cell? ⟨gb130, 1, none⟩ = some (.int .i64 a0_1) := (blk_cell BK130.out 1).trans rfl; have hcz18_2 : w17.cell? ⟨gb130, 2, none⟩ = some (.int .i64 a0_2) := (blk_cell BK130.out 2).trans rfl; have hfz18_0 := blk_frozen BK130.out 0; have hfz18_1 := blk_frozen BK130.out 1; have hfz18_2 := blk_frozen BK130.out 2; have hcz19_0 : w17.cell? ⟨gb131, 0, none⟩ = some (.slice none 0 0) := (blk_cell BK131.out 0).trans rfl; have hcz19_1 : w17.cell? ⟨gb131, 1, none⟩ = some (.int .i64 0) := (blk_cell BK131.out 1).trans rfl; have hcz19_2 : w17.cell? ⟨gb131, 2, none⟩ = some (.int .i64 0) := (blk_cell BK131.out 2).trans rfl; have hfz19_0 := blk_frozen BK131.out 0; have hfz19_1 := blk_frozen BK131.out 1; have hfz19_2 := blk_frozen BK131.out 2))
      refine bodyPost_ret (results_ctt rfl _ _ gb131 67 #[.slice Ao12 l0_0.length co12, .int .i64 a0_1, .int .i64 a0_2] (0, 0) _ rfl (by (with_reducible repeat (first | refine blk_drewN ?_ _ | refine blk_drew ?_ | refine blk_alloc ?_ _)); refine blk_put (cs := #[.slice Ao12 l0_0.length co12, .int .i64 a0_1, .int .i64 0]) ?_ 2 _ rfl; (with_reducible repeat (first | refine blk_drewN ?_ _ | refine blk_drew ?_ | refine blk_alloc ?_ _)); refine blk_put (cs := #[.slice Ao12 l0_0.length co12, .int .i64 0, .int .i64 0]) ?_ 1 _ rfl; (with_reducible repeat (first | refine blk_drewN ?_ _ | refine blk_drew ?_ | refine blk_alloc ?_ _)); refine blk_put (cs := #[.slice none 0 0, .int .i64 0, .int .i64 0]) ?_ 0 _ rfl; (with_reducible repeat (first | refine blk_drewN ?_ _ | refine blk_drew ?_ | refine blk_alloc ?_ _)); exact BK131.out) Try.underlying67 rfl (by kernel_rfl)) rfl ?_
      exact ⟨_, by first | rfl | (simp [errW_none, errW_some] <;> rfl) | (simp [*, errW_none, errW_some] <;> rfl), by (with_reducible repeat (first | apply Kd.R_alloc | apply Kd.R_drewN | apply Kd.R_drew)); exact Kd.R_mono (Kd.R_far (p := ⟨gb131, 2, none⟩) (Kd.R_far (p := ⟨gb131, 1, none⟩) (Kd.R_far (p := ⟨gb131, 0, none⟩) (Kd.R_types HO0_0.out BK131.out (by decide)) (fun _ hk => hk.2) (.slice Ao12 l0_0.length co12)) (fun _ hk => hk.2) (.int .i64 a0_1)) (fun _ hk => hk.2) (.int .i64 a0_2)) (fun _ hk => hk.1), by repeat (first | (with_reducible first | exact HB.out | apply below_alloc | apply pw_below_drewN | apply below_drew1 | refine below_set ?_ GE130.out | refine below_set ?_ GE131.out) | exact HB.out), by repeat (first | (with_reducible first | exact HK.out | apply Kept.alloc | apply Kept.drewN | apply Kept.drew | refine Kept.setCell ?_ (.inr GW130.out) _ | refine Kept.setCell ?_ (.inr GW131.out) _) | exact HK.out)⟩
    · rw [if_neg c11] at H
      have c11b0 : decide (0 < t132) = false := decide_eq_false c11
      clear c11
      have H' := Aside0.mk H
      clear H
      obtain ⟨Ao20, co20, eo20⟩ := Kd.R_slice HO0_0.out
      subst eo20
      go_enter Try.func73, Try.ntmps73
      go_wp2_with (first | ((with_reducible refine gate_dst (N := 2) rfl ?_); refine box_event ?hg (N := 2) ?hd (cs := #[.slice Ao20 l0_0.length co20, .int .i64 a0_1, .int .i64 a0_2]) (t := 67) ?hr ?_; (case hd => rfl); (case hg => rfl); (case hr => first | (go_simp; done) | (go_simp; rfl)); intro gb130 hg w21 hbox hb; have n0_ := Aside0.mk (Kd.R_below (by (with_reducible repeat (first | apply Kd.R_alloc | apply Kd.R_drewN | apply Kd.R_drew)); exact HO0_0.out) hb); have n1_ := Aside0.mk (Kept.below (S := (fun _ => False)) (by repeat (first | (with_reducible first | exact HK.out | apply Kept.alloc | apply Kept.drewN | apply Kept.drew) | exact HK.out)) hb); have n2_ := Aside0.mk (below_step (by repeat (first | (with_reducible first | exact HB.out | apply below_alloc | apply pw_below_drewN | apply below_drew1) | exact HB.out)) hb); have n3_ := Aside0.mk (hbox); have n4_ := Aside0.mk ((by rw [hg]; exact (by first | exact HK.out.1 | exact (show Kept w _ (fun _ => False) from by repeat (first | (with_reducible first | exact HK.out | apply Kept.alloc | apply Kept.drewN | apply Kept.drew) | exact HK.out)).1) : w.heap.size ≤ gb130)); have n5_ := Aside0.mk ((by rw [hg]; exact (below_size (by repeat (first | (with_reducible first | exact HB.out | apply below_alloc | apply pw_below_drewN | apply below_drew1) | exact HB.out))) : w0.heap.size ≤ gb130)); clear HO0_0; clear HK; clear HB; have HO0_0 := n0_; have HK := n1_; have HB := n2_; have BK130 := n3_; have GW130 := n4_; have GE130 := n5_; clear n0_ n1_ n2_ n3_ n4_ n5_; clear hb hbox hg) | ((with_reducible refine gate_dst (N := 4) rfl ?_); refine box_event ?hg (N := 4) ?hd (cs := #[.slice none 0 0, .int .i64 0, .int .i64 0]) (t := 67) ?hr ?_; (case hd => rfl); (case hg => rfl); (case hr => first | (go_simp; done) | (go_simp; rfl)); intro gb131 hg w22 hbox hb; have n0_ := Aside0.mk (Kd.R_below (by (with_reducible repeat (first | apply Kd.R_alloc | apply Kd.R_drewN | apply Kd.R_drew)); exact HO0_0.out) hb); have n1_ := Aside0.mk (blk_below (g := gb130) (o := .cells #[.slice Ao20 l0_0.length co20, .int .i64 a0_1, .int .i64 a0_2] 67 (0, 0)) (by (with_reducible repeat (first | refine blk_drewN ?_ _ | refine blk_drew ?_ | refine blk_alloc ?_ _)); exact BK130.out) hb); have n2_ := Aside0.mk (Kept.below (S := (fun _ => False)) (by repeat (first | (with_reducible first | exact HK.out | apply Kept.alloc | apply Kept.drewN | apply Kept.drew | refine Kept.setCell ?_ (.inr GW130.out) _) | exact HK.out)) hb); have n3_ := Aside0.mk (below_step (by repeat (first | (with_reducible first | exact HB.out | apply below_alloc | apply pw_below_drewN | apply below_drew1 | refine below_set ?_ GE130.out) | exact HB.out)) hb); have n4_ := Aside0.mk (hbox); have n5_ := Aside0.mk ((by rw [hg]; exact (by first | exact HK.out.1 | exact (show Kept w _ (fun _ => False) from by repeat (first | (with_reducible first | exact HK.out | apply Kept.alloc | apply Kept.drewN | apply Kept.drew | refine Kept.setCell ?_ (.inr GW130.out) _) | exact HK.out)).1) : w.heap.size ≤ gb131)); have n6_ := Aside0.mk ((by rw [hg]; exact (below_size (by repeat (first | (with_reducible first | exact HB.out | apply below_alloc | apply pw_below_drewN | apply below_drew1 | refine below_set ?_ GE130.out) | exact HB.out))) : w0.heap.size ≤ gb131)); have n7_ := Aside0.mk ((by rw [hg]; exact Nat.ne_of_lt (blk_lt (g := gb130) (o := .cells #[.slice Ao20 l0_0.length co20, .int .i64 a0_1, .int .i64 a0_2] 67 (0, 0)) (by (with_reducible repeat (first | refine blk_drewN ?_ _ | refine blk_drew ?_ | refine blk_alloc ?_ _)); exact BK130.out)) : gb130 ≠ gb131)); have n8_ := Aside0.mk ((by rw [hg]; exact Nat.ne_of_gt (blk_lt (g := gb130) (o := .cells #[.slice Ao20 l0_0.length co20, .int .i64 a0_1, .int .i64 a0_2] 67 (0, 0)) (by (with_reducible repeat (first | refine blk_drewN ?_ _ | refine blk_drew ?_ | refine blk_alloc ?_ _)); exact BK130.out)) : gb131 ≠ gb130)); clear HO0_0; clear BK130; clear HK; clear HB; have HO0_0 := n0_; have BK130 := n1_; have HK := n2_; have HB := n3_; have BK131 := n4_; have GW131 := n5_; have GE131 := n6_; have NB130_131 := n7_; have NB131_130 := n8_; clear n0_ n1_ n2_ n3_ n4_ n5_ n6_ n7_ n8_; clear hb hbox hg; have hnb23 := NB130_131.out; have hnc23 := NB131_130.out; have hcz24_0 : w22.cell? ⟨gb130, 0, none⟩ = some (.slice Ao20 l0_0.length co20) := (blk_cell BK130.out 0).trans rfl; have hcz24_1 : w22.cell? ⟨gb130, 1, none⟩ = some (.int .i64 a0_1) := (blk_cell BK130.out 1).trans rfl; have hcz24_2 : w22.cell? ⟨gb130, 2, none⟩ = some (.int .i64 a0_2) := (blk_cell BK130.out 2).trans rfl; have hfz24_0 := blk_frozen BK130.out 0; have hfz24_1 := blk_frozen BK130.out 1; have hfz24_2 := blk_frozen BK130.out 2) | ((with_reducible refine gate_callee (f := 92) rfl ?_); refine goesL_ (some 14) rfl rfl Try.func92 (by kernel_rfl) rfl #[.agg #[.slice Ao20 l0_0.length co20, .int .i64 a0_1, .int .i64 a0_2], .int .i64 a1] rfl (by (try simp only [List.map_toArray, List.map_cons, List.map_nil]); first | done | rfl | (simp only [List.length_drop, List.length_take]; rfl)) ?_; (with_reducible refine (lookasideref14_Of.calls k _ _ l0_0 a0_1 a0_2 a1 t132 _ ?side1 ?side2 A10.out).mono ?_); (case side1 => repeat (first | exact (Kd.R_reads' HO0_0.out).2.2 | (with_reducible refine Kd.C_alloc ?_ _) | (with_reducible refine Kd.C_drewN ?_ _) | (with_reducible refine Kd.C_drew ?_))); (case side2 => exact (Kd.R_reads' HO0_0.out).2.1); rintro e w25 ⟨rfl, hb⟩; refine ⟨_, rfl, ?_⟩; have n0_ := Aside0.mk (Kd.R_below (by (with_reducible repeat (first | apply Kd.R_alloc | apply Kd.R_drewN | apply Kd.R_drew)); exact HO0_0.out) hb); have n1_ := Aside0.mk (blk_below (g := gb130) (o := .cells #[.slice Ao20 l0_0.length co20, .int .i64 a0_1, .int .i64 a0_2] 67 (0, 0)) (by (with_reducible repeat (first | refine blk_drewN ?_ _ | refine blk_drew ?_ | refine blk_alloc ?_ _)); exact BK130.out) hb); have n2_ := Aside0.mk (blk_below (g := gb131) (o := .cells #[.slice none 0 0, .int .i64 0, .int .i64 0] 67 (0, 0)) (by (with_reducible repeat (first | refine blk_drewN ?_ _ | refine blk_drew ?_ | refine blk_alloc ?_ _)); exact BK131.out) hb); have n3_ := Aside0.mk (Kept.below (S := (fun _ => False)) (by repeat (first | (with_reducible first | exact HK.out | apply Kept.alloc | apply Kept.drewN | apply Kept.drew | refine Kept.setCell ?_ (.inr GW130.out) _ | refine Kept.setCell ?_ (.inr GW131.out) _) | exact HK.out)) hb); have n4_ := Aside0.mk (below_step (by repeat (first | (with_reducible first | exact HB.out | apply below_alloc | apply pw_below_drewN | apply below_drew1 | refine below_set ?_ GE130.out | refine below_set ?_ GE131.out) | exact HB.out)) hb); clear HO0_0; clear BK130; clear BK131; clear HK; clear HB; have HO0_0 := n0_; have BK130 := n1_; have BK131 := n2_; have HK := n3_; have HB := n4_; clear n0_ n1_ n2_ n3_ n4_; (try clear hb); (try clear hb2); (try clear hk); (try clear hi); have hcz26_0 : w25.cell? ⟨gb130, 0, none⟩ = some (.slice Ao20 l0_0.length co20) := (blk_cell BK130.out 0).trans rfl; have hcz26_1 : w25.cell? ⟨gb130, 1, none⟩ = some (.int .i64 a0_1) := (blk_cell BK130.out 1).trans rfl; have hcz26_2 : w25.cell? ⟨gb130, 2, none⟩ = some (.int .i64 a0_2) := (blk_cell BK130.out 2).trans rfl; have hfz26_0 := blk_frozen BK130.out 0; have hfz26_1 := blk_frozen BK130.out 1; have hfz26_2 := blk_frozen BK130.out 2))
      go_loopg [7, 8] k (fun kq v7 v8 w' => ∃ (x7_1 : Int) (x8_1 : Int) (x132001_1 : Int) (x132002_1 : Int), v7 = .int .i64 x7_1 ∧ v8 = .int .i64 x8_1 ∧ Aside0 (lookasideref14_Take.l0 kq a1 x7_1 x8_1 l0_0 a0_1 a0_2 = some (r1, r2, r3, r4, r5)) ∧ Aside0 (kq ≤ k) ∧ Aside0 (Kd.R (Kd.int .i64) 3 w' w0.heap.size (fun k_ => (P0_0_ k_ ∨ w.heap.size ≤ k_)) (.slice Ao20 l0_0.length co20) l0_0) ∧ Aside0 (w'.heap[gb130]? = some (.cells #[(.slice Ao20 l0_0.length co20), .int .i64 a0_1, .int .i64 a0_2] 67 (0, 0))) ∧ Aside0 (w'.heap[gb131]? = some (.cells #[(.slice none 0 0), .int .i64 x132001_1, .int .i64 x132002_1] 67 (0, 0))) ∧ Aside0 (Kept w w' (fun _ => False)) ∧ Aside0 (Below w0.heap.size w0 w'))
      case atStart => exact ⟨(a0_1), (0), (0), (0), (by first | rfl | (simp; done) | (simp [*]; done)), (by first | rfl | (simp; done) | (simp [*]; done)), H', ⟨Nat.le_refl _⟩, ⟨by (with_reducible repeat (first | apply Kd.R_alloc | apply Kd.R_drewN | apply Kd.R_drew)); exact HO0_0.out⟩, ⟨by (with_reducible repeat (first | refine blk_drewN ?_ _ | refine blk_drew ?_ | refine blk_alloc ?_ _)); exact BK130.out⟩, ⟨by (with_reducible repeat (first | refine blk_drewN ?_ _ | refine blk_drew ?_ | refine blk_alloc ?_ _)); exact BK131.out⟩, ⟨by repeat (first | (with_reducible first | exact HK.out | apply Kept.alloc | apply Kept.drewN | apply Kept.drew | refine Kept.setCell ?_ (.inr GW130.out) _ | refine Kept.setCell ?_ (.inr GW131.out) _) | exact HK.out)⟩, ⟨by repeat (first | (with_reducible first | exact HB.out | apply below_alloc | apply pw_below_drewN | apply below_drew1 | refine below_set ?_ GE130.out | refine below_set ?_ GE131.out) | exact HB.out)⟩⟩
      case round =>
        clear H'
        try clear c1
        try clear c2
        try clear p2
        try clear c3
        try clear c3b0
        try clear c7
        try clear c9
        try clear c11
        try clear c11b0
        try clear c15
        try clear c23
        try clear hcz16_0
        try clear hcz16_1
        try clear hcz16_2
        try clear hcz18_0
        try clear hcz18_1
        try clear hcz18_2
        try clear hcz19_0
        try clear hcz19_1
        try clear hcz19_2
        try clear hcz24_0
        try clear hcz24_1
        try clear hcz24_2
        try clear hcz26_0
        try clear hcz26_1
        try clear hcz26_2
        try clear hcz8_0
        try clear hcz8_1
        try clear hcz8_2
        try clear hcz9_0
        try clear hcz9_1
        try clear hcz9_2
        try clear hfz16_0
        try clear hfz16_1
        try clear hfz16_2
        try clear hfz18_0
        try clear hfz18_1
        try clear hfz18_2
        try clear hfz19_0
        try clear hfz19_1
        try clear hfz19_2
        try clear hfz24_0
        try clear hfz24_1
        try clear hfz24_2
        try clear hfz26_0
        try clear hfz26_1
        try clear hfz26_2
        try clear hfz8_0
        try clear hfz8_1
        try clear hfz8_2
        try clear hfz9_0
        try clear hfz9_1
        try clear hfz9_2
        obtain ⟨x7_1, x8_1, x132001_1, x132002_1, rfl, rfl, HA, HK1, HO_131000, BK130, BK131, HK, HB⟩ := hrel
        cases gk with
        | zero => exact absurd HA.out (by simp [lookasideref14_Take.l0])
        | succ k1 =>
          have H := HA.out
          clear HA
          simp only [lookasideref14_Take.l0] at H
          by_cases c27 : x8_1 < (l0_0.length : Int)
          · rw [if_pos c27] at H
            have c27b0 : decide (x8_1 < (l0_0.length : Int)) = true := decide_eq_true c27
            clear c27
            obtain ⟨ji28, hji28⟩ : ∃ j_ : Int, (wrap64 (x7_1 - 1)) = j_ := ⟨_, rfl⟩
            replace H : (if 0 ≤ (ji28) then (if (ji28) < (l0_0.length : Int) then (if (rd l0_0 (ji28)) < 0 then ((lookasideref14_own.f k1 l0_0 a0_1 a0_2 x7_1 a1).bind fun bt134 => (some (bt134.1, bt134.2.1, bt134.2.2, x7_1, 0))) else (if (l0_0.length : Int) = 0 then (none) else (lookasideref14_Take.l0 k1 a1 (wrap64 ((Int.tmod x7_1 (l0_0.length : Int)) + 1)) (wrap64 (x8_1 + 1)) l0_0 a0_1 a0_2))) else (none)) else (none)) = some (r1, r2, r3, r4, r5) := by first | (rw [hji28] at H; exact H) | (simp only [hji28] at H ⊢; exact H)
            have hji28w : (IntKind.i64.wrap (x7_1 - 1)) = ji28 := (i64_w _).trans hji28
            by_cases c29 : 0 ≤ (ji28)
            · rw [if_pos c29] at H
              have c29b0 : decide (0 ≤ (ji28)) = true := decide_eq_true c29
              clear c29
              by_cases c30 : (ji28) < (l0_0.length : Int)
              · rw [if_pos c30] at H
                have c30b0 : decide ((ji28) < (l0_0.length : Int)) = true := decide_eq_true c30
                clear c30
                by_cases c31 : (rd l0_0 (ji28)) < 0
                · rw [if_pos c31] at H
                  have c31b0 : decide ((rd l0_0 (ji28)) < 0) = true := decide_eq_true c31
                  clear c31
                  replace H := Option.bind_eq_some_iff.mp H
                  obtain ⟨⟨t134, t137, t138⟩, A320, H⟩ := H
                  replace H : (some (t134, t137, t138, x7_1, 0)) = some (r1, r2, r3, r4, r5) := H
                  have A32 := Aside0.mk A320
                  clear A320
                  simp only [Option.some.injEq, Prod.mk.injEq] at H
                  obtain ⟨rfl, rfl, rfl, rfl, rfl⟩ := H
                  have hnb33 := NB130_131.out
                  have hnc33 := NB131_130.out
                  have hcz34_0 : wr.cell? ⟨gb130, 0, none⟩ = some (.slice Ao20 l0_0.length co20) := (blk_cell BK130.out 0).trans rfl
                  have hcz34_1 : wr.cell? ⟨gb130, 1, none⟩ = some (.int .i64 a0_1) := (blk_cell BK130.out 1).trans rfl
                  have hcz34_2 : wr.cell? ⟨gb130, 2, none⟩ = some (.int .i64 a0_2) := (blk_cell BK130.out 2).trans rfl
                  have hfz34_0 := blk_frozen BK130.out 0
                  have hfz34_1 := blk_frozen BK130.out 1
                  have hfz34_2 := blk_frozen BK130.out 2
                  have p133 : 0 ≤ ((ji28) : Int) := of_decide_eq_true (by first | (with_reducible assumption) | assumption)
                  have q133 : (ji28) < (l0_0.length : Int) := of_decide_eq_true (by first | (with_reducible assumption) | assumption)
                  obtain ⟨ad133, e133, hx133_0⟩ := Kd.at_int (Kd.R_reads' HO_131000.out).2.2 (ji28) p133 q133
                  cases e133
                  replace p133 := eq_true p133
                  replace q133 := eq_true q133
                  go_wp2_with (first | ((with_reducible refine gate_callee (f := 93) rfl ?_); refine goesL_ (some 38) rfl rfl Try.func93 (by kernel_rfl) rfl #[.agg #[.slice (some ad133) l0_0.length co20, .int .i64 a0_1, .int .i64 a0_2], .int .i64 x7_1, .int .i64 a1] rfl (by (try simp only [List.map_toArray, List.map_cons, List.map_nil]); first | done | rfl | (simp only [List.length_drop, List.length_take]; rfl)) ?_; (with_reducible refine (lookasideref14_own.calls k1 _ _ l0_0 a0_1 a0_2 x7_1 a1 t134 t137 t138 _ ?side1 ?side2 A32.out).mono ?_); (case side1 => repeat (first | exact (Kd.R_reads' HO_131000.out).2.2 | (with_reducible refine Kd.C_alloc ?_ _) | (with_reducible refine Kd.C_drewN ?_ _) | (with_reducible refine Kd.C_drew ?_))); (case side2 => exact (Kd.R_reads' HO_131000.out).2.1); rintro e w35 ⟨v135, rfl, ho0, hb⟩; refine ⟨_, rfl, ?_⟩; have n0_ := Aside0.mk (Kd.R_elder' (by (with_reducible repeat (first | apply Kd.R_alloc | apply Kd.R_drewN | apply Kd.R_drew)); exact HO_131000.out) (Kd.R_base ho0) hb); have n1_ := Aside0.mk (Kd.R_lower (Kd.R_new' (Kd.R_newM (M := fun k_ => (P0_0_ k_ ∨ w.heap.size ≤ k_)) ho0 (by first | exact HK.out.1 | exact (show Kept w _ (fun _ => False) from by repeat (first | (with_reducible first | exact HK.out | apply Kept.alloc | apply Kept.drewN | apply Kept.drew | refine Kept.setCell ?_ (.inr GW130.out) _ | refine Kept.setCell ?_ (.inr GW131.out) _) | exact HK.out)).1) (fun k_ h_ => .inr h_)) (Kd.R_lt (by (with_reducible repeat (first | apply Kd.R_alloc | apply Kd.R_drewN | apply Kd.R_drew)); exact HO_131000.out))) (below_size (by repeat (first | (with_reducible first | exact HB.out | apply below_alloc | apply pw_below_drewN | apply below_drew1 | refine below_set ?_ GE130.out | refine below_set ?_ GE131.out) | exact HB.out)))); have n2_ := Aside0.mk (blk_below (g := gb130) (o := .cells #[.slice (some ad133) l0_0.length co20, .int .i64 a0_1, .int .i64 a0_2] 67 (0, 0)) (by (with_reducible repeat (first | refine blk_drewN ?_ _ | refine blk_drew ?_ | refine blk_alloc ?_ _)); exact BK130.out) hb); have n3_ := Aside0.mk (blk_below (g := gb131) (o := .cells #[.slice none 0 0, .int .i64 x132001_1, .int .i64 x132002_1] 67 (0, 0)) (by (with_reducible repeat (first | refine blk_drewN ?_ _ | refine blk_drew ?_ | refine blk_alloc ?_ _)); exact BK131.out) hb); have n4_ := Aside0.mk (Kept.below (S := (fun _ => False)) (by repeat (first | (with_reducible first | exact HK.out | apply Kept.alloc | apply Kept.drewN | apply Kept.drew | refine Kept.setCell ?_ (.inr GW130.out) _ | refine Kept.setCell ?_ (.inr GW131.out) _) | exact HK.out)) hb); have n5_ := Aside0.mk (below_step (by repeat (first | (with_reducible first | exact HB.out | apply below_alloc | apply pw_below_drewN | apply below_drew1 | refine below_set ?_ GE130.out | refine below_set ?_ GE131.out) | exact HB.out)) hb); clear HO_131000; clear BK130; clear BK131; clear HK; clear HB; have HO_131000 := n0_; have HO136 := n1_; have BK130 := n2_; have BK131 := n3_; have HK := n4_; have HB := n5_; clear n0_ n1_ n2_ n3_ n4_ n5_; (try clear hb); (try clear hb2); (try clear hk); (try clear hi); (try clear ho0); obtain ⟨Ao36, co36, eo36⟩ := Kd.R_slice HO136.out; subst eo36; have hcz37_0 : w35.cell? ⟨gb131, 0, none⟩ = some (.slice none 0 0) := (blk_cell BK131.out 0).trans rfl; have hcz37_1 : w35.cell? ⟨gb131, 1, none⟩ = some (.int .i64 x132001_1) := (blk_cell BK131.out 1).trans rfl; have hcz37_2 : w35.cell? ⟨gb131, 2, none⟩ = some (.int .i64 x132002_1) := (blk_cell BK131.out 2).trans rfl; have hfz37_0 := blk_frozen BK131.out 0; have hfz37_1 := blk_frozen BK131.out 1; have hfz37_2 := blk_frozen BK131.out 2))
                  refine bodyPost_ret (results_ctt rfl _ _ gb131 67 #[.slice Ao36 t134.length co36, .int .i64 t137, .int .i64 t138] (0, 0) _ rfl (by (with_reducible repeat (first | refine blk_drewN ?_ _ | refine blk_drew ?_ | refine blk_alloc ?_ _)); refine blk_put (cs := #[.slice Ao36 t134.length co36, .int .i64 t137, .int .i64 x132002_1]) ?_ 2 _ rfl; (with_reducible repeat (first | refine blk_drewN ?_ _ | refine blk_drew ?_ | refine blk_alloc ?_ _)); refine blk_put (cs := #[.slice Ao36 t134.length co36, .int .i64 x132001_1, .int .i64 x132002_1]) ?_ 1 _ rfl; (with_reducible repeat (first | refine blk_drewN ?_ _ | refine blk_drew ?_ | refine blk_alloc ?_ _)); refine blk_put (cs := #[.slice none 0 0, .int .i64 x132001_1, .int .i64 x132002_1]) ?_ 0 _ rfl; (with_reducible repeat (first | refine blk_drewN ?_ _ | refine blk_drew ?_ | refine blk_alloc ?_ _)); exact BK131.out) Try.underlying67 rfl (by kernel_rfl)) rfl ?_
                  exact ⟨_, by first | rfl | (simp [errW_none, errW_some] <;> rfl) | (simp only [← hji28]; first | rfl | (simp [errW_none, errW_some] <;> rfl)) | (simp [*, errW_none, errW_some] <;> rfl), by (with_reducible repeat (first | apply Kd.R_alloc | apply Kd.R_drewN | apply Kd.R_drew)); exact Kd.R_mono (Kd.R_far (p := ⟨gb131, 2, none⟩) (Kd.R_far (p := ⟨gb131, 1, none⟩) (Kd.R_far (p := ⟨gb131, 0, none⟩) (Kd.R_types HO136.out BK131.out (by decide)) (fun _ hk => hk.2) (.slice Ao36 t134.length co36)) (fun _ hk => hk.2) (.int .i64 t137)) (fun _ hk => hk.2) (.int .i64 t138)) (fun _ hk => hk.1.1.1), by repeat (first | (with_reducible first | exact HB.out | apply below_alloc | apply pw_below_drewN | apply below_drew1 | refine below_set ?_ GE130.out | refine below_set ?_ GE131.out) | exact HB.out), by repeat (first | (with_reducible first | exact HK.out | apply Kept.alloc | apply Kept.drewN | apply Kept.drew | refine Kept.setCell ?_ (.inr GW130.out) _ | refine Kept.setCell ?_ (.inr GW131.out) _) | exact HK.out)⟩
                · rw [if_neg c31] at H
                  have c31b0 : decide ((rd l0_0 (ji28)) < 0) = false := decide_eq_false c31
                  clear c31
                  by_cases c38 : (l0_0.length : Int) = 0
                  · rw [if_pos c38] at H
                    exact absurd H (by simp)
                  · rw [if_neg c38] at H
                    have c38b0 : ((l0_0.length : Int) == 0) = false := beq_eq_false_iff_ne.mpr c38
                    have c38b1 : ((l0_0.length : Int) != 0) = true := bne_iff_ne.mpr c38
                    have c38b2 : ¬ (l0_0 = []) := fun h_ => c38 (by rw [h_]; rfl)
                    have H' := Aside0.mk H
                    clear H
                    have hnb39 := NB130_131.out
                    have hnc39 := NB131_130.out
                    have hcz40_0 : wr.cell? ⟨gb130, 0, none⟩ = some (.slice Ao20 l0_0.length co20) := (blk_cell BK130.out 0).trans rfl
                    have hcz40_1 : wr.cell? ⟨gb130, 1, none⟩ = some (.int .i64 a0_1) := (blk_cell BK130.out 1).trans rfl
                    have hcz40_2 : wr.cell? ⟨gb130, 2, none⟩ = some (.int .i64 a0_2) := (blk_cell BK130.out 2).trans rfl
                    have hfz40_0 := blk_frozen BK130.out 0
                    have hfz40_1 := blk_frozen BK130.out 1
                    have hfz40_2 := blk_frozen BK130.out 2
                    have p133 : 0 ≤ ((ji28) : Int) := of_decide_eq_true (by first | (with_reducible assumption) | assumption)
                    have q133 : (ji28) < (l0_0.length : Int) := of_decide_eq_true (by first | (with_reducible assumption) | assumption)
                    obtain ⟨ad133, e133, hx133_0⟩ := Kd.at_int (Kd.R_reads' HO_131000.out).2.2 (ji28) p133 q133
                    cases e133
                    replace p133 := eq_true p133
                    replace q133 := eq_true q133
                    go_wp2
                    go_roundg k1
                    case measure => have := HK1.out; omega
                    case rel => exact ⟨(wrap64 ((Int.tmod x7_1 (l0_0.length : Int)) + 1)), (wrap64 (x8_1 + 1)), (x132001_1), (x132002_1), (by first | rfl | (simp; done) | (simp [*]; done)), (by first | rfl | (simp; done) | (simp [*]; done)), H', ⟨by have := HK1.out; omega⟩, ⟨by (with_reducible repeat (first | apply Kd.R_alloc | apply Kd.R_drewN | apply Kd.R_drew)); exact HO_131000.out⟩, ⟨by (with_reducible repeat (first | refine blk_drewN ?_ _ | refine blk_drew ?_ | refine blk_alloc ?_ _)); exact BK130.out⟩, ⟨by (with_reducible repeat (first | refine blk_drewN ?_ _ | refine blk_drew ?_ | refine blk_alloc ?_ _)); exact BK131.out⟩, ⟨by repeat (first | (with_reducible first | exact HK.out | apply Kept.alloc | apply Kept.drewN | apply Kept.drew | refine Kept.setCell ?_ (.inr GW130.out) _ | refine Kept.setCell ?_ (.inr GW131.out) _) | exact HK.out)⟩, ⟨by repeat (first | (with_reducible first | exact HB.out | apply below_alloc | apply pw_below_drewN | apply below_drew1 | refine below_set ?_ GE130.out | refine below_set ?_ GE131.out) | exact HB.out)⟩⟩
              · rw [if_neg c30] at H
                exact absurd H (by simp)
            · rw [if_neg c29] at H
              exact absurd H (by simp)
          · rw [if_neg c27] at H
            have c27b0 : decide (x8_1 < (l0_0.length : Int)) = false := decide_eq_false c27
            clear c27
            simp only [Option.some.injEq, Prod.mk.injEq] at H
            obtain ⟨rfl, rfl, rfl, rfl, rfl⟩ := H
            have hnb41 := NB130_131.out
            have hnc41 := NB131_130.out
            have hcz42_0 : wr.cell? ⟨gb130, 0, none⟩ = some (.slice Ao20 l0_0.length co20) := (blk_cell BK130.out 0).trans rfl
            have hcz42_1 : wr.cell? ⟨gb130, 1, none⟩ = some (.int .i64 a0_1) := (blk_cell BK130.out 1).trans rfl
            have hcz42_2 : wr.cell? ⟨gb130, 2, none⟩ = some (.int .i64 a0_2) := (blk_cell BK130.out 2).trans rfl
            have hfz42_0 := blk_frozen BK130.out 0
            have hfz42_1 := blk_frozen BK130.out 1
            have hfz42_2 := blk_frozen BK130.out 2
            have hcz43_0 : wr.cell? ⟨gb131, 0, none⟩ = some (.slice none 0 0) := (blk_cell BK131.out 0).trans rfl
            have hcz43_1 : wr.cell? ⟨gb131, 1, none⟩ = some (.int .i64 x132001_1) := (blk_cell BK131.out 1).trans rfl
            have hcz43_2 : wr.cell? ⟨gb131, 2, none⟩ = some (.int .i64 x132002_1) := (blk_cell BK131.out 2).trans rfl
            have hfz43_0 := blk_frozen BK131.out 0
            have hfz43_1 := blk_frozen BK131.out 1
            have hfz43_2 := blk_frozen BK131.out 2
            go_wp2
            refine bodyPost_ret (results_ctt rfl _ _ gb131 67 #[.slice Ao20 l0_0.length co20, .int .i64 a0_1, .int .i64 a0_2] (0, 0) _ rfl (by (with_reducible repeat (first | refine blk_drewN ?_ _ | refine blk_drew ?_ | refine blk_alloc ?_ _)); refine blk_put (cs := #[.slice Ao20 l0_0.length co20, .int .i64 a0_1, .int .i64 x132002_1]) ?_ 2 _ rfl; (with_reducible repeat (first | refine blk_drewN ?_ _ | refine blk_drew ?_ | refine blk_alloc ?_ _)); refine blk_put (cs := #[.slice Ao20 l0_0.length co20, .int .i64 x132001_1, .int .i64 x132002_1]) ?_ 1 _ rfl; (with_reducible repeat (first | refine blk_drewN ?_ _ | refine blk_drew ?_ | refine blk_alloc ?_ _)); refine blk_put (cs := #[.slice none 0 0, .int .i64 x132001_1, .int .i64 x132002_1]) ?_ 0 _ rfl; (with_reducible repeat (first | refine blk_drewN ?_ _ | refine blk_drew ?_ | refine blk_alloc ?_ _)); exact BK131.out) Try.underlying67 rfl (by kernel_rfl)) rfl ?_
            exact ⟨_, by first | rfl | (simp [errW_none, errW_some] <;> rfl) | (simp [*, errW_none, errW_some] <;> rfl), by (with_reducible repeat (first | apply Kd.R_alloc | apply Kd.R_drewN | apply Kd.R_drew)); exact Kd.R_mono (Kd.R_far (p := ⟨gb131, 2, none⟩) (Kd.R_far (p := ⟨gb131, 1, none⟩) (Kd.R_far (p := ⟨gb131, 0, none⟩) (Kd.R_types HO_131000.out BK131.out (by decide)) (fun _ hk => hk.2) (.slice Ao20 l0_0.length co20)) (fun _ hk => hk.2) (.int .i64 a0_1)) (fun _ hk => hk.2) (.int .i64 a0_2)) (fun _ hk => hk.1), by repeat (first | (with_reducible first | exact HB.out | apply below_alloc | apply pw_below_drewN | apply below_drew1 | refine below_set ?_ GE130.out | refine below_set ?_ GE131.out) | exact HB.out), by repeat (first | (with_reducible first | exact HK.out | apply Kept.alloc | apply Kept.drewN | apply Kept.drew | refine Kept.setCell ?_ (.inr GW130.out) _ | refine Kept.setCell ?_ (.inr GW131.out) _) | exact HK.out)⟩

set_option maxHeartbeats 8000000 in
set_option maxRecDepth 100000 in
theorem lookasideref14_Give_keep (k : Nat) (P0_0_ : Nat → Prop) (u9000_ : Value) (l0_0 : List Int) (a0_1 : Int) (a0_2 : Int) (a1 : Int) (r1 : List Int) (r2 : Int) (r3 : Int) (r4 : Int) (r5 : Int) (w0 w : World) (hB : Below w0.heap.size w0 w) (ho0_0 : Kd.R (Kd.int .i64) 3 w w0.heap.size P0_0_ u9000_ l0_0) (h : lookasideref14_Give.f k l0_0 a0_1 a0_2 a1 = some (r1, r2, r3, r4, r5)) :
    Calls Try.prog 74 #[.agg #[u9000_, .int .i64 a0_1, .int .i64 a0_2], .int .i64 a1] w fun e w' => ∃ v0_ : Value, e = .returned (.tuple #[.agg #[v0_, .int .i64 r2, .int .i64 r3], .int .i64 r4, .int .i64 r5]) ∧ Kd.R (Kd.int .i64) 3 w' w0.heap.size (fun k_ => (P0_0_ k_ ∨ w.heap.size ≤ k_)) v0_ r1 ∧ Below w0.heap.size w0 w' ∧ Kept w w' (fun _ => False) := by
  have hu67 := Try.underlying67
  have HO0_0 := Aside0.mk (show Kd.R (Kd.int .i64) 3 w w0.heap.size (fun k_ => (P0_0_ k_ ∨ w.heap.size ≤ k_)) u9000_ l0_0 from Kd.R_mono ho0_0 (fun k_ hk => (.inl hk)))
  have HK := Aside0.mk (Kept.refl w (fun _ => False))
  have HW0 := Aside0.mk hB.size
  have HB := Aside0.mk hB
  clear hB
  have H : ((lookasideref14_Of.f k l0_0 a0_1 a0_2 a1).bind fun t141 => (if t141 = 0 then (some (l0_0, a0_1, a0_2, 0, 10)) else (if ([] : List Int).length + l0_0.length < 17592186044416 then ((some (([] : List Int) ++ l0_0 : List Int)).bind fun y142 => (if 0 ≤ (wrap64 (t141 - 1)) then (if (wrap64 (t141 - 1)) < (y142.length : Int) then (some ((y142.set ((wrap64 (t141 - 1)) : Int).toNat (-1)), a0_1, a0_2, t141, 0)) else (none)) else (none))) else (none)))) = some (r1, r2, r3, r4, r5) := h
  clear h
  replace H := Option.bind_eq_some_iff.mp H
  obtain ⟨t141, A30, H⟩ := H
  replace H : (if t141 = 0 then (some (l0_0, a0_1, a0_2, 0, 10)) else (if ([] : List Int).length + l0_0.length < 17592186044416 then ((some (([] : List Int) ++ l0_0 : List Int)).bind fun y142 => (if 0 ≤ (wrap64 (t141 - 1)) then (if (wrap64 (t141 - 1)) < (y142.length : Int) then (some ((y142.set ((wrap64 (t141 - 1)) : Int).toNat (-1)), a0_1, a0_2, t141, 0)) else (none)) else (none))) else (none))) = some (r1, r2, r3, r4, r5) := H
  have A3 := Aside0.mk A30
  clear A30
  by_cases c4 : t141 = 0
  · rw [if_pos c4] at H
    have c4b0 : (t141 == 0) = true := beq_iff_eq.mpr c4
    have c4b1 : (t141 != 0) = false := bne_eq_false_iff_eq.mpr c4
    clear c4
    simp only [Option.some.injEq, Prod.mk.injEq] at H
    obtain ⟨rfl, rfl, rfl, rfl, rfl⟩ := H
    obtain ⟨Ao5, co5, eo5⟩ := Kd.R_slice HO0_0.out
    subst eo5
    go_enter Try.func74, Try.ntmps74
    go_wp2_with (first | ((with_reducible refine gate_dst (N := 2) rfl ?_); refine box_event ?hg (N := 2) ?hd (cs := #[.slice Ao5 l0_0.length co5, .int .i64 a0_1, .int .i64 a0_2]) (t := 67) ?hr ?_; (case hd => rfl); (case hg => rfl); (case hr => first | (go_simp; done) | (go_simp; rfl)); intro gb139 hg w6 hbox hb; have n0_ := Aside0.mk (Kd.R_below (by (with_reducible repeat (first | apply Kd.R_alloc | apply Kd.R_drewN | apply Kd.R_drew)); exact HO0_0.out) hb); have n1_ := Aside0.mk (Kept.below (S := (fun _ => False)) (by repeat (first | (with_reducible first | exact HK.out | apply Kept.alloc | apply Kept.drewN | apply Kept.drew) | exact HK.out)) hb); have n2_ := Aside0.mk (below_step (by repeat (first | (with_reducible first | exact HB.out | apply below_alloc | apply pw_below_drewN | apply below_drew1) | exact HB.out)) hb); have n3_ := Aside0.mk (hbox); have n4_ := Aside0.mk ((by rw [hg]; exact (by first | exact HK.out.1 | exact (show Kept w _ (fun _ => False) from by repeat (first | (with_reducible first | exact HK.out | apply Kept.alloc | apply Kept.drewN | apply Kept.drew) | exact HK.out)).1) : w.heap.size ≤ gb139)); have n5_ := Aside0.mk ((by rw [hg]; exact (below_size (by repeat (first | (with_reducible first | exact HB.out | apply below_alloc | apply pw_below_drewN | apply below_drew1) | exact HB.out))) : w0.heap.size ≤ gb139)); clear HO0_0; clear HK; clear HB; have HO0_0 := n0_; have HK := n1_; have HB := n2_; have BK139 := n3_; have GW139 := n4_; have GE139 := n5_; clear n0_ n1_ n2_ n3_ n4_ n5_; clear hb hbox hg) | ((with_reducible refine gate_dst (N := 4) rfl ?_); refine box_event ?hg (N := 4) ?hd (cs := #[.slice none 0 0, .int .i64 0, .int .i64 0]) (t := 67) ?hr ?_; (case hd => rfl); (case hg => rfl); (case hr => first | (go_simp; done) | (go_simp; rfl)); intro gb140 hg w7 hbox hb; have n0_ := Aside0.mk (Kd.R_below (by (with_reducible repeat (first | apply Kd.R_alloc | apply Kd.R_drewN | apply Kd.R_drew)); exact HO0_0.out) hb); have n1_ := Aside0.mk (blk_below (g := gb139) (o := .cells #[.slice Ao5 l0_0.length co5, .int .i64 a0_1, .int .i64 a0_2] 67 (0, 0)) (by (with_reducible repeat (first | refine blk_drewN ?_ _ | refine blk_drew ?_ | refine blk_alloc ?_ _)); exact BK139.out) hb); have n2_ := Aside0.mk (Kept.below (S := (fun _ => False)) (by repeat (first | (with_reducible first | exact HK.out | apply Kept.alloc | apply Kept.drewN | apply Kept.drew | refine Kept.setCell ?_ (.inr GW139.out) _) | exact HK.out)) hb); have n3_ := Aside0.mk (below_step (by repeat (first | (with_reducible first | exact HB.out | apply below_alloc | apply pw_below_drewN | apply below_drew1 | refine below_set ?_ GE139.out) | exact HB.out)) hb); have n4_ := Aside0.mk (hbox); have n5_ := Aside0.mk ((by rw [hg]; exact (by first | exact HK.out.1 | exact (show Kept w _ (fun _ => False) from by repeat (first | (with_reducible first | exact HK.out | apply Kept.alloc | apply Kept.drewN | apply Kept.drew | refine Kept.setCell ?_ (.inr GW139.out) _) | exact HK.out)).1) : w.heap.size ≤ gb140)); have n6_ := Aside0.mk ((by rw [hg]; exact (below_size (by repeat (first | (with_reducible first | exact HB.out | apply below_alloc | apply pw_below_drewN | apply below_drew1 | refine below_set ?_ GE139.out) | exact HB.out))) : w0.heap.size ≤ gb140)); have n7_ := Aside0.mk ((by rw [hg]; exact Nat.ne_of_lt (blk_lt (g := gb139) (o := .cells #[.slice Ao5 l0_0.length co5, .int .i64 a0_1, .int .i64 a0_2] 67 (0, 0)) (by (with_reducible repeat (first | refine blk_drewN ?_ _ | refine blk_drew ?_ | refine blk_alloc ?_ _)); exact BK139.out)) : gb139 ≠ gb140)); have n8_ := Aside0.mk ((by rw [hg]; exact Nat.ne_of_gt (blk_lt (g := gb139) (o := .cells #[.slice Ao5 l0_0.length co5, .int .i64 a0_1, .int .i64 a0_2] 67 (0, 0)) (by (with_reducible repeat (first | refine blk_drewN ?_ _ | refine blk_drew ?_ | refine blk_alloc ?_ _)); exact BK139.out)) : gb140 ≠ gb139)); clear HO0_0; clear BK139; clear HK; clear HB; have HO0_0 := n0_; have BK139 := n1_; have HK := n2_; have HB := n3_; have BK140 := n4_; have GW140 := n5_; have GE140 := n6_; have NB139_140 := n7_; have NB140_139 := n8_; clear n0_ n1_ n2_ n3_ n4_ n5_ n6_ n7_ n8_; clear hb hbox hg; have hnb8 := NB139_140.out; have hnc8 := NB140_139.out; have hcz9_0 : w7.cell? ⟨gb139, 0, none⟩ = some (.slice Ao5 l0_0.length co5) := (blk_cell BK139.out 0).trans rfl; have hcz9_1 : w7.cell? ⟨gb139, 1, none⟩ = some (.int .i64 a0_1) := (blk_cell BK139.out 1).trans rfl; have hcz9_2 : w7.cell? ⟨gb139, 2, none⟩ = some (.int .i64 a0_2) := (blk_cell BK139.out 2).trans rfl; have hfz9_0 := blk_frozen BK139.out 0; have hfz9_1 := blk_frozen BK139.out 1; have hfz9_2 := blk_frozen BK139.out 2) | ((with_reducible refine gate_callee (f := 92) rfl ?_); refine goesL_ (some 11) rfl rfl Try.func92 (by kernel_rfl) rfl #[.agg #[.slice Ao5 l0_0.length co5, .int .i64 a0_1, .int .i64 a0_2], .int .i64 a1] rfl (by (try simp only [List.map_toArray, List.map_cons, List.map_nil]); first | done | rfl | (simp only [List.length_drop, List.length_take]; rfl)) ?_; (with_reducible refine (lookasideref14_Of.calls k _ _ l0_0 a0_1 a0_2 a1 t141 _ ?side1 ?side2 A3.out).mono ?_); (case side1 => repeat (first | exact (Kd.R_reads' HO0_0.out).2.2 | (with_reducible refine Kd.C_alloc ?_ _) | (with_reducible refine Kd.C_drewN ?_ _) | (with_reducible refine Kd.C_drew ?_))); (case side2 => exact (Kd.R_reads' HO0_0.out).2.1); rintro e w10 ⟨rfl, hb⟩; refine ⟨_, rfl, ?_⟩; have n0_ := Aside0.mk (Kd.R_below (by (with_reducible repeat (first | apply Kd.R_alloc | apply Kd.R_drewN | apply Kd.R_drew)); exact HO0_0.out) hb); have n1_ := Aside0.mk (blk_below (g := gb139) (o := .cells #[.slice Ao5 l0_0.length co5, .int .i64 a0_1, .int .i64 a0_2] 67 (0, 0)) (by (with_reducible repeat (first | refine blk_drewN ?_ _ | refine blk_drew ?_ | refine blk_alloc ?_ _)); exact BK139.out) hb); have n2_ := Aside0.mk (blk_below (g := gb140) (o := .cells #[.slice none 0 0, .int .i64 0, .int .i64 0] 67 (0, 0)) (by (with_reducible repeat (first | refine blk_drewN ?_ _ | refine blk_drew ?_ | refine blk_alloc ?_ _)); exact BK140.out) hb); have n3_ := Aside0.mk (Kept.below (S := (fun _ => False)) (by repeat (first | (with_reducible first | exact HK.out | apply Kept.alloc | apply Kept.drewN | apply Kept.drew | refine Kept.setCell ?_ (.inr GW139.out) _ | refine Kept.setCell ?_ (.inr GW140.out) _) | exact HK.out)) hb); have n4_ := Aside0.mk (below_step (by repeat (first | (with_reducible first | exact HB.out | apply below_alloc | apply pw_below_drewN | apply below_drew1 | refine below_set ?_ GE139.out | refine below_set ?_ GE140.out) | exact HB.out)) hb); clear HO0_0; clear BK139; clear BK140; clear HK; clear HB; have HO0_0 := n0_; have BK139 := n1_; have BK140 := n2_; have HK := n3_; have HB := n4_; clear n0_ n1_ n2_ n3_ n4_; (try clear hb); (try clear hb2); (try clear hk); (try clear hi); have hcz11_0 : w10.cell? ⟨gb139, 0, none⟩ = some (.slice Ao5 l0_0.length co5) := (blk_cell BK139.out 0).trans rfl; have hcz11_1 : w10.cell? ⟨gb139, 1, none⟩ = some (.int .i64 a0_1) := (blk_cell BK139.out 1).trans rfl; have hcz11_2 : w10.cell? ⟨gb139, 2, none⟩ = some (.int .i64 a0_2) := (blk_cell BK139.out 2).trans rfl; have hfz11_0 := blk_frozen BK139.out 0; have hfz11_1 := blk_frozen BK139.out 1; have hfz11_2 := blk_frozen BK139.out 2; have hcz12_0 : w10.cell? ⟨gb140, 0, none⟩ = some (.slice none 0 0) := (blk_cell BK140.out 0).trans rfl; have hcz12_1 : w10.cell? ⟨gb140, 1, none⟩ = some (.int .i64 0) := (blk_cell BK140.out 1).trans rfl; have hcz12_2 : w10.cell? ⟨gb140, 2, none⟩ = some (.int .i64 0) := (blk_cell BK140.out 2).trans rfl; have hfz12_0 := blk_frozen BK140.out 0; have hfz12_1 := blk_frozen BK140.out 1; have hfz12_2 := blk_frozen BK140.out 2))
    refine bodyPost_ret (results_ctt rfl _ _ gb140 67 #[.slice Ao5 l0_0.length co5, .int .i64 a0_1, .int .i64 a0_2] (0, 0) _ rfl (by (with_reducible repeat (first | refine blk_drewN ?_ _ | refine blk_drew ?_ | refine blk_alloc ?_ _)); refine blk_put (cs := #[.slice Ao5 l0_0.length co5, .int .i64 a0_1, .int .i64 0]) ?_ 2 _ rfl; (with_reducible repeat (first | refine blk_drewN ?_ _ | refine blk_drew ?_ | refine blk_alloc ?_ _)); refine blk_put (cs := #[.slice Ao5 l0_0.length co5, .int .i64 0, .int .i64 0]) ?_ 1 _ rfl; (with_reducible repeat (first | refine blk_drewN ?_ _ | refine blk_drew ?_ | refine blk_alloc ?_ _)); refine blk_put (cs := #[.slice none 0 0, .int .i64 0, .int .i64 0]) ?_ 0 _ rfl; (with_reducible repeat (first | refine blk_drewN ?_ _ | refine blk_drew ?_ | refine blk_alloc ?_ _)); exact BK140.out) Try.underlying67 rfl (by kernel_rfl)) rfl ?_
    exact ⟨_, by first | rfl | (simp [errW_none, errW_some] <;> rfl) | (simp [*, errW_none, errW_some] <;> rfl), by (with_reducible repeat (first | apply Kd.R_alloc | apply Kd.R_drewN | apply Kd.R_drew)); exact Kd.R_mono (Kd.R_far (p := ⟨gb140, 2, none⟩) (Kd.R_far (p := ⟨gb140, 1, none⟩) (Kd.R_far (p := ⟨gb140, 0, none⟩) (Kd.R_types HO0_0.out BK140.out (by decide)) (fun _ hk => hk.2) (.slice Ao5 l0_0.length co5)) (fun _ hk => hk.2) (.int .i64 a0_1)) (fun _ hk => hk.2) (.int .i64 a0_2)) (fun _ hk => hk.1), by repeat (first | (with_reducible first | exact HB.out | apply below_alloc | apply pw_below_drewN | apply below_drew1 | refine below_set ?_ GE139.out | refine below_set ?_ GE140.out) | exact HB.out), by repeat (first | (with_reducible first | exact HK.out | apply Kept.alloc | apply Kept.drewN | apply Kept.drew | refine Kept.setCell ?_ (.inr GW139.out) _ | refine Kept.setCell ?_ (.inr GW140.out) _) | exact HK.out)⟩
  · rw [if_neg c4] at H
    have c4b0 : (t141 == 0) = false := beq_eq_false_iff_ne.mpr c4
    have c4b1 : (t141 != 0) = true := bne_iff_ne.mpr c4
    by_cases c13 : ([] : List Int).length + l0_0.length < 17592186044416
    · rw [if_pos c13] at H
      have LMc13 := Aside0.mk c13
      clear c13
      obtain ⟨y142, hy142⟩ : ∃ y_ : List Int, y_ = (([] : List Int) ++ l0_0) := ⟨_, rfl⟩
      replace H : (if 0 ≤ (wrap64 (t141 - 1)) then (if (wrap64 (t141 - 1)) < (y142.length : Int) then (some ((y142.set ((wrap64 (t141 - 1)) : Int).toNat (-1)), a0_1, a0_2, t141, 0)) else (none)) else (none)) = some (r1, r2, r3, r4, r5) := by first | (rw [hy142]; with_reducible exact H) | (have H2_ := (Option.bind_some _ _).symm.trans H; rw [hy142]; with_reducible exact H2_) | (have H2_ := (Option.bind_some _ _).symm.trans H; with_reducible exact H2_) | with_reducible exact H | (rw [hy142]; exact H) | exact H
      have Ny142 := Aside0.mk hy142
      clear hy142
      obtain ⟨ji14, hji14⟩ : ∃ j_ : Int, (wrap64 (t141 - 1)) = j_ := ⟨_, rfl⟩
      replace H : (if 0 ≤ (ji14) then (if (ji14) < (y142.length : Int) then (some ((y142.set ((ji14) : Int).toNat (-1)), a0_1, a0_2, t141, 0)) else (none)) else (none)) = some (r1, r2, r3, r4, r5) := by first | (rw [hji14] at H; exact H) | (simp only [hji14] at H ⊢; exact H)
      (try rw [hji14] at A3)
      have hji14w : (IntKind.i64.wrap (t141 - 1)) = ji14 := (i64_w _).trans hji14
      by_cases c15 : 0 ≤ (ji14)
      · rw [if_pos c15] at H
        have c15b0 : decide (0 ≤ (ji14)) = true := decide_eq_true c15
        clear c15
        by_cases c16 : (ji14) < (y142.length : Int)
        · rw [if_pos c16] at H
          have c16b0 : decide ((ji14) < (y142.length : Int)) = true := decide_eq_true c16
          clear c16
          obtain ⟨y145, hy145⟩ : ∃ y_ : List Int, y_ = (y142.set ((ji14) : Int).toNat (-1)) := ⟨_, rfl⟩
          replace H : (some (y145, a0_1, a0_2, t141, 0)) = some (r1, r2, r3, r4, r5) := by first | (rw [hy145]; with_reducible exact H) | (have H2_ := (Option.bind_some _ _).symm.trans H; rw [hy145]; with_reducible exact H2_) | (have H2_ := (Option.bind_some _ _).symm.trans H; with_reducible exact H2_) | with_reducible exact H | (rw [hy145]; exact H) | exact H
          have Ny145 := Aside0.mk hy145
          clear hy145
          simp only [Option.some.injEq, Prod.mk.injEq] at H
          obtain ⟨rfl, rfl, rfl, rfl, rfl⟩ := H
          obtain ⟨Ao18, co18, eo18⟩ := Kd.R_slice HO0_0.out
          subst eo18
          go_enter Try.func74, Try.ntmps74
          go_wp2_with (first | ((with_reducible refine gate_dst (N := 2) rfl ?_); refine box_event ?hg (N := 2) ?hd (cs := #[.slice Ao18 l0_0.length co18, .int .i64 a0_1, .int .i64 a0_2]) (t := 67) ?hr ?_; (case hd => rfl); (case hg => rfl); (case hr => first | (go_simp; done) | (go_simp; rfl)); intro gb139 hg w19 hbox hb; have n0_ := Aside0.mk (Kd.R_below (by (with_reducible repeat (first | apply Kd.R_alloc | apply Kd.R_drewN | apply Kd.R_drew)); exact HO0_0.out) hb); have n1_ := Aside0.mk (Kept.below (S := (fun _ => False)) (by repeat (first | (with_reducible first | exact HK.out | apply Kept.alloc | apply Kept.drewN | apply Kept.drew) | exact HK.out)) hb); have n2_ := Aside0.mk (below_step (by repeat (first | (with_reducible first | exact HB.out | apply below_alloc | apply pw_below_drewN | apply below_drew1) | exact HB.out)) hb); have n3_ := Aside0.mk (hbox); have n4_ := Aside0.mk ((by rw [hg]; exact (by first | exact HK.out.1 | exact (show Kept w _ (fun _ => False) from by repeat (first | (with_reducible first | exact HK.out | apply Kept.alloc | apply Kept.drewN | apply Kept.drew) | exact HK.out)).1) : w.heap.size ≤ gb139)); have n5_ := Aside0.mk ((by rw [hg]; exact (below_size (by repeat (first | (with_reducible first | exact HB.out | apply below_alloc | apply pw_below_drewN | apply below_drew1) | exact HB.out))) : w0.heap.size ≤ gb139)); clear HO0_0; clear HK; clear HB; have HO0_0 := n0_; have HK := n1_; have HB := n2_; have BK139 := n3_; have GW139 := n4_; have GE139 := n5_; clear n0_ n1_ n2_ n3_ n4_ n5_; clear hb hbox hg) | ((with_reducible refine gate_dst (N := 4) rfl ?_); refine box_event ?hg (N := 4) ?hd (cs := #[.slice none 0 0, .int .i64 0, .int .i64 0]) (t := 67) ?hr ?_; (case hd => rfl); (case hg => rfl); (case hr => first | (go_simp; done) | (go_simp; rfl)); intro gb140 hg w20 hbox hb; have n0_ := Aside0.mk (Kd.R_below (by (with_reducible repeat (first | apply Kd.R_alloc | apply Kd.R_drewN | apply Kd.R_drew)); exact HO0_0.out) hb); have n1_ := Aside0.mk (blk_below (g := gb139) (o := .cells #[.slice Ao18 l0_0.length co18, .int .i64 a0_1, .int .i64 a0_2] 67 (0, 0)) (by (with_reducible repeat (first | refine blk_drewN ?_ _ | refine blk_drew ?_ | refine blk_alloc ?_ _)); exact BK139.out) hb); have n2_ := Aside0.mk (Kept.below (S := (fun _ => False)) (by repeat (first | (with_reducible first | exact HK.out | apply Kept.alloc | apply Kept.drewN | apply Kept.drew | refine Kept.setCell ?_ (.inr GW139.out) _) | exact HK.out)) hb); have n3_ := Aside0.mk (below_step (by repeat (first | (with_reducible first | exact HB.out | apply below_alloc | apply pw_below_drewN | apply below_drew1 | refine below_set ?_ GE139.out) | exact HB.out)) hb); have n4_ := Aside0.mk (hbox); have n5_ := Aside0.mk ((by rw [hg]; exact (by first | exact HK.out.1 | exact (show Kept w _ (fun _ => False) from by repeat (first | (with_reducible first | exact HK.out | apply Kept.alloc | apply Kept.drewN | apply Kept.drew | refine Kept.setCell ?_ (.inr GW139.out) _) | exact HK.out)).1) : w.heap.size ≤ gb140)); have n6_ := Aside0.mk ((by rw [hg]; exact (below_size (by repeat (first | (with_reducible first | exact HB.out | apply below_alloc | apply pw_below_drewN | apply below_drew1 | refine below_set ?_ GE139.out) | exact HB.out))) : w0.heap.size ≤ gb140)); have n7_ := Aside0.mk ((by rw [hg]; exact Nat.ne_of_lt (blk_lt (g := gb139) (o := .cells #[.slice Ao18 l0_0.length co18, .int .i64 a0_1, .int .i64 a0_2] 67 (0, 0)) (by (with_reducible repeat (first | refine blk_drewN ?_ _ | refine blk_drew ?_ | refine blk_alloc ?_ _)); exact BK139.out)) : gb139 ≠ gb140)); have n8_ := Aside0.mk ((by rw [hg]; exact Nat.ne_of_gt (blk_lt (g := gb139) (o := .cells #[.slice Ao18 l0_0.length co18, .int .i64 a0_1, .int .i64 a0_2] 67 (0, 0)) (by (with_reducible repeat (first | refine blk_drewN ?_ _ | refine blk_drew ?_ | refine blk_alloc ?_ _)); exact BK139.out)) : gb140 ≠ gb139)); clear HO0_0; clear BK139; clear HK; clear HB; have HO0_0 := n0_; have BK139 := n1_; have HK := n2_; have HB := n3_; have BK140 := n4_; have GW140 := n5_; have GE140 := n6_; have NB139_140 := n7_; have NB140_139 := n8_; clear n0_ n1_ n2_ n3_ n4_ n5_ n6_ n7_ n8_; clear hb hbox hg; have hnb21 := NB139_140.out; have hnc21 := NB140_139.out; have hcz22_0 : w20.cell? ⟨gb139, 0, none⟩ = some (.slice Ao18 l0_0.length co18) := (blk_cell BK139.out 0).trans rfl; have hcz22_1 : w20.cell? ⟨gb139, 1, none⟩ = some (.int .i64 a0_1) := (blk_cell BK139.out 1).trans rfl; have hcz22_2 : w20.cell? ⟨gb139, 2, none⟩ = some (.int .i64 a0_2) := (blk_cell BK139.out 2).trans rfl; have hfz22_0 := blk_frozen BK139.out 0; have hfz22_1 := blk_frozen BK139.out 1; have hfz22_2 := blk_frozen BK139.out 2) | ((with_reducible refine gate_callee (f := 92) rfl ?_); refine goesL_ (some 11) rfl rfl Try.func92 (by kernel_rfl) rfl #[.agg #[.slice Ao18 l0_0.length co18, .int .i64 a0_1, .int .i64 a0_2], .int .i64 a1] rfl (by (try simp only [List.map_toArray, List.map_cons, List.map_nil]); first | done | rfl | (simp only [List.length_drop, List.length_take]; rfl)) ?_; (with_reducible refine (lookasideref14_Of.calls k _ _ l0_0 a0_1 a0_2 a1 t141 _ ?side1 ?side2 A3.out).mono ?_); (case side1 => repeat (first | exact (Kd.R_reads' HO0_0.out).2.2 | (with_reducible refine Kd.C_alloc ?_ _) | (with_reducible refine Kd.C_drewN ?_ _) | (with_reducible refine Kd.C_drew ?_))); (case side2 => exact (Kd.R_reads' HO0_0.out).2.1); rintro e w23 ⟨rfl, hb⟩; refine ⟨_, rfl, ?_⟩; have n0_ := Aside0.mk (Kd.R_below (by (with_reducible repeat (first | apply Kd.R_alloc | apply Kd.R_drewN | apply Kd.R_drew)); exact HO0_0.out) hb); have n1_ := Aside0.mk (blk_below (g := gb139) (o := .cells #[.slice Ao18 l0_0.length co18, .int .i64 a0_1, .int .i64 a0_2] 67 (0, 0)) (by (with_reducible repeat (first | refine blk_drewN ?_ _ | refine blk_drew ?_ | refine blk_alloc ?_ _)); exact BK139.out) hb); have n2_ := Aside0.mk (blk_below (g := gb140) (o := .cells #[.slice none 0 0, .int .i64 0, .int .i64 0] 67 (0, 0)) (by (with_reducible repeat (first | refine blk_drewN ?_ _ | refine blk_drew ?_ | refine blk_alloc ?_ _)); exact BK140.out) hb); have n3_ := Aside0.mk (Kept.below (S := (fun _ => False)) (by repeat (first | (with_reducible first | exact HK.out | apply Kept.alloc | apply Kept.drewN | apply Kept.drew | refine Kept.setCell ?_ (.inr GW139.out) _ | refine Kept.setCell ?_ (.inr GW140.out) _) | exact HK.out)) hb); have n4_ := Aside0.mk (below_step (by repeat (first | (with_reducible first | exact HB.out | apply below_alloc | apply pw_below_drewN | apply below_drew1 | refine below_set ?_ GE139.out | refine below_set ?_ GE140.out) | exact HB.out)) hb); clear HO0_0; clear BK139; clear BK140; clear HK; clear HB; have HO0_0 := n0_; have BK139 := n1_; have BK140 := n2_; have HK := n3_; have HB := n4_; clear n0_ n1_ n2_ n3_ n4_; (try clear hb); (try clear hb2); (try clear hk); (try clear hi); have hcz24_0 : w23.cell? ⟨gb139, 0, none⟩ = some (.slice Ao18 l0_0.length co18) := (blk_cell BK139.out 0).trans rfl; have hcz24_1 : w23.cell? ⟨gb139, 1, none⟩ = some (.int .i64 a0_1) := (blk_cell BK139.out 1).trans rfl; have hcz24_2 : w23.cell? ⟨gb139, 2, none⟩ = some (.int .i64 a0_2) := (blk_cell BK139.out 2).trans rfl; have hfz24_0 := blk_frozen BK139.out 0; have hfz24_1 := blk_frozen BK139.out 1; have hfz24_2 := blk_frozen BK139.out 2) | ((with_reducible refine gate_builtin (b := .append) (xs := #[.tmp 15, .tmp 17]) rfl ?_); at_builtin; refine Kd.R_append_rows (Kd.int .i64) (w0 := w0) w0.heap.size rfl (.tmp 15) (.tmp 17) 43 3 (.int .i64 0) 8 rfl Try.underlying43 info3 rfl (by decide) (by omega) (.slice none 0 0) ([] : List Int) l0_0 _ _ _ (fun k_ => (False ∨ w.heap.size ≤ k_) ∧ some k_ ≠ (.slice Ao18 l0_0.length co18 : Value).ownBlock) (fun _ => False) rfl rfl ?aO ?aR (fun _ _ h => h) (fun _ h => h.elim) ?aF ?aB ?aS ?aL ?_; (case aR => repeat (first | exact (Kd.R_reads' HO0_0.out).2.2 | (with_reducible refine Kd.C_alloc ?_ _) | (with_reducible refine Kd.C_drewN ?_ _) | (with_reducible refine Kd.C_drew ?_))); (case aB => exact (by repeat (first | (with_reducible first | exact HB.out | apply below_alloc | apply pw_below_drewN | apply below_drew1 | refine below_set ?_ GE139.out | refine below_set ?_ GE140.out) | exact HB.out))); (case aF => exact (fun k_ hk => ⟨(.inr (Nat.le_trans (by first | exact HK.out.1 | exact (show Kept w _ (fun _ => False) from by repeat (first | (with_reducible first | exact HK.out | apply Kept.alloc | apply Kept.drewN | apply Kept.drew | refine Kept.setCell ?_ (.inr GW139.out) _ | refine Kept.setCell ?_ (.inr GW140.out) _) | exact HK.out)).1) hk)), Kd.fresh' (Kd.R_lt (by (with_reducible repeat (first | apply Kd.R_alloc | apply Kd.R_drewN | apply Kd.R_drew)); exact HO0_0.out)) k_ hk⟩)); (case aO => exact ((Kd.R_nil _ _ _ _ (fun k_ => (False ∨ w.heap.size ≤ k_) ∧ some k_ ≠ (.slice Ao18 l0_0.length co18 : Value).ownBlock)))); (case aS => exact (below_size (by repeat (first | (with_reducible first | exact HB.out | apply below_alloc | apply pw_below_drewN | apply below_drew1 | refine below_set ?_ GE139.out | refine below_set ?_ GE140.out) | exact HB.out)))); (case aL => have := LMc13.out; omega); intro v143 w25 ho hb hg hat; rw [← Ny142.out] at ho; have n0_ := Aside0.mk (Kd.R_after (Kd.R_apart_nil (by (with_reducible repeat (first | apply Kd.R_alloc | apply Kd.R_drewN | apply Kd.R_drew)); exact HO0_0.out)) hg hat); have n1_ := Aside0.mk (blk_grown (g := gb139) (o := .cells #[.slice Ao18 l0_0.length co18, .int .i64 a0_1, .int .i64 a0_2] 67 (0, 0)) (by (with_reducible repeat (first | refine blk_drewN ?_ _ | refine blk_drew ?_ | refine blk_alloc ?_ _)); exact BK139.out) hg (by simp [Value.ownBlock])); have n2_ := Aside0.mk (blk_grown (g := gb140) (o := .cells #[.slice none 0 0, .int .i64 0, .int .i64 0] 67 (0, 0)) (by (with_reducible repeat (first | refine blk_drewN ?_ _ | refine blk_drew ?_ | refine blk_alloc ?_ _)); exact BK140.out) hg (by simp [Value.ownBlock])); have n3_ := Aside0.mk (hb); have n4_ := Aside0.mk (Kept.of_grown (S := (fun _ => False)) hg (by repeat (first | (with_reducible first | exact HK.out | apply Kept.alloc | apply Kept.drewN | apply Kept.drew | refine Kept.setCell ?_ (.inr GW139.out) _ | refine Kept.setCell ?_ (.inr GW140.out) _) | exact HK.out)) (fun k_ e_ => by simp [Value.ownBlock] at e_)); have n5_ := Aside0.mk (ho); clear HO0_0; clear BK139; clear BK140; clear HB; clear HK; have HO0_0 := n0_; have BK139 := n1_; have BK140 := n2_; have HB := n3_; have HK := n4_; have HO144 := n5_; clear n0_ n1_ n2_ n3_ n4_ n5_; clear ho hb hg hat; have p17 : 0 ≤ ((ji14) : Int) := of_decide_eq_true (by first | (with_reducible assumption) | assumption); have q17 : ((ji14) : Int) < ((y142.length : Int) : Int) := of_decide_eq_true (by first | (with_reducible assumption) | assumption); obtain ⟨go17, co17, eo17, gb17, gl17, cl17, HG17⟩ := Kd.R_form HO144.out (by omega); (first | cases eo17 | (injection eo17 with ea_ en_ ec_; (first | subst ea_ | (injection ea_ with ea_; subst ea_)); subst ec_; clear en_)); have GB17 := Aside0.mk gb17; have GG17 := Aside0.mk HG17; clear gb17 gl17 HG17; have HMgo17 := Aside0.mk (show (False ∨ w.heap.size ≤ go17) from (HO144.out.1 _ rfl).1); obtain ⟨hx17_0, hf17_0⟩ := Kd.R_celln 0 HO144.out ((ji14) : Int) p17 q17; replace p17 := eq_true p17; replace q17 := eq_true q17; obtain ⟨hy26_, hz26_⟩ := Kd.R_celln 0 HO144.out ((ji14) : Int) (of_decide_eq_true (by first | (with_reducible assumption) | assumption)) (of_decide_eq_true (by first | (with_reducible assumption) | assumption)); have HP26 := Kd.R_putg HO144.out ((ji14) : Int) (-1)) | ((with_reducible refine gate_store (t := 3) (p := 22) rfl ?_); refine store_event (t := 3) (p := 22) (v := ?vo_w27) (w1 := (w25.setCell ⟨go17, ((ji14) : Int).toNat, none⟩ (.int .i64 (-1)))) ?hg ?ho ?hn ?hr ?_; (case ho => rfl); (case hg => rfl); (case hn => rfl); (case hr => first | (go_simp; done) | (go_simp; rfl)); intro w27 hw; have hg : w25.grownBy w27 (some go17) := (by rw [hw]; exact HP26.2); have hp_ : Kd.R (Kd.int .i64) 3 w27 w0.heap.size (fun k_ => (False ∨ w.heap.size ≤ k_) ∧ some k_ ≠ (.slice Ao18 l0_0.length co18 : Value).ownBlock) (.slice (some ⟨go17, 0, none⟩) y142.length co17) y145 := (by rw [hw, Ny145.out]; exact HP26.1); clear HP26; have n0_ := Aside0.mk (Kd.R_after (v := (.slice (some ⟨go17, 0, none⟩) y142.length co17)) (v1 := (.slice (some ⟨go17, 0, none⟩) y142.length co17)) (ok := (fun k_ => (P0_0_ k_ ∨ w.heap.size ≤ k_))) (by (with_reducible repeat (first | apply Kd.R_alloc | apply Kd.R_drewN | apply Kd.R_drew)); exact HO0_0.out) hg (.inl rfl)); have n1_ := Aside0.mk (blk_grown (g := gb139) (o := .cells #[.slice Ao18 l0_0.length co18, .int .i64 a0_1, .int .i64 a0_2] 67 (0, 0)) (by (with_reducible repeat (first | refine blk_drewN ?_ _ | refine blk_drew ?_ | refine blk_alloc ?_ _)); exact BK139.out) hg (Kd.R_ne HO144.out BK139.out (by decide))); have n2_ := Aside0.mk (blk_grown (g := gb140) (o := .cells #[.slice none 0 0, .int .i64 0, .int .i64 0] 67 (0, 0)) (by (with_reducible repeat (first | refine blk_drewN ?_ _ | refine blk_drew ?_ | refine blk_alloc ?_ _)); exact BK140.out) hg (Kd.R_ne HO144.out BK140.out (by decide))); have n3_ := Aside0.mk (hp_); have n4_ := Aside0.mk ((by rw [hw]; exact below_set (HB.out) GB17.out : Below w0.heap.size w0 w27)); have n5_ := Aside0.mk (Kept.of_grown (S := (fun _ => False)) hg (by repeat (first | (with_reducible first | exact HK.out | apply Kept.alloc | apply Kept.drewN | apply Kept.drew | refine Kept.setCell ?_ (.inr GW139.out) _ | refine Kept.setCell ?_ (.inr GW140.out) _) | exact HK.out)) (fun k_ e_ => (HO144.out.1 k_ e_).1)); clear HO0_0; clear BK139; clear BK140; clear HO144; clear HB; clear HK; have HO0_0 := n0_; have BK139 := n1_; have BK140 := n2_; have HO144 := n3_; have HB := n4_; have HK := n5_; clear n0_ n1_ n2_ n3_ n4_ n5_; clear hg hw hp_; have hcz28_0 : w27.cell? ⟨gb139, 0, none⟩ = some (.slice Ao18 l0_0.length co18) := (blk_cell BK139.out 0).trans rfl; have hcz28_1 : w27.cell? ⟨gb139, 1, none⟩ = some (.int .i64 a0_1) := (blk_cell BK139.out 1).trans rfl; have hcz28_2 : w27.cell? ⟨gb139, 2, none⟩ = some (.int .i64 a0_2) := (blk_cell BK139.out 2).trans rfl; have hfz28_0 := blk_frozen BK139.out 0; have hfz28_1 := blk_frozen BK139.out 1; have hfz28_2 := blk_frozen BK139.out 2; have hcz29_0 : w27.cell? ⟨gb140, 0, none⟩ = some (.slice none 0 0) := (blk_cell BK140.out 0).trans rfl; have hcz29_1 : w27.cell? ⟨gb140, 1, none⟩ = some (.int .i64 0) := (blk_cell BK140.out 1).trans rfl; have hcz29_2 : w27.cell? ⟨gb140, 2, none⟩ = some (.int .i64 0) := (blk_cell BK140.out 2).trans rfl; have hfz29_0 := blk_frozen BK140.out 0; have hfz29_1 := blk_frozen BK140.out 1; have hfz29_2 := blk_frozen BK140.out 2))
          refine bodyPost_ret (results_ctt rfl _ _ gb140 67 #[.slice (some ⟨go17, 0, none⟩) y142.length co17, .int .i64 a0_1, .int .i64 a0_2] (0, 0) _ rfl (by (with_reducible repeat (first | refine blk_drewN ?_ _ | refine blk_drew ?_ | refine blk_alloc ?_ _)); refine blk_put (cs := #[.slice (some ⟨go17, 0, none⟩) y142.length co17, .int .i64 a0_1, .int .i64 0]) ?_ 2 _ rfl; (with_reducible repeat (first | refine blk_drewN ?_ _ | refine blk_drew ?_ | refine blk_alloc ?_ _)); refine blk_put (cs := #[.slice (some ⟨go17, 0, none⟩) y142.length co17, .int .i64 0, .int .i64 0]) ?_ 1 _ rfl; (with_reducible repeat (first | refine blk_drewN ?_ _ | refine blk_drew ?_ | refine blk_alloc ?_ _)); refine blk_put (cs := #[.slice none 0 0, .int .i64 0, .int .i64 0]) ?_ 0 _ rfl; (with_reducible repeat (first | refine blk_drewN ?_ _ | refine blk_drew ?_ | refine blk_alloc ?_ _)); refine blk_far ?_ NB140_139.out _; (with_reducible repeat (first | refine blk_drewN ?_ _ | refine blk_drew ?_ | refine blk_alloc ?_ _)); exact BK140.out) Try.underlying67 rfl (by kernel_rfl)) rfl ?_
          exact ⟨_, by first | rfl | (simp [errW_none, errW_some] <;> rfl) | (simp only [← hji14]; first | rfl | (simp [errW_none, errW_some] <;> rfl)) | (simp [*, errW_none, errW_some] <;> rfl), by (with_reducible repeat (first | apply Kd.R_alloc | apply Kd.R_drewN | apply Kd.R_drew)); exact Kd.R_mono (Kd.R_far (p := ⟨gb140, 2, none⟩) (Kd.R_far (p := ⟨gb140, 1, none⟩) (Kd.R_far (p := ⟨gb140, 0, none⟩) (Kd.R_far (p := ⟨gb139, 0, none⟩) (Kd.R_types (Kd.R_types HO144.out BK139.out (by decide)) BK140.out (by decide)) (fun _ hk => hk.1.2) (.slice (some ⟨go17, 0, none⟩) y142.length co17)) (fun _ hk => hk.2) (.slice (some ⟨go17, 0, none⟩) y142.length co17)) (fun _ hk => hk.2) (.int .i64 a0_1)) (fun _ hk => hk.2) (.int .i64 a0_2)) (fun _ hk => .inr (hk.1.1.1.elim False.elim id)), by repeat (first | (with_reducible first | exact HB.out | apply below_alloc | apply pw_below_drewN | apply below_drew1 | refine below_set ?_ GE139.out | refine below_set ?_ GE140.out) | exact HB.out), by repeat (first | (with_reducible first | exact HK.out | apply Kept.alloc | apply Kept.drewN | apply Kept.drew | refine Kept.setCell ?_ (.inr GW139.out) _ | refine Kept.setCell ?_ (.inr GW140.out) _) | exact HK.out)⟩
        · rw [if_neg c16] at H
          exact absurd H (by simp)
      · rw [if_neg c15] at H
        exact absurd H (by simp)
    · rw [if_neg c13] at H
      exact absurd H (by simp)

/-! ### lookasideref14_has: function 94 -/
set_option maxHeartbeats 8000000 in
set_option maxRecDepth 100000 in
theorem lookasideref14_Steal_keep (k : Nat) (P0_0_ : Nat → Prop) (u9000_ : Value) (l0_0 : List Int) (a0_1 : Int) (a0_2 : Int) (a1 : Int) (a2 : Int) (r1 : List Int) (r2 : Int) (r3 : Int) (r4 : Int) (r5 : Int) (w0 w : World) (hB : Below w0.heap.size w0 w) (ho0_0 : Kd.R (Kd.int .i64) 3 w w0.heap.size P0_0_ u9000_ l0_0) (h : lookasideref14_Steal.f k l0_0 a0_1 a0_2 a1 a2 = some (r1, r2, r3, r4, r5)) :
    Calls Try.prog 77 #[.agg #[u9000_, .int .i64 a0_1, .int .i64 a0_2], .int .i64 a1, .int .i64 a2] w fun e w' => ∃ v0_ : Value, e = .returned (.tuple #[.agg #[v0_, .int .i64 r2, .int .i64 r3], .int .i64 r4, .int .i64 r5]) ∧ Kd.R (Kd.int .i64) 3 w' w0.heap.size (fun k_ => (P0_0_ k_ ∨ w.heap.size ≤ k_)) v0_ r1 ∧ Below w0.heap.size w0 w' ∧ Kept w w' (fun _ => False) := by
  have hu67 := Try.underlying67
  have HO0_0 := Aside0.mk (show Kd.R (Kd.int .i64) 3 w w0.heap.size (fun k_ => (P0_0_ k_ ∨ w.heap.size ≤ k_)) u9000_ l0_0 from Kd.R_mono ho0_0 (fun k_ hk => (.inl hk)))
  have HK := Aside0.mk (Kept.refl w (fun _ => False))
  have HW0 := Aside0.mk hB.size
  have HB := Aside0.mk hB
  clear hB
  have H : (if a2 < 0 then (lookasideref14_Steal.j0 k a1 a2 true l0_0 a0_1 a0_2) else (if a1 < 1 then (lookasideref14_Steal.j0 k a1 a2 true l0_0 a0_1 a0_2) else (lookasideref14_Steal.j0 k a1 a2 (decide (a1 > (l0_0.length : Int))) l0_0 a0_1 a0_2))) = some (r1, r2, r3, r4, r5) := h
  clear h
  have HC4 := Aside0.mk H
  clear H
  obtain ⟨Ao5, co5, eo5⟩ := Kd.R_slice HO0_0.out
  subst eo5
  go_enter Try.func77, Try.ntmps77
  go_upto_region 1 with (first | ((with_reducible refine gate_dst (N := 3) rfl ?_); (try (refine gate_guard (by rfl) ?_; dsimp only)); refine box_event ?hg (N := 3) ?hd (cs := #[.slice Ao5 l0_0.length co5, .int .i64 a0_1, .int .i64 a0_2]) (t := 67) ?hr ?_; (case hd => rfl); (case hg => rfl); (case hr => first | (go_simp; done) | (go_simp; rfl)); intro gb152 hg w6 hbox hb; have n0_ := Aside0.mk (Kd.R_below (by (with_reducible repeat (first | apply Kd.R_alloc | apply Kd.R_drewN | apply Kd.R_drew)); exact HO0_0.out) hb); have n1_ := Aside0.mk (Kept.below (S := (fun _ => False)) (by repeat (first | (with_reducible first | exact HK.out | apply Kept.alloc | apply Kept.drewN | apply Kept.drew) | exact HK.out)) hb); have n2_ := Aside0.mk (below_step (by repeat (first | (with_reducible first | exact HB.out | apply below_alloc | apply pw_below_drewN | apply below_drew1) | exact HB.out)) hb); have n3_ := Aside0.mk (hbox); have n4_ := Aside0.mk ((by rw [hg]; exact (by first | exact HK.out.1 | exact (show Kept w _ (fun _ => False) from by repeat (first | (with_reducible first | exact HK.out | apply Kept.alloc | apply Kept.drewN | apply Kept.drew) | exact HK.out)).1) : w.heap.size ≤ gb152)); have n5_ := Aside0.mk ((by rw [hg]; exact (below_size (by repeat (first | (with_reducible first | exact HB.out | apply below_alloc | apply pw_below_drewN | apply below_drew1) | exact HB.out))) : w0.heap.size ≤ gb152)); clear HO0_0; clear HK; clear HB; have HO0_0 := n0_; have HK := n1_; have HB := n2_; have BK152 := n3_; have GW152 := n4_; have GE152 := n5_; clear n0_ n1_ n2_ n3_ n4_ n5_; clear hb hbox hg) | ((with_reducible refine gate_dst (N := 6) rfl ?_); (try (refine gate_guard (by rfl) ?_; dsimp only)); refine box_event ?hg (N := 6) ?hd (cs := #[.slice none 0 0, .int .i64 0, .int .i64 0]) (t := 67) ?hr ?_; (case hd => rfl); (case hg => rfl); (case hr => first | (go_simp; done) | (go_simp; rfl)); intro gb153 hg w7 hbox hb; have n0_ := Aside0.mk (Kd.R_below (by (with_reducible repeat (first | apply Kd.R_alloc | apply Kd.R_drewN | apply Kd.R_drew)); exact HO0_0.out) hb); have n1_ := Aside0.mk (blk_below (g := gb152) (o := .cells #[.slice Ao5 l0_0.length co5, .int .i64 a0_1, .int .i64 a0_2] 67 (0, 0)) (by (with_reducible repeat (first | refine blk_drewN ?_ _ | refine blk_drew ?_ | refine blk_alloc ?_ _)); exact BK152.out) hb); have n2_ := Aside0.mk (Kept.below (S := (fun _ => False)) (by repeat (first | (with_reducible first | exact HK.out | apply Kept.alloc | apply Kept.drewN | apply Kept.drew | refine Kept.setCell ?_ (.inr GW152.out) _) | exact HK.out)) hb); have n3_ := Aside0.mk (below_step (by repeat (first | (with_reducible first | exact HB.out | apply below_alloc | apply pw_below_drewN | apply below_drew1 | refine below_set ?_ GE152.out) | exact HB.out)) hb); have n4_ := Aside0.mk (hbox); have n5_ := Aside0.mk ((by rw [hg]; exact (by first | exact HK.out.1 | exact (show Kept w _ (fun _ => False) from by repeat (first | (with_reducible first | exact HK.out | apply Kept.alloc | apply Kept.drewN | apply Kept.drew | refine Kept.setCell ?_ (.inr GW152.out) _) | exact HK.out)).1) : w.heap.size ≤ gb153)); have n6_ := Aside0.mk ((by rw [hg]; exact (below_size (by repeat (first | (with_reducible first | exact HB.out | apply below_alloc | apply pw_below_drewN | apply below_drew1 | refine below_set ?_ GE152.out) | exact HB.out))) : w0.heap.size ≤ gb153)); have n7_ := Aside0.mk ((by rw [hg]; exact Nat.ne_of_lt (blk_lt (g := gb152) (o := .cells #[.slice Ao5 l0_0.length co5, .int .i64 a0_1, .int .i64 a0_2] 67 (0, 0)) (by (with_reducible repeat (first | refine blk_drewN ?_ _ | refine blk_drew ?_ | refine blk_alloc ?_ _)); exact BK152.out)) : gb152 ≠ gb153)); have n8_ := Aside0.mk ((by rw [hg]; exact Nat.ne_of_gt (blk_lt (g := gb152) (o := .cells #[.slice Ao5 l0_0.length co5, .int .i64 a0_1, .int .i64 a0_2] 67 (0, 0)) (by (with_reducible repeat (first | refine blk_drewN ?_ _ | refine blk_drew ?_ | refine blk_alloc ?_ _)); exact BK152.out)) : gb153 ≠ gb152)); clear HO0_0; clear BK152; clear HK; clear HB; have HO0_0 := n0_; have BK152 := n1_; have HK := n2_; have HB := n3_; have BK153 := n4_; have GW153 := n5_; have GE153 := n6_; have NB152_153 := n7_; have NB153_152 := n8_; clear n0_ n1_ n2_ n3_ n4_ n5_ n6_ n7_ n8_; clear hb hbox hg))
  (try simp only [Act.put, List.setIfInBounds_toArray, List.set_cons_zero, List.set_cons_succ])
  go_cut [22] (fun v22 wc => ∃ (kq : Nat) (x22_3 : Bool), v22 = .bool x22_3 ∧ Aside0 (lookasideref14_Steal.j0 kq a1 a2 x22_3 l0_0 a0_1 a0_2 = some (r1, r2, r3, r4, r5)) ∧ Aside0 (kq ≤ k) ∧ Aside0 (Kd.R (Kd.int .i64) 3 wc w0.heap.size (fun k_ => (P0_0_ k_ ∨ w.heap.size ≤ k_)) (.slice Ao5 l0_0.length co5) l0_0) ∧ Aside0 (wc.heap[gb152]? = some (.cells #[(.slice Ao5 l0_0.length co5), .int .i64 a0_1, .int .i64 a0_2] 67 (0, 0))) ∧ Aside0 (wc.heap[gb153]? = some (.cells #[(.slice none 0 0), .int .i64 0, .int .i64 0] 67 (0, 0))) ∧ Aside0 (Kept w wc (fun _ => False)) ∧ Aside0 (Below w0.heap.size w0 wc))
  case first =>
    have H := HC4.out
    clear HC4
    by_cases c8 : a2 < 0
    · rw [if_pos c8] at H
      have c8b0 : decide (a2 < 0) = true := decide_eq_true c8
      clear c8
      (first | rw [c8b0] | (simp only [i64_w, i32_w]; rw [c8b0]) | skip)
      have H' := Aside0.mk H
      clear H
      go_wp2
      go_meet
      case rel => exact ⟨_, (true), (by first | rfl | (simp; done) | (simp [*]; done)), H', ⟨by first | omega | exact Nat.le_refl _⟩, ⟨by (with_reducible repeat (first | apply Kd.R_alloc | apply Kd.R_drewN | apply Kd.R_drew)); exact HO0_0.out⟩, ⟨by (with_reducible repeat (first | refine blk_drewN ?_ _ | refine blk_drew ?_ | refine blk_alloc ?_ _)); exact BK152.out⟩, ⟨by (with_reducible repeat (first | refine blk_drewN ?_ _ | refine blk_drew ?_ | refine blk_alloc ?_ _)); exact BK153.out⟩, ⟨by repeat (first | (with_reducible first | exact HK.out | apply Kept.alloc | apply Kept.drewN | apply Kept.drew | refine Kept.setCell ?_ (.inr GW152.out) _ | refine Kept.setCell ?_ (.inr GW153.out) _) | exact HK.out)⟩, ⟨by repeat (first | (with_reducible first | exact HB.out | apply below_alloc | apply pw_below_drewN | apply below_drew1 | refine below_set ?_ GE152.out | refine below_set ?_ GE153.out) | exact HB.out)⟩⟩
    · rw [if_neg c8] at H
      have c8b0 : decide (a2 < 0) = false := decide_eq_false c8
      clear c8
      (first | rw [c8b0] | (simp only [i64_w, i32_w]; rw [c8b0]) | skip)
      by_cases c9 : a1 < 1
      · rw [if_pos c9] at H
        have c9b0 : decide (a1 < 1) = true := decide_eq_true c9
        clear c9
        have H' := Aside0.mk H
        clear H
        go_wp2
        go_meet
        case rel => exact ⟨_, (true), (by first | rfl | (simp; done) | (simp [*]; done)), H', ⟨by first | omega | exact Nat.le_refl _⟩, ⟨by (with_reducible repeat (first | apply Kd.R_alloc | apply Kd.R_drewN | apply Kd.R_drew)); exact HO0_0.out⟩, ⟨by (with_reducible repeat (first | refine blk_drewN ?_ _ | refine blk_drew ?_ | refine blk_alloc ?_ _)); exact BK152.out⟩, ⟨by (with_reducible repeat (first | refine blk_drewN ?_ _ | refine blk_drew ?_ | refine blk_alloc ?_ _)); exact BK153.out⟩, ⟨by repeat (first | (with_reducible first | exact HK.out | apply Kept.alloc | apply Kept.drewN | apply Kept.drew | refine Kept.setCell ?_ (.inr GW152.out) _ | refine Kept.setCell ?_ (.inr GW153.out) _) | exact HK.out)⟩, ⟨by repeat (first | (with_reducible first | exact HB.out | apply below_alloc | apply pw_below_drewN | apply below_drew1 | refine below_set ?_ GE152.out | refine below_set ?_ GE153.out) | exact HB.out)⟩⟩
      · rw [if_neg c9] at H
        have c9b0 : decide (a1 < 1) = false := decide_eq_false c9
        clear c9
        have H' := Aside0.mk H
        clear H
        have hnb10 := NB152_153.out
        have hnc10 := NB153_152.out
        have hcz11_0 : w7.cell? ⟨gb152, 0, none⟩ = some (.slice Ao5 l0_0.length co5) := (blk_cell BK152.out 0).trans rfl
        have hcz11_1 : w7.cell? ⟨gb152, 1, none⟩ = some (.int .i64 a0_1) := (blk_cell BK152.out 1).trans rfl
        have hcz11_2 : w7.cell? ⟨gb152, 2, none⟩ = some (.int .i64 a0_2) := (blk_cell BK152.out 2).trans rfl
        have hfz11_0 := blk_frozen BK152.out 0
        have hfz11_1 := blk_frozen BK152.out 1
        have hfz11_2 := blk_frozen BK152.out 2
        go_wp2
        go_meet
        case rel => exact ⟨_, (decide (a1 > (l0_0.length : Int))), (by first | rfl | (simp; done) | (simp [*]; done)), H', ⟨by first | omega | exact Nat.le_refl _⟩, ⟨by (with_reducible repeat (first | apply Kd.R_alloc | apply Kd.R_drewN | apply Kd.R_drew)); exact HO0_0.out⟩, ⟨by (with_reducible repeat (first | refine blk_drewN ?_ _ | refine blk_drew ?_ | refine blk_alloc ?_ _)); exact BK152.out⟩, ⟨by (with_reducible repeat (first | refine blk_drewN ?_ _ | refine blk_drew ?_ | refine blk_alloc ?_ _)); exact BK153.out⟩, ⟨by repeat (first | (with_reducible first | exact HK.out | apply Kept.alloc | apply Kept.drewN | apply Kept.drew | refine Kept.setCell ?_ (.inr GW152.out) _ | refine Kept.setCell ?_ (.inr GW153.out) _) | exact HK.out)⟩, ⟨by repeat (first | (with_reducible first | exact HB.out | apply below_alloc | apply pw_below_drewN | apply below_drew1 | refine below_set ?_ GE152.out | refine below_set ?_ GE153.out) | exact HB.out)⟩⟩
  case rest =>
    clear HC4
    try clear c1
    try clear p2
    try clear c7
    try clear c8
    try clear c8b0
    try clear c9
    try clear c9b0
    try clear c10
    try clear hcz11_0
    try clear hcz11_1
    try clear hcz11_2
    try clear hfz11_0
    try clear hfz11_1
    try clear hfz11_2
    obtain ⟨kq, x22_3, rfl, HA, HJ3, HO_153000, BK152, BK153, HK, HB⟩ := hcut
    cases kq with
    | zero => exact absurd HA.out (by simp [lookasideref14_Steal.j0])
    | succ kj3 =>
      have H := HA.out
      clear HA
      simp only [lookasideref14_Steal.j0] at H
      by_cases c12 : x22_3 = true
      · subst c12
        have H1 : (some (l0_0, a0_1, a0_2, 0, 1)) = some (r1, r2, r3, r4, r5) := by rw [if_pos rfl] at H; exact H
        clear H
        have H := H1
        clear H1
        simp only [Option.some.injEq, Prod.mk.injEq] at H
        obtain ⟨rfl, rfl, rfl, rfl, rfl⟩ := H
        have hnb13 := NB152_153.out
        have hnc13 := NB153_152.out
        have hcz14_0 : wc.cell? ⟨gb152, 0, none⟩ = some (.slice Ao5 l0_0.length co5) := (blk_cell BK152.out 0).trans rfl
        have hcz14_1 : wc.cell? ⟨gb152, 1, none⟩ = some (.int .i64 a0_1) := (blk_cell BK152.out 1).trans rfl
        have hcz14_2 : wc.cell? ⟨gb152, 2, none⟩ = some (.int .i64 a0_2) := (blk_cell BK152.out 2).trans rfl
        have hfz14_0 := blk_frozen BK152.out 0
        have hfz14_1 := blk_frozen BK152.out 1
        have hfz14_2 := blk_frozen BK152.out 2
        have hcz15_0 : wc.cell? ⟨gb153, 0, none⟩ = some (.slice none 0 0) := (blk_cell BK153.out 0).trans rfl
        have hcz15_1 : wc.cell? ⟨gb153, 1, none⟩ = some (.int .i64 0) := (blk_cell BK153.out 1).trans rfl
        have hcz15_2 : wc.cell? ⟨gb153, 2, none⟩ = some (.int .i64 0) := (blk_cell BK153.out 2).trans rfl
        have hfz15_0 := blk_frozen BK153.out 0
        have hfz15_1 := blk_frozen BK153.out 1
        have hfz15_2 := blk_frozen BK153.out 2
        go_wp2
        refine bodyPost_ret (results_ctt rfl _ _ gb153 67 #[.slice Ao5 l0_0.length co5, .int .i64 a0_1, .int .i64 a0_2] (0, 0) _ rfl (by (with_reducible repeat (first | refine blk_drewN ?_ _ | refine blk_drew ?_ | refine blk_alloc ?_ _)); refine blk_put (cs := #[.slice Ao5 l0_0.length co5, .int .i64 a0_1, .int .i64 0]) ?_ 2 _ rfl; (with_reducible repeat (first | refine blk_drewN ?_ _ | refine blk_drew ?_ | refine blk_alloc ?_ _)); refine blk_put (cs := #[.slice Ao5 l0_0.length co5, .int .i64 0, .int .i64 0]) ?_ 1 _ rfl; (with_reducible repeat (first | refine blk_drewN ?_ _ | refine blk_drew ?_ | refine blk_alloc ?_ _)); refine blk_put (cs := #[.slice none 0 0, .int .i64 0, .int .i64 0]) ?_ 0 _ rfl; (with_reducible repeat (first | refine blk_drewN ?_ _ | refine blk_drew ?_ | refine blk_alloc ?_ _)); exact BK153.out) Try.underlying67 rfl (by kernel_rfl)) rfl ?_
        exact ⟨_, by first | rfl | (simp [errW_none, errW_some] <;> rfl) | (simp [*, errW_none, errW_some] <;> rfl), by (with_reducible repeat (first | apply Kd.R_alloc | apply Kd.R_drewN | apply Kd.R_drew)); exact Kd.R_mono (Kd.R_far (p := ⟨gb153, 2, none⟩) (Kd.R_far (p := ⟨gb153, 1, none⟩) (Kd.R_far (p := ⟨gb153, 0, none⟩) (Kd.R_types HO_153000.out BK153.out (by decide)) (fun _ hk => hk.2) (.slice Ao5 l0_0.length co5)) (fun _ hk => hk.2) (.int .i64 a0_1)) (fun _ hk => hk.2) (.int .i64 a0_2)) (fun _ hk => hk.1), by repeat (first | (with_reducible first | exact HB.out | apply below_alloc | apply pw_below_drewN | apply below_drew1 | refine below_set ?_ GE152.out | refine below_set ?_ GE153.out) | exact HB.out), by repeat (first | (with_reducible first | exact HK.out | apply Kept.alloc | apply Kept.drewN | apply Kept.drew | refine Kept.setCell ?_ (.inr GW152.out) _ | refine Kept.setCell ?_ (.inr GW153.out) _) | exact HK.out)⟩
      · replace c12 := Bool.eq_false_iff.mpr c12
        subst c12
        have H1 : ((lookasideref14_Of.f kj3 l0_0 a0_1 a0_2 a2).bind fun t154 => (if t154 > 0 then (some (l0_0, a0_1, a0_2, 0, 9)) else (if 0 ≤ (wrap64 (a1 - 1)) then (if (wrap64 (a1 - 1)) < (l0_0.length : Int) then (if (rd l0_0 (wrap64 (a1 - 1))) < 0 then (some (l0_0, a0_1, a0_2, 0, 10)) else ((lookasideref14_own.f kj3 l0_0 a0_1 a0_2 a1 a2).bind fun bt156 => (some (bt156.1, bt156.2.1, bt156.2.2, rd l0_0 (wrap64 (a1 - 1)), 0)))) else (none)) else (none)))) = some (r1, r2, r3, r4, r5) := by rw [if_neg (show ¬ (false = true) by decide)] at H; exact H
        clear H
        have H := H1
        clear H1
        replace H := Option.bind_eq_some_iff.mp H
        obtain ⟨t154, A160, H⟩ := H
        replace H : (if t154 > 0 then (some (l0_0, a0_1, a0_2, 0, 9)) else (if 0 ≤ (wrap64 (a1 - 1)) then (if (wrap64 (a1 - 1)) < (l0_0.length : Int) then (if (rd l0_0 (wrap64 (a1 - 1))) < 0 then (some (l0_0, a0_1, a0_2, 0, 10)) else ((lookasideref14_own.f kj3 l0_0 a0_1 a0_2 a1 a2).bind fun bt156 => (some (bt156.1, bt156.2.1, bt156.2.2, rd l0_0 (wrap64 (a1 - 1)), 0)))) else (none)) else (none))) = some (r1, r2, r3, r4, r5) := H
        have A16 := Aside0.mk A160
        clear A160
        by_cases c17 : t154 > 0
        · rw [if_pos c17] at H
          have c17b0 : decide (0 < t154) = true := decide_eq_true c17
          clear c17
          simp only [Option.some.injEq, Prod.mk.injEq] at H
          obtain ⟨rfl, rfl, rfl, rfl, rfl⟩ := H
          have hnb18 := NB152_153.out
          have hnc18 := NB153_152.out
          have hcz19_0 : wc.cell? ⟨gb152, 0, none⟩ = some (.slice Ao5 l0_0.length co5) := (blk_cell BK152.out 0).trans rfl
          have hcz19_1 : wc.cell? ⟨gb152, 1, none⟩ = some (.int .i64 a0_1) := (blk_cell BK152.out 1).trans rfl
          have hcz19_2 : wc.cell? ⟨gb152, 2, none⟩ = some (.int .i64 a0_2) := (blk_cell BK152.out 2).trans rfl
          have hfz19_0 := blk_frozen BK152.out 0
          have hfz19_1 := blk_frozen BK152.out 1
          have hfz19_2 := blk_frozen BK152.out 2
          go_wp2_with (first | ((with_reducible refine gate_callee (f := 92) rfl ?_); refine goesL_ (some 26) rfl rfl Try.func92 (by kernel_rfl) rfl #[.agg #[.slice Ao5 l0_0.length co5, .int .i64 a0_1, .int .i64 a0_2], .int .i64 a2] rfl (by (try simp only [List.map_toArray, List.map_cons, List.map_nil]); first | done | rfl | (simp only [List.length_drop, List.length_take]; rfl)) ?_; (with_reducible refine (lookasideref14_Of.calls kj3 _ _ l0_0 a0_1 a0_2 a2 t154 _ ?side1 ?side2 A16.out).mono ?_); (case side1 => repeat (first | exact (Kd.R_reads' HO_153000.out).2.2 | (with_reducible refine Kd.C_alloc ?_ _) | (with_reducible refine Kd.C_drewN ?_ _) | (with_reducible refine Kd.C_drew ?_))); (case side2 => exact (Kd.R_reads' HO_153000.out).2.1); rintro e w20 ⟨rfl, hb⟩; refine ⟨_, rfl, ?_⟩; have n0_ := Aside0.mk (Kd.R_below (by (with_reducible repeat (first | apply Kd.R_alloc | apply Kd.R_drewN | apply Kd.R_drew)); exact HO_153000.out) hb); have n1_ := Aside0.mk (blk_below (g := gb152) (o := .cells #[.slice Ao5 l0_0.length co5, .int .i64 a0_1, .int .i64 a0_2] 67 (0, 0)) (by (with_reducible repeat (first | refine blk_drewN ?_ _ | refine blk_drew ?_ | refine blk_alloc ?_ _)); exact BK152.out) hb); have n2_ := Aside0.mk (blk_below (g := gb153) (o := .cells #[.slice none 0 0, .int .i64 0, .int .i64 0] 67 (0, 0)) (by (with_reducible repeat (first | refine blk_drewN ?_ _ | refine blk_drew ?_ | refine blk_alloc ?_ _)); exact BK153.out) hb); have n3_ := Aside0.mk (Kept.below (S := (fun _ => False)) (by repeat (first | (with_reducible first | exact HK.out | apply Kept.alloc | apply Kept.drewN | apply Kept.drew | refine Kept.setCell ?_ (.inr GW152.out) _ | refine Kept.setCell ?_ (.inr GW153.out) _) | exact HK.out)) hb); have n4_ := Aside0.mk (below_step (by repeat (first | (with_reducible first | exact HB.out | apply below_alloc | apply pw_below_drewN | apply below_drew1 | refine below_set ?_ GE152.out | refine below_set ?_ GE153.out) | exact HB.out)) hb); clear HO_153000; clear BK152; clear BK153; clear HK; clear HB; have HO_153000 := n0_; have BK152 := n1_; have BK153 := n2_; have HK := n3_; have HB := n4_; clear n0_ n1_ n2_ n3_ n4_; (try clear hb); (try clear hb2); (try clear hk); (try clear hi); have hcz21_0 : w20.cell? ⟨gb152, 0, none⟩ = some (.slice Ao5 l0_0.length co5) := (blk_cell BK152.out 0).trans rfl; have hcz21_1 : w20.cell? ⟨gb152, 1, none⟩ = some (.int .i64 a0_1) := (blk_cell BK152.out 1).trans rfl; have hcz21_2 : w20.cell? ⟨gb152, 2, none⟩ = some (.int .i64 a0_2) := (blk_cell BK152.out 2).trans rfl; have hfz21_0 := blk_frozen BK152.out 0; have hfz21_1 := blk_frozen BK152.out 1; have hfz21_2 := blk_frozen BK152.out 2; have hcz22_0 : w20.cell? ⟨gb153, 0, none⟩ = some (.slice none 0 0) := (blk_cell BK153.out 0).trans rfl; have hcz22_1 : w20.cell? ⟨gb153, 1, none⟩ = some (.int .i64 0) := (blk_cell BK153.out 1).trans rfl; have hcz22_2 : w20.cell? ⟨gb153, 2, none⟩ = some (.int .i64 0) := (blk_cell BK153.out 2).trans rfl; have hfz22_0 := blk_frozen BK153.out 0; have hfz22_1 := blk_frozen BK153.out 1; have hfz22_2 := blk_frozen BK153.out 2))
          refine bodyPost_ret (results_ctt rfl _ _ gb153 67 #[.slice Ao5 l0_0.length co5, .int .i64 a0_1, .int .i64 a0_2] (0, 0) _ rfl (by (with_reducible repeat (first | refine blk_drewN ?_ _ | refine blk_drew ?_ | refine blk_alloc ?_ _)); refine blk_put (cs := #[.slice Ao5 l0_0.length co5, .int .i64 a0_1, .int .i64 0]) ?_ 2 _ rfl; (with_reducible repeat (first | refine blk_drewN ?_ _ | refine blk_drew ?_ | refine blk_alloc ?_ _)); refine blk_put (cs := #[.slice Ao5 l0_0.length co5, .int .i64 0, .int .i64 0]) ?_ 1 _ rfl; (with_reducible repeat (first | refine blk_drewN ?_ _ | refine blk_drew ?_ | refine blk_alloc ?_ _)); refine blk_put (cs := #[.slice none 0 0, .int .i64 0, .int .i64 0]) ?_ 0 _ rfl; (with_reducible repeat (first | refine blk_drewN ?_ _ | refine blk_drew ?_ | refine blk_alloc ?_ _)); exact BK153.out) Try.underlying67 rfl (by kernel_rfl)) rfl ?_
          exact ⟨_, by first | rfl | (simp [errW_none, errW_some] <;> rfl) | (simp [*, errW_none, errW_some] <;> rfl), by (with_reducible repeat (first | apply Kd.R_alloc | apply Kd.R_drewN | apply Kd.R_drew)); exact Kd.R_mono (Kd.R_far (p := ⟨gb153, 2, none⟩) (Kd.R_far (p := ⟨gb153, 1, none⟩) (Kd.R_far (p := ⟨gb153, 0, none⟩) (Kd.R_types HO_153000.out BK153.out (by decide)) (fun _ hk => hk.2) (.slice Ao5 l0_0.length co5)) (fun _ hk => hk.2) (.int .i64 a0_1)) (fun _ hk => hk.2) (.int .i64 a0_2)) (fun _ hk => hk.1), by repeat (first | (with_reducible first | exact HB.out | apply below_alloc | apply pw_below_drewN | apply below_drew1 | refine below_set ?_ GE152.out | refine below_set ?_ GE153.out) | exact HB.out), by repeat (first | (with_reducible first | exact HK.out | apply Kept.alloc | apply Kept.drewN | apply Kept.drew | refine Kept.setCell ?_ (.inr GW152.out) _ | refine Kept.setCell ?_ (.inr GW153.out) _) | exact HK.out)⟩
        · rw [if_neg c17] at H
          have c17b0 : decide (0 < t154) = false := decide_eq_false c17
          clear c17
          obtain ⟨ji23, hji23⟩ : ∃ j_ : Int, (wrap64 (a1 - 1)) = j_ := ⟨_, rfl⟩
          replace H : (if 0 ≤ (ji23) then (if (ji23) < (l0_0.length : Int) then (if (rd l0_0 (ji23)) < 0 then (some (l0_0, a0_1, a0_2, 0, 10)) else ((lookasideref14_own.f kj3 l0_0 a0_1 a0_2 a1 a2).bind fun bt156 => (some (bt156.1, bt156.2.1, bt156.2.2, rd l0_0 (ji23), 0)))) else (none)) else (none)) = some (r1, r2, r3, r4, r5) := by first | (rw [hji23] at H; exact H) | (simp only [hji23] at H ⊢; exact H)
          (try rw [hji23] at A16)
          have hji23w : (IntKind.i64.wrap (a1 - 1)) = ji23 := (i64_w _).trans hji23
          by_cases c24 : 0 ≤ (ji23)
          · rw [if_pos c24] at H
            have c24b0 : decide (0 ≤ (ji23)) = true := decide_eq_true c24
            clear c24
            by_cases c25 : (ji23) < (l0_0.length : Int)
            · rw [if_pos c25] at H
              have c25b0 : decide ((ji23) < (l0_0.length : Int)) = true := decide_eq_true c25
              clear c25
              by_cases c26 : (rd l0_0 (ji23)) < 0
              · rw [if_pos c26] at H
                have c26b0 : decide ((rd l0_0 (ji23)) < 0) = true := decide_eq_true c26
                clear c26
                simp only [Option.some.injEq, Prod.mk.injEq] at H
                obtain ⟨rfl, rfl, rfl, rfl, rfl⟩ := H
                have hnb27 := NB152_153.out
                have hnc27 := NB153_152.out
                have hcz28_0 : wc.cell? ⟨gb152, 0, none⟩ = some (.slice Ao5 l0_0.length co5) := (blk_cell BK152.out 0).trans rfl
                have hcz28_1 : wc.cell? ⟨gb152, 1, none⟩ = some (.int .i64 a0_1) := (blk_cell BK152.out 1).trans rfl
                have hcz28_2 : wc.cell? ⟨gb152, 2, none⟩ = some (.int .i64 a0_2) := (blk_cell BK152.out 2).trans rfl
                have hfz28_0 := blk_frozen BK152.out 0
                have hfz28_1 := blk_frozen BK152.out 1
                have hfz28_2 := blk_frozen BK152.out 2
                go_wp2_with (first | ((with_reducible refine gate_callee (f := 92) rfl ?_); refine goesL_ (some 26) rfl rfl Try.func92 (by kernel_rfl) rfl #[.agg #[.slice Ao5 l0_0.length co5, .int .i64 a0_1, .int .i64 a0_2], .int .i64 a2] rfl (by (try simp only [List.map_toArray, List.map_cons, List.map_nil]); first | done | rfl | (simp only [List.length_drop, List.length_take]; rfl)) ?_; (with_reducible refine (lookasideref14_Of.calls kj3 _ _ l0_0 a0_1 a0_2 a2 t154 _ ?side1 ?side2 A16.out).mono ?_); (case side1 => repeat (first | exact (Kd.R_reads' HO_153000.out).2.2 | (with_reducible refine Kd.C_alloc ?_ _) | (with_reducible refine Kd.C_drewN ?_ _) | (with_reducible refine Kd.C_drew ?_))); (case side2 => exact (Kd.R_reads' HO_153000.out).2.1); rintro e w29 ⟨rfl, hb⟩; refine ⟨_, rfl, ?_⟩; have n0_ := Aside0.mk (Kd.R_below (by (with_reducible repeat (first | apply Kd.R_alloc | apply Kd.R_drewN | apply Kd.R_drew)); exact HO_153000.out) hb); have n1_ := Aside0.mk (blk_below (g := gb152) (o := .cells #[.slice Ao5 l0_0.length co5, .int .i64 a0_1, .int .i64 a0_2] 67 (0, 0)) (by (with_reducible repeat (first | refine blk_drewN ?_ _ | refine blk_drew ?_ | refine blk_alloc ?_ _)); exact BK152.out) hb); have n2_ := Aside0.mk (blk_below (g := gb153) (o := .cells #[.slice none 0 0, .int .i64 0, .int .i64 0] 67 (0, 0)) (by (with_reducible repeat (first | refine blk_drewN ?_ _ | refine blk_drew ?_ | refine blk_alloc ?_ _)); exact BK153.out) hb); have n3_ := Aside0.mk (Kept.below (S := (fun _ => False)) (by repeat (first | (with_reducible first | exact HK.out | apply Kept.alloc | apply Kept.drewN | apply Kept.drew | refine Kept.setCell ?_ (.inr GW152.out) _ | refine Kept.setCell ?_ (.inr GW153.out) _) | exact HK.out)) hb); have n4_ := Aside0.mk (below_step (by repeat (first | (with_reducible first | exact HB.out | apply below_alloc | apply pw_below_drewN | apply below_drew1 | refine below_set ?_ GE152.out | refine below_set ?_ GE153.out) | exact HB.out)) hb); clear HO_153000; clear BK152; clear BK153; clear HK; clear HB; have HO_153000 := n0_; have BK152 := n1_; have BK153 := n2_; have HK := n3_; have HB := n4_; clear n0_ n1_ n2_ n3_ n4_; (try clear hb); (try clear hb2); (try clear hk); (try clear hi); have hcz30_0 : w29.cell? ⟨gb152, 0, none⟩ = some (.slice Ao5 l0_0.length co5) := (blk_cell BK152.out 0).trans rfl; have hcz30_1 : w29.cell? ⟨gb152, 1, none⟩ = some (.int .i64 a0_1) := (blk_cell BK152.out 1).trans rfl; have hcz30_2 : w29.cell? ⟨gb152, 2, none⟩ = some (.int .i64 a0_2) := (blk_cell BK152.out 2).trans rfl; have hfz30_0 := blk_frozen BK152.out 0; have hfz30_1 := blk_frozen BK152.out 1; have hfz30_2 := blk_frozen BK152.out 2; have p155 : 0 ≤ ((ji23) : Int) := of_decide_eq_true (by first | (with_reducible assumption) | assumption); have q155 : (ji23) < (l0_0.length : Int) := of_decide_eq_true (by first | (with_reducible assumption) | assumption); obtain ⟨ad155, e155, hx155_0⟩ := Kd.at_int (Kd.R_reads' HO_153000.out).2.2 (ji23) p155 q155; cases e155; replace p155 := eq_true p155; replace q155 := eq_true q155; have hcz31_0 : w29.cell? ⟨gb153, 0, none⟩ = some (.slice none 0 0) := (blk_cell BK153.out 0).trans rfl; have hcz31_1 : w29.cell? ⟨gb153, 1, none⟩ = some (.int .i64 0) := (blk_cell BK153.out 1).trans rfl; have hcz31_2 : w29.cell? ⟨gb153, 2, none⟩ = some (.int .i64 0) := (blk_cell BK153.out 2).trans rfl; have hfz31_0 := blk_frozen BK153.out 0; have hfz31_1 := blk_frozen BK153.out 1; have hfz31_2 := blk_frozen BK153.out 2))
                refine bodyPost_ret (results_ctt rfl _ _ gb153 67 #[.slice (some ad155) l0_0.length co5, .int .i64 a0_1, .int .i64 a0_2] (0, 0) _ rfl (by (with_reducible repeat (first | refine blk_drewN ?_ _ | refine blk_drew ?_ | refine blk_alloc ?_ _)); refine blk_put (cs := #[.slice (some ad155) l0_0.length co5, .int .i64 a0_1, .int .i64 0]) ?_ 2 _ rfl; (with_reducible repeat (first | refine blk_drewN ?_ _ | refine blk_drew ?_ | refine blk_alloc ?_ _)); refine blk_put (cs := #[.slice (some ad155) l0_0.length co5, .int .i64 0, .int .i64 0]) ?_ 1 _ rfl; (with_reducible repeat (first | refine blk_drewN ?_ _ | refine blk_drew ?_ | refine blk_alloc ?_ _)); refine blk_put (cs := #[.slice none 0 0, .int .i64 0, .int .i64 0]) ?_ 0 _ rfl; (with_reducible repeat (first | refine blk_drewN ?_ _ | refine blk_drew ?_ | refine blk_alloc ?_ _)); exact BK153.out) Try.underlying67 rfl (by kernel_rfl)) rfl ?_
                exact ⟨_, by first | rfl | (simp [errW_none, errW_some] <;> rfl) | (simp only [← hji23]; first | rfl | (simp [errW_none, errW_some] <;> rfl)) | (simp [*, errW_none, errW_some] <;> rfl), by (with_reducible repeat (first | apply Kd.R_alloc | apply Kd.R_drewN | apply Kd.R_drew)); exact Kd.R_mono (Kd.R_far (p := ⟨gb153, 2, none⟩) (Kd.R_far (p := ⟨gb153, 1, none⟩) (Kd.R_far (p := ⟨gb153, 0, none⟩) (Kd.R_types HO_153000.out BK153.out (by decide)) (fun _ hk => hk.2) (.slice (some ad155) l0_0.length co5)) (fun _ hk => hk.2) (.int .i64 a0_1)) (fun _ hk => hk.2) (.int .i64 a0_2)) (fun _ hk => hk.1), by repeat (first | (with_reducible first | exact HB.out | apply below_alloc | apply pw_below_drewN | apply below_drew1 | refine below_set ?_ GE152.out | refine below_set ?_ GE153.out) | exact HB.out), by repeat (first | (with_reducible first | exact HK.out | apply Kept.alloc | apply Kept.drewN | apply Kept.drew | refine Kept.setCell ?_ (.inr GW152.out) _ | refine Kept.setCell ?_ (.inr GW153.out) _) | exact HK.out)⟩
              · rw [if_neg c26] at H
                have c26b0 : decide ((rd l0_0 (ji23)) < 0) = false := decide_eq_false c26
                clear c26
                replace H := Option.bind_eq_some_iff.mp H
                obtain ⟨⟨t156, t159, t160⟩, A320, H⟩ := H
                replace H : (some (t156, t159, t160, rd l0_0 (ji23), 0)) = some (r1, r2, r3, r4, r5) := H
                have A32 := Aside0.mk A320
                clear A320
                simp only [Option.some.injEq, Prod.mk.injEq] at H
                obtain ⟨rfl, rfl, rfl, rfl, rfl⟩ := H
                have hnb33 := NB152_153.out
                have hnc33 := NB153_152.out
                have hcz34_0 : wc.cell? ⟨gb152, 0, none⟩ = some (.slice Ao5 l0_0.length co5) := (blk_cell BK152.out 0).trans rfl
                have hcz34_1 : wc.cell? ⟨gb152, 1, none⟩ = some (.int .i64 a0_1) := (blk_cell BK152.out 1).trans rfl
                have hcz34_2 : wc.cell? ⟨gb152, 2, none⟩ = some (.int .i64 a0_2) := (blk_cell BK152.out 2).trans rfl
                have hfz34_0 := blk_frozen BK152.out 0
                have hfz34_1 := blk_frozen BK152.out 1
                have hfz34_2 := blk_frozen BK152.out 2
                go_wp2_with (first | ((with_reducible refine gate_callee (f := 92) rfl ?_); refine goesL_ (some 26) rfl rfl Try.func92 (by kernel_rfl) rfl #[.agg #[.slice Ao5 l0_0.length co5, .int .i64 a0_1, .int .i64 a0_2], .int .i64 a2] rfl (by (try simp only [List.map_toArray, List.map_cons, List.map_nil]); first | done | rfl | (simp only [List.length_drop, List.length_take]; rfl)) ?_; (with_reducible refine (lookasideref14_Of.calls kj3 _ _ l0_0 a0_1 a0_2 a2 t154 _ ?side1 ?side2 A16.out).mono ?_); (case side1 => repeat (first | exact (Kd.R_reads' HO_153000.out).2.2 | (with_reducible refine Kd.C_alloc ?_ _) | (with_reducible refine Kd.C_drewN ?_ _) | (with_reducible refine Kd.C_drew ?_))); (case side2 => exact (Kd.R_reads' HO_153000.out).2.1); rintro e w35 ⟨rfl, hb⟩; refine ⟨_, rfl, ?_⟩; have n0_ := Aside0.mk (Kd.R_below (by (with_reducible repeat (first | apply Kd.R_alloc | apply Kd.R_drewN | apply Kd.R_drew)); exact HO_153000.out) hb); have n1_ := Aside0.mk (blk_below (g := gb152) (o := .cells #[.slice Ao5 l0_0.length co5, .int .i64 a0_1, .int .i64 a0_2] 67 (0, 0)) (by (with_reducible repeat (first | refine blk_drewN ?_ _ | refine blk_drew ?_ | refine blk_alloc ?_ _)); exact BK152.out) hb); have n2_ := Aside0.mk (blk_below (g := gb153) (o := .cells #[.slice none 0 0, .int .i64 0, .int .i64 0] 67 (0, 0)) (by (with_reducible repeat (first | refine blk_drewN ?_ _ | refine blk_drew ?_ | refine blk_alloc ?_ _)); exact BK153.out) hb); have n3_ := Aside0.mk (Kept.below (S := (fun _ => False)) (by repeat (first | (with_reducible first | exact HK.out | apply Kept.alloc | apply Kept.drewN | apply Kept.drew | refine Kept.setCell ?_ (.inr GW152.out) _ | refine Kept.setCell ?_ (.inr GW153.out) _) | exact HK.out)) hb); have n4_ := Aside0.mk (below_step (by repeat (first | (with_reducible first | exact HB.out | apply below_alloc | apply pw_below_drewN | apply below_drew1 | refine below_set ?_ GE152.out | refine below_set ?_ GE153.out) | exact HB.out)) hb); clear HO_153000; clear BK152; clear BK153; clear HK; clear HB; have HO_153000 := n0_; have BK152 := n1_; have BK153 := n2_; have HK := n3_; have HB := n4_; clear n0_ n1_ n2_ n3_ n4_; (try clear hb); (try clear hb2); (try clear hk); (try clear hi); have hcz36_0 : w35.cell? ⟨gb152, 0, none⟩ = some (.slice Ao5 l0_0.length co5) := (blk_cell BK152.out 0).trans rfl; have hcz36_1 : w35.cell? ⟨gb152, 1, none⟩ = some (.int .i64 a0_1) := (blk_cell BK152.out 1).trans rfl; have hcz36_2 : w35.cell? ⟨gb152, 2, none⟩ = some (.int .i64 a0_2) := (blk_cell BK152.out 2).trans rfl; have hfz36_0 := blk_frozen BK152.out 0; have hfz36_1 := blk_frozen BK152.out 1; have hfz36_2 := blk_frozen BK152.out 2; have p155 : 0 ≤ ((ji23) : Int) := of_decide_eq_true (by first | (with_reducible assumption) | assumption); have q155 : (ji23) < (l0_0.length : Int) := of_decide_eq_true (by first | (with_reducible assumption) | assumption); obtain ⟨ad155, e155, hx155_0⟩ := Kd.at_int (Kd.R_reads' HO_153000.out).2.2 (ji23) p155 q155; cases e155; replace p155 := eq_true p155; replace q155 := eq_true q155) | ((with_reducible refine gate_callee (f := 93) rfl ?_); refine goesL_ (some 41) rfl rfl Try.func93 (by kernel_rfl) rfl #[.agg #[.slice (some ad155) l0_0.length co5, .int .i64 a0_1, .int .i64 a0_2], .int .i64 a1, .int .i64 a2] rfl (by (try simp only [List.map_toArray, List.map_cons, List.map_nil]); first | done | rfl | (simp only [List.length_drop, List.length_take]; rfl)) ?_; (with_reducible refine (lookasideref14_own.calls kj3 _ _ l0_0 a0_1 a0_2 a1 a2 t156 t159 t160 _ ?side1 ?side2 A32.out).mono ?_); (case side1 => repeat (first | exact (Kd.R_reads' HO_153000.out).2.2 | (with_reducible refine Kd.C_alloc ?_ _) | (with_reducible refine Kd.C_drewN ?_ _) | (with_reducible refine Kd.C_drew ?_))); (case side2 => exact (Kd.R_reads' HO_153000.out).2.1); rintro e w37 ⟨v157, rfl, ho0, hb⟩; refine ⟨_, rfl, ?_⟩; have n0_ := Aside0.mk (Kd.R_elder' (by (with_reducible repeat (first | apply Kd.R_alloc | apply Kd.R_drewN | apply Kd.R_drew)); exact HO_153000.out) (Kd.R_base ho0) hb); have n1_ := Aside0.mk (Kd.R_lower (Kd.R_new' (Kd.R_newM (M := fun k_ => (P0_0_ k_ ∨ w.heap.size ≤ k_)) ho0 (by first | exact HK.out.1 | exact (show Kept w _ (fun _ => False) from by repeat (first | (with_reducible first | exact HK.out | apply Kept.alloc | apply Kept.drewN | apply Kept.drew | refine Kept.setCell ?_ (.inr GW152.out) _ | refine Kept.setCell ?_ (.inr GW153.out) _) | exact HK.out)).1) (fun k_ h_ => .inr h_)) (Kd.R_lt (by (with_reducible repeat (first | apply Kd.R_alloc | apply Kd.R_drewN | apply Kd.R_drew)); exact HO_153000.out))) (below_size (by repeat (first | (with_reducible first | exact HB.out | apply below_alloc | apply pw_below_drewN | apply below_drew1 | refine below_set ?_ GE152.out | refine below_set ?_ GE153.out) | exact HB.out)))); have n2_ := Aside0.mk (blk_below (g := gb152) (o := .cells #[.slice (some ad155) l0_0.length co5, .int .i64 a0_1, .int .i64 a0_2] 67 (0, 0)) (by (with_reducible repeat (first | refine blk_drewN ?_ _ | refine blk_drew ?_ | refine blk_alloc ?_ _)); exact BK152.out) hb); have n3_ := Aside0.mk (blk_below (g := gb153) (o := .cells #[.slice none 0 0, .int .i64 0, .int .i64 0] 67 (0, 0)) (by (with_reducible repeat (first | refine blk_drewN ?_ _ | refine blk_drew ?_ | refine blk_alloc ?_ _)); exact BK153.out) hb); have n4_ := Aside0.mk (Kept.below (S := (fun _ => False)) (by repeat (first | (with_reducible first | exact HK.out | apply Kept.alloc | apply Kept.drewN | apply Kept.drew | refine Kept.setCell ?_ (.inr GW152.out) _ | refine Kept.setCell ?_ (.inr GW153.out) _) | exact HK.out)) hb); have n5_ := Aside0.mk (below_step (by repeat (first | (with_reducible first | exact HB.out | apply below_alloc | apply pw_below_drewN | apply below_drew1 | refine below_set ?_ GE152.out | refine below_set ?_ GE153.out) | exact HB.out)) hb); clear HO_153000; clear BK152; clear BK153; clear HK; clear HB; have HO_153000 := n0_; have HO158 := n1_; have BK152 := n2_; have BK153 := n3_; have HK := n4_; have HB := n5_; clear n0_ n1_ n2_ n3_ n4_ n5_; (try clear hb); (try clear hb2); (try clear hk); (try clear hi); (try clear ho0); obtain ⟨Ao38, co38, eo38⟩ := Kd.R_slice HO158.out; subst eo38; have hcz39_0 : w37.cell? ⟨gb153, 0, none⟩ = some (.slice none 0 0) := (blk_cell BK153.out 0).trans rfl; have hcz39_1 : w37.cell? ⟨gb153, 1, none⟩ = some (.int .i64 0) := (blk_cell BK153.out 1).trans rfl; have hcz39_2 : w37.cell? ⟨gb153, 2, none⟩ = some (.int .i64 0) := (blk_cell BK153.out 2).trans rfl; have hfz39_0 := blk_frozen BK153.out 0; have hfz39_1 := blk_frozen BK153.out 1; have hfz39_2 := blk_frozen BK153.out 2))
                refine bodyPost_ret (results_ctt rfl _ _ gb153 67 #[.slice Ao38 t156.length co38, .int .i64 t159, .int .i64 t160] (0, 0) _ rfl (by (with_reducible repeat (first | refine blk_drewN ?_ _ | refine blk_drew ?_ | refine blk_alloc ?_ _)); refine blk_put (cs := #[.slice Ao38 t156.length co38, .int .i64 t159, .int .i64 0]) ?_ 2 _ rfl; (with_reducible repeat (first | refine blk_drewN ?_ _ | refine blk_drew ?_ | refine blk_alloc ?_ _)); refine blk_put (cs := #[.slice Ao38 t156.length co38, .int .i64 0, .int .i64 0]) ?_ 1 _ rfl; (with_reducible repeat (first | refine blk_drewN ?_ _ | refine blk_drew ?_ | refine blk_alloc ?_ _)); refine blk_put (cs := #[.slice none 0 0, .int .i64 0, .int .i64 0]) ?_ 0 _ rfl; (with_reducible repeat (first | refine blk_drewN ?_ _ | refine blk_drew ?_ | refine blk_alloc ?_ _)); exact BK153.out) Try.underlying67 rfl (by kernel_rfl)) rfl ?_
                exact ⟨_, by first | rfl | (simp [errW_none, errW_some] <;> rfl) | (simp only [← hji23]; first | rfl | (simp [errW_none, errW_some] <;> rfl)) | (simp [*, errW_none, errW_some] <;> rfl), by (with_reducible repeat (first | apply Kd.R_alloc | apply Kd.R_drewN | apply Kd.R_drew)); exact Kd.R_mono (Kd.R_far (p := ⟨gb153, 2, none⟩) (Kd.R_far (p := ⟨gb153, 1, none⟩) (Kd.R_far (p := ⟨gb153, 0, none⟩) (Kd.R_types HO158.out BK153.out (by decide)) (fun _ hk => hk.2) (.slice Ao38 t156.length co38)) (fun _ hk => hk.2) (.int .i64 t159)) (fun _ hk => hk.2) (.int .i64 t160)) (fun _ hk => hk.1.1.1), by repeat (first | (with_reducible first | exact HB.out | apply below_alloc | apply pw_below_drewN | apply below_drew1 | refine below_set ?_ GE152.out | refine below_set ?_ GE153.out) | exact HB.out), by repeat (first | (with_reducible first | exact HK.out | apply Kept.alloc | apply Kept.drewN | apply Kept.drew | refine Kept.setCell ?_ (.inr GW152.out) _ | refine Kept.setCell ?_ (.inr GW153.out) _) | exact HK.out)⟩
            · rw [if_neg c25] at H
              exact absurd H (by simp)
          · rw [if_neg c24] at H
            exact absurd H (by simp)

-- NOT PRINTED: function 42 (lookasidelaw14_does)

end Go.Proofs.Ytcbnmmkmgpbfiaa.PX
/- The law's 'does' (layer 14): a deed done to the program's pool and to the document's. Written by mkctxdo.py over ctxdo.txt. -/
namespace Go.Proofs.Ytcbnmmkmgpbfiaa.PP
open Go.RowKit Go.Proofs.Ytcbnmmkmgpbfiaa.PX Go.Proofs.YtcbnmmkmgpbfiaaW.PrintWords Go.Proofs.YtcbnmmkmgpbfiaaW.PrintLast Go.Proofs.YtcbnmmkmgpbfiaaW.PrintMore
attribute [local go_sem] max2_int min2_int max_two min_two max_three min_three max_four min_four   -- for this text's walks alone
set_option linter.unusedVariables false
set_option linter.unusedSimpArgs false
/-- Both: the program's pool, and the document's list. -/
structure Both (w0 W : World) (base B bm : Nat) (vo : Value) (os : List Int) (hand rounds : Int) (u : Value) (L : List Int) : Prop where
  st : St W base B bm vo os hand rounds
  rv : Kd.R (Kd.int .i64) 3 W base (fun k => k ∉ pid B bm vo) u L
  bl : Below w0.heap.size w0 W
  le : base = w0.heap.size
/-- What was there stays, but for X. -/
def Stay (X : Nat → Prop) (W W' : World) : Prop := ∀ k, ¬ X k → ∀ o, W.heap[k]? = some o → W'.heap[k]? = some o
theorem Stay.trans {X : Nat → Prop} {W W' W2 : World} (h : Stay X W W') (h' : Stay X W' W2) : Stay X W W2 := fun k hk o ho => h' k hk o (h k hk o ho)
theorem Stay.below {X : Nat → Prop} {W W' : World} (h : Below W.heap.size W W') : Stay X W W' := fun _ _ _ ho => blk_below ho h
theorem Stay.pool {X : Nat → Prop} {W W' : World} {S : List Nat} (h : Mv S W W') (hS : ∀ k ∈ S, X k) : Stay X W W' := fun k hk _ ho => (h.block k (blk_lt ho) (fun hm => hk (hS k hm))).trans ho
theorem Stay.ref {X : Nat → Prop} {W W' : World} {S : Nat → Prop} (h : Kept W W' S) (hS : ∀ k, S k → X k) : Stay X W W' := fun k hk _ ho => blk_kept ho h (fun hm => hk (hS k hm))
theorem Stay.far {X : Nat → Prop} {W W' : World} (h : Stay X W W') (g j : Nat) (x : Value) : Stay (fun k => X k ∨ k = g) W (W'.setCell ⟨g, j, none⟩ x) := fun k hk o ho =>
  (Below.heap_setCell W' ⟨g, j, none⟩ x k (fun e => hk (.inr e))).trans (h k (fun hx => hk (.inl hx)) o ho)
/-- The blocks of the pool and of the document's list. -/
def Xp (B bm : Nat) (vo u : Value) (k : Nat) : Prop := k ∈ pid B bm vo
section
variable {w0 W W' : World} {base B bm : Nat} {vo : Value} {os os' : List Int} {hand rounds hand' rounds' : Int} {u u' : Value} {L L' : List Int}
theorem St.step (h : St W base B bm vo os hand rounds) (hk : ∀ k, k ∈ pid B bm vo → W'.heap[k]? = W.heap[k]?) : St W' base B bm vo os hand rounds := let ⟨f, c, h1, h2⟩ := h; ⟨f, c, h1.step hk, h2⟩
theorem Both.size (h : Both w0 W base B bm vo os hand rounds u L) : base ≤ W.heap.size := by rw [h.le]; exact h.bl.size
theorem Both.below (h : Both w0 W base B bm vo os hand rounds u L) (hb : Below W.heap.size W W') : Both w0 W' base B bm vo os hand rounds u L :=
  ⟨h.st.below hb, Kd.R_below h.rv hb, h.bl.trans (hb.mono h.bl.size), h.le⟩
theorem Both.pool (h : Both w0 W base B bm vo os hand rounds u L) (hs : St W' base B bm vo os' hand' rounds') (hm : Mv (pid B bm vo) W W') : Both w0 W' base B bm vo os' hand' rounds' u L :=
  ⟨hs, Kd.R_step h.rv (fun k hk hlt => hm.block k hlt hk), by have := h.st.mv (h.le ▸ h.bl) hm h.size; rw [h.le] at this; exact this, h.le⟩
theorem Both.own (h : Both w0 W base B bm vo os hand rounds u L) : Kd.R (Kd.int .i64) 3 W w0.heap.size (fun k => some k = u.ownBlock) u L := by have := Kd.R_tight rfl h.rv; rw [h.le] at this; exact this
theorem Both.ref (h : Both w0 W base B bm vo os hand rounds u L) (hr : Kd.R (Kd.int .i64) 3 W' w0.heap.size (fun k => some k = u.ownBlock ∨ W.heap.size ≤ k) u' L') (hk : Kept W W' (fun _ => False)) (hb : Below w0.heap.size w0 W') :
    Both w0 W' base B bm vo os hand rounds u' L' := by
  refine ⟨h.st.step (fun k hm => hk.2 k (h.st.lt k hm) (fun e => e)), ?_, hb, h.le⟩
  rw [h.le]
  refine Kd.R_mono hr (fun k hk hm => ?_)
  rcases hk with hk | hk
  · exact h.rv.1 k hk.symm hm
  · have := h.st.lt k hm; omega
theorem Both.far (h : Both w0 W base B bm vo os hand rounds u L) {g : Nat} {cs : Array Value} {t : TypeId} (hg : W.heap[g]? = some (.cells cs t (0, 0))) (ht : t ≠ 103 ∧ t ≠ 3) (h0 : w0.heap.size ≤ g) (j : Nat) (x : Value) :
    Both w0 (W.setCell ⟨g, j, none⟩ x) base B bm vo os hand rounds u L := by
  have hn : g ∉ pid B bm vo := let ⟨_, _, hp, _⟩ := h.st; not_pid hp hg ht
  refine ⟨h.st.step (fun k hm => Below.heap_setCell W ⟨g, j, none⟩ x k (fun e => hn (by have e2 : k = g := e; rw [← e2]; exact hm))), ?_, h.bl.setCell (p := ⟨g, j, none⟩) h0 x, h.le⟩
  have hne := Kd.R_ne h.rv hg (Ne.symm ht.2)
  exact Kd.R_mono (Kd.R_far (p := ⟨g, j, none⟩) (Kd.R_tight rfl h.rv) (fun k hk e => hne (by have e2 : k = g := e; rw [← e2]; exact hk)) x) (fun k hk => h.rv.1 k hk.symm)
theorem Both.reads {A : Option Addr} {c : Nat} (h : Both w0 W base B bm vo os hand rounds (.slice A L.length c) L) : L.length ≤ c ∧ Kd.C (Kd.int .i64) W A L.length L := (Kd.R_reads' h.rv).2
end
theorem Nx.re {L : List Int} {r : Int} {a : Ans} (h : Nx L r a) : Nx L r (a.1, a.2.1, a.2.2.1, 0, 0) := ⟨h.doc, h.len, h.lo, h.hi⟩
/-- What 'does' leaves. -/
def DoesP (w0 w : World) (base B bm : Nat) (vo : Value) (os : List Int) (hand rounds : Int) (u : Value) (L : List Int) (h r : Int) (e : Ending) (w' : World) : Prop :=
  ∃ (os' : List Int) (hand' rounds' : Int) (A' : Option Addr) (c' : Nat) (L' : List Int) (h' r' : Int) (same : Bool),
    e = .returned (.tuple #[.agg #[.slice A' L'.length c', .int .i64 h', .int .i64 r'], .bool same]) ∧ Both w0 w' base B bm vo os' hand' rounds' (.slice A' L'.length c') L' ∧
      Nx os rounds (os', hand', rounds', 0, 0) ∧ Nx L r (L', h', r', 0, 0) ∧ (os = L → hand = h → rounds = r → same = true ∧ os' = L' ∧ hand' = h' ∧ rounds' = r') ∧ (∀ k, k < w.heap.size → ¬ Xp B bm vo u k → ∀ o, w.heap[k]? = some o → w'.heap[k]? = some o)
theorem int_take {w : World} {A : Option Addr} {n m : Nat} {xs : List Int} (h : Kd.C (Kd.int .i64) w A n xs) (hm : m ≤ n) : Kd.C (Kd.int .i64) w A m (xs.take m) := by
  obtain ⟨h1, h2, h3⟩ := h
  refine ⟨by rw [List.length_take]; omega, by omega, fun hp => ?_⟩
  obtain ⟨a, ha, hr⟩ := h3 (by omega)
  refine ⟨a, ha, fun j x hj => ?_⟩
  rw [List.getElem?_take] at hj
  split at hj
  · exact hr j x hj
  · cases hj
section
variable {w0 w : World} {base B bm : Nat} {vo : Value} {os : List Int} {hand rounds : Int} {Au : Option Addr} {cu : Nat} {L : List Int} {h r : Int}
set_option maxHeartbeats 8000000 in
set_option maxRecDepth 100000 in
theorem does_take (hB : Both w0 w base B bm vo os hand rounds (.slice Au L.length cu) L) (d : Doc os hand rounds) (dL : Doc L h r) (hr1 : rounds < 1000000) (hr2 : r < 1000000) (n sp : Int) (hs : Wf sp) (A : Option Addr) (c : Nat) (xs : List Int) (hxc : xs.length ≤ c) (hC : Kd.C (Kd.int .i64) w0 A xs.length xs) :
    Calls Try.prog 42 #[.pointer (some ⟨B, 0, none⟩), .agg #[.slice Au L.length cu, .int .i64 h, .int .i64 r], .agg #[.int .i64 0, .int .i64 n, .int .i64 sp, .slice A xs.length c]] w (DoesP w0 w base B bm vo os hand rounds (.slice Au L.length cu) L h r) := by
  obtain ⟨T, hT, hTl, hTx⟩ : ∃ T : List Int, T = xs.take 10 ∧ T.length ≤ 10 ∧ (if (10 : Int) < (xs.length : Int) then 10 else (xs.length : Int)) = (T.length : Int) := ⟨_, rfl, by rw [List.length_take]; omega, by rw [List.length_take]; split <;> omega⟩
  have hTc : T.length ≤ c := by rw [hT, List.length_take]; omega
  have hCT : ∀ W, Below w0.heap.size w0 W → Kd.C (Kd.int .i64) W A T.length T := fun W hW => by
    have := int_take (Kd.C_below hC hW) (show T.length ≤ xs.length by rw [hT, List.length_take]; omega)
    have e : xs.take T.length = T := by rw [hT, List.length_take, List.take_eq_take_iff]; omega
    rwa [e] at this
  have HCT := Aside0.mk hCT
  clear hCT hT hC
  have hb0 := (((Below.refl w.heap.size w).alloc (Nat.le_refl _) (.cells #[.slice Au L.length cu, .int .i64 h, .int .i64 r] 67)).alloc (by simp) (.cells #[.int .i64 0, .int .i64 n, .int .i64 sp, .slice A xs.length c] 72)).alloc (by simp; omega) (.cells #[.slice none 0 0, .int .i64 0, .int .i64 0] 67)
  have hk4 := blk_alloc (blk_alloc (blk_new w (.cells #[.slice Au L.length cu, .int .i64 h, .int .i64 r] 67)) (.cells #[.int .i64 0, .int .i64 n, .int .i64 sp, .slice A xs.length c] 72)) (.cells #[.slice none 0 0, .int .i64 0, .int .i64 0] 67)
  have hk5 := blk_alloc (blk_new (w.alloc (.cells #[.slice Au L.length cu, .int .i64 h, .int .i64 r] 67)) (.cells #[.int .i64 0, .int .i64 n, .int .i64 sp, .slice A xs.length c] 72)) (.cells #[.slice none 0 0, .int .i64 0, .int .i64 0] 67)
  have hk6 := blk_new ((w.alloc (.cells #[.slice Au L.length cu, .int .i64 h, .int .i64 r] 67)).alloc (.cells #[.int .i64 0, .int .i64 n, .int .i64 sp, .slice A xs.length c] 72)) (.cells #[.slice none 0 0, .int .i64 0, .int .i64 0] 67)
  have hsz : (w.alloc (.cells #[.slice Au L.length cu, .int .i64 h, .int .i64 r] 67)).heap.size = w.heap.size + 1 := by simp
  have hsz2 : ((w.alloc (.cells #[.slice Au L.length cu, .int .i64 h, .int .i64 r] 67)).alloc (.cells #[.int .i64 0, .int .i64 n, .int .i64 sp, .slice A xs.length c] 72)).heap.size = w.heap.size + 2 := by simp
  rw [hsz] at hk5
  rw [hsz2] at hk6
  go_enter Try.func42, Try.ntmps42
  go_wp2_with fail
  have HXL := Aside0.mk (show ∀ k, Xp B bm vo (Value.slice Au L.length cu) k → k < w.heap.size from hB.st.lt)
  have HZ := Aside0.mk (hB.below hb0)
  have HDO := Aside0.mk d
  have HDL := Aside0.mk dL
  have HW0 := Aside0.mk hB.bl.size
  have HSY := Aside0.mk (show Stay (Xp B bm vo (Value.slice Au L.length cu)) w _ from Stay.below hb0)
  clear hB hb0 hsz hsz2 d dL
  generalize ((w.alloc (.cells #[.slice Au L.length cu, .int .i64 h, .int .i64 r] 67)).alloc (.cells #[.int .i64 0, .int .i64 n, .int .i64 sp, .slice A xs.length c] 72)).alloc (.cells #[.slice none 0 0, .int .i64 0, .int .i64 0] 67) = wD at *
  have HK4 := Aside0.mk hk4
  have HK5 := Aside0.mk hk5
  have HK6 := Aside0.mk hk6
  clear hk4 hk5 hk6
  obtain ⟨x0, x1, x2⟩ := And.intro ((blk_cell HK4.out 0).trans rfl) (And.intro ((blk_cell HK4.out 1).trans rfl) ((blk_cell HK4.out 2).trans rfl))
  obtain ⟨y0, y1, y2, y3⟩ := And.intro ((blk_cell HK5.out 0).trans rfl) (And.intro ((blk_cell HK5.out 1).trans rfl) (And.intro ((blk_cell HK5.out 2).trans rfl) ((blk_cell HK5.out 3).trans rfl)))
  obtain ⟨r0, r1, r2⟩ := And.intro ((blk_cell HK6.out 0).trans rfl) (And.intro ((blk_cell HK6.out 1).trans rfl) ((blk_cell HK6.out 2).trans rfl))
  have f6 := blk_frozen HK6.out
  obtain ⟨⟨L1, h1, r1', n1, e1⟩, ha⟩ : ∃ a, takeS L h r sp = a := ⟨_, rfl⟩
  obtain ⟨⟨os2, hd2, rn2, n2, e2⟩, hb⟩ : ∃ a, takeS os hand rounds sp = a := ⟨_, rfl⟩
  have hf := Take_f L h r sp HDL.out hr2
  rw [ha] at hf
  have HF := Aside0.mk hf
  have HNL := Aside0.mk (ha ▸ takeS_nx HDL.out hr2 hs)
  have HNO := Aside0.mk (hb ▸ takeS_nx HDO.out hr1 hs)
  have HEQ := Aside0.mk (show os = L → hand = h → rounds = r → ((os2, hd2, rn2, n2, e2) : Ans) = (L1, h1, r1', n1, e1) from fun a1 a2 a3 => by rw [← ha, ← hb, a1, a2, a3])
  have HB := Aside0.mk hb
  clear hf ha hb
  go_wp2_with fail
  refine (lookasideref14_Take_keep 9000 (fun k => some k = (Value.slice Au L.length cu).ownBlock) (.slice Au L.length cu) L h r sp L1 h1 r1' n1 e1 w0 wD HZ.out.bl HZ.out.own HF.out).mono ?_
  rintro e wE ⟨v1, rfl, hR1, hb1, hk1⟩
  obtain ⟨A1, c1, rfl⟩ := Kd.R_slice hR1
  clear x0 x1 x2 y0 y1 y2 y3 r0 r1 r2 f6 HF
  have hstay := Aside0.mk (show Stay (Xp B bm vo (Value.slice Au L.length cu)) _ _ from Stay.ref hk1 (fun k hk => hk.elim))
  replace HK4 := Aside0.mk (hstay.out _ (fun hx => by have := HXL.out _ hx; omega) _ HK4.out)
  replace HK5 := Aside0.mk (hstay.out _ (fun hx => by have := HXL.out _ hx; omega) _ HK5.out)
  replace HK6 := Aside0.mk (hstay.out _ (fun hx => by have := HXL.out _ hx; omega) _ HK6.out)
  replace HSY := Aside0.mk (HSY.out.trans hstay.out)
  clear hstay
  replace HZ := Aside0.mk (HZ.out.ref hR1 hk1 hb1)
  clear hR1 hk1 hb1
  have hbF := (Below.refl wE.heap.size wE).alloc (Nat.le_refl _) (.cells #[.slice A1 L1.length c1, .int .i64 h1, .int .i64 r1'] 67)
  have hkF := blk_new wE (.cells #[.slice A1 L1.length c1, .int .i64 h1, .int .i64 r1'] 67)
  have hlF := HK6.out
  have hlF := blk_lt hlF
  have hstay := Aside0.mk (show Stay (Xp B bm vo (Value.slice Au L.length cu)) _ _ from Stay.below hbF)
  replace HK4 := Aside0.mk (hstay.out _ (fun hx => by have := HXL.out _ hx; omega) _ HK4.out)
  replace HK5 := Aside0.mk (hstay.out _ (fun hx => by have := HXL.out _ hx; omega) _ HK5.out)
  replace HK6 := Aside0.mk (hstay.out _ (fun hx => by have := HXL.out _ hx; omega) _ HK6.out)
  replace HSY := Aside0.mk (HSY.out.trans hstay.out)
  clear hstay
  replace HZ := Aside0.mk (HZ.out.below hbF)
  have HKF := Aside0.mk hkF
  clear hbF hkF
  obtain ⟨x0, x1, x2⟩ := And.intro ((blk_cell HK4.out 0).trans rfl) (And.intro ((blk_cell HK4.out 1).trans rfl) ((blk_cell HK4.out 2).trans rfl))
  obtain ⟨y0, y1, y2, y3⟩ := And.intro ((blk_cell HK5.out 0).trans rfl) (And.intro ((blk_cell HK5.out 1).trans rfl) (And.intro ((blk_cell HK5.out 2).trans rfl) ((blk_cell HK5.out 3).trans rfl)))
  obtain ⟨r0, r1, r2⟩ := And.intro ((blk_cell HK6.out 0).trans rfl) (And.intro ((blk_cell HK6.out 1).trans rfl) ((blk_cell HK6.out 2).trans rfl))
  have f6 := blk_frozen HK6.out
  go_wp2_with fail
  generalize wE.alloc (.cells #[.slice A1 L1.length c1, .int .i64 h1, .int .i64 r1'] 67) = wF at *
  generalize wE.heap.size = g9 at *
  have hpool := take_S HZ.out.st HDO.out hs
  rw [HB.out] at hpool
  refine hpool.mono ?_
  clear hpool
  rintro e wG ⟨rfl, hst, hmv⟩
  clear x0 x1 x2 y0 y1 y2 y3 r0 r1 r2 f6
  have hstay := Aside0.mk (show Stay (Xp B bm vo (Value.slice Au L.length cu)) _ _ from Stay.pool hmv (fun k hk => hk))
  replace HK4 := Aside0.mk (hstay.out _ (fun hx => by have := HXL.out _ hx; omega) _ HK4.out)
  replace HK5 := Aside0.mk (hstay.out _ (fun hx => by have := HXL.out _ hx; omega) _ HK5.out)
  replace HK6 := Aside0.mk (hstay.out _ (fun hx => by have := HXL.out _ hx; omega) _ HK6.out)
  replace HSY := Aside0.mk (HSY.out.trans hstay.out)
  clear hstay
  have HKF' := Aside0.mk ((show Stay (Xp B bm vo (Value.slice Au L.length cu)) _ _ from Stay.pool hmv (fun k hk => hk)) g9 (fun hx => by have := HXL.out _ hx; omega) _ HKF.out)
  replace HZ := Aside0.mk (HZ.out.pool hst hmv)
  clear hst hmv HKF HB hlF
  obtain ⟨x0, x1, x2⟩ := And.intro ((blk_cell HK4.out 0).trans rfl) (And.intro ((blk_cell HK4.out 1).trans rfl) ((blk_cell HK4.out 2).trans rfl))
  obtain ⟨y0, y1, y2, y3⟩ := And.intro ((blk_cell HK5.out 0).trans rfl) (And.intro ((blk_cell HK5.out 1).trans rfl) (And.intro ((blk_cell HK5.out 2).trans rfl) ((blk_cell HK5.out 3).trans rfl)))
  obtain ⟨r0, r1, r2⟩ := And.intro ((blk_cell HK6.out 0).trans rfl) (And.intro ((blk_cell HK6.out 1).trans rfl) ((blk_cell HK6.out 2).trans rfl))
  have f6 := blk_frozen HK6.out
  obtain ⟨z0, z1, z2⟩ := And.intro ((blk_cell HKF'.out 0).trans rfl) (And.intro ((blk_cell HKF'.out 1).trans rfl) ((blk_cell HKF'.out 2).trans rfl))
  have hBG := HZ.out
  have hfar := ((hBG.far HK6.out (by decide) (Nat.le_trans HW0.out (Nat.le_add_right _ 2)) 0 (.slice A1 L1.length c1)).far (blk_put HK6.out 0 (.slice A1 L1.length c1) rfl) (by decide) (Nat.le_trans HW0.out (Nat.le_add_right _ 2)) 1 (.int .i64 h1)).far (blk_put (blk_put HK6.out 0 (.slice A1 L1.length c1) rfl) 1 (.int .i64 h1) rfl) (by decide) (Nat.le_trans HW0.out (Nat.le_add_right _ 2)) 2 (.int .i64 r1')
  have hk6' := blk_put (blk_put (blk_put HK6.out 0 (.slice A1 L1.length c1) rfl) 1 (.int .i64 h1) rfl) 2 (.int .i64 r1') rfl
  have HFAR := Aside0.mk hfar
  have HK6' := Aside0.mk hk6'
  have HFR := Aside0.mk (((HSY.out.far (w.heap.size + 2) 0 (.slice A1 L1.length c1)).far (w.heap.size + 2) 1 (.int .i64 h1)).far (w.heap.size + 2) 2 (.int .i64 r1'))
  clear hBG hfar hk6'
  by_cases hq1 : n2 = n1
  · have hb1 : (n2 == n1) = true := beq_iff_eq.2 hq1
    by_cases hq2 : e2 = e1
    · have hb2 : (e2 == e1) = true := beq_iff_eq.2 hq2
      go_wp2_with fail
      refine bodyPost_ret (results_ct rfl _ _ (w.heap.size + 2) 67 #[.slice A1 L1.length c1, .int .i64 h1, .int .i64 r1'] (0, 0) _ rfl HK6'.out Try.underlying67 rfl (by kernel_rfl)) rfl ?_
      exact ⟨os2, hd2, rn2, A1, c1, L1, h1, r1', true, rfl, HFAR.out, HNO.out.re, HNL.out.re, fun a1 a2 a3 => (by have := HEQ.out a1 a2 a3; simp only [Prod.mk.injEq] at this; exact ⟨rfl, this.1, this.2.1, this.2.2.1⟩), fun k hk hx => HFR.out k (fun hy => by rcases hy with ((hy | hy) | hy) | hy <;> first | exact hx hy | omega)⟩
    · have hb2 : (e2 == e1) = false := beq_eq_false_iff_ne.2 hq2
      go_wp2_with fail
      refine bodyPost_ret (results_ct rfl _ _ (w.heap.size + 2) 67 #[.slice A1 L1.length c1, .int .i64 h1, .int .i64 r1'] (0, 0) _ rfl HK6'.out Try.underlying67 rfl (by kernel_rfl)) rfl ?_
      exact ⟨os2, hd2, rn2, A1, c1, L1, h1, r1', false, rfl, HFAR.out, HNO.out.re, HNL.out.re, fun a1 a2 a3 => (by have := HEQ.out a1 a2 a3; simp only [Prod.mk.injEq] at this; exact absurd this.2.2.2.2 hq2), fun k hk hx => HFR.out k (fun hy => by rcases hy with ((hy | hy) | hy) | hy <;> first | exact hx hy | omega)⟩
  · have hb1 : (n2 == n1) = false := beq_eq_false_iff_ne.2 hq1
    go_wp2_with fail
    refine bodyPost_ret (results_ct rfl _ _ (w.heap.size + 2) 67 #[.slice A1 L1.length c1, .int .i64 h1, .int .i64 r1'] (0, 0) _ rfl HK6'.out Try.underlying67 rfl (by kernel_rfl)) rfl ?_
    exact ⟨os2, hd2, rn2, A1, c1, L1, h1, r1', false, rfl, HFAR.out, HNO.out.re, HNL.out.re, fun a1 a2 a3 => (by have := HEQ.out a1 a2 a3; simp only [Prod.mk.injEq] at this; exact absurd this.2.2.2.1 hq1), fun k hk hx => HFR.out k (fun hy => by rcases hy with ((hy | hy) | hy) | hy <;> first | exact hx hy | omega)⟩
set_option maxHeartbeats 8000000 in
set_option maxRecDepth 100000 in
theorem does_give (hB : Both w0 w base B bm vo os hand rounds (.slice Au L.length cu) L) (d : Doc os hand rounds) (dL : Doc L h r) (hr1 : rounds < 1000000) (hr2 : r < 1000000) (n sp : Int) (hs : Wf sp) (A : Option Addr) (c : Nat) (xs : List Int) (hxc : xs.length ≤ c) (hC : Kd.C (Kd.int .i64) w0 A xs.length xs) :
    Calls Try.prog 42 #[.pointer (some ⟨B, 0, none⟩), .agg #[.slice Au L.length cu, .int .i64 h, .int .i64 r], .agg #[.int .i64 2, .int .i64 n, .int .i64 sp, .slice A xs.length c]] w (DoesP w0 w base B bm vo os hand rounds (.slice Au L.length cu) L h r) := by
  obtain ⟨T, hT, hTl, hTx⟩ : ∃ T : List Int, T = xs.take 10 ∧ T.length ≤ 10 ∧ (if (10 : Int) < (xs.length : Int) then 10 else (xs.length : Int)) = (T.length : Int) := ⟨_, rfl, by rw [List.length_take]; omega, by rw [List.length_take]; split <;> omega⟩
  have hTc : T.length ≤ c := by rw [hT, List.length_take]; omega
  have hCT : ∀ W, Below w0.heap.size w0 W → Kd.C (Kd.int .i64) W A T.length T := fun W hW => by
    have := int_take (Kd.C_below hC hW) (show T.length ≤ xs.length by rw [hT, List.length_take]; omega)
    have e : xs.take T.length = T := by rw [hT, List.length_take, List.take_eq_take_iff]; omega
    rwa [e] at this
  have HCT := Aside0.mk hCT
  clear hCT hT hC
  have hb0 := (((Below.refl w.heap.size w).alloc (Nat.le_refl _) (.cells #[.slice Au L.length cu, .int .i64 h, .int .i64 r] 67)).alloc (by simp) (.cells #[.int .i64 2, .int .i64 n, .int .i64 sp, .slice A xs.length c] 72)).alloc (by simp; omega) (.cells #[.slice none 0 0, .int .i64 0, .int .i64 0] 67)
  have hk4 := blk_alloc (blk_alloc (blk_new w (.cells #[.slice Au L.length cu, .int .i64 h, .int .i64 r] 67)) (.cells #[.int .i64 2, .int .i64 n, .int .i64 sp, .slice A xs.length c] 72)) (.cells #[.slice none 0 0, .int .i64 0, .int .i64 0] 67)
  have hk5 := blk_alloc (blk_new (w.alloc (.cells #[.slice Au L.length cu, .int .i64 h, .int .i64 r] 67)) (.cells #[.int .i64 2, .int .i64 n, .int .i64 sp, .slice A xs.length c] 72)) (.cells #[.slice none 0 0, .int .i64 0, .int .i64 0] 67)
  have hk6 := blk_new ((w.alloc (.cells #[.slice Au L.length cu, .int .i64 h, .int .i64 r] 67)).alloc (.cells #[.int .i64 2, .int .i64 n, .int .i64 sp, .slice A xs.length c] 72)) (.cells #[.slice none 0 0, .int .i64 0, .int .i64 0] 67)
  have hsz : (w.alloc (.cells #[.slice Au L.length cu, .int .i64 h, .int .i64 r] 67)).heap.size = w.heap.size + 1 := by simp
  have hsz2 : ((w.alloc (.cells #[.slice Au L.length cu, .int .i64 h, .int .i64 r] 67)).alloc (.cells #[.int .i64 2, .int .i64 n, .int .i64 sp, .slice A xs.length c] 72)).heap.size = w.heap.size + 2 := by simp
  rw [hsz] at hk5
  rw [hsz2] at hk6
  go_enter Try.func42, Try.ntmps42
  go_wp2_with fail
  have HXL := Aside0.mk (show ∀ k, Xp B bm vo (Value.slice Au L.length cu) k → k < w.heap.size from hB.st.lt)
  have HZ := Aside0.mk (hB.below hb0)
  have HDO := Aside0.mk d
  have HDL := Aside0.mk dL
  have HW0 := Aside0.mk hB.bl.size
  have HSY := Aside0.mk (show Stay (Xp B bm vo (Value.slice Au L.length cu)) w _ from Stay.below hb0)
  clear hB hb0 hsz hsz2 d dL
  generalize ((w.alloc (.cells #[.slice Au L.length cu, .int .i64 h, .int .i64 r] 67)).alloc (.cells #[.int .i64 2, .int .i64 n, .int .i64 sp, .slice A xs.length c] 72)).alloc (.cells #[.slice none 0 0, .int .i64 0, .int .i64 0] 67) = wD at *
  have HK4 := Aside0.mk hk4
  have HK5 := Aside0.mk hk5
  have HK6 := Aside0.mk hk6
  clear hk4 hk5 hk6
  obtain ⟨x0, x1, x2⟩ := And.intro ((blk_cell HK4.out 0).trans rfl) (And.intro ((blk_cell HK4.out 1).trans rfl) ((blk_cell HK4.out 2).trans rfl))
  obtain ⟨y0, y1, y2, y3⟩ := And.intro ((blk_cell HK5.out 0).trans rfl) (And.intro ((blk_cell HK5.out 1).trans rfl) (And.intro ((blk_cell HK5.out 2).trans rfl) ((blk_cell HK5.out 3).trans rfl)))
  obtain ⟨r0, r1, r2⟩ := And.intro ((blk_cell HK6.out 0).trans rfl) (And.intro ((blk_cell HK6.out 1).trans rfl) ((blk_cell HK6.out 2).trans rfl))
  have f6 := blk_frozen HK6.out
  obtain ⟨⟨L1, h1, r1', n1, e1⟩, ha⟩ : ∃ a, giveS L h r sp = a := ⟨_, rfl⟩
  obtain ⟨⟨os2, hd2, rn2, n2, e2⟩, hb⟩ : ∃ a, giveS os hand rounds sp = a := ⟨_, rfl⟩
  have hf := Give_f L h r sp HDL.out
  rw [ha] at hf
  have HF := Aside0.mk hf
  have HNL := Aside0.mk (ha ▸ giveS_nx HDL.out sp)
  have HNO := Aside0.mk (hb ▸ giveS_nx HDO.out sp)
  have HEQ := Aside0.mk (show os = L → hand = h → rounds = r → ((os2, hd2, rn2, n2, e2) : Ans) = (L1, h1, r1', n1, e1) from fun a1 a2 a3 => by rw [← ha, ← hb, a1, a2, a3])
  have HB := Aside0.mk hb
  clear hf ha hb
  go_wp2_with fail
  refine (lookasideref14_Give_keep 9000 (fun k => some k = (Value.slice Au L.length cu).ownBlock) (.slice Au L.length cu) L h r sp L1 h1 r1' n1 e1 w0 wD HZ.out.bl HZ.out.own HF.out).mono ?_
  rintro e wE ⟨v1, rfl, hR1, hb1, hk1⟩
  obtain ⟨A1, c1, rfl⟩ := Kd.R_slice hR1
  clear x0 x1 x2 y0 y1 y2 y3 r0 r1 r2 f6 HF
  have hstay := Aside0.mk (show Stay (Xp B bm vo (Value.slice Au L.length cu)) _ _ from Stay.ref hk1 (fun k hk => hk.elim))
  replace HK4 := Aside0.mk (hstay.out _ (fun hx => by have := HXL.out _ hx; omega) _ HK4.out)
  replace HK5 := Aside0.mk (hstay.out _ (fun hx => by have := HXL.out _ hx; omega) _ HK5.out)
  replace HK6 := Aside0.mk (hstay.out _ (fun hx => by have := HXL.out _ hx; omega) _ HK6.out)
  replace HSY := Aside0.mk (HSY.out.trans hstay.out)
  clear hstay
  replace HZ := Aside0.mk (HZ.out.ref hR1 hk1 hb1)
  clear hR1 hk1 hb1
  have hbF := (Below.refl wE.heap.size wE).alloc (Nat.le_refl _) (.cells #[.slice A1 L1.length c1, .int .i64 h1, .int .i64 r1'] 67)
  have hkF := blk_new wE (.cells #[.slice A1 L1.length c1, .int .i64 h1, .int .i64 r1'] 67)
  have hlF := HK6.out
  have hlF := blk_lt hlF
  have hstay := Aside0.mk (show Stay (Xp B bm vo (Value.slice Au L.length cu)) _ _ from Stay.below hbF)
  replace HK4 := Aside0.mk (hstay.out _ (fun hx => by have := HXL.out _ hx; omega) _ HK4.out)
  replace HK5 := Aside0.mk (hstay.out _ (fun hx => by have := HXL.out _ hx; omega) _ HK5.out)
  replace HK6 := Aside0.mk (hstay.out _ (fun hx => by have := HXL.out _ hx; omega) _ HK6.out)
  replace HSY := Aside0.mk (HSY.out.trans hstay.out)
  clear hstay
  replace HZ := Aside0.mk (HZ.out.below hbF)
  have HKF := Aside0.mk hkF
  clear hbF hkF
  obtain ⟨x0, x1, x2⟩ := And.intro ((blk_cell HK4.out 0).trans rfl) (And.intro ((blk_cell HK4.out 1).trans rfl) ((blk_cell HK4.out 2).trans rfl))
  obtain ⟨y0, y1, y2, y3⟩ := And.intro ((blk_cell HK5.out 0).trans rfl) (And.intro ((blk_cell HK5.out 1).trans rfl) (And.intro ((blk_cell HK5.out 2).trans rfl) ((blk_cell HK5.out 3).trans rfl)))
  obtain ⟨r0, r1, r2⟩ := And.intro ((blk_cell HK6.out 0).trans rfl) (And.intro ((blk_cell HK6.out 1).trans rfl) ((blk_cell HK6.out 2).trans rfl))
  have f6 := blk_frozen HK6.out
  go_wp2_with fail
  generalize wE.alloc (.cells #[.slice A1 L1.length c1, .int .i64 h1, .int .i64 r1'] 67) = wF at *
  generalize wE.heap.size = g9 at *
  have hpool := give_S HZ.out.st HDO.out hs
  rw [HB.out] at hpool
  refine hpool.mono ?_
  clear hpool
  rintro e wG ⟨rfl, hst, hmv⟩
  clear x0 x1 x2 y0 y1 y2 y3 r0 r1 r2 f6
  have hstay := Aside0.mk (show Stay (Xp B bm vo (Value.slice Au L.length cu)) _ _ from Stay.pool hmv (fun k hk => hk))
  replace HK4 := Aside0.mk (hstay.out _ (fun hx => by have := HXL.out _ hx; omega) _ HK4.out)
  replace HK5 := Aside0.mk (hstay.out _ (fun hx => by have := HXL.out _ hx; omega) _ HK5.out)
  replace HK6 := Aside0.mk (hstay.out _ (fun hx => by have := HXL.out _ hx; omega) _ HK6.out)
  replace HSY := Aside0.mk (HSY.out.trans hstay.out)
  clear hstay
  have HKF' := Aside0.mk ((show Stay (Xp B bm vo (Value.slice Au L.length cu)) _ _ from Stay.pool hmv (fun k hk => hk)) g9 (fun hx => by have := HXL.out _ hx; omega) _ HKF.out)
  replace HZ := Aside0.mk (HZ.out.pool hst hmv)
  clear hst hmv HKF HB hlF
  obtain ⟨x0, x1, x2⟩ := And.intro ((blk_cell HK4.out 0).trans rfl) (And.intro ((blk_cell HK4.out 1).trans rfl) ((blk_cell HK4.out 2).trans rfl))
  obtain ⟨y0, y1, y2, y3⟩ := And.intro ((blk_cell HK5.out 0).trans rfl) (And.intro ((blk_cell HK5.out 1).trans rfl) (And.intro ((blk_cell HK5.out 2).trans rfl) ((blk_cell HK5.out 3).trans rfl)))
  obtain ⟨r0, r1, r2⟩ := And.intro ((blk_cell HK6.out 0).trans rfl) (And.intro ((blk_cell HK6.out 1).trans rfl) ((blk_cell HK6.out 2).trans rfl))
  have f6 := blk_frozen HK6.out
  obtain ⟨z0, z1, z2⟩ := And.intro ((blk_cell HKF'.out 0).trans rfl) (And.intro ((blk_cell HKF'.out 1).trans rfl) ((blk_cell HKF'.out 2).trans rfl))
  have hBG := HZ.out
  have hfar := ((hBG.far HK6.out (by decide) (Nat.le_trans HW0.out (Nat.le_add_right _ 2)) 0 (.slice A1 L1.length c1)).far (blk_put HK6.out 0 (.slice A1 L1.length c1) rfl) (by decide) (Nat.le_trans HW0.out (Nat.le_add_right _ 2)) 1 (.int .i64 h1)).far (blk_put (blk_put HK6.out 0 (.slice A1 L1.length c1) rfl) 1 (.int .i64 h1) rfl) (by decide) (Nat.le_trans HW0.out (Nat.le_add_right _ 2)) 2 (.int .i64 r1')
  have hk6' := blk_put (blk_put (blk_put HK6.out 0 (.slice A1 L1.length c1) rfl) 1 (.int .i64 h1) rfl) 2 (.int .i64 r1') rfl
  have HFAR := Aside0.mk hfar
  have HK6' := Aside0.mk hk6'
  have HFR := Aside0.mk (((HSY.out.far (w.heap.size + 2) 0 (.slice A1 L1.length c1)).far (w.heap.size + 2) 1 (.int .i64 h1)).far (w.heap.size + 2) 2 (.int .i64 r1'))
  clear hBG hfar hk6'
  by_cases hq1 : n2 = n1
  · have hb1 : (n2 == n1) = true := beq_iff_eq.2 hq1
    by_cases hq2 : e2 = e1
    · have hb2 : (e2 == e1) = true := beq_iff_eq.2 hq2
      go_wp2_with fail
      refine bodyPost_ret (results_ct rfl _ _ (w.heap.size + 2) 67 #[.slice A1 L1.length c1, .int .i64 h1, .int .i64 r1'] (0, 0) _ rfl HK6'.out Try.underlying67 rfl (by kernel_rfl)) rfl ?_
      exact ⟨os2, hd2, rn2, A1, c1, L1, h1, r1', true, rfl, HFAR.out, HNO.out.re, HNL.out.re, fun a1 a2 a3 => (by have := HEQ.out a1 a2 a3; simp only [Prod.mk.injEq] at this; exact ⟨rfl, this.1, this.2.1, this.2.2.1⟩), fun k hk hx => HFR.out k (fun hy => by rcases hy with ((hy | hy) | hy) | hy <;> first | exact hx hy | omega)⟩
    · have hb2 : (e2 == e1) = false := beq_eq_false_iff_ne.2 hq2
      go_wp2_with fail
      refine bodyPost_ret (results_ct rfl _ _ (w.heap.size + 2) 67 #[.slice A1 L1.length c1, .int .i64 h1, .int .i64 r1'] (0, 0) _ rfl HK6'.out Try.underlying67 rfl (by kernel_rfl)) rfl ?_
      exact ⟨os2, hd2, rn2, A1, c1, L1, h1, r1', false, rfl, HFAR.out, HNO.out.re, HNL.out.re, fun a1 a2 a3 => (by have := HEQ.out a1 a2 a3; simp only [Prod.mk.injEq] at this; exact absurd this.2.2.2.2 hq2), fun k hk hx => HFR.out k (fun hy => by rcases hy with ((hy | hy) | hy) | hy <;> first | exact hx hy | omega)⟩
  · have hb1 : (n2 == n1) = false := beq_eq_false_iff_ne.2 hq1
    go_wp2_with fail
    refine bodyPost_ret (results_ct rfl _ _ (w.heap.size + 2) 67 #[.slice A1 L1.length c1, .int .i64 h1, .int .i64 r1'] (0, 0) _ rfl HK6'.out Try.underlying67 rfl (by kernel_rfl)) rfl ?_
    exact ⟨os2, hd2, rn2, A1, c1, L1, h1, r1', false, rfl, HFAR.out, HNO.out.re, HNL.out.re, fun a1 a2 a3 => (by have := HEQ.out a1 a2 a3; simp only [Prod.mk.injEq] at this; exact absurd this.2.2.2.1 hq1), fun k hk hx => HFR.out k (fun hy => by rcases hy with ((hy | hy) | hy) | hy <;> first | exact hx hy | omega)⟩
end

end Go.Proofs.Ytcbnmmkmgpbfiaa.PP
/- The law's 'asks' (layer 14). -/
namespace Go.Proofs.Ytcbnmmkmgpbfiaa.PP
open Go.RowKit Go.Proofs.Ytcbnmmkmgpbfiaa.PX Go.Proofs.YtcbnmmkmgpbfiaaW.PrintWords Go.Proofs.YtcbnmmkmgpbfiaaW.PrintLast Go.Proofs.YtcbnmmkmgpbfiaaW.PrintMore
attribute [local go_sem] max2_int min2_int max_two min_two max_three min_three max_four min_four   -- for this text's walks alone
set_option linter.unusedVariables false
set_option linter.unusedSimpArgs false
/-- Of the document's list: whose a number is. -/
def odocS (L : List Int) (n : Int) : Int := if inP n L.length = true then L.getD (n - 1).toNat (-1) else -1
theorem asks_eq {L : List Int} {h r : Int} (d : Doc L h r) (n : Int) : (ownerP L n).2 = decide (odocS L n ≥ 0) ∧ (ownerP L n).1 = max (odocS L n) 0 := by
  unfold odocS
  by_cases hi : inP n L.length = true
  · have hin := hi
    unfold inP at hin
    have hin := of_decide_eq_true hin
    obtain ⟨j, rfl⟩ : ∃ j : Nat, n = (j : Int) + 1 := ⟨(n - 1).toNat, by omega⟩
    have hj : j < L.length := by omega
    have hlow := (d.low _ (List.getElem_mem hj)).1
    rw [owner_low hj hlow, if_pos hi, show ((j : Int) + 1 - 1).toNat = j by omega, List.getD_eq_getElem?_getD, List.getElem?_eq_getElem hj, Option.getD_some]
    split
    · next e => exact ⟨by rw [decide_eq_false (by omega)], by show (0 : Int) = max L[j] 0; omega⟩
    · next e => exact ⟨by rw [decide_eq_true (by omega)], by show L[j] = max L[j] 0; omega⟩
  · unfold ownerP
    rw [if_neg (fun e => hi e.1), if_neg hi]
    exact ⟨by decide, by decide⟩
def AsksP (os L : List Int) (w : World) (e : Ending) (w' : World) : Prop := ∃ b : Bool, e = .returned (.bool b) ∧ (os = L → b = true) ∧ Below w.heap.size w w'
set_option maxHeartbeats 8000000 in
set_option maxRecDepth 100000 in
theorem asks_calls {w : World} {base B bm : Nat} {vo : Value} {os : List Int} {hand rounds : Int} {Au : Option Addr} {cu : Nat} {L : List Int} {h r : Int} (hst : St w base B bm vo os hand rounds) (d : Doc os hand rounds) (dL : Doc L h r) (hcu : L.length ≤ cu) (hCL : Kd.C (Kd.int .i64) w Au L.length L) (kd n sp : Int) (hs : Wf sp) (Av : Option Addr) (nv cv : Nat) :
    Calls Try.prog 76 #[.pointer (some ⟨B, 0, none⟩), .agg #[.slice Au L.length cu, .int .i64 h, .int .i64 r], .agg #[.int .i64 kd, .int .i64 n, .int .i64 sp, .slice Av nv cv]] w (AsksP os L w) := by
  have hdl := dL.len
  have hb0 := ((Below.refl w.heap.size w).alloc (Nat.le_refl _) (.cells #[.slice Au L.length cu, .int .i64 h, .int .i64 r] 67)).alloc (by simp) (.cells #[.int .i64 kd, .int .i64 n, .int .i64 sp, .slice Av nv cv] 72)
  have hk4 := blk_alloc (blk_new w (.cells #[.slice Au L.length cu, .int .i64 h, .int .i64 r] 67)) (.cells #[.int .i64 kd, .int .i64 n, .int .i64 sp, .slice Av nv cv] 72)
  have hk5 := blk_new (w.alloc (.cells #[.slice Au L.length cu, .int .i64 h, .int .i64 r] 67)) (.cells #[.int .i64 kd, .int .i64 n, .int .i64 sp, .slice Av nv cv] 72)
  have hsz : (w.alloc (.cells #[.slice Au L.length cu, .int .i64 h, .int .i64 r] 67)).heap.size = w.heap.size + 1 := by simp
  rw [hsz] at hk5
  obtain ⟨x0, x1, x2⟩ := And.intro ((blk_cell hk4 0).trans rfl) (And.intro ((blk_cell hk4 1).trans rfl) ((blk_cell hk4 2).trans rfl))
  obtain ⟨y0, y1, y2, y3⟩ := And.intro ((blk_cell hk5 0).trans rfl) (And.intro ((blk_cell hk5 1).trans rfl) (And.intro ((blk_cell hk5 2).trans rfl) ((blk_cell hk5 3).trans rfl)))
  have HST := Aside0.mk (hst.below hb0)
  have HC := Aside0.mk (Kd.C_below hCL hb0)
  have HB := Aside0.mk hb0
  have HD := Aside0.mk d
  have HDL := Aside0.mk dL
  have HK4 := Aside0.mk hk4
  have HK5 := Aside0.mk hk5
  have HCU := Aside0.mk hcu
  clear hst hCL hb0 d hk4 hk5 hsz dL hcu
  go_enter Try.func76, Try.ntmps76
  go_wp2_with fail
  generalize (w.alloc (.cells #[.slice Au L.length cu, .int .i64 h, .int .i64 r] 67)).alloc (.cells #[.int .i64 kd, .int .i64 n, .int .i64 sp, .slice Av nv cv] 72) = wD at *
  refine (of_S HST.out hs).mono ?_
  rintro e w1 ⟨rfl, rfl⟩
  go_wp2_with fail
  refine (lookasideref14_Of.calls 9000 Au cu L h r sp _ w1 HC.out HCU.out (Of_f L h r sp (by omega) 9000 (by omega))).mono ?_
  rintro e w2 ⟨rfl, hb2⟩
  clear x0 x1 x2 y0 y1 y2 y3
  replace HST := Aside0.mk (HST.out.below hb2)
  replace HC := Aside0.mk (Kd.C_below HC.out hb2)
  replace HB := Aside0.mk (HB.out.trans (hb2.mono HB.out.size))
  replace HK4 := Aside0.mk (blk_below HK4.out hb2)
  replace HK5 := Aside0.mk (blk_below HK5.out hb2)
  clear hb2
  obtain ⟨x0, x1, x2⟩ := And.intro ((blk_cell HK4.out 0).trans rfl) (And.intro ((blk_cell HK4.out 1).trans rfl) ((blk_cell HK4.out 2).trans rfl))
  obtain ⟨y0, y1, y2, y3⟩ := And.intro ((blk_cell HK5.out 0).trans rfl) (And.intro ((blk_cell HK5.out 1).trans rfl) (And.intro ((blk_cell HK5.out 2).trans rfl) ((blk_cell HK5.out 3).trans rfl)))
  go_wp2_with fail
  refine (owner_S HST.out HD.out n).mono ?_
  rintro e w3 ⟨rfl, rfl⟩
  go_wp2_with fail
  refine (lookasideref14_Owner.calls Au cu L h r n (odocS L n) w3 HC.out HCU.out (Owner_f L h r n (by omega))).mono ?_
  rintro e w4 ⟨rfl, hb4⟩
  have hbf := HB.out.trans (hb4.mono HB.out.size)
  have heq := asks_eq HDL.out n
  clear x0 x1 x2 y0 y1 y2 y3 HST HC HB HK4 HK5 hb4
  have HEQ := Aside0.mk (show os = L → (ofS os sp == ofS L sp) = true ∧ (decide (ofS os sp > 0) == decide (ofS L sp > 0)) = true ∧ ((ownerP os n).2 == decide (odocS L n ≥ 0)) = true ∧ ((ownerP os n).1 == max (odocS L n) 0) = true from fun e => by
    subst e; rw [heq.1, heq.2]; simp)
  clear heq
  generalize ofS os sp = n1 at *
  generalize ofS L sp = m1 at *
  generalize odocS L n = o1 at *
  generalize ownerP os n = q at *
  obtain ⟨s1, b2⟩ := q
  simp only at HEQ ⊢
  obtain ⟨mx, hmx⟩ : ∃ mx, max o1 0 = mx := ⟨_, rfl⟩
  rw [hmx] at HEQ
  have hmc : (o1 < 0 ∧ mx = 0) ∨ (¬ o1 < 0 ∧ mx = o1) := by omega
  clear hmx
  rcases hmc with ⟨hm, rfl⟩ | ⟨hm, rfl⟩
  · by_cases c1 : (n1 == m1) = true
    · by_cases c2 : (decide (n1 > 0) == decide (m1 > 0)) = true
      · by_cases c3 : (b2 == decide (o1 ≥ 0)) = true
        · by_cases c4 : (s1 == 0) = true
          · go_wp2
            go_ret
            exact ⟨true, rfl, fun _ => rfl, hbf⟩
          · have c4' : (s1 == 0) = false := by simpa using c4
            go_wp2
            go_ret
            exact ⟨false, rfl, fun e => absurd (HEQ.out e).2.2.2 c4, hbf⟩
        · have c3' : (b2 == decide (o1 ≥ 0)) = false := by simpa using c3
          go_wp2
          go_ret
          exact ⟨false, rfl, fun e => absurd (HEQ.out e).2.2.1 c3, hbf⟩
      · have c2' : (decide (n1 > 0) == decide (m1 > 0)) = false := by simpa using c2
        go_wp2
        go_ret
        exact ⟨false, rfl, fun e => absurd (HEQ.out e).2.1 c2, hbf⟩
    · have c1' : (n1 == m1) = false := by simpa using c1
      go_wp2
      go_ret
      exact ⟨false, rfl, fun e => absurd (HEQ.out e).1 c1, hbf⟩
  · by_cases c1 : (n1 == m1) = true
    · by_cases c2 : (decide (n1 > 0) == decide (m1 > 0)) = true
      · by_cases c3 : (b2 == decide (mx ≥ 0)) = true
        · by_cases c4 : (s1 == mx) = true
          · go_wp2
            go_ret
            exact ⟨true, rfl, fun _ => rfl, hbf⟩
          · have c4' : (s1 == mx) = false := by simpa using c4
            go_wp2
            go_ret
            exact ⟨false, rfl, fun e => absurd (HEQ.out e).2.2.2 c4, hbf⟩
        · have c3' : (b2 == decide (mx ≥ 0)) = false := by simpa using c3
          go_wp2
          go_ret
          exact ⟨false, rfl, fun e => absurd (HEQ.out e).2.2.1 c3, hbf⟩
      · have c2' : (decide (n1 > 0) == decide (m1 > 0)) = false := by simpa using c2
        go_wp2
        go_ret
        exact ⟨false, rfl, fun e => absurd (HEQ.out e).2.1 c2, hbf⟩
    · have c1' : (n1 == m1) = false := by simpa using c1
      go_wp2
      go_ret
      exact ⟨false, rfl, fun e => absurd (HEQ.out e).1 c1, hbf⟩

end Go.Proofs.Ytcbnmmkmgpbfiaa.PP
/- The law's 'does' (layer 14): thefts, victims, questions; all kinds. Written by mkctxdp.py. -/
namespace Go.Proofs.Ytcbnmmkmgpbfiaa.PP
open Go.RowKit Go.Proofs.Ytcbnmmkmgpbfiaa.PX Go.Proofs.YtcbnmmkmgpbfiaaW.PrintWords Go.Proofs.YtcbnmmkmgpbfiaaW.PrintLast Go.Proofs.YtcbnmmkmgpbfiaaW.PrintMore
attribute [local go_sem] max2_int min2_int max_two min_two max_three min_three max_four min_four   -- for this text's walks alone
set_option linter.unusedVariables false
set_option linter.unusedSimpArgs false
section
variable {w0 w : World} {base B bm : Nat} {vo : Value} {os : List Int} {hand rounds : Int} {Au : Option Addr} {cu : Nat} {L : List Int} {h r : Int}
set_option maxHeartbeats 8000000 in
set_option maxRecDepth 100000 in
theorem does_steal (hB : Both w0 w base B bm vo os hand rounds (.slice Au L.length cu) L) (d : Doc os hand rounds) (dL : Doc L h r) (hr1 : rounds < 1000000) (hr2 : r < 1000000) (n sp : Int) (hn : Wf n) (hs : Wf sp) (A : Option Addr) (c : Nat) (xs : List Int) (hxc : xs.length ≤ c) (hC : Kd.C (Kd.int .i64) w0 A xs.length xs) :
    Calls Try.prog 42 #[.pointer (some ⟨B, 0, none⟩), .agg #[.slice Au L.length cu, .int .i64 h, .int .i64 r], .agg #[.int .i64 1, .int .i64 n, .int .i64 sp, .slice A xs.length c]] w (DoesP w0 w base B bm vo os hand rounds (.slice Au L.length cu) L h r) := by
  obtain ⟨T, hT, hTl, hTx⟩ : ∃ T : List Int, T = xs.take 10 ∧ T.length ≤ 10 ∧ (if (10 : Int) < (xs.length : Int) then 10 else (xs.length : Int)) = (T.length : Int) := ⟨_, rfl, by rw [List.length_take]; omega, by rw [List.length_take]; split <;> omega⟩
  have hTc : T.length ≤ c := by rw [hT, List.length_take]; omega
  have hCT : ∀ W, Below w0.heap.size w0 W → Kd.C (Kd.int .i64) W A T.length T := fun W hW => by
    have := int_take (Kd.C_below hC hW) (show T.length ≤ xs.length by rw [hT, List.length_take]; omega)
    have e : xs.take T.length = T := by rw [hT, List.length_take, List.take_eq_take_iff]; omega
    rwa [e] at this
  have HCT := Aside0.mk hCT
  clear hCT hT hC
  have hb0 := (((Below.refl w.heap.size w).alloc (Nat.le_refl _) (.cells #[.slice Au L.length cu, .int .i64 h, .int .i64 r] 67)).alloc (by simp) (.cells #[.int .i64 1, .int .i64 n, .int .i64 sp, .slice A xs.length c] 72)).alloc (by simp; omega) (.cells #[.slice none 0 0, .int .i64 0, .int .i64 0] 67)
  have hk4 := blk_alloc (blk_alloc (blk_new w (.cells #[.slice Au L.length cu, .int .i64 h, .int .i64 r] 67)) (.cells #[.int .i64 1, .int .i64 n, .int .i64 sp, .slice A xs.length c] 72)) (.cells #[.slice none 0 0, .int .i64 0, .int .i64 0] 67)
  have hk5 := blk_alloc (blk_new (w.alloc (.cells #[.slice Au L.length cu, .int .i64 h, .int .i64 r] 67)) (.cells #[.int .i64 1, .int .i64 n, .int .i64 sp, .slice A xs.length c] 72)) (.cells #[.slice none 0 0, .int .i64 0, .int .i64 0] 67)
  have hk6 := blk_new ((w.alloc (.cells #[.slice Au L.length cu, .int .i64 h, .int .i64 r] 67)).alloc (.cells #[.int .i64 1, .int .i64 n, .int .i64 sp, .slice A xs.length c] 72)) (.cells #[.slice none 0 0, .int .i64 0, .int .i64 0] 67)
  have hsz : (w.alloc (.cells #[.slice Au L.length cu, .int .i64 h, .int .i64 r] 67)).heap.size = w.heap.size + 1 := by simp
  have hsz2 : ((w.alloc (.cells #[.slice Au L.length cu, .int .i64 h, .int .i64 r] 67)).alloc (.cells #[.int .i64 1, .int .i64 n, .int .i64 sp, .slice A xs.length c] 72)).heap.size = w.heap.size + 2 := by simp
  rw [hsz] at hk5
  rw [hsz2] at hk6
  go_enter Try.func42, Try.ntmps42
  go_wp2_with fail
  have HXL := Aside0.mk (show ∀ k, Xp B bm vo (Value.slice Au L.length cu) k → k < w.heap.size from hB.st.lt)
  have HZ := Aside0.mk (hB.below hb0)
  have HDO := Aside0.mk d
  have HDL := Aside0.mk dL
  have HW0 := Aside0.mk hB.bl.size
  have HSY := Aside0.mk (show Stay (Xp B bm vo (Value.slice Au L.length cu)) w _ from Stay.below hb0)
  clear hB hb0 hsz hsz2 d dL
  generalize ((w.alloc (.cells #[.slice Au L.length cu, .int .i64 h, .int .i64 r] 67)).alloc (.cells #[.int .i64 1, .int .i64 n, .int .i64 sp, .slice A xs.length c] 72)).alloc (.cells #[.slice none 0 0, .int .i64 0, .int .i64 0] 67) = wD at *
  have HK4 := Aside0.mk hk4
  have HK5 := Aside0.mk hk5
  have HK6 := Aside0.mk hk6
  clear hk4 hk5 hk6
  obtain ⟨x0, x1, x2⟩ := And.intro ((blk_cell HK4.out 0).trans rfl) (And.intro ((blk_cell HK4.out 1).trans rfl) ((blk_cell HK4.out 2).trans rfl))
  obtain ⟨y0, y1, y2, y3⟩ := And.intro ((blk_cell HK5.out 0).trans rfl) (And.intro ((blk_cell HK5.out 1).trans rfl) (And.intro ((blk_cell HK5.out 2).trans rfl) ((blk_cell HK5.out 3).trans rfl)))
  obtain ⟨r0, r1, r2⟩ := And.intro ((blk_cell HK6.out 0).trans rfl) (And.intro ((blk_cell HK6.out 1).trans rfl) ((blk_cell HK6.out 2).trans rfl))
  have f6 := blk_frozen HK6.out
  obtain ⟨⟨L1, h1, r1', n1, e1⟩, ha⟩ : ∃ a, stealS L h r n sp = a := ⟨_, rfl⟩
  obtain ⟨⟨os2, hd2, rn2, n2, e2⟩, hb⟩ : ∃ a, stealS os hand rounds n sp = a := ⟨_, rfl⟩
  have hf := Steal_f L h r n sp HDL.out hr2
  rw [ha] at hf
  have HF := Aside0.mk hf
  have HNL := Aside0.mk (ha ▸ stealS_nx HDL.out hr2 n hs)
  have HNO := Aside0.mk (hb ▸ stealS_nx HDO.out hr1 n hs)
  have HEQ := Aside0.mk (show os = L → hand = h → rounds = r → ((os2, hd2, rn2, n2, e2) : Ans) = (L1, h1, r1', n1, e1) from fun a1 a2 a3 => by rw [← ha, ← hb, a1, a2, a3])
  have HB := Aside0.mk hb
  clear hf ha hb
  go_wp2_with fail
  refine (lookasideref14_Steal_keep 9000 (fun k => some k = (Value.slice Au L.length cu).ownBlock) (.slice Au L.length cu) L h r n sp L1 h1 r1' n1 e1 w0 _ HZ.out.bl HZ.out.own HF.out).mono ?_
  rintro e wE ⟨v1, rfl, hR1, hb1, hk1⟩
  obtain ⟨A1, c1, rfl⟩ := Kd.R_slice hR1
  clear x0 x1 x2 y0 y1 y2 y3 r0 r1 r2 f6 HF
  have hstay := Aside0.mk (show Stay (Xp B bm vo (Value.slice Au L.length cu)) _ _ from Stay.ref hk1 (fun k hk => hk.elim))
  replace HK4 := Aside0.mk (hstay.out _ (fun hx => by have := HXL.out _ hx; omega) _ HK4.out)
  replace HK5 := Aside0.mk (hstay.out _ (fun hx => by have := HXL.out _ hx; omega) _ HK5.out)
  replace HK6 := Aside0.mk (hstay.out _ (fun hx => by have := HXL.out _ hx; omega) _ HK6.out)
  replace HSY := Aside0.mk (HSY.out.trans hstay.out)
  clear hstay
  replace HZ := Aside0.mk (HZ.out.ref hR1 hk1 hb1)
  clear hR1 hk1 hb1
  have hbF := (Below.refl wE.heap.size wE).alloc (Nat.le_refl _) (.cells #[.slice A1 L1.length c1, .int .i64 h1, .int .i64 r1'] 67)
  have hkF := blk_new wE (.cells #[.slice A1 L1.length c1, .int .i64 h1, .int .i64 r1'] 67)
  have hlF := HK6.out
  have hlF := blk_lt hlF
  have hstay := Aside0.mk (show Stay (Xp B bm vo (Value.slice Au L.length cu)) _ _ from Stay.below hbF)
  replace HK4 := Aside0.mk (hstay.out _ (fun hx => by have := HXL.out _ hx; omega) _ HK4.out)
  replace HK5 := Aside0.mk (hstay.out _ (fun hx => by have := HXL.out _ hx; omega) _ HK5.out)
  replace HK6 := Aside0.mk (hstay.out _ (fun hx => by have := HXL.out _ hx; omega) _ HK6.out)
  replace HSY := Aside0.mk (HSY.out.trans hstay.out)
  clear hstay
  replace HZ := Aside0.mk (HZ.out.below hbF)
  have HKF := Aside0.mk hkF
  clear hbF hkF
  obtain ⟨x0, x1, x2⟩ := And.intro ((blk_cell HK4.out 0).trans rfl) (And.intro ((blk_cell HK4.out 1).trans rfl) ((blk_cell HK4.out 2).trans rfl))
  obtain ⟨y0, y1, y2, y3⟩ := And.intro ((blk_cell HK5.out 0).trans rfl) (And.intro ((blk_cell HK5.out 1).trans rfl) (And.intro ((blk_cell HK5.out 2).trans rfl) ((blk_cell HK5.out 3).trans rfl)))
  obtain ⟨r0, r1, r2⟩ := And.intro ((blk_cell HK6.out 0).trans rfl) (And.intro ((blk_cell HK6.out 1).trans rfl) ((blk_cell HK6.out 2).trans rfl))
  have f6 := blk_frozen HK6.out
  go_wp2_with fail
  generalize wE.alloc (.cells #[.slice A1 L1.length c1, .int .i64 h1, .int .i64 r1'] 67) = wF at *
  generalize wE.heap.size = g9 at *
  have hpool := steal_S HZ.out.st HDO.out (n := n) hn hs
  rw [HB.out] at hpool
  refine hpool.mono ?_
  clear hpool
  rintro e wG ⟨rfl, hst, hmv⟩
  clear x0 x1 x2 y0 y1 y2 y3 r0 r1 r2 f6
  have hstay := Aside0.mk (show Stay (Xp B bm vo (Value.slice Au L.length cu)) _ _ from Stay.pool hmv (fun k hk => hk))
  replace HK4 := Aside0.mk (hstay.out _ (fun hx => by have := HXL.out _ hx; omega) _ HK4.out)
  replace HK5 := Aside0.mk (hstay.out _ (fun hx => by have := HXL.out _ hx; omega) _ HK5.out)
  replace HK6 := Aside0.mk (hstay.out _ (fun hx => by have := HXL.out _ hx; omega) _ HK6.out)
  replace HSY := Aside0.mk (HSY.out.trans hstay.out)
  clear hstay
  have HKF' := Aside0.mk ((show Stay (Xp B bm vo (Value.slice Au L.length cu)) _ _ from Stay.pool hmv (fun k hk => hk)) g9 (fun hx => by have := HXL.out _ hx; omega) _ HKF.out)
  replace HZ := Aside0.mk (HZ.out.pool hst hmv)
  clear hst hmv HKF HB hlF
  obtain ⟨x0, x1, x2⟩ := And.intro ((blk_cell HK4.out 0).trans rfl) (And.intro ((blk_cell HK4.out 1).trans rfl) ((blk_cell HK4.out 2).trans rfl))
  obtain ⟨y0, y1, y2, y3⟩ := And.intro ((blk_cell HK5.out 0).trans rfl) (And.intro ((blk_cell HK5.out 1).trans rfl) (And.intro ((blk_cell HK5.out 2).trans rfl) ((blk_cell HK5.out 3).trans rfl)))
  obtain ⟨r0, r1, r2⟩ := And.intro ((blk_cell HK6.out 0).trans rfl) (And.intro ((blk_cell HK6.out 1).trans rfl) ((blk_cell HK6.out 2).trans rfl))
  have f6 := blk_frozen HK6.out
  obtain ⟨z0, z1, z2⟩ := And.intro ((blk_cell HKF'.out 0).trans rfl) (And.intro ((blk_cell HKF'.out 1).trans rfl) ((blk_cell HKF'.out 2).trans rfl))
  have hBG := HZ.out
  have hfar := ((hBG.far HK6.out (by decide) (Nat.le_trans HW0.out (Nat.le_add_right _ 2)) 0 (.slice A1 L1.length c1)).far (blk_put HK6.out 0 (.slice A1 L1.length c1) rfl) (by decide) (Nat.le_trans HW0.out (Nat.le_add_right _ 2)) 1 (.int .i64 h1)).far (blk_put (blk_put HK6.out 0 (.slice A1 L1.length c1) rfl) 1 (.int .i64 h1) rfl) (by decide) (Nat.le_trans HW0.out (Nat.le_add_right _ 2)) 2 (.int .i64 r1')
  have hk6' := blk_put (blk_put (blk_put HK6.out 0 (.slice A1 L1.length c1) rfl) 1 (.int .i64 h1) rfl) 2 (.int .i64 r1') rfl
  have HFAR := Aside0.mk hfar
  have HK6' := Aside0.mk hk6'
  have HFR := Aside0.mk (((HSY.out.far (w.heap.size + 2) 0 (.slice A1 L1.length c1)).far (w.heap.size + 2) 1 (.int .i64 h1)).far (w.heap.size + 2) 2 (.int .i64 r1'))
  clear hBG hfar hk6'
  by_cases hq1 : n2 = n1
  · have hb1 : (n2 == n1) = true := beq_iff_eq.2 hq1
    by_cases hq2 : e2 = e1
    · have hb2 : (e2 == e1) = true := beq_iff_eq.2 hq2
      go_wp2_with fail
      refine bodyPost_ret (results_ct rfl _ _ (w.heap.size + 2) 67 #[.slice A1 L1.length c1, .int .i64 h1, .int .i64 r1'] (0, 0) _ rfl HK6'.out Try.underlying67 rfl (by kernel_rfl)) rfl ?_
      exact ⟨os2, hd2, rn2, A1, c1, L1, h1, r1', true, rfl, HFAR.out, HNO.out.re, HNL.out.re, fun a1 a2 a3 => (by have := HEQ.out a1 a2 a3; simp only [Prod.mk.injEq] at this; exact ⟨rfl, this.1, this.2.1, this.2.2.1⟩), fun k hk hx => HFR.out k (fun hy => by rcases hy with ((hy | hy) | hy) | hy <;> first | exact hx hy | omega)⟩
    · have hb2 : (e2 == e1) = false := beq_eq_false_iff_ne.2 hq2
      go_wp2_with fail
      refine bodyPost_ret (results_ct rfl _ _ (w.heap.size + 2) 67 #[.slice A1 L1.length c1, .int .i64 h1, .int .i64 r1'] (0, 0) _ rfl HK6'.out Try.underlying67 rfl (by kernel_rfl)) rfl ?_
      exact ⟨os2, hd2, rn2, A1, c1, L1, h1, r1', false, rfl, HFAR.out, HNO.out.re, HNL.out.re, fun a1 a2 a3 => (by have := HEQ.out a1 a2 a3; simp only [Prod.mk.injEq] at this; exact absurd this.2.2.2.2 hq2), fun k hk hx => HFR.out k (fun hy => by rcases hy with ((hy | hy) | hy) | hy <;> first | exact hx hy | omega)⟩
  · have hb1 : (n2 == n1) = false := beq_eq_false_iff_ne.2 hq1
    go_wp2_with fail
    refine bodyPost_ret (results_ct rfl _ _ (w.heap.size + 2) 67 #[.slice A1 L1.length c1, .int .i64 h1, .int .i64 r1'] (0, 0) _ rfl HK6'.out Try.underlying67 rfl (by kernel_rfl)) rfl ?_
    exact ⟨os2, hd2, rn2, A1, c1, L1, h1, r1', false, rfl, HFAR.out, HNO.out.re, HNL.out.re, fun a1 a2 a3 => (by have := HEQ.out a1 a2 a3; simp only [Prod.mk.injEq] at this; exact absurd this.2.2.2.1 hq1), fun k hk hx => HFR.out k (fun hy => by rcases hy with ((hy | hy) | hy) | hy <;> first | exact hx hy | omega)⟩
theorem victS_wf {L : List Int} {h r : Int} (d : Doc L h r) {T : List Int} {k s e : Int} (ha : victS L h T = (k, s, e)) : Wf k := by
  have hl := d.len
  unfold victS at ha
  split at ha
  · next hf =>
    obtain ⟨i, hi, rfl, _⟩ := find_in hf
    simp only [Prod.mk.injEq] at ha
    unfold Wf; omega
  · simp only [Prod.mk.injEq] at ha
    unfold Wf; omega
set_option maxHeartbeats 8000000 in
set_option maxRecDepth 100000 in
theorem does_vict3 (hB : Both w0 w base B bm vo os hand rounds (.slice Au L.length cu) L) (d : Doc os hand rounds) (dL : Doc L h r) (hr1 : rounds < 1000000) (hr2 : r < 1000000) (n sp : Int) (hn : Wf n) (hs : Wf sp) (A : Option Addr) (c : Nat) (xs : List Int) (hxc : xs.length ≤ c) (hC : Kd.C (Kd.int .i64) w0 A xs.length xs) :
    Calls Try.prog 42 #[.pointer (some ⟨B, 0, none⟩), .agg #[.slice Au L.length cu, .int .i64 h, .int .i64 r], .agg #[.int .i64 3, .int .i64 n, .int .i64 sp, .slice A xs.length c]] w (DoesP w0 w base B bm vo os hand rounds (.slice Au L.length cu) L h r) := by
  obtain ⟨T, hT, hTl, hTx⟩ : ∃ T : List Int, T = xs.take 10 ∧ T.length ≤ 10 ∧ (if (10 : Int) < (xs.length : Int) then 10 else (xs.length : Int)) = (T.length : Int) := ⟨_, rfl, by rw [List.length_take]; omega, by rw [List.length_take]; split <;> omega⟩
  have hTc : T.length ≤ c := by rw [hT, List.length_take]; omega
  have hCT : ∀ W, Below w0.heap.size w0 W → Kd.C (Kd.int .i64) W A T.length T := fun W hW => by
    have := int_take (Kd.C_below hC hW) (show T.length ≤ xs.length by rw [hT, List.length_take]; omega)
    have e : xs.take T.length = T := by rw [hT, List.length_take, List.take_eq_take_iff]; omega
    rwa [e] at this
  have HCT := Aside0.mk hCT
  clear hCT hT hC
  have hb0 := (((Below.refl w.heap.size w).alloc (Nat.le_refl _) (.cells #[.slice Au L.length cu, .int .i64 h, .int .i64 r] 67)).alloc (by simp) (.cells #[.int .i64 3, .int .i64 n, .int .i64 sp, .slice A xs.length c] 72)).alloc (by simp; omega) (.cells #[.slice none 0 0, .int .i64 0, .int .i64 0] 67)
  have hk4 := blk_alloc (blk_alloc (blk_new w (.cells #[.slice Au L.length cu, .int .i64 h, .int .i64 r] 67)) (.cells #[.int .i64 3, .int .i64 n, .int .i64 sp, .slice A xs.length c] 72)) (.cells #[.slice none 0 0, .int .i64 0, .int .i64 0] 67)
  have hk5 := blk_alloc (blk_new (w.alloc (.cells #[.slice Au L.length cu, .int .i64 h, .int .i64 r] 67)) (.cells #[.int .i64 3, .int .i64 n, .int .i64 sp, .slice A xs.length c] 72)) (.cells #[.slice none 0 0, .int .i64 0, .int .i64 0] 67)
  have hk6 := blk_new ((w.alloc (.cells #[.slice Au L.length cu, .int .i64 h, .int .i64 r] 67)).alloc (.cells #[.int .i64 3, .int .i64 n, .int .i64 sp, .slice A xs.length c] 72)) (.cells #[.slice none 0 0, .int .i64 0, .int .i64 0] 67)
  have hsz : (w.alloc (.cells #[.slice Au L.length cu, .int .i64 h, .int .i64 r] 67)).heap.size = w.heap.size + 1 := by simp
  have hsz2 : ((w.alloc (.cells #[.slice Au L.length cu, .int .i64 h, .int .i64 r] 67)).alloc (.cells #[.int .i64 3, .int .i64 n, .int .i64 sp, .slice A xs.length c] 72)).heap.size = w.heap.size + 2 := by simp
  rw [hsz] at hk5
  rw [hsz2] at hk6
  go_enter Try.func42, Try.ntmps42
  go_wp2_with fail
  have HXL := Aside0.mk (show ∀ k, Xp B bm vo (Value.slice Au L.length cu) k → k < w.heap.size from hB.st.lt)
  have HZ := Aside0.mk (hB.below hb0)
  have HDO := Aside0.mk d
  have HDL := Aside0.mk dL
  have HW0 := Aside0.mk hB.bl.size
  have HSY := Aside0.mk (show Stay (Xp B bm vo (Value.slice Au L.length cu)) w _ from Stay.below hb0)
  clear hB hb0 hsz hsz2 d dL
  generalize ((w.alloc (.cells #[.slice Au L.length cu, .int .i64 h, .int .i64 r] 67)).alloc (.cells #[.int .i64 3, .int .i64 n, .int .i64 sp, .slice A xs.length c] 72)).alloc (.cells #[.slice none 0 0, .int .i64 0, .int .i64 0] 67) = wD at *
  have HK4 := Aside0.mk hk4
  have HK5 := Aside0.mk hk5
  have HK6 := Aside0.mk hk6
  clear hk4 hk5 hk6
  obtain ⟨x0, x1, x2⟩ := And.intro ((blk_cell HK4.out 0).trans rfl) (And.intro ((blk_cell HK4.out 1).trans rfl) ((blk_cell HK4.out 2).trans rfl))
  obtain ⟨y0, y1, y2, y3⟩ := And.intro ((blk_cell HK5.out 0).trans rfl) (And.intro ((blk_cell HK5.out 1).trans rfl) (And.intro ((blk_cell HK5.out 2).trans rfl) ((blk_cell HK5.out 3).trans rfl)))
  obtain ⟨r0, r1, r2⟩ := And.intro ((blk_cell HK6.out 0).trans rfl) (And.intro ((blk_cell HK6.out 1).trans rfl) ((blk_cell HK6.out 2).trans rfl))
  have f6 := blk_frozen HK6.out
  obtain ⟨⟨k2, s2, e2⟩, hb⟩ : ∃ a, victS os hand T = a := ⟨_, rfl⟩
  obtain ⟨⟨k1, s1, e1⟩, ha⟩ : ∃ a, victS L h T = a := ⟨_, rfl⟩
  have hf := Victim_f L h r T (by omega) HDL.out
  rw [ha] at hf
  have HF := Aside0.mk hf
  have HVN := Aside0.mk (victS_wf HDL.out ha)
  have HEQ0 := Aside0.mk (show os = L → hand = h → k2 = k1 ∧ s2 = s1 ∧ e2 = e1 from fun a1 a2 => by
    have : ((k2, s2, e2) : Int × Int × Int) = (k1, s1, e1) := by rw [← ha, ← hb, a1, a2]
    simpa using this)
  have HB0 := Aside0.mk hb
  clear hf ha hb
  have hpool := vict_S HZ.out.st HDO.out A c T (HCT.out _ HZ.out.bl) hTc (by omega)
  rw [HB0.out] at hpool
  go_wp2_with fail
  refine hpool.mono ?_
  clear hpool HB0
  rintro e wE ⟨rfl, hbE⟩
  clear x0 x1 x2 y0 y1 y2 y3 r0 r1 r2 f6
  have hstay := Aside0.mk (show Stay (Xp B bm vo (Value.slice Au L.length cu)) _ _ from Stay.below hbE)
  replace HK4 := Aside0.mk (hstay.out _ (fun hx => by have := HXL.out _ hx; omega) _ HK4.out)
  replace HK5 := Aside0.mk (hstay.out _ (fun hx => by have := HXL.out _ hx; omega) _ HK5.out)
  replace HK6 := Aside0.mk (hstay.out _ (fun hx => by have := HXL.out _ hx; omega) _ HK6.out)
  replace HSY := Aside0.mk (HSY.out.trans hstay.out)
  clear hstay
  replace HZ := Aside0.mk (HZ.out.below hbE)
  clear hbE
  obtain ⟨x0, x1, x2⟩ := And.intro ((blk_cell HK4.out 0).trans rfl) (And.intro ((blk_cell HK4.out 1).trans rfl) ((blk_cell HK4.out 2).trans rfl))
  obtain ⟨y0, y1, y2, y3⟩ := And.intro ((blk_cell HK5.out 0).trans rfl) (And.intro ((blk_cell HK5.out 1).trans rfl) (And.intro ((blk_cell HK5.out 2).trans rfl) ((blk_cell HK5.out 3).trans rfl)))
  obtain ⟨r0, r1, r2⟩ := And.intro ((blk_cell HK6.out 0).trans rfl) (And.intro ((blk_cell HK6.out 1).trans rfl) ((blk_cell HK6.out 2).trans rfl))
  have f6 := blk_frozen HK6.out
  obtain ⟨hcL, hCL⟩ := HZ.out.reads
  have hCTE := HCT.out _ HZ.out.bl
  go_wp2_with fail
  refine (lookasideref14_Victim.calls 9000 Au cu L h r A c T k1 s1 e1 wE hCL hcL hCTE hTc HF.out).mono ?_
  rintro e wF ⟨rfl, hbF⟩
  clear x0 x1 x2 y0 y1 y2 y3 r0 r1 r2 f6 hCL hcL hCTE HF
  have hstay := Aside0.mk (show Stay (Xp B bm vo (Value.slice Au L.length cu)) _ _ from Stay.below hbF)
  replace HK4 := Aside0.mk (hstay.out _ (fun hx => by have := HXL.out _ hx; omega) _ HK4.out)
  replace HK5 := Aside0.mk (hstay.out _ (fun hx => by have := HXL.out _ hx; omega) _ HK5.out)
  replace HK6 := Aside0.mk (hstay.out _ (fun hx => by have := HXL.out _ hx; omega) _ HK6.out)
  replace HSY := Aside0.mk (HSY.out.trans hstay.out)
  clear hstay
  replace HZ := Aside0.mk (HZ.out.below hbF)
  clear hbF
  obtain ⟨x0, x1, x2⟩ := And.intro ((blk_cell HK4.out 0).trans rfl) (And.intro ((blk_cell HK4.out 1).trans rfl) ((blk_cell HK4.out 2).trans rfl))
  obtain ⟨y0, y1, y2, y3⟩ := And.intro ((blk_cell HK5.out 0).trans rfl) (And.intro ((blk_cell HK5.out 1).trans rfl) (And.intro ((blk_cell HK5.out 2).trans rfl) ((blk_cell HK5.out 3).trans rfl)))
  obtain ⟨r0, r1, r2⟩ := And.intro ((blk_cell HK6.out 0).trans rfl) (And.intro ((blk_cell HK6.out 1).trans rfl) ((blk_cell HK6.out 2).trans rfl))
  have f6 := blk_frozen HK6.out
  by_cases hq1 : k2 = k1
  · have b0 : (k2 == k1) = true := by simpa using hq1
    have c0 : (k2 != k1) = false := by simpa using hq1
    by_cases hq2 : s2 = s1
    · have b1 : (s2 == s1) = true := by simpa using hq2
      have c1 : (s2 != s1) = false := by simpa using hq2
      by_cases hq3 : e2 = e1
      · have b2 : (e2 == e1) = true := by simpa using hq3
        have c2 : (e2 != e1) = false := by simpa using hq3
        have hBG := HZ.out
        have hfar := ((hBG.far HK6.out (by decide) (Nat.le_trans HW0.out (Nat.le_add_right _ 2)) 0 (.slice Au L.length cu)).far (blk_put HK6.out 0 (.slice Au L.length cu) rfl) (by decide) (Nat.le_trans HW0.out (Nat.le_add_right _ 2)) 1 (.int .i64 h)).far (blk_put (blk_put HK6.out 0 (.slice Au L.length cu) rfl) 1 (.int .i64 h) rfl) (by decide) (Nat.le_trans HW0.out (Nat.le_add_right _ 2)) 2 (.int .i64 r)
        have hk6' := blk_put (blk_put (blk_put HK6.out 0 (.slice Au L.length cu) rfl) 1 (.int .i64 h) rfl) 2 (.int .i64 r) rfl
        have HFAR := Aside0.mk hfar
        have HK6' := Aside0.mk hk6'
        have HFR := Aside0.mk (((HSY.out.far (w.heap.size + 2) 0 (.slice Au L.length cu)).far (w.heap.size + 2) 1 (.int .i64 h)).far (w.heap.size + 2) 2 (.int .i64 r))
        clear hBG hfar hk6'
        go_wp2_with fail
        refine bodyPost_ret (results_ct rfl _ _ (w.heap.size + 2) 67 #[.slice Au L.length cu, .int .i64 h, .int .i64 r] (0, 0) _ rfl HK6'.out Try.underlying67 rfl (by kernel_rfl)) rfl ?_
        exact ⟨os, hand, rounds, Au, cu, L, h, r, true, rfl, HFAR.out, HDO.out.nx0, HDL.out.nx0, fun a1 a2 a3 => (by have := HEQ0.out a1 a2; exact ⟨rfl, a1, a2, a3⟩), fun k hk hx => HFR.out k (fun hy => by rcases hy with ((hy | hy) | hy) | hy <;> first | exact hx hy | omega)⟩
      · have b2 : (e2 == e1) = false := by simpa using hq3
        have c2 : (e2 != e1) = true := by simpa using hq3
        have hBG := HZ.out
        have hfar := ((hBG.far HK6.out (by decide) (Nat.le_trans HW0.out (Nat.le_add_right _ 2)) 0 (.slice Au L.length cu)).far (blk_put HK6.out 0 (.slice Au L.length cu) rfl) (by decide) (Nat.le_trans HW0.out (Nat.le_add_right _ 2)) 1 (.int .i64 h)).far (blk_put (blk_put HK6.out 0 (.slice Au L.length cu) rfl) 1 (.int .i64 h) rfl) (by decide) (Nat.le_trans HW0.out (Nat.le_add_right _ 2)) 2 (.int .i64 r)
        have hk6' := blk_put (blk_put (blk_put HK6.out 0 (.slice Au L.length cu) rfl) 1 (.int .i64 h) rfl) 2 (.int .i64 r) rfl
        have HFAR := Aside0.mk hfar
        have HK6' := Aside0.mk hk6'
        have HFR := Aside0.mk (((HSY.out.far (w.heap.size + 2) 0 (.slice Au L.length cu)).far (w.heap.size + 2) 1 (.int .i64 h)).far (w.heap.size + 2) 2 (.int .i64 r))
        clear hBG hfar hk6'
        go_wp2_with fail
        refine bodyPost_ret (results_ct rfl _ _ (w.heap.size + 2) 67 #[.slice Au L.length cu, .int .i64 h, .int .i64 r] (0, 0) _ rfl HK6'.out Try.underlying67 rfl (by kernel_rfl)) rfl ?_
        exact ⟨os, hand, rounds, Au, cu, L, h, r, false, rfl, HFAR.out, HDO.out.nx0, HDL.out.nx0, fun a1 a2 a3 => (by have := HEQ0.out a1 a2; exact absurd this.2.2 hq3), fun k hk hx => HFR.out k (fun hy => by rcases hy with ((hy | hy) | hy) | hy <;> first | exact hx hy | omega)⟩
    · have b1 : (s2 == s1) = false := by simpa using hq2
      have c1 : (s2 != s1) = true := by simpa using hq2
      have hBG := HZ.out
      have hfar := ((hBG.far HK6.out (by decide) (Nat.le_trans HW0.out (Nat.le_add_right _ 2)) 0 (.slice Au L.length cu)).far (blk_put HK6.out 0 (.slice Au L.length cu) rfl) (by decide) (Nat.le_trans HW0.out (Nat.le_add_right _ 2)) 1 (.int .i64 h)).far (blk_put (blk_put HK6.out 0 (.slice Au L.length cu) rfl) 1 (.int .i64 h) rfl) (by decide) (Nat.le_trans HW0.out (Nat.le_add_right _ 2)) 2 (.int .i64 r)
      have hk6' := blk_put (blk_put (blk_put HK6.out 0 (.slice Au L.length cu) rfl) 1 (.int .i64 h) rfl) 2 (.int .i64 r) rfl
      have HFAR := Aside0.mk hfar
      have HK6' := Aside0.mk hk6'
      have HFR := Aside0.mk (((HSY.out.far (w.heap.size + 2) 0 (.slice Au L.length cu)).far (w.heap.size + 2) 1 (.int .i64 h)).far (w.heap.size + 2) 2 (.int .i64 r))
      clear hBG hfar hk6'
      go_wp2_with fail
      refine bodyPost_ret (results_ct rfl _ _ (w.heap.size + 2) 67 #[.slice Au L.length cu, .int .i64 h, .int .i64 r] (0, 0) _ rfl HK6'.out Try.underlying67 rfl (by kernel_rfl)) rfl ?_
      exact ⟨os, hand, rounds, Au, cu, L, h, r, false, rfl, HFAR.out, HDO.out.nx0, HDL.out.nx0, fun a1 a2 a3 => (by have := HEQ0.out a1 a2; exact absurd this.2.1 hq2), fun k hk hx => HFR.out k (fun hy => by rcases hy with ((hy | hy) | hy) | hy <;> first | exact hx hy | omega)⟩
  · have b0 : (k2 == k1) = false := by simpa using hq1
    have c0 : (k2 != k1) = true := by simpa using hq1
    have hBG := HZ.out
    have hfar := ((hBG.far HK6.out (by decide) (Nat.le_trans HW0.out (Nat.le_add_right _ 2)) 0 (.slice Au L.length cu)).far (blk_put HK6.out 0 (.slice Au L.length cu) rfl) (by decide) (Nat.le_trans HW0.out (Nat.le_add_right _ 2)) 1 (.int .i64 h)).far (blk_put (blk_put HK6.out 0 (.slice Au L.length cu) rfl) 1 (.int .i64 h) rfl) (by decide) (Nat.le_trans HW0.out (Nat.le_add_right _ 2)) 2 (.int .i64 r)
    have hk6' := blk_put (blk_put (blk_put HK6.out 0 (.slice Au L.length cu) rfl) 1 (.int .i64 h) rfl) 2 (.int .i64 r) rfl
    have HFAR := Aside0.mk hfar
    have HK6' := Aside0.mk hk6'
    have HFR := Aside0.mk (((HSY.out.far (w.heap.size + 2) 0 (.slice Au L.length cu)).far (w.heap.size + 2) 1 (.int .i64 h)).far (w.heap.size + 2) 2 (.int .i64 r))
    clear hBG hfar hk6'
    go_wp2_with fail
    refine bodyPost_ret (results_ct rfl _ _ (w.heap.size + 2) 67 #[.slice Au L.length cu, .int .i64 h, .int .i64 r] (0, 0) _ rfl HK6'.out Try.underlying67 rfl (by kernel_rfl)) rfl ?_
    exact ⟨os, hand, rounds, Au, cu, L, h, r, false, rfl, HFAR.out, HDO.out.nx0, HDL.out.nx0, fun a1 a2 a3 => (by have := HEQ0.out a1 a2; exact absurd this.1 hq1), fun k hk hx => HFR.out k (fun hy => by rcases hy with ((hy | hy) | hy) | hy <;> first | exact hx hy | omega)⟩
set_option maxHeartbeats 8000000 in
set_option maxRecDepth 100000 in
theorem does_vict4 (hB : Both w0 w base B bm vo os hand rounds (.slice Au L.length cu) L) (d : Doc os hand rounds) (dL : Doc L h r) (hr1 : rounds < 1000000) (hr2 : r < 1000000) (n sp : Int) (hn : Wf n) (hs : Wf sp) (A : Option Addr) (c : Nat) (xs : List Int) (hxc : xs.length ≤ c) (hC : Kd.C (Kd.int .i64) w0 A xs.length xs) :
    Calls Try.prog 42 #[.pointer (some ⟨B, 0, none⟩), .agg #[.slice Au L.length cu, .int .i64 h, .int .i64 r], .agg #[.int .i64 4, .int .i64 n, .int .i64 sp, .slice A xs.length c]] w (DoesP w0 w base B bm vo os hand rounds (.slice Au L.length cu) L h r) := by
  obtain ⟨T, hT, hTl, hTx⟩ : ∃ T : List Int, T = xs.take 10 ∧ T.length ≤ 10 ∧ (if (10 : Int) < (xs.length : Int) then 10 else (xs.length : Int)) = (T.length : Int) := ⟨_, rfl, by rw [List.length_take]; omega, by rw [List.length_take]; split <;> omega⟩
  have hTc : T.length ≤ c := by rw [hT, List.length_take]; omega
  have hCT : ∀ W, Below w0.heap.size w0 W → Kd.C (Kd.int .i64) W A T.length T := fun W hW => by
    have := int_take (Kd.C_below hC hW) (show T.length ≤ xs.length by rw [hT, List.length_take]; omega)
    have e : xs.take T.length = T := by rw [hT, List.length_take, List.take_eq_take_iff]; omega
    rwa [e] at this
  have HCT := Aside0.mk hCT
  clear hCT hT hC
  have hb0 := (((Below.refl w.heap.size w).alloc (Nat.le_refl _) (.cells #[.slice Au L.length cu, .int .i64 h, .int .i64 r] 67)).alloc (by simp) (.cells #[.int .i64 4, .int .i64 n, .int .i64 sp, .slice A xs.length c] 72)).alloc (by simp; omega) (.cells #[.slice none 0 0, .int .i64 0, .int .i64 0] 67)
  have hk4 := blk_alloc (blk_alloc (blk_new w (.cells #[.slice Au L.length cu, .int .i64 h, .int .i64 r] 67)) (.cells #[.int .i64 4, .int .i64 n, .int .i64 sp, .slice A xs.length c] 72)) (.cells #[.slice none 0 0, .int .i64 0, .int .i64 0] 67)
  have hk5 := blk_alloc (blk_new (w.alloc (.cells #[.slice Au L.length cu, .int .i64 h, .int .i64 r] 67)) (.cells #[.int .i64 4, .int .i64 n, .int .i64 sp, .slice A xs.length c] 72)) (.cells #[.slice none 0 0, .int .i64 0, .int .i64 0] 67)
  have hk6 := blk_new ((w.alloc (.cells #[.slice Au L.length cu, .int .i64 h, .int .i64 r] 67)).alloc (.cells #[.int .i64 4, .int .i64 n, .int .i64 sp, .slice A xs.length c] 72)) (.cells #[.slice none 0 0, .int .i64 0, .int .i64 0] 67)
  have hsz : (w.alloc (.cells #[.slice Au L.length cu, .int .i64 h, .int .i64 r] 67)).heap.size = w.heap.size + 1 := by simp
  have hsz2 : ((w.alloc (.cells #[.slice Au L.length cu, .int .i64 h, .int .i64 r] 67)).alloc (.cells #[.int .i64 4, .int .i64 n, .int .i64 sp, .slice A xs.length c] 72)).heap.size = w.heap.size + 2 := by simp
  rw [hsz] at hk5
  rw [hsz2] at hk6
  go_enter Try.func42, Try.ntmps42
  go_wp2_with fail
  have HXL := Aside0.mk (show ∀ k, Xp B bm vo (Value.slice Au L.length cu) k → k < w.heap.size from hB.st.lt)
  have HZ := Aside0.mk (hB.below hb0)
  have HDO := Aside0.mk d
  have HDL := Aside0.mk dL
  have HW0 := Aside0.mk hB.bl.size
  have HSY := Aside0.mk (show Stay (Xp B bm vo (Value.slice Au L.length cu)) w _ from Stay.below hb0)
  clear hB hb0 hsz hsz2 d dL
  generalize ((w.alloc (.cells #[.slice Au L.length cu, .int .i64 h, .int .i64 r] 67)).alloc (.cells #[.int .i64 4, .int .i64 n, .int .i64 sp, .slice A xs.length c] 72)).alloc (.cells #[.slice none 0 0, .int .i64 0, .int .i64 0] 67) = wD at *
  have HK4 := Aside0.mk hk4
  have HK5 := Aside0.mk hk5
  have HK6 := Aside0.mk hk6
  clear hk4 hk5 hk6
  obtain ⟨x0, x1, x2⟩ := And.intro ((blk_cell HK4.out 0).trans rfl) (And.intro ((blk_cell HK4.out 1).trans rfl) ((blk_cell HK4.out 2).trans rfl))
  obtain ⟨y0, y1, y2, y3⟩ := And.intro ((blk_cell HK5.out 0).trans rfl) (And.intro ((blk_cell HK5.out 1).trans rfl) (And.intro ((blk_cell HK5.out 2).trans rfl) ((blk_cell HK5.out 3).trans rfl)))
  obtain ⟨r0, r1, r2⟩ := And.intro ((blk_cell HK6.out 0).trans rfl) (And.intro ((blk_cell HK6.out 1).trans rfl) ((blk_cell HK6.out 2).trans rfl))
  have f6 := blk_frozen HK6.out
  obtain ⟨⟨k2, s2, e2⟩, hb⟩ : ∃ a, victS os hand T = a := ⟨_, rfl⟩
  obtain ⟨⟨k1, s1, e1⟩, ha⟩ : ∃ a, victS L h T = a := ⟨_, rfl⟩
  have hf := Victim_f L h r T (by omega) HDL.out
  rw [ha] at hf
  have HF := Aside0.mk hf
  have HVN := Aside0.mk (victS_wf HDL.out ha)
  have HEQ0 := Aside0.mk (show os = L → hand = h → k2 = k1 ∧ s2 = s1 ∧ e2 = e1 from fun a1 a2 => by
    have : ((k2, s2, e2) : Int × Int × Int) = (k1, s1, e1) := by rw [← ha, ← hb, a1, a2]
    simpa using this)
  have HB0 := Aside0.mk hb
  clear hf ha hb
  have hpool := vict_S HZ.out.st HDO.out A c T (HCT.out _ HZ.out.bl) hTc (by omega)
  rw [HB0.out] at hpool
  go_wp2_with fail
  refine hpool.mono ?_
  clear hpool HB0
  rintro e wE ⟨rfl, hbE⟩
  clear x0 x1 x2 y0 y1 y2 y3 r0 r1 r2 f6
  have hstay := Aside0.mk (show Stay (Xp B bm vo (Value.slice Au L.length cu)) _ _ from Stay.below hbE)
  replace HK4 := Aside0.mk (hstay.out _ (fun hx => by have := HXL.out _ hx; omega) _ HK4.out)
  replace HK5 := Aside0.mk (hstay.out _ (fun hx => by have := HXL.out _ hx; omega) _ HK5.out)
  replace HK6 := Aside0.mk (hstay.out _ (fun hx => by have := HXL.out _ hx; omega) _ HK6.out)
  replace HSY := Aside0.mk (HSY.out.trans hstay.out)
  clear hstay
  replace HZ := Aside0.mk (HZ.out.below hbE)
  clear hbE
  obtain ⟨x0, x1, x2⟩ := And.intro ((blk_cell HK4.out 0).trans rfl) (And.intro ((blk_cell HK4.out 1).trans rfl) ((blk_cell HK4.out 2).trans rfl))
  obtain ⟨y0, y1, y2, y3⟩ := And.intro ((blk_cell HK5.out 0).trans rfl) (And.intro ((blk_cell HK5.out 1).trans rfl) (And.intro ((blk_cell HK5.out 2).trans rfl) ((blk_cell HK5.out 3).trans rfl)))
  obtain ⟨r0, r1, r2⟩ := And.intro ((blk_cell HK6.out 0).trans rfl) (And.intro ((blk_cell HK6.out 1).trans rfl) ((blk_cell HK6.out 2).trans rfl))
  have f6 := blk_frozen HK6.out
  obtain ⟨hcL, hCL⟩ := HZ.out.reads
  have hCTE := HCT.out _ HZ.out.bl
  go_wp2_with fail
  refine (lookasideref14_Victim.calls 9000 Au cu L h r A c T k1 s1 e1 wE hCL hcL hCTE hTc HF.out).mono ?_
  rintro e wF ⟨rfl, hbF⟩
  clear x0 x1 x2 y0 y1 y2 y3 r0 r1 r2 f6 hCL hcL hCTE HF
  have hstay := Aside0.mk (show Stay (Xp B bm vo (Value.slice Au L.length cu)) _ _ from Stay.below hbF)
  replace HK4 := Aside0.mk (hstay.out _ (fun hx => by have := HXL.out _ hx; omega) _ HK4.out)
  replace HK5 := Aside0.mk (hstay.out _ (fun hx => by have := HXL.out _ hx; omega) _ HK5.out)
  replace HK6 := Aside0.mk (hstay.out _ (fun hx => by have := HXL.out _ hx; omega) _ HK6.out)
  replace HSY := Aside0.mk (HSY.out.trans hstay.out)
  clear hstay
  replace HZ := Aside0.mk (HZ.out.below hbF)
  clear hbF
  obtain ⟨x0, x1, x2⟩ := And.intro ((blk_cell HK4.out 0).trans rfl) (And.intro ((blk_cell HK4.out 1).trans rfl) ((blk_cell HK4.out 2).trans rfl))
  obtain ⟨y0, y1, y2, y3⟩ := And.intro ((blk_cell HK5.out 0).trans rfl) (And.intro ((blk_cell HK5.out 1).trans rfl) (And.intro ((blk_cell HK5.out 2).trans rfl) ((blk_cell HK5.out 3).trans rfl)))
  obtain ⟨r0, r1, r2⟩ := And.intro ((blk_cell HK6.out 0).trans rfl) (And.intro ((blk_cell HK6.out 1).trans rfl) ((blk_cell HK6.out 2).trans rfl))
  have f6 := blk_frozen HK6.out
  by_cases hq1 : k2 = k1
  · have b0 : (k2 == k1) = true := by simpa using hq1
    have c0 : (k2 != k1) = false := by simpa using hq1
    by_cases hq2 : s2 = s1
    · have b1 : (s2 == s1) = true := by simpa using hq2
      have c1 : (s2 != s1) = false := by simpa using hq2
      by_cases hq3 : e2 = e1
      · have b2 : (e2 == e1) = true := by simpa using hq3
        have c2 : (e2 != e1) = false := by simpa using hq3
        obtain ⟨⟨L1, h1, r1', n1, e1⟩, ha⟩ : ∃ a, stealS L h r k1 sp = a := ⟨_, rfl⟩
        obtain ⟨⟨os2, hd2, rn2, n2, e2⟩, hb⟩ : ∃ a, stealS os hand rounds k1 sp = a := ⟨_, rfl⟩
        have hf := Steal_f L h r k1 sp HDL.out hr2
        rw [ha] at hf
        have HF := Aside0.mk hf
        have HNL := Aside0.mk (ha ▸ stealS_nx HDL.out hr2 k1 hs)
        have HNO := Aside0.mk (hb ▸ stealS_nx HDO.out hr1 k1 hs)
        have HEQ := Aside0.mk (show os = L → hand = h → rounds = r → ((os2, hd2, rn2, n2, e2) : Ans) = (L1, h1, r1', n1, e1) from fun a1 a2 a3 => by rw [← ha, ← hb, a1, a2, a3])
        have HB := Aside0.mk hb
        clear hf ha hb
        go_wp2_with fail
        refine (lookasideref14_Steal_keep 9000 (fun k => some k = (Value.slice Au L.length cu).ownBlock) (.slice Au L.length cu) L h r k1 sp L1 h1 r1' n1 e1 w0 _ HZ.out.bl HZ.out.own HF.out).mono ?_
        rintro e wE ⟨v1, rfl, hR1, hb1, hk1⟩
        obtain ⟨A1, c1, rfl⟩ := Kd.R_slice hR1
        clear x0 x1 x2 y0 y1 y2 y3 r0 r1 r2 f6 HF
        have hstay := Aside0.mk (show Stay (Xp B bm vo (Value.slice Au L.length cu)) _ _ from Stay.ref hk1 (fun k hk => hk.elim))
        replace HK4 := Aside0.mk (hstay.out _ (fun hx => by have := HXL.out _ hx; omega) _ HK4.out)
        replace HK5 := Aside0.mk (hstay.out _ (fun hx => by have := HXL.out _ hx; omega) _ HK5.out)
        replace HK6 := Aside0.mk (hstay.out _ (fun hx => by have := HXL.out _ hx; omega) _ HK6.out)
        replace HSY := Aside0.mk (HSY.out.trans hstay.out)
        clear hstay
        replace HZ := Aside0.mk (HZ.out.ref hR1 hk1 hb1)
        clear hR1 hk1 hb1
        have hbF := (Below.refl wE.heap.size wE).alloc (Nat.le_refl _) (.cells #[.slice A1 L1.length c1, .int .i64 h1, .int .i64 r1'] 67)
        have hkF := blk_new wE (.cells #[.slice A1 L1.length c1, .int .i64 h1, .int .i64 r1'] 67)
        have hlF := HK6.out
        have hlF := blk_lt hlF
        have hstay := Aside0.mk (show Stay (Xp B bm vo (Value.slice Au L.length cu)) _ _ from Stay.below hbF)
        replace HK4 := Aside0.mk (hstay.out _ (fun hx => by have := HXL.out _ hx; omega) _ HK4.out)
        replace HK5 := Aside0.mk (hstay.out _ (fun hx => by have := HXL.out _ hx; omega) _ HK5.out)
        replace HK6 := Aside0.mk (hstay.out _ (fun hx => by have := HXL.out _ hx; omega) _ HK6.out)
        replace HSY := Aside0.mk (HSY.out.trans hstay.out)
        clear hstay
        replace HZ := Aside0.mk (HZ.out.below hbF)
        have HKF := Aside0.mk hkF
        clear hbF hkF
        obtain ⟨x0, x1, x2⟩ := And.intro ((blk_cell HK4.out 0).trans rfl) (And.intro ((blk_cell HK4.out 1).trans rfl) ((blk_cell HK4.out 2).trans rfl))
        obtain ⟨y0, y1, y2, y3⟩ := And.intro ((blk_cell HK5.out 0).trans rfl) (And.intro ((blk_cell HK5.out 1).trans rfl) (And.intro ((blk_cell HK5.out 2).trans rfl) ((blk_cell HK5.out 3).trans rfl)))
        obtain ⟨r0, r1, r2⟩ := And.intro ((blk_cell HK6.out 0).trans rfl) (And.intro ((blk_cell HK6.out 1).trans rfl) ((blk_cell HK6.out 2).trans rfl))
        have f6 := blk_frozen HK6.out
        go_wp2_with fail
        generalize wE.alloc (.cells #[.slice A1 L1.length c1, .int .i64 h1, .int .i64 r1'] 67) = wF at *
        generalize wE.heap.size = g9 at *
        have hpool := steal_S HZ.out.st HDO.out (n := k1) HVN.out hs
        rw [HB.out] at hpool
        refine hpool.mono ?_
        clear hpool
        rintro e wG ⟨rfl, hst, hmv⟩
        clear x0 x1 x2 y0 y1 y2 y3 r0 r1 r2 f6
        have hstay := Aside0.mk (show Stay (Xp B bm vo (Value.slice Au L.length cu)) _ _ from Stay.pool hmv (fun k hk => hk))
        replace HK4 := Aside0.mk (hstay.out _ (fun hx => by have := HXL.out _ hx; omega) _ HK4.out)
        replace HK5 := Aside0.mk (hstay.out _ (fun hx => by have := HXL.out _ hx; omega) _ HK5.out)
        replace HK6 := Aside0.mk (hstay.out _ (fun hx => by have := HXL.out _ hx; omega) _ HK6.out)
        replace HSY := Aside0.mk (HSY.out.trans hstay.out)
        clear hstay
        have HKF' := Aside0.mk ((show Stay (Xp B bm vo (Value.slice Au L.length cu)) _ _ from Stay.pool hmv (fun k hk => hk)) g9 (fun hx => by have := HXL.out _ hx; omega) _ HKF.out)
        replace HZ := Aside0.mk (HZ.out.pool hst hmv)
        clear hst hmv HKF HB hlF
        obtain ⟨x0, x1, x2⟩ := And.intro ((blk_cell HK4.out 0).trans rfl) (And.intro ((blk_cell HK4.out 1).trans rfl) ((blk_cell HK4.out 2).trans rfl))
        obtain ⟨y0, y1, y2, y3⟩ := And.intro ((blk_cell HK5.out 0).trans rfl) (And.intro ((blk_cell HK5.out 1).trans rfl) (And.intro ((blk_cell HK5.out 2).trans rfl) ((blk_cell HK5.out 3).trans rfl)))
        obtain ⟨r0, r1, r2⟩ := And.intro ((blk_cell HK6.out 0).trans rfl) (And.intro ((blk_cell HK6.out 1).trans rfl) ((blk_cell HK6.out 2).trans rfl))
        have f6 := blk_frozen HK6.out
        obtain ⟨z0, z1, z2⟩ := And.intro ((blk_cell HKF'.out 0).trans rfl) (And.intro ((blk_cell HKF'.out 1).trans rfl) ((blk_cell HKF'.out 2).trans rfl))
        have hBG := HZ.out
        have hfar := ((hBG.far HK6.out (by decide) (Nat.le_trans HW0.out (Nat.le_add_right _ 2)) 0 (.slice A1 L1.length c1)).far (blk_put HK6.out 0 (.slice A1 L1.length c1) rfl) (by decide) (Nat.le_trans HW0.out (Nat.le_add_right _ 2)) 1 (.int .i64 h1)).far (blk_put (blk_put HK6.out 0 (.slice A1 L1.length c1) rfl) 1 (.int .i64 h1) rfl) (by decide) (Nat.le_trans HW0.out (Nat.le_add_right _ 2)) 2 (.int .i64 r1')
        have hk6' := blk_put (blk_put (blk_put HK6.out 0 (.slice A1 L1.length c1) rfl) 1 (.int .i64 h1) rfl) 2 (.int .i64 r1') rfl
        have HFAR := Aside0.mk hfar
        have HK6' := Aside0.mk hk6'
        have HFR := Aside0.mk (((HSY.out.far (w.heap.size + 2) 0 (.slice A1 L1.length c1)).far (w.heap.size + 2) 1 (.int .i64 h1)).far (w.heap.size + 2) 2 (.int .i64 r1'))
        clear hBG hfar hk6'
        by_cases hq1 : n2 = n1
        · have hb1 : (n2 == n1) = true := beq_iff_eq.2 hq1
          by_cases hq2 : e2 = e1
          · have hb2 : (e2 == e1) = true := beq_iff_eq.2 hq2
            go_wp2_with fail
            refine bodyPost_ret (results_ct rfl _ _ (w.heap.size + 2) 67 #[.slice A1 L1.length c1, .int .i64 h1, .int .i64 r1'] (0, 0) _ rfl HK6'.out Try.underlying67 rfl (by kernel_rfl)) rfl ?_
            exact ⟨os2, hd2, rn2, A1, c1, L1, h1, r1', true, rfl, HFAR.out, HNO.out.re, HNL.out.re, fun a1 a2 a3 => (by have := HEQ.out a1 a2 a3; simp only [Prod.mk.injEq] at this; exact ⟨rfl, this.1, this.2.1, this.2.2.1⟩), fun k hk hx => HFR.out k (fun hy => by rcases hy with ((hy | hy) | hy) | hy <;> first | exact hx hy | omega)⟩
          · have hb2 : (e2 == e1) = false := beq_eq_false_iff_ne.2 hq2
            go_wp2_with fail
            refine bodyPost_ret (results_ct rfl _ _ (w.heap.size + 2) 67 #[.slice A1 L1.length c1, .int .i64 h1, .int .i64 r1'] (0, 0) _ rfl HK6'.out Try.underlying67 rfl (by kernel_rfl)) rfl ?_
            exact ⟨os2, hd2, rn2, A1, c1, L1, h1, r1', false, rfl, HFAR.out, HNO.out.re, HNL.out.re, fun a1 a2 a3 => (by have := HEQ.out a1 a2 a3; simp only [Prod.mk.injEq] at this; exact absurd this.2.2.2.2 hq2), fun k hk hx => HFR.out k (fun hy => by rcases hy with ((hy | hy) | hy) | hy <;> first | exact hx hy | omega)⟩
        · have hb1 : (n2 == n1) = false := beq_eq_false_iff_ne.2 hq1
          go_wp2_with fail
          refine bodyPost_ret (results_ct rfl _ _ (w.heap.size + 2) 67 #[.slice A1 L1.length c1, .int .i64 h1, .int .i64 r1'] (0, 0) _ rfl HK6'.out Try.underlying67 rfl (by kernel_rfl)) rfl ?_
          exact ⟨os2, hd2, rn2, A1, c1, L1, h1, r1', false, rfl, HFAR.out, HNO.out.re, HNL.out.re, fun a1 a2 a3 => (by have := HEQ.out a1 a2 a3; simp only [Prod.mk.injEq] at this; exact absurd this.2.2.2.1 hq1), fun k hk hx => HFR.out k (fun hy => by rcases hy with ((hy | hy) | hy) | hy <;> first | exact hx hy | omega)⟩
      · have b2 : (e2 == e1) = false := by simpa using hq3
        have c2 : (e2 != e1) = true := by simpa using hq3
        have hBG := HZ.out
        have hfar := ((hBG.far HK6.out (by decide) (Nat.le_trans HW0.out (Nat.le_add_right _ 2)) 0 (.slice Au L.length cu)).far (blk_put HK6.out 0 (.slice Au L.length cu) rfl) (by decide) (Nat.le_trans HW0.out (Nat.le_add_right _ 2)) 1 (.int .i64 h)).far (blk_put (blk_put HK6.out 0 (.slice Au L.length cu) rfl) 1 (.int .i64 h) rfl) (by decide) (Nat.le_trans HW0.out (Nat.le_add_right _ 2)) 2 (.int .i64 r)
        have hk6' := blk_put (blk_put (blk_put HK6.out 0 (.slice Au L.length cu) rfl) 1 (.int .i64 h) rfl) 2 (.int .i64 r) rfl
        have HFAR := Aside0.mk hfar
        have HK6' := Aside0.mk hk6'
        have HFR := Aside0.mk (((HSY.out.far (w.heap.size + 2) 0 (.slice Au L.length cu)).far (w.heap.size + 2) 1 (.int .i64 h)).far (w.heap.size + 2) 2 (.int .i64 r))
        clear hBG hfar hk6'
        go_wp2_with fail
        refine bodyPost_ret (results_ct rfl _ _ (w.heap.size + 2) 67 #[.slice Au L.length cu, .int .i64 h, .int .i64 r] (0, 0) _ rfl HK6'.out Try.underlying67 rfl (by kernel_rfl)) rfl ?_
        exact ⟨os, hand, rounds, Au, cu, L, h, r, false, rfl, HFAR.out, HDO.out.nx0, HDL.out.nx0, fun a1 a2 a3 => (by have := HEQ0.out a1 a2; exact absurd this.2.2 hq3), fun k hk hx => HFR.out k (fun hy => by rcases hy with ((hy | hy) | hy) | hy <;> first | exact hx hy | omega)⟩
    · have b1 : (s2 == s1) = false := by simpa using hq2
      have c1 : (s2 != s1) = true := by simpa using hq2
      have hBG := HZ.out
      have hfar := ((hBG.far HK6.out (by decide) (Nat.le_trans HW0.out (Nat.le_add_right _ 2)) 0 (.slice Au L.length cu)).far (blk_put HK6.out 0 (.slice Au L.length cu) rfl) (by decide) (Nat.le_trans HW0.out (Nat.le_add_right _ 2)) 1 (.int .i64 h)).far (blk_put (blk_put HK6.out 0 (.slice Au L.length cu) rfl) 1 (.int .i64 h) rfl) (by decide) (Nat.le_trans HW0.out (Nat.le_add_right _ 2)) 2 (.int .i64 r)
      have hk6' := blk_put (blk_put (blk_put HK6.out 0 (.slice Au L.length cu) rfl) 1 (.int .i64 h) rfl) 2 (.int .i64 r) rfl
      have HFAR := Aside0.mk hfar
      have HK6' := Aside0.mk hk6'
      have HFR := Aside0.mk (((HSY.out.far (w.heap.size + 2) 0 (.slice Au L.length cu)).far (w.heap.size + 2) 1 (.int .i64 h)).far (w.heap.size + 2) 2 (.int .i64 r))
      clear hBG hfar hk6'
      go_wp2_with fail
      refine bodyPost_ret (results_ct rfl _ _ (w.heap.size + 2) 67 #[.slice Au L.length cu, .int .i64 h, .int .i64 r] (0, 0) _ rfl HK6'.out Try.underlying67 rfl (by kernel_rfl)) rfl ?_
      exact ⟨os, hand, rounds, Au, cu, L, h, r, false, rfl, HFAR.out, HDO.out.nx0, HDL.out.nx0, fun a1 a2 a3 => (by have := HEQ0.out a1 a2; exact absurd this.2.1 hq2), fun k hk hx => HFR.out k (fun hy => by rcases hy with ((hy | hy) | hy) | hy <;> first | exact hx hy | omega)⟩
  · have b0 : (k2 == k1) = false := by simpa using hq1
    have c0 : (k2 != k1) = true := by simpa using hq1
    have hBG := HZ.out
    have hfar := ((hBG.far HK6.out (by decide) (Nat.le_trans HW0.out (Nat.le_add_right _ 2)) 0 (.slice Au L.length cu)).far (blk_put HK6.out 0 (.slice Au L.length cu) rfl) (by decide) (Nat.le_trans HW0.out (Nat.le_add_right _ 2)) 1 (.int .i64 h)).far (blk_put (blk_put HK6.out 0 (.slice Au L.length cu) rfl) 1 (.int .i64 h) rfl) (by decide) (Nat.le_trans HW0.out (Nat.le_add_right _ 2)) 2 (.int .i64 r)
    have hk6' := blk_put (blk_put (blk_put HK6.out 0 (.slice Au L.length cu) rfl) 1 (.int .i64 h) rfl) 2 (.int .i64 r) rfl
    have HFAR := Aside0.mk hfar
    have HK6' := Aside0.mk hk6'
    have HFR := Aside0.mk (((HSY.out.far (w.heap.size + 2) 0 (.slice Au L.length cu)).far (w.heap.size + 2) 1 (.int .i64 h)).far (w.heap.size + 2) 2 (.int .i64 r))
    clear hBG hfar hk6'
    go_wp2_with fail
    refine bodyPost_ret (results_ct rfl _ _ (w.heap.size + 2) 67 #[.slice Au L.length cu, .int .i64 h, .int .i64 r] (0, 0) _ rfl HK6'.out Try.underlying67 rfl (by kernel_rfl)) rfl ?_
    exact ⟨os, hand, rounds, Au, cu, L, h, r, false, rfl, HFAR.out, HDO.out.nx0, HDL.out.nx0, fun a1 a2 a3 => (by have := HEQ0.out a1 a2; exact absurd this.1 hq1), fun k hk hx => HFR.out k (fun hy => by rcases hy with ((hy | hy) | hy) | hy <;> first | exact hx hy | omega)⟩
set_option maxHeartbeats 8000000 in
set_option maxRecDepth 100000 in
theorem does_other (hB : Both w0 w base B bm vo os hand rounds (.slice Au L.length cu) L) (d : Doc os hand rounds) (dL : Doc L h r) (hr1 : rounds < 1000000) (hr2 : r < 1000000) (n sp : Int) (hn : Wf n) (hs : Wf sp) (A : Option Addr) (c : Nat) (xs : List Int) (hxc : xs.length ≤ c) (hC : Kd.C (Kd.int .i64) w0 A xs.length xs) (kd : Int) (hkd : kd < 0 ∨ 4 < kd) :
    Calls Try.prog 42 #[.pointer (some ⟨B, 0, none⟩), .agg #[.slice Au L.length cu, .int .i64 h, .int .i64 r], .agg #[.int .i64 kd, .int .i64 n, .int .i64 sp, .slice A xs.length c]] w (DoesP w0 w base B bm vo os hand rounds (.slice Au L.length cu) L h r) := by
  obtain ⟨T, hT, hTl, hTx⟩ : ∃ T : List Int, T = xs.take 10 ∧ T.length ≤ 10 ∧ (if (10 : Int) < (xs.length : Int) then 10 else (xs.length : Int)) = (T.length : Int) := ⟨_, rfl, by rw [List.length_take]; omega, by rw [List.length_take]; split <;> omega⟩
  have hTc : T.length ≤ c := by rw [hT, List.length_take]; omega
  have hCT : ∀ W, Below w0.heap.size w0 W → Kd.C (Kd.int .i64) W A T.length T := fun W hW => by
    have := int_take (Kd.C_below hC hW) (show T.length ≤ xs.length by rw [hT, List.length_take]; omega)
    have e : xs.take T.length = T := by rw [hT, List.length_take, List.take_eq_take_iff]; omega
    rwa [e] at this
  have HCT := Aside0.mk hCT
  clear hCT hT hC
  have hb0 := (((Below.refl w.heap.size w).alloc (Nat.le_refl _) (.cells #[.slice Au L.length cu, .int .i64 h, .int .i64 r] 67)).alloc (by simp) (.cells #[.int .i64 kd, .int .i64 n, .int .i64 sp, .slice A xs.length c] 72)).alloc (by simp; omega) (.cells #[.slice none 0 0, .int .i64 0, .int .i64 0] 67)
  have hk4 := blk_alloc (blk_alloc (blk_new w (.cells #[.slice Au L.length cu, .int .i64 h, .int .i64 r] 67)) (.cells #[.int .i64 kd, .int .i64 n, .int .i64 sp, .slice A xs.length c] 72)) (.cells #[.slice none 0 0, .int .i64 0, .int .i64 0] 67)
  have hk5 := blk_alloc (blk_new (w.alloc (.cells #[.slice Au L.length cu, .int .i64 h, .int .i64 r] 67)) (.cells #[.int .i64 kd, .int .i64 n, .int .i64 sp, .slice A xs.length c] 72)) (.cells #[.slice none 0 0, .int .i64 0, .int .i64 0] 67)
  have hk6 := blk_new ((w.alloc (.cells #[.slice Au L.length cu, .int .i64 h, .int .i64 r] 67)).alloc (.cells #[.int .i64 kd, .int .i64 n, .int .i64 sp, .slice A xs.length c] 72)) (.cells #[.slice none 0 0, .int .i64 0, .int .i64 0] 67)
  have hsz : (w.alloc (.cells #[.slice Au L.length cu, .int .i64 h, .int .i64 r] 67)).heap.size = w.heap.size + 1 := by simp
  have hsz2 : ((w.alloc (.cells #[.slice Au L.length cu, .int .i64 h, .int .i64 r] 67)).alloc (.cells #[.int .i64 kd, .int .i64 n, .int .i64 sp, .slice A xs.length c] 72)).heap.size = w.heap.size + 2 := by simp
  rw [hsz] at hk5
  rw [hsz2] at hk6
  go_enter Try.func42, Try.ntmps42
  go_wp2_with fail
  have HXL := Aside0.mk (show ∀ k, Xp B bm vo (Value.slice Au L.length cu) k → k < w.heap.size from hB.st.lt)
  have HZ := Aside0.mk (hB.below hb0)
  have HDO := Aside0.mk d
  have HDL := Aside0.mk dL
  have HW0 := Aside0.mk hB.bl.size
  have HSY := Aside0.mk (show Stay (Xp B bm vo (Value.slice Au L.length cu)) w _ from Stay.below hb0)
  clear hB hb0 hsz hsz2 d dL
  generalize ((w.alloc (.cells #[.slice Au L.length cu, .int .i64 h, .int .i64 r] 67)).alloc (.cells #[.int .i64 kd, .int .i64 n, .int .i64 sp, .slice A xs.length c] 72)).alloc (.cells #[.slice none 0 0, .int .i64 0, .int .i64 0] 67) = wD at *
  have HK4 := Aside0.mk hk4
  have HK5 := Aside0.mk hk5
  have HK6 := Aside0.mk hk6
  clear hk4 hk5 hk6
  obtain ⟨x0, x1, x2⟩ := And.intro ((blk_cell HK4.out 0).trans rfl) (And.intro ((blk_cell HK4.out 1).trans rfl) ((blk_cell HK4.out 2).trans rfl))
  obtain ⟨y0, y1, y2, y3⟩ := And.intro ((blk_cell HK5.out 0).trans rfl) (And.intro ((blk_cell HK5.out 1).trans rfl) (And.intro ((blk_cell HK5.out 2).trans rfl) ((blk_cell HK5.out 3).trans rfl)))
  obtain ⟨r0, r1, r2⟩ := And.intro ((blk_cell HK6.out 0).trans rfl) (And.intro ((blk_cell HK6.out 1).trans rfl) ((blk_cell HK6.out 2).trans rfl))
  have f6 := blk_frozen HK6.out
  have hk0 : (kd == 0) = false := beq_eq_false_iff_ne.2 (by omega)
  have hk2 : (kd == 2) = false := beq_eq_false_iff_ne.2 (by omega)
  have hk3 : (kd == 3) = false := beq_eq_false_iff_ne.2 (by omega)
  have hk4 : (kd == 4) = false := beq_eq_false_iff_ne.2 (by omega)
  have hk1 : (kd == 1) = false := beq_eq_false_iff_ne.2 (by omega)
  obtain ⟨hcL, hCL⟩ := HZ.out.reads
  go_wp2_with fail
  refine start_ (n := 7) (S := fun w' => w'.cell? ⟨w.heap.size, 0, none⟩ = some (.slice Au L.length cu) ∧ w'.cell? ⟨w.heap.size, 1, none⟩ = some (.int .i64 h) ∧ w'.cell? ⟨w.heap.size, 2, none⟩ = some (.int .i64 r) ∧ w'.cell? ⟨w.heap.size + 1, 0, none⟩ = some (.int .i64 kd) ∧ w'.cell? ⟨w.heap.size + 1, 1, none⟩ = some (.int .i64 n) ∧ w'.cell? ⟨w.heap.size + 1, 2, none⟩ = some (.int .i64 sp) ∧ w'.cell? ⟨w.heap.size + 1, 3, none⟩ = some (.slice A xs.length c)) (ds := [5]) #[false, false, false, false, false, false, false] (by kernel_rfl) rfl rfl ⟨x0, x1, x2, y0, y1, y2, y3⟩ (fun hHeld => ?_)
  refine pure_ (i := 1) (N := some 43) (v := ?_) (a' := ?_) #[false, true, false, false, false, false, false] rfl rfl (by kernel_rfl) (fun _ _ _ h => h) (Or.inl ⟨by rfl, ?_⟩) ?_ ?_
  rotate_left
  · intro w'
    go_simp
    with_reducible rfl
  rotate_left
  · simp only [Act.put, List.setIfInBounds_toArray, List.set_cons_zero, List.set_cons_succ, i64_w, i32_w]
    rfl
  refine take_ (i := 0) (N := some 42) (v := ?_) (a' := ?_) #[true, true, false, false, false, false, false] rfl rfl (by kernel_rfl) (fun _ _ _ h => h) (Or.inl ⟨by rfl, ?_⟩) hHeld ?_ ?_
  rotate_left
  · rintro w' ⟨s0, s1, s2, s3, s4, s5, s6⟩
    go_simp
    with_reducible rfl
  rotate_left
  · simp only [Act.put, List.setIfInBounds_toArray, List.set_cons_zero, List.set_cons_succ, i64_w, i32_w]
    rfl
  refine take_ (i := 2) (N := some 44) (v := ?_) (a' := ?_) #[true, true, true, false, false, false, false] rfl rfl (by kernel_rfl) (fun _ _ _ h => h) (Or.inl ⟨by rfl, ?_⟩) hHeld ?_ ?_
  rotate_left
  · rintro w' ⟨s0, s1, s2, s3, s4, s5, s6⟩
    go_simp
    with_reducible rfl
  rotate_left
  · simp only [Act.put, List.setIfInBounds_toArray, List.set_cons_zero, List.set_cons_succ, i64_w, i32_w]
    rfl
  refine take_ (i := 3) (N := some 45) (v := ?_) (a' := ?_) #[true, true, true, true, false, false, false] rfl rfl (by kernel_rfl) (fun _ _ _ h => h) (Or.inl ⟨by rfl, ?_⟩) hHeld ?_ ?_
  rotate_left
  · rintro w' ⟨s0, s1, s2, s3, s4, s5, s6⟩
    go_simp
    with_reducible rfl
  rotate_left
  · simp only [Act.put, List.setIfInBounds_toArray, List.set_cons_zero, List.set_cons_succ, i64_w, i32_w]
    rfl
  refine one_ (i := 4) (N := some 46) #[true, true, true, true, true, false, false] rfl rfl (by kernel_rfl) (by decide) (fun K hK => ?_)
  refine goes_ Try.func76 (by kernel_rfl) rfl #[.pointer (some ⟨B, 0, none⟩), .agg #[.slice Au L.length cu, .int .i64 h, .int .i64 r], .agg #[.int .i64 kd, .int .i64 n, .int .i64 sp, .slice A xs.length c]] (by rfl) rfl rfl (by (try simp only [List.map_toArray, List.map_cons, List.map_nil]); first | done | rfl) ?_
  refine (asks_calls (HZ.out.below ((Below.refl _ _).drew)).st HDO.out HDL.out hcL (Kd.C_below hCL ((Below.refl _ _).drew)) kd n sp hs A xs.length c).mono ?_
  rintro e wG ⟨b, rfl, hbe, hbG⟩
  refine ⟨_, rfl, ?_⟩
  obtain ⟨s0, s1, s2, s3, s4, s5, s6⟩ := hHeld
  refine hK.out _ _ ⟨(hbG.cell (World.block_lt_of_cell? _ _ s0)).trans s0, (hbG.cell (World.block_lt_of_cell? _ _ s1)).trans s1, (hbG.cell (World.block_lt_of_cell? _ _ s2)).trans s2, (hbG.cell (World.block_lt_of_cell? _ _ s3)).trans s3, (hbG.cell (World.block_lt_of_cell? _ _ s4)).trans s4, (hbG.cell (World.block_lt_of_cell? _ _ s5)).trans s5, (hbG.cell (World.block_lt_of_cell? _ _ s6)).trans s6⟩ (fun hHeld => ?_)
  clear hK K
  refine norm_ (a' := ?_) ?_ ?_
  rotate_left
  · show Act.put _ (some 46) _ = _
    simp only [Act.put, List.setIfInBounds_toArray, List.set_cons_zero, List.set_cons_succ, i64_w, i32_w]
    rfl
  refine last_ (i := 5) (N := none) #[true, true, true, true, true, true, false] rfl rfl (by kernel_rfl) (by decide) (fun K hK => ?_)
  obtain ⟨s0, s1, s2, s3, s4, s5, s6⟩ := hHeld
  have hb2 : Below wD.heap.size wD wG := (Below.refl _ wD).drew.trans hbG
  have hk6G := blk_below HK6.out hb2
  have f0 := blk_frozen hk6G
  obtain ⟨q0, q1, q2⟩ := And.intro ((blk_cell hk6G 0).trans rfl) (And.intro ((blk_cell hk6G 1).trans rfl) ((blk_cell hk6G 2).trans rfl))
  refine skip_ (w1 := ?_) (by rfl) rfl ?_ ?_
  rotate_left
  · go_simp
    with_reducible rfl
  refine hK.out _ _ ?_
  clear hK K
  refine pure_ (i := 6) (N := some 7) (v := ?_) (a' := ?_) #[true, true, true, true, true, true, true] rfl rfl (by kernel_rfl) (fun _ _ _ h => h) (Or.inl ⟨by rfl, ?_⟩) ?_ ?_
  rotate_left
  · intro w'
    go_simp
    with_reducible rfl
  rotate_left
  · simp only [Act.put, List.setIfInBounds_toArray, List.set_cons_zero, List.set_cons_succ, i64_w, i32_w]
    rfl
  refine done_ (by kernel_rfl) ?_
  replace HSY := Aside0.mk (HSY.out.trans (Stay.below hb2))
  replace HZ := Aside0.mk (HZ.out.below hb2)
  have HK6G := Aside0.mk hk6G
  have hBG := HZ.out
  have hfar := ((hBG.far HK6G.out (by decide) (Nat.le_trans HW0.out (Nat.le_add_right _ 2)) 0 (.slice Au L.length cu)).far (blk_put HK6G.out 0 (.slice Au L.length cu) rfl) (by decide) (Nat.le_trans HW0.out (Nat.le_add_right _ 2)) 1 (.int .i64 h)).far (blk_put (blk_put HK6G.out 0 (.slice Au L.length cu) rfl) 1 (.int .i64 h) rfl) (by decide) (Nat.le_trans HW0.out (Nat.le_add_right _ 2)) 2 (.int .i64 r)
  have hk6' := blk_put (blk_put (blk_put HK6G.out 0 (.slice Au L.length cu) rfl) 1 (.int .i64 h) rfl) 2 (.int .i64 r) rfl
  have HFAR := Aside0.mk hfar
  have HK6' := Aside0.mk hk6'
  have HFR := Aside0.mk (((HSY.out.far (w.heap.size + 2) 0 (.slice Au L.length cu)).far (w.heap.size + 2) 1 (.int .i64 h)).far (w.heap.size + 2) 2 (.int .i64 r))
  clear hBG hfar hk6'
  clear hb2 hk6G
  (try simp only [Exit.inBlock, Exit.then])
  go_wp2
  refine bodyPost_ret (results_ct rfl _ _ (w.heap.size + 2) 67 #[.slice Au L.length cu, .int .i64 h, .int .i64 r] (0, 0) _ rfl HK6'.out Try.underlying67 rfl (by kernel_rfl)) rfl ?_
  exact ⟨os, hand, rounds, Au, cu, L, h, r, b, rfl, HFAR.out, HDO.out.nx0, HDL.out.nx0, fun a1 a2 a3 => ⟨hbe a1, a1, a2, a3⟩, fun k hk hx => HFR.out k (fun hy => by rcases hy with ((hy | hy) | hy) | hy <;> first | exact hx hy | omega)⟩
end

end Go.Proofs.Ytcbnmmkmgpbfiaa.PP
/- The law's 'does' at any deed, and 'like' (layer 14). -/
namespace Go.Proofs.Ytcbnmmkmgpbfiaa.PP
open Go.RowKit Go.Proofs.Ytcbnmmkmgpbfiaa.PX Go.Proofs.YtcbnmmkmgpbfiaaW.PrintWords Go.Proofs.YtcbnmmkmgpbfiaaW.PrintLast Go.Proofs.YtcbnmmkmgpbfiaaW.PrintMore
attribute [local go_sem] max2_int min2_int max_two min_two max_three min_three max_four min_four   -- for this text's walks alone
set_option linter.unusedVariables false
set_option linter.unusedSimpArgs false
section
variable {w0 w : World} {base B bm : Nat} {vo : Value} {os : List Int} {hand rounds : Int} {Au : Option Addr} {cu : Nat} {L : List Int} {h r : Int}
theorem does_any (hB : Both w0 w base B bm vo os hand rounds (.slice Au L.length cu) L) (d : Doc os hand rounds) (dL : Doc L h r) (hr1 : rounds < 1000000) (hr2 : r < 1000000) (x : OpenD3.Dd) (hx : OpenD3.Good w0 x) :
    Calls Try.prog 42 #[.pointer (some ⟨B, 0, none⟩), .agg #[.slice Au L.length cu, .int .i64 h, .int .i64 r], .agg #[.int .i64 x.kd, .int .i64 x.n, .int .i64 x.sp, .slice x.A x.av.length x.c]] w (DoesP w0 w base B bm vo os hand rounds (.slice Au L.length cu) L h r) := by
  obtain ⟨kd, n, sp, A, c, av⟩ := x
  obtain ⟨hk, hn, hs, hc, hC⟩ := hx
  by_cases h0 : kd = 0
  · subst h0; exact does_take hB d dL hr1 hr2 n sp hs A c av hc hC
  by_cases h2 : kd = 2
  · subst h2; exact does_give hB d dL hr1 hr2 n sp hs A c av hc hC
  by_cases h1 : kd = 1
  · subst h1; exact does_steal hB d dL hr1 hr2 n sp hn hs A c av hc hC
  by_cases h3 : kd = 3
  · subst h3; exact does_vict3 hB d dL hr1 hr2 n sp hn hs A c av hc hC
  by_cases h4 : kd = 4
  · subst h4; exact does_vict4 hB d dL hr1 hr2 n sp hn hs A c av hc hC
  exact does_other hB d dL hr1 hr2 n sp hn hs A c av hc hC kd (by omega)
end
/-- What holds while it is compared. -/
structure LK (w W : World) (base B bm : Nat) (vo : Value) (L : List Int) (h r : Int) (A : Option Addr) : Prop where
  st : St W base B bm vo L h r
  c : Kd.C (Kd.int .i64) W A L.length L
  bl : Below w.heap.size w W
theorem LK.below {w W W' : World} {base B bm : Nat} {vo : Value} {L : List Int} {h r : Int} {A : Option Addr} (k : LK w W base B bm vo L h r A) (hb : Below W.heap.size W W') : LK w W' base B bm vo L h r A :=
  ⟨k.st.below hb, Kd.C_below k.c hb, k.bl.trans (hb.mono k.bl.size)⟩
theorem same_below {w w' : World} (h : w' = w) : Below w.heap.size w w' := h ▸ Below.refl _ _
set_option maxHeartbeats 8000000 in
set_option maxRecDepth 100000 in
theorem like_calls {w : World} {base B bm : Nat} {vo : Value} {L : List Int} {h r : Int} {Au : Option Addr} {cu : Nat} (hst : St w base B bm vo L h r) (d : Doc L h r) (hcu : L.length ≤ cu) (hC : Kd.C (Kd.int .i64) w Au L.length L) :
    Calls Try.prog 44 #[.pointer (some ⟨B, 0, none⟩), .agg #[.slice Au L.length cu, .int .i64 h, .int .i64 r]] w fun e w' => e = .returned (.bool true) ∧ Below w.heap.size w w' := by
  have hb0 := (Below.refl w.heap.size w).alloc (Nat.le_refl _) (.cells #[.slice Au L.length cu, .int .i64 h, .int .i64 r] 67)
  have hk4 := blk_new w (.cells #[.slice Au L.length cu, .int .i64 h, .int .i64 r] 67)
  have HD := Aside0.mk d
  have HCU := Aside0.mk hcu
  have HLK := Aside0.mk (show LK w _ base B bm vo L h r Au from ⟨hst.below hb0, Kd.C_below hC hb0, hb0⟩)
  have hl10 := d.len
  obtain ⟨x0, x1, x2⟩ := And.intro ((blk_cell hk4 0).trans rfl) (And.intro ((blk_cell hk4 1).trans rfl) ((blk_cell hk4 2).trans rfl))
  clear hst d hcu hC hb0 hk4
  go_enter Try.func44, Try.ntmps44
  go_wp2_with fail
  generalize w.alloc (.cells #[.slice Au L.length cu, .int .i64 h, .int .i64 r] 67) = wD at *
  go_region_held3 (fun W => Aside0 (LK w W base B bm vo L h r Au) ∧ W.cell? ⟨w.heap.size, 0, none⟩ = some (.slice Au L.length cu) ∧ W.cell? ⟨w.heap.size, 1, none⟩ = some (.int .i64 h) ∧ W.cell? ⟨w.heap.size, 2, none⟩ = some (.int .i64 r))
    (first | (exact ⟨⟨HLK.out.below ((Below.refl _ _).drew)⟩, x0, x1, x2⟩) | (go_split_ands; exact ⟨⟨LK.below (Aside0.out (p := LK w _ base B bm vo L h r Au) (by assumption)) hbel⟩, pw_cell_below hbel (by assumption), pw_cell_below hbel (by assumption), pw_cell_below hbel (by assumption)⟩))
    (first
      | (go_at_call 79; go_split_ands; refine (len_S (LK.st (Aside0.out (p := LK w _ base B bm vo L h r Au) (by assumption)))).mono ?_; rintro e w' ⟨rfl, hw⟩; have hbel := same_below hw; clear hw)
      | (go_at_call 40; go_split_ands; refine (st_hand (LK.st (Aside0.out (p := LK w _ base B bm vo L h r Au) (by assumption)))).mono ?_; rintro e w' ⟨rfl, hw⟩; have hbel := same_below hw; clear hw)
      | (go_at_call 39; go_split_ands; refine (st_rounds (LK.st (Aside0.out (p := LK w _ base B bm vo L h r Au) (by assumption)))).mono ?_; rintro e w' ⟨rfl, hw⟩; have hbel := same_below hw; clear hw)
      | (go_at_call 35; go_split_ands; refine (free_st (LK.st (Aside0.out (p := LK w _ base B bm vo L h r Au) (by assumption))) HD.out.sml).mono ?_; rintro e w' ⟨rfl, hbel⟩)
      | (go_at_call 80; go_split_ands; refine (lookasideref14_Free.calls 9000 Au cu L h r _ _ (LK.c (Aside0.out (p := LK w _ base B bm vo L h r Au) (by assumption))) HCU.out (Free_f L h r HD.out)).mono ?_; rintro e w' ⟨rfl, hbel⟩)
      | (go_at_call 43; go_split_ands; refine (owners_S (LK.st (Aside0.out (p := LK w _ base B bm vo L h r Au) (by assumption))) HD.out).mono ?_; rintro e w' ⟨v1, rfl, hR1, hbel⟩; obtain ⟨A1, c1, hv1⟩ := Kd.R_slice hR1; subst hv1; have HC1 := Aside0.mk (Kd.R_reads' hR1).2; clear hR1)
      | (go_at_call 23; go_split_ands; refine (lookasideref02_Same.calls 9000 A1 c1 L Au cu L true _ HC1.out.2 HC1.out.1 (LK.c (Aside0.out (p := LK w _ base B bm vo L h r Au) (by assumption))) HCU.out (Same_f L (by omega))).mono ?_; rintro e w' ⟨rfl, hdr⟩; have hbel := hdr.below))
  all_goals
    rename_i hS
    have hbf := hS.1.out.bl
    clear hS
    (try simp only [Exit.inBlock, Exit.then])
    go_wp2
    go_ret
    exact ⟨rfl, hbf⟩

end Go.Proofs.Ytcbnmmkmgpbfiaa.PP

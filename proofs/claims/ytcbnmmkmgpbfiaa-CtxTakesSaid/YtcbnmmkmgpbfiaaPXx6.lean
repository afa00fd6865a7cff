-- written by xprint.py, a program of this session, over the kit's print (functions told by hand: see the texts)
import Derived.Test.YtcbnmmkmgpbfiaaPXx0
import Derived.Test.YtcbnmmkmgpbfiaaPXx3
namespace Go.Proofs.Ytcbnmmkmgpbfiaa.PX
open Go.RowKit Go.Proofs.YtcbnmmkmgpbfiaaW.PrintWords Go.Proofs.YtcbnmmkmgpbfiaaW.PrintLast Go.Proofs.YtcbnmmkmgpbfiaaW.PrintMore
attribute [local go_sem] max2_int min2_int max_two min_two max_three min_three max_four min_four   -- for this text's walks alone
set_option linter.unusedVariables false
set_option linter.unusedSimpArgs false

/-! ### lookasideref14_Give: function 74 -/
def lookasideref14_Give.f (k : Nat) (l0_0 : List Int) (a0_1 : Int) (a0_2 : Int) (a1 : Int) : Option (List Int × Int × Int × Int × Int) := (lookasideref14_Of.f k l0_0 a0_1 a0_2 a1).bind fun t141 => (if t141 = 0 then (some (l0_0, a0_1, a0_2, 0, 10)) else (if ([] : List Int).length + l0_0.length < 17592186044416 then ((some (([] : List Int) ++ l0_0 : List Int)).bind fun y142 => (if 0 ≤ (wrap64 (t141 - 1)) then (if (wrap64 (t141 - 1)) < (y142.length : Int) then (some ((y142.set ((wrap64 (t141 - 1)) : Int).toNat (-1)), a0_1, a0_2, t141, 0)) else (none)) else (none))) else (none)))
theorem lookasideref14_Give.mono : ∀ a0 a1 a2 a3 k, LeO (lookasideref14_Give.f k a0 a1 a2 a3) (lookasideref14_Give.f (k + 1) a0 a1 a2 a3) := by
  intro a0 a1 a2 a3 k
  unfold lookasideref14_Give.f
  repeat' first
      | (with_reducible exact lookasideref14_Of.mono _ _ _ _ _)
      | (with_reducible exact LeO.refl _)
      | (with_reducible exact LeO.none _)
      | (with_reducible refine LeO.ite ?_ ?_)
      | (with_reducible refine LeO.bind ?_ (fun _ => ?_))
      | exact lookasideref14_Of.mono _ _ _ _ _
      | exact LeO.none _
      | refine LeO.ite ?_ ?_
      | refine LeO.bind ?_ (fun _ => ?_)
set_option maxHeartbeats 8000000 in
set_option maxRecDepth 100000 in
theorem lookasideref14_Give.calls (k : Nat) (P0_0_ : Nat → Prop) (u9000_ : Value) (l0_0 : List Int) (a0_1 : Int) (a0_2 : Int) (a1 : Int) (r1 : List Int) (r2 : Int) (r3 : Int) (r4 : Int) (r5 : Int) (w0 w : World) (hB : Below w0.heap.size w0 w) (ho0_0 : Kd.R (Kd.int .i64) 3 w w0.heap.size P0_0_ u9000_ l0_0) (h : lookasideref14_Give.f k l0_0 a0_1 a0_2 a1 = some (r1, r2, r3, r4, r5)) :
    Calls Try.prog 74 #[.agg #[u9000_, .int .i64 a0_1, .int .i64 a0_2], .int .i64 a1] w fun e w' => ∃ v0_ : Value, e = .returned (.tuple #[.agg #[v0_, .int .i64 r2, .int .i64 r3], .int .i64 r4, .int .i64 r5]) ∧ Kd.R (Kd.int .i64) 3 w' w0.heap.size (fun k_ => (P0_0_ k_ ∨ w.heap.size ≤ k_)) v0_ r1 ∧ Below w0.heap.size w0 w' ∧ Kept w w' (fun k_ => P0_0_ k_) := by
  have hu67 := Try.underlying67
  have HO0_0 := Aside0.mk (show Kd.R (Kd.int .i64) 3 w w0.heap.size (fun k_ => (P0_0_ k_ ∨ w.heap.size ≤ k_)) u9000_ l0_0 from Kd.R_mono ho0_0 (fun k_ hk => (.inl hk)))
  have HK := Aside0.mk (Kept.refl w (fun k_ => P0_0_ k_))
  have HW0 := Aside0.mk hB.size
  have HB := Aside0.mk hB
  clear hB
  have H : ((lookasideref14_Of.f k l0_0 a0_1 a0_2 a1).bind fun t141 => (if t141 = 0 then (some (l0_0, a0_1, a0_2, 0, 10)) else (if ([] : List Int).length + l0_0.length < 17592186044416 then ((some (([] : List Int) ++ l0_0 : List Int)).bind fun y142 => (if 0 ≤ (wrap64 (t141 - 1)) then (if (wrap64 (t141 - 1)) < (y142.length : Int) then (some ((y142.set ((wrap64 (t141 - 1)) : Int).toNat (-1)), a0_1, a0_2, t141, 0)) else (none)) else (none))) else (none)))) = some (r1, r2, r3, r4, r5) := h
  clear h
  replace H := Option.bind_eq_some_iff.mp H
  obtain ⟨t141, A30, H⟩ := H
  replace H : (if t141 = 0 then (some (l0_0, a0_1, a0_2, 0, 10)) else (if ([] : List Int).length + l0_0.length < 17592186044416 then ((some (([] : List Int) ++ l0_0 : List Int)).bind fun y142 => (if 0 ≤ (wrap64 (t141 - 1)) then (if (wrap64 (t141 - 1)) < (y142.length : Int) then (some ((y142.set ((wrap64 (t141 - 1)) : Int).toNat (-1)), a0_1, a0_2, t141, 0)) else (none)) else (none))) else (none))) = some (r1, r2, r3, r4, r5) := H
  have A3 := Aside0.mk A30
  clear A30
  by_cases c4 : t141 = 0
  · rw [if_pos c4] at H
    have c4b0 : (t141 == 0) = true := beq_iff_eq.mpr c4
    have c4b1 : (t141 != 0) = false := bne_eq_false_iff_eq.mpr c4
    clear c4
    simp only [Option.some.injEq, Prod.mk.injEq] at H
    obtain ⟨rfl, rfl, rfl, rfl, rfl⟩ := H
    obtain ⟨Ao5, co5, eo5⟩ := Kd.R_slice HO0_0.out
    subst eo5
    go_enter Try.func74, Try.ntmps74
    go_wp2_with (first | ((with_reducible refine gate_dst (N := 2) rfl ?_); refine box_event ?hg (N := 2) ?hd (cs := #[.slice Ao5 l0_0.length co5, .int .i64 a0_1, .int .i64 a0_2]) (t := 67) ?hr ?_; (case hd => rfl); (case hg => rfl); (case hr => first | (go_simp; done) | (go_simp; rfl)); intro gb139 hg w6 hbox hb; have n0_ := Aside0.mk (Kd.R_below (by (with_reducible repeat (first | apply Kd.R_alloc | apply Kd.R_drewN | apply Kd.R_drew)); exact HO0_0.out) hb); have n1_ := Aside0.mk (Kept.below (S := (fun k_ => P0_0_ k_)) (by repeat (first | (with_reducible first | exact HK.out | apply Kept.alloc | apply Kept.drewN | apply Kept.drew) | exact HK.out)) hb); have n2_ := Aside0.mk (below_step (by repeat (first | (with_reducible first | exact HB.out | apply below_alloc | apply pw_below_drewN | apply below_drew1) | exact HB.out)) hb); have n3_ := Aside0.mk (hbox); have n4_ := Aside0.mk ((by rw [hg]; exact (by first | exact HK.out.1 | exact (show Kept w _ (fun k_ => P0_0_ k_) from by repeat (first | (with_reducible first | exact HK.out | apply Kept.alloc | apply Kept.drewN | apply Kept.drew) | exact HK.out)).1) : w.heap.size ≤ gb139)); have n5_ := Aside0.mk ((by rw [hg]; exact (below_size (by repeat (first | (with_reducible first | exact HB.out | apply below_alloc | apply pw_below_drewN | apply below_drew1) | exact HB.out))) : w0.heap.size ≤ gb139)); clear HO0_0; clear HK; clear HB; have HO0_0 := n0_; have HK := n1_; have HB := n2_; have BK139 := n3_; have GW139 := n4_; have GE139 := n5_; clear n0_ n1_ n2_ n3_ n4_ n5_; clear hb hbox hg) | ((with_reducible refine gate_dst (N := 4) rfl ?_); refine box_event ?hg (N := 4) ?hd (cs := #[.slice none 0 0, .int .i64 0, .int .i64 0]) (t := 67) ?hr ?_; (case hd => rfl); (case hg => rfl); (case hr => first | (go_simp; done) | (go_simp; rfl)); intro gb140 hg w7 hbox hb; have n0_ := Aside0.mk (Kd.R_below (by (with_reducible repeat (first | apply Kd.R_alloc | apply Kd.R_drewN | apply Kd.R_drew)); exact HO0_0.out) hb); have n1_ := Aside0.mk (blk_below (g := gb139) (o := .cells #[.slice Ao5 l0_0.length co5, .int .i64 a0_1, .int .i64 a0_2] 67 (0, 0)) (by (with_reducible repeat (first | refine blk_drewN ?_ _ | refine blk_drew ?_ | refine blk_alloc ?_ _)); exact BK139.out) hb); have n2_ := Aside0.mk (Kept.below (S := (fun k_ => P0_0_ k_)) (by repeat (first | (with_reducible first | exact HK.out | apply Kept.alloc | apply Kept.drewN | apply Kept.drew | refine Kept.setCell ?_ (.inr GW139.out) _) | exact HK.out)) hb); have n3_ := Aside0.mk (below_step (by repeat (first | (with_reducible first | exact HB.out | apply below_alloc | apply pw_below_drewN | apply below_drew1 | refine below_set ?_ GE139.out) | exact HB.out)) hb); have n4_ := Aside0.mk (hbox); have n5_ := Aside0.mk ((by rw [hg]; exact (by first | exact HK.out.1 | exact (show Kept w _ (fun k_ => P0_0_ k_) from by repeat (first | (with_reducible first | exact HK.out | apply Kept.alloc | apply Kept.drewN | apply Kept.drew | refine Kept.setCell ?_ (.inr GW139.out) _) | exact HK.out)).1) : w.heap.size ≤ gb140)); have n6_ := Aside0.mk ((by rw [hg]; exact (below_size (by repeat (first | (with_reducible first | exact HB.out | apply below_alloc | apply pw_below_drewN | apply below_drew1 | refine below_set ?_ GE139.out) | exact HB.out))) : w0.heap.size ≤ gb140)); have n7_ := Aside0.mk ((by rw [hg]; exact Nat.ne_of_lt (blk_lt (g := gb139) (o := .cells #[.slice Ao5 l0_0.length co5, .int .i64 a0_1, .int .i64 a0_2] 67 (0, 0)) (by (with_reducible repeat (first | refine blk_drewN ?_ _ | refine blk_drew ?_ | refine blk_alloc ?_ _)); exact BK139.out)) : gb139 ≠ gb140)); have n8_ := Aside0.mk ((by rw [hg]; exact Nat.ne_of_gt (blk_lt (g := gb139) (o := .cells #[.slice Ao5 l0_0.length co5, .int .i64 a0_1, .int .i64 a0_2] 67 (0, 0)) (by (with_reducible repeat (first | refine blk_drewN ?_ _ | refine blk_drew ?_ | refine blk_alloc ?_ _)); exact BK139.out)) : gb140 ≠ gb139)); clear HO0_0; clear BK139; clear HK; clear HB; have HO0_0 := n0_; have BK139 := n1_; have HK := n2_; have HB := n3_; have BK140 := n4_; have GW140 := n5_; have GE140 := n6_; have NB139_140 := n7_; have NB140_139 := n8_; clear n0_ n1_ n2_ n3_ n4_ n5_ n6_ n7_ n8_; clear hb hbox hg; have hnb8 := NB139_140.out; have hnc8 := NB140_139.out; have hcz9_0 : w7.cell? ⟨gb139, 0, none⟩ = some (.slice Ao5 l0_0.length co5) := (blk_cell BK139.out 0).trans rfl; have hcz9_1 : w7.cell? ⟨gb139, 1, none⟩ = some (.int .i64 a0_1) := (blk_cell BK139.out 1).trans rfl; have hcz9_2 : w7.cell? ⟨gb139, 2, none⟩ = some (.int .i64 a0_2) := (blk_cell BK139.out 2).trans rfl; have hfz9_0 := blk_frozen BK139.out 0; have hfz9_1 := blk_frozen BK139.out 1; have hfz9_2 := blk_frozen BK139.out 2) | ((with_reducible refine gate_callee (f := 92) rfl ?_); refine goesL_ (some 11) rfl rfl Try.func92 (by kernel_rfl) rfl #[.agg #[.slice Ao5 l0_0.length co5, .int .i64 a0_1, .int .i64 a0_2], .int .i64 a1] rfl (by (try simp only [List.map_toArray, List.map_cons, List.map_nil]); first | done | rfl | (simp only [List.length_drop, List.length_take]; rfl)) ?_; (with_reducible refine (lookasideref14_Of.calls k _ _ l0_0 a0_1 a0_2 a1 t141 _ ?side1 ?side2 A3.out).mono ?_); (case side1 => repeat (first | exact (Kd.R_reads' HO0_0.out).2.2 | (with_reducible refine Kd.C_alloc ?_ _) | (with_reducible refine Kd.C_drewN ?_ _) | (with_reducible refine Kd.C_drew ?_))); (case side2 => exact (Kd.R_reads' HO0_0.out).2.1); rintro e w10 ⟨rfl, hb⟩; refine ⟨_, rfl, ?_⟩; have n0_ := Aside0.mk (Kd.R_below (by (with_reducible repeat (first | apply Kd.R_alloc | apply Kd.R_drewN | apply Kd.R_drew)); exact HO0_0.out) hb); have n1_ := Aside0.mk (blk_below (g := gb139) (o := .cells #[.slice Ao5 l0_0.length co5, .int .i64 a0_1, .int .i64 a0_2] 67 (0, 0)) (by (with_reducible repeat (first | refine blk_drewN ?_ _ | refine blk_drew ?_ | refine blk_alloc ?_ _)); exact BK139.out) hb); have n2_ := Aside0.mk (blk_below (g := gb140) (o := .cells #[.slice none 0 0, .int .i64 0, .int .i64 0] 67 (0, 0)) (by (with_reducible repeat (first | refine blk_drewN ?_ _ | refine blk_drew ?_ | refine blk_alloc ?_ _)); exact BK140.out) hb); have n3_ := Aside0.mk (Kept.below (S := (fun k_ => P0_0_ k_)) (by repeat (first | (with_reducible first | exact HK.out | apply Kept.alloc | apply Kept.drewN | apply Kept.drew | refine Kept.setCell ?_ (.inr GW139.out) _ | refine Kept.setCell ?_ (.inr GW140.out) _) | exact HK.out)) hb); have n4_ := Aside0.mk (below_step (by repeat (first | (with_reducible first | exact HB.out | apply below_alloc | apply pw_below_drewN | apply below_drew1 | refine below_set ?_ GE139.out | refine below_set ?_ GE140.out) | exact HB.out)) hb); clear HO0_0; clear BK139; clear BK140; clear HK; clear HB; have HO0_0 := n0_; have BK139 := n1_; have BK140 := n2_; have HK := n3_; have HB := n4_; clear n0_ n1_ n2_ n3_ n4_; (try clear hb); (try clear hb2); (try clear hk); (try clear hi); have hcz11_0 : w10.cell? ⟨gb139, 0, none⟩ = some (.slice Ao5 l0_0.length co5) := (blk_cell BK139.out 0).trans rfl; have hcz11_1 : w10.cell? ⟨gb139, 1, none⟩ = some (.int .i64 a0_1) := (blk_cell BK139.out 1).trans rfl; have hcz11_2 : w10.cell? ⟨gb139, 2, none⟩ = some (.int .i64 a0_2) := (blk_cell BK139.out 2).trans rfl; have hfz11_0 := blk_frozen BK139.out 0; have hfz11_1 := blk_frozen BK139.out 1; have hfz11_2 := blk_frozen BK139.out 2; have hcz12_0 : w10.cell? ⟨gb140, 0, none⟩ = some (.slice none 0 0) := (blk_cell BK140.out 0).trans rfl; have hcz12_1 : w10.cell? ⟨gb140, 1, none⟩ = some (.int .i64 0) := (blk_cell BK140.out 1).trans rfl; have hcz12_2 : w10.cell? ⟨gb140, 2, none⟩ = some (.int .i64 0) := (blk_cell BK140.out 2).trans rfl; have hfz12_0 := blk_frozen BK140.out 0; have hfz12_1 := blk_frozen BK140.out 1; have hfz12_2 := blk_frozen BK140.out 2))
    refine bodyPost_ret (results_ctt rfl _ _ gb140 67 #[.slice Ao5 l0_0.length co5, .int .i64 a0_1, .int .i64 a0_2] (0, 0) _ rfl (by (with_reducible repeat (first | refine blk_drewN ?_ _ | refine blk_drew ?_ | refine blk_alloc ?_ _)); refine blk_put (cs := #[.slice Ao5 l0_0.length co5, .int .i64 a0_1, .int .i64 0]) ?_ 2 _ rfl; (with_reducible repeat (first | refine blk_drewN ?_ _ | refine blk_drew ?_ | refine blk_alloc ?_ _)); refine blk_put (cs := #[.slice Ao5 l0_0.length co5, .int .i64 0, .int .i64 0]) ?_ 1 _ rfl; (with_reducible repeat (first | refine blk_drewN ?_ _ | refine blk_drew ?_ | refine blk_alloc ?_ _)); refine blk_put (cs := #[.slice none 0 0, .int .i64 0, .int .i64 0]) ?_ 0 _ rfl; (with_reducible repeat (first | refine blk_drewN ?_ _ | refine blk_drew ?_ | refine blk_alloc ?_ _)); exact BK140.out) Try.underlying67 rfl (by kernel_rfl)) rfl ?_
    exact ⟨_, by first | rfl | (simp [errW_none, errW_some] <;> rfl) | (simp [*, errW_none, errW_some] <;> rfl), by (with_reducible repeat (first | apply Kd.R_alloc | apply Kd.R_drewN | apply Kd.R_drew)); exact Kd.R_mono (Kd.R_far (p := ⟨gb140, 2, none⟩) (Kd.R_far (p := ⟨gb140, 1, none⟩) (Kd.R_far (p := ⟨gb140, 0, none⟩) (Kd.R_types HO0_0.out BK140.out (by decide)) (fun _ hk => hk.2) (.slice Ao5 l0_0.length co5)) (fun _ hk => hk.2) (.int .i64 a0_1)) (fun _ hk => hk.2) (.int .i64 a0_2)) (fun _ hk => hk.1), by repeat (first | (with_reducible first | exact HB.out | apply below_alloc | apply pw_below_drewN | apply below_drew1 | refine below_set ?_ GE139.out | refine below_set ?_ GE140.out) | exact HB.out), by repeat (first | (with_reducible first | exact HK.out | apply Kept.alloc | apply Kept.drewN | apply Kept.drew | refine Kept.setCell ?_ (.inr GW139.out) _ | refine Kept.setCell ?_ (.inr GW140.out) _) | exact HK.out)⟩
  · rw [if_neg c4] at H
    have c4b0 : (t141 == 0) = false := beq_eq_false_iff_ne.mpr c4
    have c4b1 : (t141 != 0) = true := bne_iff_ne.mpr c4
    by_cases c13 : ([] : List Int).length + l0_0.length < 17592186044416
    · rw [if_pos c13] at H
      have LMc13 := Aside0.mk c13
      clear c13
      obtain ⟨y142, hy142⟩ : ∃ y_ : List Int, y_ = (([] : List Int) ++ l0_0) := ⟨_, rfl⟩
      replace H : (if 0 ≤ (wrap64 (t141 - 1)) then (if (wrap64 (t141 - 1)) < (y142.length : Int) then (some ((y142.set ((wrap64 (t141 - 1)) : Int).toNat (-1)), a0_1, a0_2, t141, 0)) else (none)) else (none)) = some (r1, r2, r3, r4, r5) := by first | (rw [hy142]; with_reducible exact H) | (have H2_ := (Option.bind_some _ _).symm.trans H; rw [hy142]; with_reducible exact H2_) | (have H2_ := (Option.bind_some _ _).symm.trans H; with_reducible exact H2_) | with_reducible exact H | (rw [hy142]; exact H) | exact H
      have Ny142 := Aside0.mk hy142
      clear hy142
      obtain ⟨ji14, hji14⟩ : ∃ j_ : Int, (wrap64 (t141 - 1)) = j_ := ⟨_, rfl⟩
      replace H : (if 0 ≤ (ji14) then (if (ji14) < (y142.length : Int) then (some ((y142.set ((ji14) : Int).toNat (-1)), a0_1, a0_2, t141, 0)) else (none)) else (none)) = some (r1, r2, r3, r4, r5) := by first | (rw [hji14] at H; exact H) | (simp only [hji14] at H ⊢; exact H)
      (try rw [hji14] at A3)
      have hji14w : (IntKind.i64.wrap (t141 - 1)) = ji14 := (i64_w _).trans hji14
      by_cases c15 : 0 ≤ (ji14)
      · rw [if_pos c15] at H
        have c15b0 : decide (0 ≤ (ji14)) = true := decide_eq_true c15
        clear c15
        by_cases c16 : (ji14) < (y142.length : Int)
        · rw [if_pos c16] at H
          have c16b0 : decide ((ji14) < (y142.length : Int)) = true := decide_eq_true c16
          clear c16
          obtain ⟨y145, hy145⟩ : ∃ y_ : List Int, y_ = (y142.set ((ji14) : Int).toNat (-1)) := ⟨_, rfl⟩
          replace H : (some (y145, a0_1, a0_2, t141, 0)) = some (r1, r2, r3, r4, r5) := by first | (rw [hy145]; with_reducible exact H) | (have H2_ := (Option.bind_some _ _).symm.trans H; rw [hy145]; with_reducible exact H2_) | (have H2_ := (Option.bind_some _ _).symm.trans H; with_reducible exact H2_) | with_reducible exact H | (rw [hy145]; exact H) | exact H
          have Ny145 := Aside0.mk hy145
          clear hy145
          simp only [Option.some.injEq, Prod.mk.injEq] at H
          obtain ⟨rfl, rfl, rfl, rfl, rfl⟩ := H
          obtain ⟨Ao18, co18, eo18⟩ := Kd.R_slice HO0_0.out
          subst eo18
          go_enter Try.func74, Try.ntmps74
          go_wp2_with (first | ((with_reducible refine gate_dst (N := 2) rfl ?_); refine box_event ?hg (N := 2) ?hd (cs := #[.slice Ao18 l0_0.length co18, .int .i64 a0_1, .int .i64 a0_2]) (t := 67) ?hr ?_; (case hd => rfl); (case hg => rfl); (case hr => first | (go_simp; done) | (go_simp; rfl)); intro gb139 hg w19 hbox hb; have n0_ := Aside0.mk (Kd.R_below (by (with_reducible repeat (first | apply Kd.R_alloc | apply Kd.R_drewN | apply Kd.R_drew)); exact HO0_0.out) hb); have n1_ := Aside0.mk (Kept.below (S := (fun k_ => P0_0_ k_)) (by repeat (first | (with_reducible first | exact HK.out | apply Kept.alloc | apply Kept.drewN | apply Kept.drew) | exact HK.out)) hb); have n2_ := Aside0.mk (below_step (by repeat (first | (with_reducible first | exact HB.out | apply below_alloc | apply pw_below_drewN | apply below_drew1) | exact HB.out)) hb); have n3_ := Aside0.mk (hbox); have n4_ := Aside0.mk ((by rw [hg]; exact (by first | exact HK.out.1 | exact (show Kept w _ (fun k_ => P0_0_ k_) from by repeat (first | (with_reducible first | exact HK.out | apply Kept.alloc | apply Kept.drewN | apply Kept.drew) | exact HK.out)).1) : w.heap.size ≤ gb139)); have n5_ := Aside0.mk ((by rw [hg]; exact (below_size (by repeat (first | (with_reducible first | exact HB.out | apply below_alloc | apply pw_below_drewN | apply below_drew1) | exact HB.out))) : w0.heap.size ≤ gb139)); clear HO0_0; clear HK; clear HB; have HO0_0 := n0_; have HK := n1_; have HB := n2_; have BK139 := n3_; have GW139 := n4_; have GE139 := n5_; clear n0_ n1_ n2_ n3_ n4_ n5_; clear hb hbox hg) | ((with_reducible refine gate_dst (N := 4) rfl ?_); refine box_event ?hg (N := 4) ?hd (cs := #[.slice none 0 0, .int .i64 0, .int .i64 0]) (t := 67) ?hr ?_; (case hd => rfl); (case hg => rfl); (case hr => first | (go_simp; done) | (go_simp; rfl)); intro gb140 hg w20 hbox hb; have n0_ := Aside0.mk (Kd.R_below (by (with_reducible repeat (first | apply Kd.R_alloc | apply Kd.R_drewN | apply Kd.R_drew)); exact HO0_0.out) hb); have n1_ := Aside0.mk (blk_below (g := gb139) (o := .cells #[.slice Ao18 l0_0.length co18, .int .i64 a0_1, .int .i64 a0_2] 67 (0, 0)) (by (with_reducible repeat (first | refine blk_drewN ?_ _ | refine blk_drew ?_ | refine blk_alloc ?_ _)); exact BK139.out) hb); have n2_ := Aside0.mk (Kept.below (S := (fun k_ => P0_0_ k_)) (by repeat (first | (with_reducible first | exact HK.out | apply Kept.alloc | apply Kept.drewN | apply Kept.drew | refine Kept.setCell ?_ (.inr GW139.out) _) | exact HK.out)) hb); have n3_ := Aside0.mk (below_step (by repeat (first | (with_reducible first | exact HB.out | apply below_alloc | apply pw_below_drewN | apply below_drew1 | refine below_set ?_ GE139.out) | exact HB.out)) hb); have n4_ := Aside0.mk (hbox); have n5_ := Aside0.mk ((by rw [hg]; exact (by first | exact HK.out.1 | exact (show Kept w _ (fun k_ => P0_0_ k_) from by repeat (first | (with_reducible first | exact HK.out | apply Kept.alloc | apply Kept.drewN | apply Kept.drew | refine Kept.setCell ?_ (.inr GW139.out) _) | exact HK.out)).1) : w.heap.size ≤ gb140)); have n6_ := Aside0.mk ((by rw [hg]; exact (below_size (by repeat (first | (with_reducible first | exact HB.out | apply below_alloc | apply pw_below_drewN | apply below_drew1 | refine below_set ?_ GE139.out) | exact HB.out))) : w0.heap.size ≤ gb140)); have n7_ := Aside0.mk ((by rw [hg]; exact Nat.ne_of_lt (blk_lt (g := gb139) (o := .cells #[.slice Ao18 l0_0.length co18, .int .i64 a0_1, .int .i64 a0_2] 67 (0, 0)) (by (with_reducible repeat (first | refine blk_drewN ?_ _ | refine blk_drew ?_ | refine blk_alloc ?_ _)); exact BK139.out)) : gb139 ≠ gb140)); have n8_ := Aside0.mk ((by rw [hg]; exact Nat.ne_of_gt (blk_lt (g := gb139) (o := .cells #[.slice Ao18 l0_0.length co18, .int .i64 a0_1, .int .i64 a0_2] 67 (0, 0)) (by (with_reducible repeat (first | refine blk_drewN ?_ _ | refine blk_drew ?_ | refine blk_alloc ?_ _)); exact BK139.out)) : gb140 ≠ gb139)); clear HO0_0; clear BK139; clear HK; clear HB; have HO0_0 := n0_; have BK139 := n1_; have HK := n2_; have HB := n3_; have BK140 := n4_; have GW140 := n5_; have GE140 := n6_; have NB139_140 := n7_; have NB140_139 := n8_; clear n0_ n1_ n2_ n3_ n4_ n5_ n6_ n7_ n8_; clear hb hbox hg; have hnb21 := NB139_140.out; have hnc21 := NB140_139.out; have hcz22_0 : w20.cell? ⟨gb139, 0, none⟩ = some (.slice Ao18 l0_0.length co18) := (blk_cell BK139.out 0).trans rfl; have hcz22_1 : w20.cell? ⟨gb139, 1, none⟩ = some (.int .i64 a0_1) := (blk_cell BK139.out 1).trans rfl; have hcz22_2 : w20.cell? ⟨gb139, 2, none⟩ = some (.int .i64 a0_2) := (blk_cell BK139.out 2).trans rfl; have hfz22_0 := blk_frozen BK139.out 0; have hfz22_1 := blk_frozen BK139.out 1; have hfz22_2 := blk_frozen BK139.out 2) | ((with_reducible refine gate_callee (f := 92) rfl ?_); refine goesL_ (some 11) rfl rfl Try.func92 (by kernel_rfl) rfl #[.agg #[.slice Ao18 l0_0.length co18, .int .i64 a0_1, .int .i64 a0_2], .int .i64 a1] rfl (by (try simp only [List.map_toArray, List.map_cons, List.map_nil]); first | done | rfl | (simp only [List.length_drop, List.length_take]; rfl)) ?_; (with_reducible refine (lookasideref14_Of.calls k _ _ l0_0 a0_1 a0_2 a1 t141 _ ?side1 ?side2 A3.out).mono ?_); (case side1 => repeat (first | exact (Kd.R_reads' HO0_0.out).2.2 | (with_reducible refine Kd.C_alloc ?_ _) | (with_reducible refine Kd.C_drewN ?_ _) | (with_reducible refine Kd.C_drew ?_))); (case side2 => exact (Kd.R_reads' HO0_0.out).2.1); rintro e w23 ⟨rfl, hb⟩; refine ⟨_, rfl, ?_⟩; have n0_ := Aside0.mk (Kd.R_below (by (with_reducible repeat (first | apply Kd.R_alloc | apply Kd.R_drewN | apply Kd.R_drew)); exact HO0_0.out) hb); have n1_ := Aside0.mk (blk_below (g := gb139) (o := .cells #[.slice Ao18 l0_0.length co18, .int .i64 a0_1, .int .i64 a0_2] 67 (0, 0)) (by (with_reducible repeat (first | refine blk_drewN ?_ _ | refine blk_drew ?_ | refine blk_alloc ?_ _)); exact BK139.out) hb); have n2_ := Aside0.mk (blk_below (g := gb140) (o := .cells #[.slice none 0 0, .int .i64 0, .int .i64 0] 67 (0, 0)) (by (with_reducible repeat (first | refine blk_drewN ?_ _ | refine blk_drew ?_ | refine blk_alloc ?_ _)); exact BK140.out) hb); have n3_ := Aside0.mk (Kept.below (S := (fun k_ => P0_0_ k_)) (by repeat (first | (with_reducible first | exact HK.out | apply Kept.alloc | apply Kept.drewN | apply Kept.drew | refine Kept.setCell ?_ (.inr GW139.out) _ | refine Kept.setCell ?_ (.inr GW140.out) _) | exact HK.out)) hb); have n4_ := Aside0.mk (below_step (by repeat (first | (with_reducible first | exact HB.out | apply below_alloc | apply pw_below_drewN | apply below_drew1 | refine below_set ?_ GE139.out | refine below_set ?_ GE140.out) | exact HB.out)) hb); clear HO0_0; clear BK139; clear BK140; clear HK; clear HB; have HO0_0 := n0_; have BK139 := n1_; have BK140 := n2_; have HK := n3_; have HB := n4_; clear n0_ n1_ n2_ n3_ n4_; (try clear hb); (try clear hb2); (try clear hk); (try clear hi); have hcz24_0 : w23.cell? ⟨gb139, 0, none⟩ = some (.slice Ao18 l0_0.length co18) := (blk_cell BK139.out 0).trans rfl; have hcz24_1 : w23.cell? ⟨gb139, 1, none⟩ = some (.int .i64 a0_1) := (blk_cell BK139.out 1).trans rfl; have hcz24_2 : w23.cell? ⟨gb139, 2, none⟩ = some (.int .i64 a0_2) := (blk_cell BK139.out 2).trans rfl; have hfz24_0 := blk_frozen BK139.out 0; have hfz24_1 := blk_frozen BK139.out 1; have hfz24_2 := blk_frozen BK139.out 2) | ((with_reducible refine gate_builtin (b := .append) (xs := #[.tmp 15, .tmp 17]) rfl ?_); at_builtin; refine Kd.R_append_rows (Kd.int .i64) (w0 := w0) w0.heap.size rfl (.tmp 15) (.tmp 17) 43 3 (.int .i64 0) 8 rfl Try.underlying43 info3 rfl (by decide) (by omega) (.slice none 0 0) ([] : List Int) l0_0 _ _ _ (fun k_ => (P0_0_ k_ ∨ w.heap.size ≤ k_) ∧ some k_ ≠ (.slice Ao18 l0_0.length co18 : Value).ownBlock) (fun _ => False) rfl rfl ?aO ?aR (fun _ _ h => h) (fun _ h => h.elim) ?aF ?aB ?aS ?aL ?_; (case aR => repeat (first | exact (Kd.R_reads' HO0_0.out).2.2 | (with_reducible refine Kd.C_alloc ?_ _) | (with_reducible refine Kd.C_drewN ?_ _) | (with_reducible refine Kd.C_drew ?_))); (case aB => exact (by repeat (first | (with_reducible first | exact HB.out | apply below_alloc | apply pw_below_drewN | apply below_drew1 | refine below_set ?_ GE139.out | refine below_set ?_ GE140.out) | exact HB.out))); (case aF => exact (fun k_ hk => ⟨(.inr (Nat.le_trans (by first | exact HK.out.1 | exact (show Kept w _ (fun k_ => P0_0_ k_) from by repeat (first | (with_reducible first | exact HK.out | apply Kept.alloc | apply Kept.drewN | apply Kept.drew | refine Kept.setCell ?_ (.inr GW139.out) _ | refine Kept.setCell ?_ (.inr GW140.out) _) | exact HK.out)).1) hk)), Kd.fresh' (Kd.R_lt (by (with_reducible repeat (first | apply Kd.R_alloc | apply Kd.R_drewN | apply Kd.R_drew)); exact HO0_0.out)) k_ hk⟩)); (case aO => exact ((Kd.R_nil _ _ _ _ (fun k_ => (P0_0_ k_ ∨ w.heap.size ≤ k_) ∧ some k_ ≠ (.slice Ao18 l0_0.length co18 : Value).ownBlock)))); (case aS => exact (below_size (by repeat (first | (with_reducible first | exact HB.out | apply below_alloc | apply pw_below_drewN | apply below_drew1 | refine below_set ?_ GE139.out | refine below_set ?_ GE140.out) | exact HB.out)))); (case aL => have := LMc13.out; omega); intro v143 w25 ho hb hg hat; rw [← Ny142.out] at ho; have n0_ := Aside0.mk (Kd.R_after (Kd.R_apart_nil (by (with_reducible repeat (first | apply Kd.R_alloc | apply Kd.R_drewN | apply Kd.R_drew)); exact HO0_0.out)) hg hat); have n1_ := Aside0.mk (blk_grown (g := gb139) (o := .cells #[.slice Ao18 l0_0.length co18, .int .i64 a0_1, .int .i64 a0_2] 67 (0, 0)) (by (with_reducible repeat (first | refine blk_drewN ?_ _ | refine blk_drew ?_ | refine blk_alloc ?_ _)); exact BK139.out) hg (by simp [Value.ownBlock])); have n2_ := Aside0.mk (blk_grown (g := gb140) (o := .cells #[.slice none 0 0, .int .i64 0, .int .i64 0] 67 (0, 0)) (by (with_reducible repeat (first | refine blk_drewN ?_ _ | refine blk_drew ?_ | refine blk_alloc ?_ _)); exact BK140.out) hg (by simp [Value.ownBlock])); have n3_ := Aside0.mk (hb); have n4_ := Aside0.mk (Kept.of_grown (S := (fun k_ => P0_0_ k_)) hg (by repeat (first | (with_reducible first | exact HK.out | apply Kept.alloc | apply Kept.drewN | apply Kept.drew | refine Kept.setCell ?_ (.inr GW139.out) _ | refine Kept.setCell ?_ (.inr GW140.out) _) | exact HK.out)) (fun k_ e_ => by simp [Value.ownBlock] at e_)); have n5_ := Aside0.mk (ho); clear HO0_0; clear BK139; clear BK140; clear HB; clear HK; have HO0_0 := n0_; have BK139 := n1_; have BK140 := n2_; have HB := n3_; have HK := n4_; have HO144 := n5_; clear n0_ n1_ n2_ n3_ n4_ n5_; clear ho hb hg hat; have p17 : 0 ≤ ((ji14) : Int) := of_decide_eq_true (by first | (with_reducible assumption) | assumption); have q17 : ((ji14) : Int) < ((y142.length : Int) : Int) := of_decide_eq_true (by first | (with_reducible assumption) | assumption); obtain ⟨go17, co17, eo17, gb17, gl17, cl17, HG17⟩ := Kd.R_form HO144.out (by omega); (first | cases eo17 | (injection eo17 with ea_ en_ ec_; (first | subst ea_ | (injection ea_ with ea_; subst ea_)); subst ec_; clear en_)); have GB17 := Aside0.mk gb17; have GG17 := Aside0.mk HG17; clear gb17 gl17 HG17; have HMgo17 := Aside0.mk (show (P0_0_ go17 ∨ w.heap.size ≤ go17) from (HO144.out.1 _ rfl).1); obtain ⟨hx17_0, hf17_0⟩ := Kd.R_celln 0 HO144.out ((ji14) : Int) p17 q17; replace p17 := eq_true p17; replace q17 := eq_true q17; obtain ⟨hy26_, hz26_⟩ := Kd.R_celln 0 HO144.out ((ji14) : Int) (of_decide_eq_true (by first | (with_reducible assumption) | assumption)) (of_decide_eq_true (by first | (with_reducible assumption) | assumption)); have HP26 := Kd.R_putg HO144.out ((ji14) : Int) (-1)) | ((with_reducible refine gate_store (t := 3) (p := 22) rfl ?_); refine store_event (t := 3) (p := 22) (v := ?vo_w27) (w1 := (w25.setCell ⟨go17, ((ji14) : Int).toNat, none⟩ (.int .i64 (-1)))) ?hg ?ho ?hn ?hr ?_; (case ho => rfl); (case hg => rfl); (case hn => rfl); (case hr => first | (go_simp; done) | (go_simp; rfl)); intro w27 hw; have hg : w25.grownBy w27 (some go17) := (by rw [hw]; exact HP26.2); have hp_ : Kd.R (Kd.int .i64) 3 w27 w0.heap.size (fun k_ => (P0_0_ k_ ∨ w.heap.size ≤ k_) ∧ some k_ ≠ (.slice Ao18 l0_0.length co18 : Value).ownBlock) (.slice (some ⟨go17, 0, none⟩) y142.length co17) y145 := (by rw [hw, Ny145.out]; exact HP26.1); clear HP26; have n0_ := Aside0.mk (Kd.R_after (v := (.slice (some ⟨go17, 0, none⟩) y142.length co17)) (v1 := (.slice (some ⟨go17, 0, none⟩) y142.length co17)) (ok := (fun k_ => (P0_0_ k_ ∨ w.heap.size ≤ k_))) (by (with_reducible repeat (first | apply Kd.R_alloc | apply Kd.R_drewN | apply Kd.R_drew)); exact HO0_0.out) hg (.inl rfl)); have n1_ := Aside0.mk (blk_grown (g := gb139) (o := .cells #[.slice Ao18 l0_0.length co18, .int .i64 a0_1, .int .i64 a0_2] 67 (0, 0)) (by (with_reducible repeat (first | refine blk_drewN ?_ _ | refine blk_drew ?_ | refine blk_alloc ?_ _)); exact BK139.out) hg (Kd.R_ne HO144.out BK139.out (by decide))); have n2_ := Aside0.mk (blk_grown (g := gb140) (o := .cells #[.slice none 0 0, .int .i64 0, .int .i64 0] 67 (0, 0)) (by (with_reducible repeat (first | refine blk_drewN ?_ _ | refine blk_drew ?_ | refine blk_alloc ?_ _)); exact BK140.out) hg (Kd.R_ne HO144.out BK140.out (by decide))); have n3_ := Aside0.mk (hp_); have n4_ := Aside0.mk ((by rw [hw]; exact below_set (HB.out) GB17.out : Below w0.heap.size w0 w27)); have n5_ := Aside0.mk (Kept.of_grown (S := (fun k_ => P0_0_ k_)) hg (by repeat (first | (with_reducible first | exact HK.out | apply Kept.alloc | apply Kept.drewN | apply Kept.drew | refine Kept.setCell ?_ (.inr GW139.out) _ | refine Kept.setCell ?_ (.inr GW140.out) _) | exact HK.out)) (fun k_ e_ => (HO144.out.1 k_ e_).1)); clear HO0_0; clear BK139; clear BK140; clear HO144; clear HB; clear HK; have HO0_0 := n0_; have BK139 := n1_; have BK140 := n2_; have HO144 := n3_; have HB := n4_; have HK := n5_; clear n0_ n1_ n2_ n3_ n4_ n5_; clear hg hw hp_; have hcz28_0 : w27.cell? ⟨gb139, 0, none⟩ = some (.slice Ao18 l0_0.length co18) := (blk_cell BK139.out 0).trans rfl; have hcz28_1 : w27.cell? ⟨gb139, 1, none⟩ = some (.int .i64 a0_1) := (blk_cell BK139.out 1).trans rfl; have hcz28_2 : w27.cell? ⟨gb139, 2, none⟩ = some (.int .i64 a0_2) := (blk_cell BK139.out 2).trans rfl; have hfz28_0 := blk_frozen BK139.out 0; have hfz28_1 := blk_frozen BK139.out 1; have hfz28_2 := blk_frozen BK139.out 2; have hcz29_0 : w27.cell? ⟨gb140, 0, none⟩ = some (.slice none 0 0) := (blk_cell BK140.out 0).trans rfl; have hcz29_1 : w27.cell? ⟨gb140, 1, none⟩ = some (.int .i64 0) := (blk_cell BK140.out 1).trans rfl; have hcz29_2 : w27.cell? ⟨gb140, 2, none⟩ = some (.int .i64 0) := (blk_cell BK140.out 2).trans rfl; have hfz29_0 := blk_frozen BK140.out 0; have hfz29_1 := blk_frozen BK140.out 1; have hfz29_2 := blk_frozen BK140.out 2))
          refine bodyPost_ret (results_ctt rfl _ _ gb140 67 #[.slice (some ⟨go17, 0, none⟩) y142.length co17, .int .i64 a0_1, .int .i64 a0_2] (0, 0) _ rfl (by (with_reducible repeat (first | refine blk_drewN ?_ _ | refine blk_drew ?_ | refine blk_alloc ?_ _)); refine blk_put (cs := #[.slice (some ⟨go17, 0, none⟩) y142.length co17, .int .i64 a0_1, .int .i64 0]) ?_ 2 _ rfl; (with_reducible repeat (first | refine blk_drewN ?_ _ | refine blk_drew ?_ | refine blk_alloc ?_ _)); refine blk_put (cs := #[.slice (some ⟨go17, 0, none⟩) y142.length co17, .int .i64 0, .int .i64 0]) ?_ 1 _ rfl; (with_reducible repeat (first | refine blk_drewN ?_ _ | refine blk_drew ?_ | refine blk_alloc ?_ _)); refine blk_put (cs := #[.slice none 0 0, .int .i64 0, .int .i64 0]) ?_ 0 _ rfl; (with_reducible repeat (first | refine blk_drewN ?_ _ | refine blk_drew ?_ | refine blk_alloc ?_ _)); refine blk_far ?_ NB140_139.out _; (with_reducible repeat (first | refine blk_drewN ?_ _ | refine blk_drew ?_ | refine blk_alloc ?_ _)); exact BK140.out) Try.underlying67 rfl (by kernel_rfl)) rfl ?_
          exact ⟨_, by first | rfl | (simp [errW_none, errW_some] <;> rfl) | (simp only [← hji14]; first | rfl | (simp [errW_none, errW_some] <;> rfl)) | (simp [*, errW_none, errW_some] <;> rfl), by (with_reducible repeat (first | apply Kd.R_alloc | apply Kd.R_drewN | apply Kd.R_drew)); exact Kd.R_mono (Kd.R_far (p := ⟨gb140, 2, none⟩) (Kd.R_far (p := ⟨gb140, 1, none⟩) (Kd.R_far (p := ⟨gb140, 0, none⟩) (Kd.R_far (p := ⟨gb139, 0, none⟩) (Kd.R_types (Kd.R_types HO144.out BK139.out (by decide)) BK140.out (by decide)) (fun _ hk => hk.1.2) (.slice (some ⟨go17, 0, none⟩) y142.length co17)) (fun _ hk => hk.2) (.slice (some ⟨go17, 0, none⟩) y142.length co17)) (fun _ hk => hk.2) (.int .i64 a0_1)) (fun _ hk => hk.2) (.int .i64 a0_2)) (fun _ hk => hk.1.1.1), by repeat (first | (with_reducible first | exact HB.out | apply below_alloc | apply pw_below_drewN | apply below_drew1 | refine below_set ?_ GE139.out | refine below_set ?_ GE140.out) | exact HB.out), by repeat (first | (with_reducible first | exact HK.out | apply Kept.alloc | apply Kept.drewN | apply Kept.drew | refine Kept.setCell ?_ (.inr GW139.out) _ | refine Kept.setCell ?_ (.inr GW140.out) _) | exact HK.out)⟩
        · rw [if_neg c16] at H
          exact absurd H (by simp)
      · rw [if_neg c15] at H
        exact absurd H (by simp)
    · rw [if_neg c13] at H
      exact absurd H (by simp)

/-! ### lookasideref14_has: function 94 -/
def lookasideref14_has.l0 : Nat → List Int → Int → Int → Option (Bool)
  | 0, _, _, _ => none
  | k + 1, x0, x1, x5 => if x5 < (x0.length : Int) then (if 0 ≤ x5 then (if (rd x0 x5) = x1 then (some true) else (lookasideref14_has.l0 k x0 x1 (wrap64 (x5 + 1)))) else (none)) else (some false)
def lookasideref14_has.f (k : Nat) (l0 : List Int) (a1 : Int) : Option (Bool) := lookasideref14_has.l0 k l0 a1 0
theorem lookasideref14_has.mono_l : ∀ k, (∀ y0 y1 y2, LeO (lookasideref14_has.l0 k y0 y1 y2) (lookasideref14_has.l0 (k + 1) y0 y1 y2))
  | 0 => fun _ _ _ r h => by simp [lookasideref14_has.l0] at h
  | k + 1 => by
    have ih0 := lookasideref14_has.mono_l k
    · intro y0 y1 y2
      unfold lookasideref14_has.l0
      repeat' first
      | (with_reducible exact ih0 _ _ _)
      | (with_reducible exact LeO.refl _)
      | (with_reducible exact LeO.none _)
      | (with_reducible refine LeO.ite ?_ ?_)
      | (with_reducible refine LeO.bind ?_ (fun _ => ?_))
      | exact ih0 _ _ _
      | exact LeO.none _
      | refine LeO.ite ?_ ?_
      | refine LeO.bind ?_ (fun _ => ?_)
theorem lookasideref14_has.mono : ∀ a0 a1 k, LeO (lookasideref14_has.f k a0 a1) (lookasideref14_has.f (k + 1) a0 a1) := by
  intro a0 a1 k
  have ih0 := lookasideref14_has.mono_l k
  unfold lookasideref14_has.f
  repeat' first
      | (with_reducible exact ih0 _ _ _)
      | (with_reducible exact LeO.refl _)
      | (with_reducible exact LeO.none _)
      | (with_reducible refine LeO.ite ?_ ?_)
      | (with_reducible refine LeO.bind ?_ (fun _ => ?_))
      | exact ih0 _ _ _
      | exact LeO.none _
      | refine LeO.ite ?_ ?_
      | refine LeO.bind ?_ (fun _ => ?_)
set_option maxHeartbeats 8000000 in
set_option maxRecDepth 100000 in
theorem lookasideref14_has.calls (k : Nat) (A0 : Option Addr) (c0 : Nat) (l0 : List Int) (a1 : Int) (r : Bool) (w : World) (hr0 : Kd.C (Kd.int .i64) w A0 l0.length l0) (hc0 : l0.length ≤ c0) (h : lookasideref14_has.f k l0 a1 = some r) :
    Calls Try.prog 94 #[.slice A0 l0.length c0, .int .i64 a1] w fun e w' => e = .returned (.bool r) ∧ Drawn0 w w' := by
  have HR0 := Aside0.mk hr0
  have HC0 := Aside0.mk hc0
  clear hr0 hc0
  have H : (lookasideref14_has.l0 k l0 a1 0) = some r := h
  clear h
  have H' := Aside0.mk H
  clear H
  go_enter Try.func94, Try.ntmps94
  go_wp2
  go_loopg [5] k (fun kq v5 w' => ∃ (x5_1 : Int), v5 = .int .i64 x5_1 ∧ Aside0 (lookasideref14_has.l0 kq l0 a1 x5_1 = some r) ∧ Aside0 (kq ≤ k) ∧ Drawn0 w w')
  case atStart => exact ⟨(0), (by first | rfl | (simp; done) | (simp [*]; done)), H', ⟨Nat.le_refl _⟩, by repeat (first | exact Drawn0.refl _ | apply Drawn0.step)⟩
  case round =>
    clear H'
    try clear p2
    obtain ⟨x5_1, rfl, HA, HK1, ⟨m1, rfl⟩⟩ := hrel
    cases gk with
    | zero => exact absurd HA.out (by simp [lookasideref14_has.l0])
    | succ k1 =>
      have H := HA.out
      clear HA
      simp only [lookasideref14_has.l0] at H
      by_cases c3 : x5_1 < (l0.length : Int)
      · rw [if_pos c3] at H
        have c3b0 : decide (x5_1 < (l0.length : Int)) = true := decide_eq_true c3
        clear c3
        by_cases c4 : 0 ≤ x5_1
        · rw [if_pos c4] at H
          have c4b0 : decide (0 ≤ x5_1) = true := decide_eq_true c4
          clear c4
          by_cases c5 : (rd l0 x5_1) = a1
          · rw [if_pos c5] at H
            have c5b0 : ((rd l0 x5_1) == a1) = true := beq_iff_eq.mpr c5
            have c5b1 : ((rd l0 x5_1) != a1) = false := bne_eq_false_iff_eq.mpr c5
            clear c5
            obtain rfl := Option.some.inj H
            have p146 : 0 ≤ (x5_1 : Int) := of_decide_eq_true (by first | (with_reducible assumption) | assumption)
            have q146 : x5_1 < (l0.length : Int) := of_decide_eq_true (by first | (with_reducible assumption) | assumption)
            obtain ⟨ad146, e146, hx146_0⟩ := Kd.at_int HR0.out x5_1 p146 q146
            cases e146
            replace p146 := eq_true p146
            replace q146 := eq_true q146
            go_wp2
            go_ret
            exact ⟨by first | rfl | (simp; done) | (simp [*]; done), by repeat (first | exact Drawn0.refl _ | apply Drawn0.step)⟩
          · rw [if_neg c5] at H
            have c5b0 : ((rd l0 x5_1) == a1) = false := beq_eq_false_iff_ne.mpr c5
            have c5b1 : ((rd l0 x5_1) != a1) = true := bne_iff_ne.mpr c5
            have H' := Aside0.mk H
            clear H
            have p146 : 0 ≤ (x5_1 : Int) := of_decide_eq_true (by first | (with_reducible assumption) | assumption)
            have q146 : x5_1 < (l0.length : Int) := of_decide_eq_true (by first | (with_reducible assumption) | assumption)
            obtain ⟨ad146, e146, hx146_0⟩ := Kd.at_int HR0.out x5_1 p146 q146
            cases e146
            replace p146 := eq_true p146
            replace q146 := eq_true q146
            go_wp2
            go_roundg k1
            case measure => have := HK1.out; omega
            case rel => exact ⟨(wrap64 (x5_1 + 1)), (by first | rfl | (simp; done) | (simp [*]; done)), H', ⟨by have := HK1.out; omega⟩, by repeat (first | exact Drawn0.refl _ | apply Drawn0.step)⟩
        · rw [if_neg c4] at H
          exact absurd H (by simp)
      · rw [if_neg c3] at H
        have c3b0 : decide (x5_1 < (l0.length : Int)) = false := decide_eq_false c3
        clear c3
        obtain rfl := Option.some.inj H
        go_wp2
        go_ret
        exact ⟨by first | rfl | (simp; done) | (simp [*]; done), by repeat (first | exact Drawn0.refl _ | apply Drawn0.step)⟩

end Go.Proofs.Ytcbnmmkmgpbfiaa.PX

-- written by xprint.py, a program of this session, over the kit's print (functions told by hand: see the texts)
import Derived.Test.YtgmdlndiilibpaaPRx0
import Derived.Test.YtgmdlndiilibpaaPRx8
namespace Go.Proofs.Ytgmdlndiilibpaa.PR
open Go.RowKit Go.Proofs.YtgmdlndiilibpaaW.PrintWords Go.Proofs.YtgmdlndiilibpaaW.PrintLast Go.Proofs.YtgmdlndiilibpaaW.PrintMore
attribute [local go_sem] max2_int min2_int max_two min_two max_three min_three max_four min_four   -- for this text's walks alone
set_option linter.unusedVariables false
set_option linter.unusedSimpArgs false

/-! ### lookasideref15_Take: function 77 -/
def lookasideref15_Take.l0 : Nat → Int → Int → List (S104) → List Int → Int → Int → List (S104) → Option (Int × (List (S104)))
  | 0, _, _, _, _, _, _, _ => none
  | k + 1, x1, x5, x6, x7, x8, x144000, x144001 => if 0 ≤ x5 then (if x5 < (x6.length : Int) then (if x8 < (((rd_T104 x6 x5).f1).length : Int) then (if 0 ≤ x8 then (if (rd ((rd_T104 x6 x5).f1) x8) = x1 then (lookasideref15_Take.l0 k x1 x5 x6 x7 (wrap64 (x8 + 1)) x144000 x144001) else (if x7.length < 17592186044416 then (lookasideref15_Take.l0 k x1 x5 x6 (x7 ++ [rd ((rd_T104 x6 x5).f1) x8]) (wrap64 (x8 + 1)) x144000 x144001) else (none))) else (none)) else (some (x144000, (x6.set (x5 : Int).toNat (⟨(⟨(rd_T104 x6 x5).f0.f0, (rd_T104 x6 x5).f0.f1, (rd_T104 x6 x5).f0.f2⟩ : S35), x7⟩ : S104))))) else (none)) else (none)
def lookasideref15_Take.f (k : Nat) (a0_0 : Int) (l0_1 : List (S104)) (a1 : Int) : Option (Int × (List (S104))) := (lookasideref15_First.f k a0_0 l0_1 a1).bind fun t145 => (if ([] : List (S104)).length + l0_1.length < 2932031007402 then (lookasideref15_Take.l0 k a1 t145 (([] : List (S104)) ++ l0_1) ([] : List Int) 0 a0_0 l0_1) else (none))
theorem lookasideref15_Take.mono_l : ∀ k, (∀ y0 y1 y2 y3 y4 y5 y6, LeO (lookasideref15_Take.l0 k y0 y1 y2 y3 y4 y5 y6) (lookasideref15_Take.l0 (k + 1) y0 y1 y2 y3 y4 y5 y6))
  | 0 => fun _ _ _ _ _ _ _ r h => by simp [lookasideref15_Take.l0] at h
  | k + 1 => by
    have ih0 := lookasideref15_Take.mono_l k
    · intro y0 y1 y2 y3 y4 y5 y6
      unfold lookasideref15_Take.l0
      repeat' first
      | (with_reducible exact ih0 _ _ _ _ _ _ _)
      | (with_reducible exact lookasideref15_First.mono _ _ _ _)
      | (with_reducible exact LeO.refl _)
      | (with_reducible exact LeO.none _)
      | (with_reducible refine LeO.ite ?_ ?_)
      | (with_reducible refine LeO.bind ?_ (fun _ => ?_))
      | exact ih0 _ _ _ _ _ _ _
      | exact lookasideref15_First.mono _ _ _ _
      | exact LeO.none _
      | refine LeO.ite ?_ ?_
      | refine LeO.bind ?_ (fun _ => ?_)
theorem lookasideref15_Take.mono : ∀ a0 a1 a2 k, LeO (lookasideref15_Take.f k a0 a1 a2) (lookasideref15_Take.f (k + 1) a0 a1 a2) := by
  intro a0 a1 a2 k
  have ih0 := lookasideref15_Take.mono_l k
  unfold lookasideref15_Take.f
  repeat' first
      | (with_reducible exact ih0 _ _ _ _ _ _ _)
      | (with_reducible exact lookasideref15_First.mono _ _ _ _)
      | (with_reducible exact LeO.refl _)
      | (with_reducible exact LeO.none _)
      | (with_reducible refine LeO.ite ?_ ?_)
      | (with_reducible refine LeO.bind ?_ (fun _ => ?_))
      | exact ih0 _ _ _ _ _ _ _
      | exact lookasideref15_First.mono _ _ _ _
      | exact LeO.none _
      | refine LeO.ite ?_ ?_
      | refine LeO.bind ?_ (fun _ => ?_)
set_option maxHeartbeats 8000000 in
set_option maxRecDepth 100000 in
theorem lookasideref15_Take.calls (k : Nat) (a0_0 : Int) (P0_1_ : Nat → Prop) (A0_1 : Option Addr) (c0_1 : Nat) (l0_1 : List (S104)) (a1 : Int) (r1 : Int) (r2 : List (S104)) (w : World) (hs0_1 : Kd.V k104 104 w w.heap.size (fun k_ => P0_1_ k_) (.slice A0_1 l0_1.length c0_1) l0_1) (h : lookasideref15_Take.f k a0_0 l0_1 a1 = some (r1, r2)) :
    Calls Try.prog 77 #[.agg #[.int .i64 a0_0, .slice A0_1 l0_1.length c0_1], .int .i64 a1] w fun e w' => ∃ v1_ : Value, e = .returned (.agg #[.int .i64 r1, v1_]) ∧ Kd.N k104 104 w' w.heap.size (fun k_ => (P0_1_ k_ ∨ w.heap.size ≤ k_)) v1_ r2 ∧ Below w.heap.size w w' := by
  have hu41 := Try.underlying41
  have HO0_1 := Aside0.mk (show Kd.V k104 104 w w.heap.size (fun k_ => (P0_1_ k_ ∨ w.heap.size ≤ k_)) (.slice A0_1 l0_1.length c0_1) l0_1 from Kd.V_mono hs0_1 (fun k_ hk => .inl hk))
  have HB := Aside0.mk (Below.refl w.heap.size w)
  have H : ((lookasideref15_First.f k a0_0 l0_1 a1).bind fun t145 => (if ([] : List (S104)).length + l0_1.length < 2932031007402 then (lookasideref15_Take.l0 k a1 t145 (([] : List (S104)) ++ l0_1) ([] : List Int) 0 a0_0 l0_1) else (none))) = some (r1, r2) := h
  clear h
  replace H := Option.bind_eq_some_iff.mp H
  obtain ⟨t145, A30, H⟩ := H
  replace H : (if ([] : List (S104)).length + l0_1.length < 2932031007402 then (lookasideref15_Take.l0 k a1 t145 (([] : List (S104)) ++ l0_1) ([] : List Int) 0 a0_0 l0_1) else (none)) = some (r1, r2) := H
  have A3 := Aside0.mk A30
  clear A30
  by_cases c4 : ([] : List (S104)).length + l0_1.length < 2932031007402
  · rw [if_pos c4] at H
    have LMc4 := Aside0.mk c4
    clear c4
    obtain ⟨y146, hy146⟩ : ∃ y_ : List (S104), y_ = (([] : List (S104)) ++ l0_1) := ⟨_, rfl⟩
    replace H : (lookasideref15_Take.l0 k a1 t145 y146 ([] : List Int) 0 a0_0 l0_1) = some (r1, r2) := by first | (rw [hy146]; with_reducible exact H) | (have H2_ := (Option.bind_some _ _).symm.trans H; rw [hy146]; with_reducible exact H2_) | (have H2_ := (Option.bind_some _ _).symm.trans H; with_reducible exact H2_) | with_reducible exact H | (rw [hy146]; exact H) | exact H
    have Ny146 := Aside0.mk hy146
    clear hy146
    have H' := Aside0.mk H
    clear H
    go_enter Try.func77, Try.ntmps77
    go_wp2_with (first | ((with_reducible refine gate_dst (N := 2) rfl ?_); refine box_event ?hg (N := 2) ?hd (cs := #[.int .i64 a0_0, .slice A0_1 l0_1.length c0_1]) (t := 41) ?hr ?_; (case hd => rfl); (case hg => rfl); (case hr => first | (go_simp; done) | (go_simp; rfl)); intro gb143 hg w5 hbox hb; have n0_ := Aside0.mk (Kd.V_below (Kd.V_elderB (by (with_reducible repeat (first | apply Kd.V_alloc | apply Kd.V_drewN | apply Kd.V_drew)); exact HO0_1.out) gb143 (Nat.le_of_eq hg.symm)) hb); have n1_ := Aside0.mk (below_step (by repeat (first | (with_reducible first | exact HB.out | apply below_alloc | apply pw_below_drewN | apply below_drew1) | exact HB.out)) hb); have n2_ := Aside0.mk (hbox); have n3_ := Aside0.mk ((by rw [hg]; exact (below_size (by repeat (first | (with_reducible first | exact HB.out | apply below_alloc | apply pw_below_drewN | apply below_drew1) | exact HB.out))) : w.heap.size ≤ gb143)); have n4_ := Aside0.mk ((by rw [hg]; exact (below_size (by repeat (first | (with_reducible first | exact HB.out | apply below_alloc | apply pw_below_drewN | apply below_drew1) | exact HB.out))) : w.heap.size ≤ gb143)); clear HO0_1; clear HB; have HO0_1 := n0_; have HB := n1_; have BK143 := n2_; have GW143 := n3_; have GE143 := n4_; clear n0_ n1_ n2_ n3_ n4_; clear hb hbox hg) | ((with_reducible refine gate_dst (N := 4) rfl ?_); refine box_event ?hg (N := 4) ?hd (cs := #[.int .i64 0, .slice none 0 0]) (t := 41) ?hr ?_; (case hd => rfl); (case hg => rfl); (case hr => first | (go_simp; done) | (go_simp; rfl)); intro gb144 hg w6 hbox hb; have n0_ := Aside0.mk (Kd.V_below (Kd.V_elderB (by (with_reducible repeat (first | apply Kd.V_alloc | apply Kd.V_drewN | apply Kd.V_drew)); exact HO0_1.out) gb144 (Nat.le_of_eq hg.symm)) hb); have n1_ := Aside0.mk (blk_below (g := gb143) (o := .cells #[.int .i64 a0_0, .slice A0_1 l0_1.length c0_1] 41 (0, 0)) (by (with_reducible repeat (first | refine blk_drewN ?_ _ | refine blk_drew ?_ | refine blk_alloc ?_ _)); exact BK143.out) hb); have n2_ := Aside0.mk (below_step (by repeat (first | (with_reducible first | exact HB.out | apply below_alloc | apply pw_below_drewN | apply below_drew1 | refine below_set ?_ GE143.out) | exact HB.out)) hb); have n3_ := Aside0.mk (hbox); have n4_ := Aside0.mk ((by rw [hg]; exact (below_size (by repeat (first | (with_reducible first | exact HB.out | apply below_alloc | apply pw_below_drewN | apply below_drew1 | refine below_set ?_ GE143.out) | exact HB.out))) : w.heap.size ≤ gb144)); have n5_ := Aside0.mk ((by rw [hg]; exact (below_size (by repeat (first | (with_reducible first | exact HB.out | apply below_alloc | apply pw_below_drewN | apply below_drew1 | refine below_set ?_ GE143.out) | exact HB.out))) : w.heap.size ≤ gb144)); have n6_ := Aside0.mk ((by rw [hg]; exact Nat.ne_of_lt (blk_lt (g := gb143) (o := .cells #[.int .i64 a0_0, .slice A0_1 l0_1.length c0_1] 41 (0, 0)) (by (with_reducible repeat (first | refine blk_drewN ?_ _ | refine blk_drew ?_ | refine blk_alloc ?_ _)); exact BK143.out)) : gb143 ≠ gb144)); have n7_ := Aside0.mk ((by rw [hg]; exact Nat.ne_of_gt (blk_lt (g := gb143) (o := .cells #[.int .i64 a0_0, .slice A0_1 l0_1.length c0_1] 41 (0, 0)) (by (with_reducible repeat (first | refine blk_drewN ?_ _ | refine blk_drew ?_ | refine blk_alloc ?_ _)); exact BK143.out)) : gb144 ≠ gb143)); clear HO0_1; clear BK143; clear HB; have HO0_1 := n0_; have BK143 := n1_; have HB := n2_; have BK144 := n3_; have GW144 := n4_; have GE144 := n5_; have NB143_144 := n6_; have NB144_143 := n7_; clear n0_ n1_ n2_ n3_ n4_ n5_ n6_ n7_; clear hb hbox hg; have hnb7 := NB143_144.out; have hnc7 := NB144_143.out; have hcz8_0 : w6.cell? ⟨gb143, 0, none⟩ = some (.int .i64 a0_0) := (blk_cell BK143.out 0).trans rfl; have hcz8_1 : w6.cell? ⟨gb143, 1, none⟩ = some (.slice A0_1 l0_1.length c0_1) := (blk_cell BK143.out 1).trans rfl; have hfz8_0 := blk_frozen BK143.out 0; have hfz8_1 := blk_frozen BK143.out 1) | ((with_reducible refine gate_callee (f := 76) rfl ?_); refine goesL_ (some 11) rfl rfl Try.func76 (by kernel_rfl) rfl #[.agg #[.int .i64 a0_0, .slice A0_1 l0_1.length c0_1], .int .i64 a1] rfl (by (try simp only [List.map_toArray, List.map_cons, List.map_nil]); first | done | rfl | (simp only [List.length_drop, List.length_take]; rfl)) ?_; (with_reducible refine (lookasideref15_First.calls k a0_0 _ _ l0_1 a1 t145 _ ?side1 ?side2 A3.out).mono ?_); (case side1 => repeat (first | exact (Kd.V_reads' HO0_1.out).2.2 | (with_reducible refine Kd.C_alloc ?_ _) | (with_reducible refine Kd.C_drewN ?_ _) | (with_reducible refine Kd.C_drew ?_))); (case side2 => exact (Kd.V_reads' HO0_1.out).2.1); rintro e w9 ⟨rfl, hb⟩; refine ⟨_, rfl, ?_⟩; have n0_ := Aside0.mk (Kd.V_below (by (with_reducible repeat (first | apply Kd.V_alloc | apply Kd.V_drewN | apply Kd.V_drew)); exact HO0_1.out) hb); have n1_ := Aside0.mk (blk_below (g := gb143) (o := .cells #[.int .i64 a0_0, .slice A0_1 l0_1.length c0_1] 41 (0, 0)) (by (with_reducible repeat (first | refine blk_drewN ?_ _ | refine blk_drew ?_ | refine blk_alloc ?_ _)); exact BK143.out) hb); have n2_ := Aside0.mk (blk_below (g := gb144) (o := .cells #[.int .i64 0, .slice none 0 0] 41 (0, 0)) (by (with_reducible repeat (first | refine blk_drewN ?_ _ | refine blk_drew ?_ | refine blk_alloc ?_ _)); exact BK144.out) hb); have n3_ := Aside0.mk (below_step (by repeat (first | (with_reducible first | exact HB.out | apply below_alloc | apply pw_below_drewN | apply below_drew1 | refine below_set ?_ GE143.out | refine below_set ?_ GE144.out) | exact HB.out)) hb); clear HO0_1; clear BK143; clear BK144; clear HB; have HO0_1 := n0_; have BK143 := n1_; have BK144 := n2_; have HB := n3_; clear n0_ n1_ n2_ n3_; (try clear hb); (try clear hb2); (try clear hk); (try clear hi); have hcz10_0 : w9.cell? ⟨gb143, 0, none⟩ = some (.int .i64 a0_0) := (blk_cell BK143.out 0).trans rfl; have hcz10_1 : w9.cell? ⟨gb143, 1, none⟩ = some (.slice A0_1 l0_1.length c0_1) := (blk_cell BK143.out 1).trans rfl; have hfz10_0 := blk_frozen BK143.out 0; have hfz10_1 := blk_frozen BK143.out 1) | ((with_reducible refine gate_builtin (b := .append) (xs := #[.tmp 12, .tmp 14]) rfl ?_); at_builtin; refine Kd.N_append_rows k104 (w0 := w) w.heap.size rfl (.tmp 12) (.tmp 14) 39 104 (.agg #[(.int .i64 0), (.int .i64 0), (.int .u64 0), (.slice none 0 0)]) 48 rfl Try.underlying39 info104 rfl (by decide) (by omega) (.slice none 0 0) ([] : List (S104)) l0_1 _ _ _ (fun k_ => (P0_1_ k_ ∨ w.heap.size ≤ k_) ∧ k_ ≠ gb143 ∧ k_ ≠ gb144) (fun k_ => ((fun k_ => (P0_1_ k_ ∨ w.heap.size ≤ k_) ∧ k_ ≠ gb143 ∧ k_ ≠ gb144)) k_ ∧ some k_ ≠ (.slice none 0 0 : Value).ownBlock) rfl rfl ?aO ?aR (fun _ hk => hk) ?aF ?aB ?aS ?aL ?_; (case aR => exact (by skip; exact Kd.V_F (Kd.V_mono (ok' := (fun k_ => ((fun k_ => (P0_1_ k_ ∨ w.heap.size ≤ k_) ∧ k_ ≠ gb143 ∧ k_ ≠ gb144)) k_ ∧ some k_ ≠ (.slice none 0 0 : Value).ownBlock)) (HO0_1.out) (fun k_ hk => ⟨⟨hk.1.1, ⟨hk.1.2, hk.2⟩⟩, (by simp [Value.ownBlock])⟩)))); (case aB => exact (by repeat (first | (with_reducible first | exact HB.out | apply below_alloc | apply pw_below_drewN | apply below_drew1 | refine below_set ?_ GE143.out | refine below_set ?_ GE144.out) | exact HB.out))); (case aF => exact (fun k_ hk => ⟨(.inr (Nat.le_trans (below_size (by repeat (first | (with_reducible first | exact HB.out | apply below_alloc | apply pw_below_drewN | apply below_drew1 | refine below_set ?_ GE143.out | refine below_set ?_ GE144.out) | exact HB.out))) hk)), Kd.freshB (g := gb143) (o := .cells #[.int .i64 a0_0, .slice A0_1 l0_1.length c0_1] 41 (0, 0)) (by (with_reducible repeat (first | refine blk_drewN ?_ _ | refine blk_drew ?_ | refine blk_alloc ?_ _)); exact BK143.out) k_ hk, Kd.freshB (g := gb144) (o := .cells #[.int .i64 0, .slice none 0 0] 41 (0, 0)) (by (with_reducible repeat (first | refine blk_drewN ?_ _ | refine blk_drew ?_ | refine blk_alloc ?_ _)); exact BK144.out) k_ hk⟩)); (case aO => exact ((Kd.N_nil _ _ _ _ (fun k_ => (P0_1_ k_ ∨ w.heap.size ≤ k_) ∧ k_ ≠ gb143 ∧ k_ ≠ gb144)))); (case aS => exact (below_size (by repeat (first | (with_reducible first | exact HB.out | apply below_alloc | apply pw_below_drewN | apply below_drew1 | refine below_set ?_ GE143.out | refine below_set ?_ GE144.out) | exact HB.out)))); (case aL => have := LMc4.out; omega); intro v147 w11 ho hb hg hat; rw [← Ny146.out] at ho; have n0_ := Aside0.mk (Kd.V_afterv (Kd.V_apart_nil (by (with_reducible repeat (first | apply Kd.V_alloc | apply Kd.V_drewN | apply Kd.V_drew)); exact HO0_1.out)) hg hat); have n1_ := Aside0.mk (blk_grown (g := gb143) (o := .cells #[.int .i64 a0_0, .slice A0_1 l0_1.length c0_1] 41 (0, 0)) (by (with_reducible repeat (first | refine blk_drewN ?_ _ | refine blk_drew ?_ | refine blk_alloc ?_ _)); exact BK143.out) hg (by simp [Value.ownBlock])); have n2_ := Aside0.mk (blk_grown (g := gb144) (o := .cells #[.int .i64 0, .slice none 0 0] 41 (0, 0)) (by (with_reducible repeat (first | refine blk_drewN ?_ _ | refine blk_drew ?_ | refine blk_alloc ?_ _)); exact BK144.out) hg (by simp [Value.ownBlock])); have n3_ := Aside0.mk (hb); have n4_ := Aside0.mk (ho); clear HO0_1; clear BK143; clear BK144; clear HB; have HO0_1 := n0_; have BK143 := n1_; have BK144 := n2_; have HB := n3_; have HO148 := n4_; clear n0_ n1_ n2_ n3_ n4_; clear ho hb hg hat))
    go_loopg [7, 8] k (fun kq v7 v8 w' => ∃ (x7_1 : List Int) (x8_1 : Int), v8 = .int .i64 x8_1 ∧ Aside0 (lookasideref15_Take.l0 kq a1 t145 y146 x7_1 x8_1 a0_0 l0_1 = some (r1, r2)) ∧ Aside0 (kq ≤ k) ∧ Aside0 (Kd.N k104 104 w' w.heap.size (fun k_ => (P0_1_ k_ ∨ w.heap.size ≤ k_) ∧ some k_ ≠ (v7 : Value).ownBlock ∧ k_ ≠ gb143 ∧ k_ ≠ gb144) v147 y146) ∧ Aside0 (Kd.R (Kd.int .i64) 3 w' w.heap.size (fun k_ => (w.heap.size ≤ k_)) v7 x7_1) ∧ Aside0 (Kd.V k104 104 w' w.heap.size (fun k_ => (P0_1_ k_ ∨ w.heap.size ≤ k_) ∧ some k_ ≠ (v147 : Value).ownBlock ∧ some k_ ≠ (v7 : Value).ownBlock ∧ k_ ≠ gb143 ∧ k_ ≠ gb144) (.slice A0_1 l0_1.length c0_1) l0_1) ∧ Aside0 (w'.heap[gb143]? = some (.cells #[.int .i64 a0_0, (.slice A0_1 l0_1.length c0_1)] 41 (0, 0))) ∧ Aside0 (w'.heap[gb144]? = some (.cells #[.int .i64 0, (.slice none 0 0)] 41 (0, 0))) ∧ Aside0 (Below w.heap.size w w'))
    case atStart => exact ⟨(([] : List Int)), (0), (by first | rfl | (simp; done) | (simp [*]; done)), H', ⟨Nat.le_refl _⟩, ⟨by (with_reducible repeat (first | apply Kd.N_alloc | apply Kd.N_drewN | apply Kd.N_drew)); exact Kd.N_mono HO148.out (fun _ hk => ⟨hk.1, ⟨(by simp [Value.ownBlock]), ⟨hk.2.1, hk.2.2⟩⟩⟩)⟩, ⟨by first | exact Kd.R_nil _ _ _ _ _ | exact Kd.N_nil _ _ _ _ _ | exact Kd.V_nil _ _ _ _ _ | exact Kd.Q_nil _ _ _ _ _ | exact Kd.S_nil _ _ _ _ _⟩, ⟨by (with_reducible repeat (first | apply Kd.V_alloc | apply Kd.V_drewN | apply Kd.V_drew)); exact Kd.V_mono HO0_1.out (fun _ hk => ⟨hk.1.1.1, ⟨hk.2, ⟨(by simp [Value.ownBlock]), ⟨hk.1.1.2, hk.1.2⟩⟩⟩⟩)⟩, ⟨by (with_reducible repeat (first | refine blk_drewN ?_ _ | refine blk_drew ?_ | refine blk_alloc ?_ _)); exact BK143.out⟩, ⟨by (with_reducible repeat (first | refine blk_drewN ?_ _ | refine blk_drew ?_ | refine blk_alloc ?_ _)); exact BK144.out⟩, ⟨by repeat (first | (with_reducible first | exact HB.out | apply below_alloc | apply pw_below_drewN | apply below_drew1 | refine below_set ?_ GE143.out | refine below_set ?_ GE144.out) | exact HB.out)⟩⟩
    case round =>
      clear H'
      try clear p2
      try clear c4
      try clear c7
      try clear hcz10_0
      try clear hcz10_1
      try clear hcz8_0
      try clear hcz8_1
      try clear hfz10_0
      try clear hfz10_1
      try clear hfz8_0
      try clear hfz8_1
      obtain ⟨x7_1, x8_1, rfl, HA, HK1, HO_6, HO_7, HO_144001, BK143, BK144, HB⟩ := hrel
      cases gk with
      | zero => exact absurd HA.out (by simp [lookasideref15_Take.l0])
      | succ k1 =>
        have H := HA.out
        clear HA
        simp only [lookasideref15_Take.l0] at H
        by_cases c12 : 0 ≤ t145
        · rw [if_pos c12] at H
          have c12b0 : decide (0 ≤ t145) = true := decide_eq_true c12
          clear c12
          by_cases c13 : t145 < (y146.length : Int)
          · rw [if_pos c13] at H
            have c13b0 : decide (t145 < (y146.length : Int)) = true := decide_eq_true c13
            clear c13
            by_cases c14 : x8_1 < (((rd_T104 y146 t145).f1).length : Int)
            · rw [if_pos c14] at H
              have c14b0 : decide (x8_1 < (((rd_T104 y146 t145).f1).length : Int)) = true := decide_eq_true c14
              clear c14
              by_cases c15 : 0 ≤ x8_1
              · rw [if_pos c15] at H
                have c15b0 : decide (0 ≤ x8_1) = true := decide_eq_true c15
                clear c15
                by_cases c16 : (rd ((rd_T104 y146 t145).f1) x8_1) = a1
                · rw [if_pos c16] at H
                  have c16b0 : ((rd ((rd_T104 y146 t145).f1) x8_1) == a1) = true := beq_iff_eq.mpr c16
                  have c16b1 : ((rd ((rd_T104 y146 t145).f1) x8_1) != a1) = false := bne_eq_false_iff_eq.mpr c16
                  clear c16
                  have H' := Aside0.mk H
                  clear H
                  obtain ⟨Ao17, co17, eo17⟩ := Kd.N_slice HO_6.out
                  subst eo17
                  have p149 : 0 ≤ (t145 : Int) := of_decide_eq_true (by first | (with_reducible assumption) | assumption)
                  have q149 : t145 < (y146.length : Int) := of_decide_eq_true (by first | (with_reducible assumption) | assumption)
                  obtain ⟨ad149, A149_3, c149_3, e149, hx149_0, hx149_1, hx149_2, hx149_3, hl149_3, hi149_3⟩ := at_T104 (Kd.N_reads' HO_6.out).2.2 t145 p149 q149
                  cases e149
                  obtain ⟨ce149, hce149, hMe149, hcc149⟩ := Kd.N_get HO_6.out z104 t145 p149 (by first | exact q149 | exact of_decide_eq_true (by first | (with_reducible assumption) | assumption) | (have e_ := (Kd.N_reads' HO_6.out).1; omega))
                  obtain ⟨ua149_3, uc149_3, rfl, ul149_3, ge149_3⟩ := k104_openF hMe149
                  have hv149_3 := hcc149 3 _ rfl
                  rw [add_field _ _ 3 (by omega)] at hv149_3
                  replace hv149_3 := Option.some.inj (hv149_3.symm.trans hx149_3)
                  injection hv149_3 with hva_ hvn_ hvc_
                  rw [hva_] at ge149_3
                  rw [hvc_] at ul149_3
                  have HL149_3 := Aside0.mk (show Kd.V (Kd.int .i64) 3 _ w.heap.size _ _ ((rd_T104 y146 t145).f1) from Kd.V_mk ul149_3 ge149_3)
                  clear hva_ hvn_ hvc_ ge149_3 ul149_3
                  clear hcc149 hce149
                  have HR149_3 := Aside0.mk hi149_3
                  have HC149_3 := Aside0.mk hl149_3
                  clear hi149_3 hl149_3
                  replace p149 := eq_true p149
                  replace q149 := eq_true q149
                  have p150 : 0 ≤ (t145 : Int) := of_decide_eq_true (by first | (with_reducible assumption) | assumption)
                  have q150 : t145 < (y146.length : Int) := of_decide_eq_true (by first | (with_reducible assumption) | assumption)
                  obtain ⟨ad150, A150_3, c150_3, e150, hx150_0, hx150_1, hx150_2, hx150_3, hl150_3, hi150_3⟩ := at_T104 (Kd.N_reads' HO_6.out).2.2 t145 p150 q150
                  obtain rfl : ad149 = ad150 := (by injection e150)
                  obtain ⟨ce150, hce150, hMe150, hcc150⟩ := Kd.N_get HO_6.out z104 t145 p150 (by first | exact q150 | exact of_decide_eq_true (by first | (with_reducible assumption) | assumption) | (have e_ := (Kd.N_reads' HO_6.out).1; omega))
                  obtain ⟨ua150_3, uc150_3, rfl, ul150_3, ge150_3⟩ := k104_openF hMe150
                  have hv150_3 := hcc150 3 _ rfl
                  rw [add_field _ _ 3 (by omega)] at hv150_3
                  replace hv150_3 := Option.some.inj (hv150_3.symm.trans hx150_3)
                  injection hv150_3 with hva_ hvn_ hvc_
                  rw [hva_] at ge150_3
                  rw [hvc_] at ul150_3
                  have HL150_3 := Aside0.mk (show Kd.V (Kd.int .i64) 3 _ w.heap.size _ _ ((rd_T104 y146 t145).f1) from Kd.V_mk ul150_3 ge150_3)
                  clear hva_ hvn_ hvc_ ge150_3 ul150_3
                  clear hcc150 hce150
                  have HR150_3 := Aside0.mk hi150_3
                  have HC150_3 := Aside0.mk hl150_3
                  clear hi150_3 hl150_3
                  replace p150 := eq_true p150
                  replace q150 := eq_true q150
                  have ea_ := Option.some.inj (hx149_3.symm.trans hx150_3)
                  injection ea_ with ea_ en_ ec_
                  subst ea_
                  subst ec_
                  clear en_
                  have p151 : 0 ≤ (x8_1 : Int) := of_decide_eq_true (by first | (with_reducible assumption) | assumption)
                  have q151 : x8_1 < (((rd_T104 y146 t145).f1).length : Int) := of_decide_eq_true (by first | (with_reducible assumption) | assumption)
                  obtain ⟨ad151, e151, hx151_0⟩ := Kd.at_int (by repeat (first | (with_reducible exact HR150_3.out) | (with_reducible refine Kd.C_alloc ?_ _) | (with_reducible refine Kd.C_drewN ?_ _) | (with_reducible refine Kd.C_drew ?_) | exact HR150_3.out)) x8_1 p151 q151
                  cases e151
                  replace p151 := eq_true p151
                  replace q151 := eq_true q151
                  go_wp2
                  go_roundg k1
                  case measure => have := HK1.out; omega
                  case rel => exact ⟨(x7_1), (wrap64 (x8_1 + 1)), (by first | rfl | (simp; done) | (simp [*]; done)), H', ⟨by have := HK1.out; omega⟩, ⟨by (with_reducible repeat (first | apply Kd.N_alloc | apply Kd.N_drewN | apply Kd.N_drew)); exact HO_6.out⟩, ⟨by (with_reducible repeat (first | apply Kd.R_alloc | apply Kd.R_drewN | apply Kd.R_drew)); exact HO_7.out⟩, ⟨by (with_reducible repeat (first | apply Kd.V_alloc | apply Kd.V_drewN | apply Kd.V_drew)); exact HO_144001.out⟩, ⟨by (with_reducible repeat (first | refine blk_drewN ?_ _ | refine blk_drew ?_ | refine blk_alloc ?_ _)); exact BK143.out⟩, ⟨by (with_reducible repeat (first | refine blk_drewN ?_ _ | refine blk_drew ?_ | refine blk_alloc ?_ _)); exact BK144.out⟩, ⟨by repeat (first | (with_reducible first | exact HB.out | apply below_alloc | apply pw_below_drewN | apply below_drew1 | refine below_set ?_ GE143.out | refine below_set ?_ GE144.out) | exact HB.out)⟩⟩
                · rw [if_neg c16] at H
                  have c16b0 : ((rd ((rd_T104 y146 t145).f1) x8_1) == a1) = false := beq_eq_false_iff_ne.mpr c16
                  have c16b1 : ((rd ((rd_T104 y146 t145).f1) x8_1) != a1) = true := bne_iff_ne.mpr c16
                  by_cases c18 : x7_1.length < 17592186044416
                  · rw [if_pos c18] at H
                    have LMc18 := Aside0.mk c18
                    clear c18
                    obtain ⟨y154, hy154⟩ : ∃ y_ : List Int, y_ = (x7_1 ++ [rd ((rd_T104 y146 t145).f1) x8_1]) := ⟨_, rfl⟩
                    replace H : (lookasideref15_Take.l0 k1 a1 t145 y146 y154 (wrap64 (x8_1 + 1)) a0_0 l0_1) = some (r1, r2) := by first | (rw [hy154]; with_reducible exact H) | (have H2_ := (Option.bind_some _ _).symm.trans H; rw [hy154]; with_reducible exact H2_) | (have H2_ := (Option.bind_some _ _).symm.trans H; with_reducible exact H2_) | with_reducible exact H | (rw [hy154]; exact H) | exact H
                    have Ny154 := Aside0.mk hy154
                    clear hy154
                    have H' := Aside0.mk H
                    clear H
                    obtain ⟨Ao19, co19, eo19⟩ := Kd.N_slice HO_6.out
                    subst eo19
                    have p149 : 0 ≤ (t145 : Int) := of_decide_eq_true (by first | (with_reducible assumption) | assumption)
                    have q149 : t145 < (y146.length : Int) := of_decide_eq_true (by first | (with_reducible assumption) | assumption)
                    obtain ⟨ad149, A149_3, c149_3, e149, hx149_0, hx149_1, hx149_2, hx149_3, hl149_3, hi149_3⟩ := at_T104 (Kd.N_reads' HO_6.out).2.2 t145 p149 q149
                    cases e149
                    obtain ⟨ce149, hce149, hMe149, hcc149⟩ := Kd.N_get HO_6.out z104 t145 p149 (by first | exact q149 | exact of_decide_eq_true (by first | (with_reducible assumption) | assumption) | (have e_ := (Kd.N_reads' HO_6.out).1; omega))
                    obtain ⟨ua149_3, uc149_3, rfl, ul149_3, ge149_3⟩ := k104_openF hMe149
                    have hv149_3 := hcc149 3 _ rfl
                    rw [add_field _ _ 3 (by omega)] at hv149_3
                    replace hv149_3 := Option.some.inj (hv149_3.symm.trans hx149_3)
                    injection hv149_3 with hva_ hvn_ hvc_
                    rw [hva_] at ge149_3
                    rw [hvc_] at ul149_3
                    have HL149_3 := Aside0.mk (show Kd.V (Kd.int .i64) 3 _ w.heap.size _ _ ((rd_T104 y146 t145).f1) from Kd.V_mk ul149_3 ge149_3)
                    clear hva_ hvn_ hvc_ ge149_3 ul149_3
                    clear hcc149 hce149
                    have HR149_3 := Aside0.mk hi149_3
                    have HC149_3 := Aside0.mk hl149_3
                    clear hi149_3 hl149_3
                    replace p149 := eq_true p149
                    replace q149 := eq_true q149
                    have p150 : 0 ≤ (t145 : Int) := of_decide_eq_true (by first | (with_reducible assumption) | assumption)
                    have q150 : t145 < (y146.length : Int) := of_decide_eq_true (by first | (with_reducible assumption) | assumption)
                    obtain ⟨ad150, A150_3, c150_3, e150, hx150_0, hx150_1, hx150_2, hx150_3, hl150_3, hi150_3⟩ := at_T104 (Kd.N_reads' HO_6.out).2.2 t145 p150 q150
                    obtain rfl : ad149 = ad150 := (by injection e150)
                    obtain ⟨ce150, hce150, hMe150, hcc150⟩ := Kd.N_get HO_6.out z104 t145 p150 (by first | exact q150 | exact of_decide_eq_true (by first | (with_reducible assumption) | assumption) | (have e_ := (Kd.N_reads' HO_6.out).1; omega))
                    obtain ⟨ua150_3, uc150_3, rfl, ul150_3, ge150_3⟩ := k104_openF hMe150
                    have hv150_3 := hcc150 3 _ rfl
                    rw [add_field _ _ 3 (by omega)] at hv150_3
                    replace hv150_3 := Option.some.inj (hv150_3.symm.trans hx150_3)
                    injection hv150_3 with hva_ hvn_ hvc_
                    rw [hva_] at ge150_3
                    rw [hvc_] at ul150_3
                    have HL150_3 := Aside0.mk (show Kd.V (Kd.int .i64) 3 _ w.heap.size _ _ ((rd_T104 y146 t145).f1) from Kd.V_mk ul150_3 ge150_3)
                    clear hva_ hvn_ hvc_ ge150_3 ul150_3
                    clear hcc150 hce150
                    have HR150_3 := Aside0.mk hi150_3
                    have HC150_3 := Aside0.mk hl150_3
                    clear hi150_3 hl150_3
                    replace p150 := eq_true p150
                    replace q150 := eq_true q150
                    have ea_ := Option.some.inj (hx149_3.symm.trans hx150_3)
                    injection ea_ with ea_ en_ ec_
                    subst ea_
                    subst ec_
                    clear en_
                    have p151 : 0 ≤ (x8_1 : Int) := of_decide_eq_true (by first | (with_reducible assumption) | assumption)
                    have q151 : x8_1 < (((rd_T104 y146 t145).f1).length : Int) := of_decide_eq_true (by first | (with_reducible assumption) | assumption)
                    obtain ⟨ad151, e151, hx151_0⟩ := Kd.at_int (by repeat (first | (with_reducible exact HR150_3.out) | (with_reducible refine Kd.C_alloc ?_ _) | (with_reducible refine Kd.C_drewN ?_ _) | (with_reducible refine Kd.C_drew ?_) | exact HR150_3.out)) x8_1 p151 q151
                    cases e151
                    replace p151 := eq_true p151
                    replace q151 := eq_true q151
                    have p152 : 0 ≤ (t145 : Int) := of_decide_eq_true (by first | (with_reducible assumption) | assumption)
                    have q152 : t145 < (y146.length : Int) := of_decide_eq_true (by first | (with_reducible assumption) | assumption)
                    obtain ⟨ad152, A152_3, c152_3, e152, hx152_0, hx152_1, hx152_2, hx152_3, hl152_3, hi152_3⟩ := at_T104 (Kd.N_reads' HO_6.out).2.2 t145 p152 q152
                    obtain rfl : ad149 = ad152 := (by injection e152)
                    obtain ⟨ce152, hce152, hMe152, hcc152⟩ := Kd.N_get HO_6.out z104 t145 p152 (by first | exact q152 | exact of_decide_eq_true (by first | (with_reducible assumption) | assumption) | (have e_ := (Kd.N_reads' HO_6.out).1; omega))
                    obtain ⟨ua152_3, uc152_3, rfl, ul152_3, ge152_3⟩ := k104_openF hMe152
                    have hv152_3 := hcc152 3 _ rfl
                    rw [add_field _ _ 3 (by omega)] at hv152_3
                    replace hv152_3 := Option.some.inj (hv152_3.symm.trans hx152_3)
                    injection hv152_3 with hva_ hvn_ hvc_
                    rw [hva_] at ge152_3
                    rw [hvc_] at ul152_3
                    have HL152_3 := Aside0.mk (show Kd.V (Kd.int .i64) 3 _ w.heap.size _ _ ((rd_T104 y146 t145).f1) from Kd.V_mk ul152_3 ge152_3)
                    clear hva_ hvn_ hvc_ ge152_3 ul152_3
                    clear hcc152 hce152
                    have HR152_3 := Aside0.mk hi152_3
                    have HC152_3 := Aside0.mk hl152_3
                    clear hi152_3 hl152_3
                    replace p152 := eq_true p152
                    replace q152 := eq_true q152
                    have ea_ := Option.some.inj (hx149_3.symm.trans hx152_3)
                    injection ea_ with ea_ en_ ec_
                    subst ea_
                    subst ec_
                    clear en_
                    have p153 : 0 ≤ (x8_1 : Int) := of_decide_eq_true (by first | (with_reducible assumption) | assumption)
                    have q153 : x8_1 < (((rd_T104 y146 t145).f1).length : Int) := of_decide_eq_true (by first | (with_reducible assumption) | assumption)
                    obtain ⟨ad153, e153, hx153_0⟩ := Kd.at_int (by repeat (first | (with_reducible exact HR152_3.out) | (with_reducible refine Kd.C_alloc ?_ _) | (with_reducible refine Kd.C_drewN ?_ _) | (with_reducible refine Kd.C_drew ?_) | exact HR152_3.out)) x8_1 p153 q153
                    cases e153
                    replace p153 := eq_true p153
                    replace q153 := eq_true q153
                    go_wp2_with (first | ((with_reducible refine gate_builtin (b := .append) (xs := #[.tmp 36, .tmp 45]) rfl ?_); at_builtin; refine Kd.R_append (Kd.int .i64) (w0 := w) w.heap.size rfl (.tmp 36) (.tmp 45) 36 3 (.int .i64 0) 8 rfl Try.underlying36 info3 rfl (by decide) (by omega) u7 x7_1 (rd ((rd_T104 y146 t145).f1) x8_1) [.int .i64 (rd ((rd_T104 y146 t145).f1) x8_1)] (fun k_ => (w.heap.size ≤ k_)) (fun _ => False) rfl rfl ?aP (fun _ hk => hk.elim) ?aF ?aO ?aB ?aS ?aL ?_; (case aP => exact rfl); (case aB => exact (by repeat (first | (with_reducible first | exact HB.out | apply below_alloc | apply pw_below_drewN | apply below_drew1 | refine below_set ?_ GE143.out | refine below_set ?_ GE144.out) | exact HB.out))); (case aF => exact (fun k_ hk => (Nat.le_trans (below_size (by repeat (first | (with_reducible first | exact HB.out | apply below_alloc | apply pw_below_drewN | apply below_drew1 | refine below_set ?_ GE143.out | refine below_set ?_ GE144.out) | exact HB.out))) hk))); (case aO => exact (by (with_reducible repeat (first | apply Kd.R_alloc | apply Kd.R_drewN | apply Kd.R_drew)); exact HO_7.out)); (case aS => exact (below_size (by repeat (first | (with_reducible first | exact HB.out | apply below_alloc | apply pw_below_drewN | apply below_drew1 | refine below_set ?_ GE143.out | refine below_set ?_ GE144.out) | exact HB.out)))); (case aL => have := LMc18.out; omega); intro v155 w20 ho hb hg hat; rw [← Ny154.out] at ho; have n0_ := Aside0.mk (Kd.N_afterv (ok := (fun k_ => (P0_1_ k_ ∨ w.heap.size ≤ k_) ∧ k_ ≠ gb143 ∧ k_ ≠ gb144)) (by (with_reducible repeat (first | apply Kd.N_alloc | apply Kd.N_drewN | apply Kd.N_drew)); exact Kd.N_mono HO_6.out (fun _ hk => ⟨⟨hk.1, ⟨hk.2.2.1, hk.2.2.2⟩⟩, hk.2.1⟩)) hg hat); have n1_ := Aside0.mk (Kd.V_afterv (ok := (fun k_ => (P0_1_ k_ ∨ w.heap.size ≤ k_) ∧ some k_ ≠ (.slice (some ad149) y146.length co19 : Value).ownBlock ∧ k_ ≠ gb143 ∧ k_ ≠ gb144)) (by (with_reducible repeat (first | apply Kd.V_alloc | apply Kd.V_drewN | apply Kd.V_drew)); exact Kd.V_mono HO_144001.out (fun _ hk => ⟨⟨hk.1, ⟨hk.2.1, ⟨hk.2.2.2.1, hk.2.2.2.2⟩⟩⟩, hk.2.2.1⟩)) hg hat); have n2_ := Aside0.mk (blk_grown (g := gb143) (o := .cells #[.int .i64 a0_0, .slice A0_1 l0_1.length c0_1] 41 (0, 0)) (by (with_reducible repeat (first | refine blk_drewN ?_ _ | refine blk_drew ?_ | refine blk_alloc ?_ _)); exact BK143.out) hg (Kd.R_ne HO_7.out BK143.out (by decide))); have n3_ := Aside0.mk (blk_grown (g := gb144) (o := .cells #[.int .i64 0, .slice none 0 0] 41 (0, 0)) (by (with_reducible repeat (first | refine blk_drewN ?_ _ | refine blk_drew ?_ | refine blk_alloc ?_ _)); exact BK144.out) hg (Kd.R_ne HO_7.out BK144.out (by decide))); have n4_ := Aside0.mk (Kd.V_afterv (ok := (fun k_ => (P0_1_ k_ ∨ w.heap.size ≤ k_) ∧ some k_ ≠ (.slice (some ad149) y146.length co19 : Value).ownBlock ∧ k_ ≠ gb143 ∧ k_ ≠ gb144)) (by (with_reducible repeat (first | apply Kd.V_alloc | apply Kd.V_drewN | apply Kd.V_drew)); exact Kd.V_mono HL149_3.out (fun _ hk => ⟨⟨hk.1.1, ⟨hk.2, ⟨hk.1.2.2.1, hk.1.2.2.2⟩⟩⟩, hk.1.2.1⟩)) hg hat); have n5_ := Aside0.mk (Kd.V_afterv (ok := (fun k_ => (P0_1_ k_ ∨ w.heap.size ≤ k_) ∧ some k_ ≠ (.slice (some ad149) y146.length co19 : Value).ownBlock ∧ k_ ≠ gb143 ∧ k_ ≠ gb144)) (by (with_reducible repeat (first | apply Kd.V_alloc | apply Kd.V_drewN | apply Kd.V_drew)); exact Kd.V_mono HL150_3.out (fun _ hk => ⟨⟨hk.1.1, ⟨hk.2, ⟨hk.1.2.2.1, hk.1.2.2.2⟩⟩⟩, hk.1.2.1⟩)) hg hat); have n6_ := Aside0.mk (Kd.V_afterv (ok := (fun k_ => (P0_1_ k_ ∨ w.heap.size ≤ k_) ∧ some k_ ≠ (.slice (some ad149) y146.length co19 : Value).ownBlock ∧ k_ ≠ gb143 ∧ k_ ≠ gb144)) (by (with_reducible repeat (first | apply Kd.V_alloc | apply Kd.V_drewN | apply Kd.V_drew)); exact Kd.V_mono HL152_3.out (fun _ hk => ⟨⟨hk.1.1, ⟨hk.2, ⟨hk.1.2.2.1, hk.1.2.2.2⟩⟩⟩, hk.1.2.1⟩)) hg hat); have n7_ := Aside0.mk (hb); have n8_ := Aside0.mk (ho); clear HO_6; clear HO_144001; clear BK143; clear BK144; clear HL149_3; clear HL150_3; clear HL152_3; clear HB; clear HO_7; have HO_6 := n0_; have HO_144001 := n1_; have BK143 := n2_; have BK144 := n3_; have HL149_3 := n4_; have HL150_3 := n5_; have HL152_3 := n6_; have HB := n7_; have HO156 := n8_; clear n0_ n1_ n2_ n3_ n4_ n5_ n6_ n7_ n8_; clear ho hb hg hat))
                    go_roundg k1
                    case measure => have := HK1.out; omega
                    case rel => exact ⟨(y154), (wrap64 (x8_1 + 1)), (by first | rfl | (simp; done) | (simp [*]; done)), H', ⟨by have := HK1.out; omega⟩, ⟨by (with_reducible repeat (first | apply Kd.N_alloc | apply Kd.N_drewN | apply Kd.N_drew)); exact Kd.N_mono HO_6.out (fun _ hk => ⟨hk.1.1, ⟨hk.2, ⟨hk.1.2.1, hk.1.2.2⟩⟩⟩)⟩, ⟨by (with_reducible repeat (first | apply Kd.R_alloc | apply Kd.R_drewN | apply Kd.R_drew)); exact HO156.out⟩, ⟨by (with_reducible repeat (first | apply Kd.V_alloc | apply Kd.V_drewN | apply Kd.V_drew)); exact Kd.V_mono HO_144001.out (fun _ hk => ⟨hk.1.1, ⟨hk.1.2.1, ⟨hk.2, ⟨hk.1.2.2.1, hk.1.2.2.2⟩⟩⟩⟩)⟩, ⟨by (with_reducible repeat (first | refine blk_drewN ?_ _ | refine blk_drew ?_ | refine blk_alloc ?_ _)); exact BK143.out⟩, ⟨by (with_reducible repeat (first | refine blk_drewN ?_ _ | refine blk_drew ?_ | refine blk_alloc ?_ _)); exact BK144.out⟩, ⟨by repeat (first | (with_reducible first | exact HB.out | apply below_alloc | apply pw_below_drewN | apply below_drew1 | refine below_set ?_ GE143.out | refine below_set ?_ GE144.out) | exact HB.out)⟩⟩
                  · rw [if_neg c18] at H
                    exact absurd H (by simp)
              · rw [if_neg c15] at H
                exact absurd H (by simp)
            · rw [if_neg c14] at H
              have c14b0 : decide (x8_1 < (((rd_T104 y146 t145).f1).length : Int)) = false := decide_eq_false c14
              clear c14
              obtain ⟨y157, hy157⟩ : ∃ y_ : List (S104), y_ = (y146.set (t145 : Int).toNat (⟨(⟨(rd_T104 y146 t145).f0.f0, (rd_T104 y146 t145).f0.f1, (rd_T104 y146 t145).f0.f2⟩ : S35), x7_1⟩ : S104)) := ⟨_, rfl⟩
              replace H : (some (a0_0, y157)) = some (r1, r2) := by first | (rw [hy157]; with_reducible exact H) | (have H2_ := (Option.bind_some _ _).symm.trans H; rw [hy157]; with_reducible exact H2_) | (have H2_ := (Option.bind_some _ _).symm.trans H; with_reducible exact H2_) | with_reducible exact H | (rw [hy157]; exact H) | exact H
              have Ny157 := Aside0.mk hy157
              clear hy157
              simp only [Option.some.injEq, Prod.mk.injEq] at H
              obtain ⟨rfl, rfl⟩ := H
              obtain ⟨Ao22, co22, eo22⟩ := Kd.N_slice HO_6.out
              subst eo22
              have p149 : 0 ≤ (t145 : Int) := of_decide_eq_true (by first | (with_reducible assumption) | assumption)
              have q149 : t145 < (y146.length : Int) := of_decide_eq_true (by first | (with_reducible assumption) | assumption)
              obtain ⟨ad149, A149_3, c149_3, e149, hx149_0, hx149_1, hx149_2, hx149_3, hl149_3, hi149_3⟩ := at_T104 (Kd.N_reads' HO_6.out).2.2 t145 p149 q149
              cases e149
              obtain ⟨ce149, hce149, hMe149, hcc149⟩ := Kd.N_get HO_6.out z104 t145 p149 (by first | exact q149 | exact of_decide_eq_true (by first | (with_reducible assumption) | assumption) | (have e_ := (Kd.N_reads' HO_6.out).1; omega))
              obtain ⟨ua149_3, uc149_3, rfl, ul149_3, ge149_3⟩ := k104_openF hMe149
              have hv149_3 := hcc149 3 _ rfl
              rw [add_field _ _ 3 (by omega)] at hv149_3
              replace hv149_3 := Option.some.inj (hv149_3.symm.trans hx149_3)
              injection hv149_3 with hva_ hvn_ hvc_
              rw [hva_] at ge149_3
              rw [hvc_] at ul149_3
              have HL149_3 := Aside0.mk (show Kd.V (Kd.int .i64) 3 _ w.heap.size _ _ ((rd_T104 y146 t145).f1) from Kd.V_mk ul149_3 ge149_3)
              clear hva_ hvn_ hvc_ ge149_3 ul149_3
              clear hcc149 hce149
              have HR149_3 := Aside0.mk hi149_3
              have HC149_3 := Aside0.mk hl149_3
              clear hi149_3 hl149_3
              replace p149 := eq_true p149
              replace q149 := eq_true q149
              have p21 : 0 ≤ (t145 : Int) := of_decide_eq_true (by first | (with_reducible assumption) | assumption)
              have q21 : (t145 : Int) < ((y146.length : Int) : Int) := of_decide_eq_true (by first | (with_reducible assumption) | assumption)
              obtain ⟨go21, co21, eo21, gb21, gl21, cl21, HG21⟩ := Kd.N_form HO_6.out (by omega)
              (first | cases eo21 | (injection eo21 with ea_ en_ ec_; (first | subst ea_ | (injection ea_ with ea_; subst ea_)); subst ec_; clear en_))
              have GB21 := Aside0.mk gb21
              have GG21 := Aside0.mk HG21
              clear gb21 gl21 HG21
              (first | simp only [add_plain] at hx149_0 | skip)
              (first | simp only [add_plain] at hx149_1 | skip)
              (first | simp only [add_plain] at hx149_2 | skip)
              (first | simp only [add_plain] at hx149_3 | skip)
              (first | simp only [add_plain] at hx150_0 | skip)
              (first | simp only [add_plain] at hx150_1 | skip)
              (first | simp only [add_plain] at hx150_2 | skip)
              (first | simp only [add_plain] at hx150_3 | skip)
              (first | simp only [add_plain] at hx152_0 | skip)
              (first | simp only [add_plain] at hx152_1 | skip)
              (first | simp only [add_plain] at hx152_2 | skip)
              (first | simp only [add_plain] at hx152_3 | skip)
              obtain ⟨ce21, hcl21, hM21, hcc21, hfr21⟩ := Kd.N_elem HO_6.out z104 (t145 : Int) p21 q21
              obtain ⟨ua21_3, uc21_3, rfl, ul21_3, ge21_3⟩ := k104_openF hM21
              have hx21_0 : wr.cell? ⟨go21, (t145 : Int).toNat * 4, none⟩ = some (.int .i64 ((rd_T104 y146 t145).f0.f0)) := hcc21 0 _ rfl
              have hx21_1 : wr.cell? ⟨go21, (t145 : Int).toNat * 4 + 1, none⟩ = some (.int .i64 ((rd_T104 y146 t145).f0.f1)) := hcc21 1 _ rfl
              have hx21_2 : wr.cell? ⟨go21, (t145 : Int).toNat * 4 + 2, none⟩ = some (.int .u64 ((rd_T104 y146 t145).f0.f2)) := hcc21 2 _ rfl
              have hx21_3 : wr.cell? ⟨go21, (t145 : Int).toNat * 4 + 3, none⟩ = some (.slice ua21_3 ((rd_T104 y146 t145).f1).length uc21_3) := hcc21 3 _ rfl
              have hf21_0 : wr.frozen? ⟨go21, (t145 : Int).toNat * 4, none⟩ = false := hfr21 0
              have hf21_1 : wr.frozen? ⟨go21, (t145 : Int).toNat * 4 + 1, none⟩ = false := hfr21 1
              have hf21_2 : wr.frozen? ⟨go21, (t145 : Int).toNat * 4 + 2, none⟩ = false := hfr21 2
              have hf21_3 : wr.frozen? ⟨go21, (t145 : Int).toNat * 4 + 3, none⟩ = false := hfr21 3
              clear hcl21 hcc21 hfr21 hM21
              replace p21 := eq_true p21
              replace q21 := eq_true q21
              have HX23 := Aside0.mk (show Kd.N k104 104 wr w.heap.size (fun k_ => (P0_1_ k_ ∨ w.heap.size ≤ k_) ∧ k_ ≠ gb143 ∧ k_ ≠ gb144) (.slice (some ⟨go21, 0, none⟩) y146.length co22) y146 from (by (with_reducible repeat (first | apply Kd.N_alloc | apply Kd.N_drewN | apply Kd.N_drew)); exact Kd.N_mono HO_6.out (fun _ hk => ⟨hk.1, ⟨hk.2.2.1, hk.2.2.2⟩⟩)))
              obtain ⟨ce23, hcl23, hM23, hcc23, hfr23⟩ := Kd.N_elem HX23.out z104 (t145 : Int) (of_decide_eq_true (by first | (with_reducible assumption) | assumption)) (by have h_ : (t145 : Int) < ((y146.length : Int) : Int) := of_decide_eq_true (by first | (with_reducible assumption) | assumption); first | exact h_ | (have e_ := (Kd.N_reads' HO_6.out).1; omega) | simpa using h_)
              obtain ⟨ua23_3, uc23_3, rfl, ul23_3, ge23_3⟩ := k104_openF hM23
              obtain ⟨A7z, c7z, hv7z⟩ := Kd.R_slice HO_7.out
              subst hv7z
              have hzz := Kd.R_types (Kd.R_types (Kd.R_apart' (HO_7.out) (Kd.N_typed HO_6.out) (by decide)) BK143.out (by decide)) BK144.out (by decide)
              have hz2 := Kd.R_mono (ok' := (fun k_ => ((fun k_ => (P0_1_ k_ ∨ w.heap.size ≤ k_) ∧ k_ ≠ gb143 ∧ k_ ≠ gb144)) k_ ∧ k_ ≠ go21)) hzz (fun k_ hk => by exact ⟨⟨(.inr (hk.1.1.1)), ⟨hk.1.2, hk.2⟩⟩, fun e_ => (hk.1.1.2) (by rw [e_]; rfl)⟩)
              have HP23 := Kd.N_seg HX23.out (t145 : Int) (of_decide_eq_true (by first | (with_reducible assumption) | assumption)) (by have h_ : (t145 : Int) < ((y146.length : Int) : Int) := of_decide_eq_true (by first | (with_reducible assumption) | assumption); first | exact h_ | (have e_ := (Kd.N_reads' HO_6.out).1; omega) | simpa using h_) (seg := [(.slice A7z x7_1.length c7z)]) (j := 3) hcl23 hcc23 (show 4 ≤ 4 from by decide) (x' := (⟨(⟨(rd_T104 y146 t145).f0.f0, (rd_T104 y146 t145).f0.f1, (rd_T104 y146 t145).f0.f2⟩ : S35), x7_1⟩ : S104)) (k104_mkF _ _ (⟨(⟨(rd_T104 y146 t145).f0.f0, (rd_T104 y146 t145).f0.f1, (rd_T104 y146 t145).f0.f2⟩ : S35), x7_1⟩ : S104) (Kd.R_reads' hz2).2.1 (Kd.R_F hz2)) (fun _ hk => hk)
              clear hzz hz2
              have hx23_3 := hcc23 3 _ rfl
              (try simp only [show (k104).sz = 4 from rfl, Nat.mul_one, Nat.add_zero] at hx23_3)
              have hf23_3 := hfr23 3
              (try simp only [show (k104).sz = 4 from rfl, Nat.mul_one, Nat.add_zero] at hf23_3)
              clear hcl23 hcc23 hfr23 hM23
              go_wp2_with (first | ((with_reducible refine gate_store (t := 36) (p := 51) rfl ?_); refine store_event (t := 36) (p := 51) (v := ?vo_w24) (w1 := (wr.setCell ⟨go21, (t145 : Int).toNat * 4 + 3, none⟩ ((.slice A7z x7_1.length c7z)))) ?hg ?ho ?hn ?hr ?_; (case ho => rfl); (case hg => rfl); (case hn => rfl); (case hr => first | (go_simp; done) | (go_simp; rfl)); intro w24 hw; have hg : wr.grownBy w24 (some go21) := (by rw [hw]; exact HP23.2); have hp_ : Kd.N k104 104 w24 w.heap.size (fun k_ => (P0_1_ k_ ∨ w.heap.size ≤ k_) ∧ k_ ≠ gb143 ∧ k_ ≠ gb144) (.slice (some ⟨go21, 0, none⟩) y146.length co22) y157 := (by rw [hw, Ny157.out]; exact HP23.1); clear HP23; have n0_ := Aside0.mk (hp_); have n1_ := Aside0.mk (Kd.V_afterv (v := (.slice (some ⟨go21, 0, none⟩) y146.length co22)) (v1 := (.slice (some ⟨go21, 0, none⟩) y146.length co22)) (ok := (fun k_ => (P0_1_ k_ ∨ w.heap.size ≤ k_) ∧ some k_ ≠ ((.slice A7z x7_1.length c7z) : Value).ownBlock ∧ k_ ≠ gb143 ∧ k_ ≠ gb144)) (by (with_reducible repeat (first | apply Kd.V_alloc | apply Kd.V_drewN | apply Kd.V_drew)); exact Kd.V_mono HO_144001.out (fun _ hk => ⟨⟨hk.1, ⟨hk.2.2.1, ⟨hk.2.2.2.1, hk.2.2.2.2⟩⟩⟩, hk.2.1⟩)) hg (.inl rfl)); have n2_ := Aside0.mk (blk_grown (g := gb143) (o := .cells #[.int .i64 a0_0, .slice A0_1 l0_1.length c0_1] 41 (0, 0)) (by (with_reducible repeat (first | refine blk_drewN ?_ _ | refine blk_drew ?_ | refine blk_alloc ?_ _)); exact BK143.out) hg (Kd.N_ne HO_6.out BK143.out (by decide))); have n3_ := Aside0.mk (blk_grown (g := gb144) (o := .cells #[.int .i64 0, .slice none 0 0] 41 (0, 0)) (by (with_reducible repeat (first | refine blk_drewN ?_ _ | refine blk_drew ?_ | refine blk_alloc ?_ _)); exact BK144.out) hg (Kd.N_ne HO_6.out BK144.out (by decide))); have n4_ := Aside0.mk (Kd.V_afterv (v := (.slice (some ⟨go21, 0, none⟩) y146.length co22)) (v1 := (.slice (some ⟨go21, 0, none⟩) y146.length co22)) (ok := (fun k_ => (P0_1_ k_ ∨ w.heap.size ≤ k_) ∧ some k_ ≠ ((.slice A7z x7_1.length c7z) : Value).ownBlock ∧ k_ ≠ gb143 ∧ k_ ≠ gb144)) (by (with_reducible repeat (first | apply Kd.V_alloc | apply Kd.V_drewN | apply Kd.V_drew)); exact HL149_3.out) hg (.inl rfl)); have n5_ := Aside0.mk ((by rw [hw]; exact below_set (HB.out) GB21.out : Below w.heap.size w w24)); clear HO_6; clear HO_144001; clear BK143; clear BK144; clear HL149_3; clear HB; clear HO_7; have HO_6 := n0_; have HO_144001 := n1_; have BK143 := n2_; have BK144 := n3_; have HL149_3 := n4_; have HB := n5_; clear n0_ n1_ n2_ n3_ n4_ n5_; clear hg hw hp_; have hnb25 := NB143_144.out; have hnc25 := NB144_143.out; have hcz26_0 : w24.cell? ⟨gb143, 0, none⟩ = some (.int .i64 a0_0) := (blk_cell BK143.out 0).trans rfl; have hcz26_1 : w24.cell? ⟨gb143, 1, none⟩ = some (.slice A0_1 l0_1.length c0_1) := (blk_cell BK143.out 1).trans rfl; have hfz26_0 := blk_frozen BK143.out 0; have hfz26_1 := blk_frozen BK143.out 1; have hcz27_0 : w24.cell? ⟨gb144, 0, none⟩ = some (.int .i64 0) := (blk_cell BK144.out 0).trans rfl; have hcz27_1 : w24.cell? ⟨gb144, 1, none⟩ = some (.slice none 0 0) := (blk_cell BK144.out 1).trans rfl; have hfz27_0 := blk_frozen BK144.out 0; have hfz27_1 := blk_frozen BK144.out 1))
              refine bodyPost_ret (results_cell_row rfl _ _ gb144 41 #[.int .i64 a0_0, .slice (some ⟨go21, 0, none⟩) y146.length co22] (0, 0) _ rfl (by (with_reducible repeat (first | refine blk_drewN ?_ _ | refine blk_drew ?_ | refine blk_alloc ?_ _)); refine blk_put (cs := #[.int .i64 a0_0, .slice none 0 0]) ?_ 1 _ rfl; (with_reducible repeat (first | refine blk_drewN ?_ _ | refine blk_drew ?_ | refine blk_alloc ?_ _)); refine blk_put (cs := #[.int .i64 0, .slice none 0 0]) ?_ 0 _ rfl; (with_reducible repeat (first | refine blk_drewN ?_ _ | refine blk_drew ?_ | refine blk_alloc ?_ _)); refine blk_far ?_ NB144_143.out _; (with_reducible repeat (first | refine blk_drewN ?_ _ | refine blk_drew ?_ | refine blk_alloc ?_ _)); exact BK144.out) Try.underlying41 rfl (by kernel_rfl)) rfl ?_
              exact ⟨_, by first | rfl | (simp [errW_none, errW_some] <;> rfl) | (simp [*, errW_none, errW_some] <;> rfl), by (with_reducible repeat (first | apply Kd.N_alloc | apply Kd.N_drewN | apply Kd.N_drew)); exact Kd.N_mono (Kd.N_far (p := ⟨gb144, 1, none⟩) (Kd.N_far (p := ⟨gb144, 0, none⟩) (Kd.N_far (p := ⟨gb143, 1, none⟩) (Kd.N_mono (Kd.N_mono HO_6.out (fun k_ hk => (⟨hk, hk.2.1⟩ : _ ∧ k_ ≠ gb143))) (fun k_ hk => (⟨hk, hk.1.2.2⟩ : _ ∧ k_ ≠ gb144))) (fun _ hk => hk.1.2) (.slice (some ⟨go21, 0, none⟩) y146.length co22)) (fun _ hk => hk.2) (.int .i64 a0_0)) (fun _ hk => hk.2) (.slice (some ⟨go21, 0, none⟩) y146.length co22)) (fun _ hk => hk.1.1.1), by repeat (first | (with_reducible first | exact HB.out | apply below_alloc | apply pw_below_drewN | apply below_drew1 | refine below_set ?_ GE143.out | refine below_set ?_ GE144.out) | exact HB.out)⟩
          · rw [if_neg c13] at H
            exact absurd H (by simp)
        · rw [if_neg c12] at H
          exact absurd H (by simp)
  · rw [if_neg c4] at H
    exact absurd H (by simp)

end Go.Proofs.Ytgmdlndiilibpaa.PR

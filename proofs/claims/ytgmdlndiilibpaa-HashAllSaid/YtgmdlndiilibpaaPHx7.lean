-- written by xprint.py, a program of this session, over the kit's print (functions told by hand: see the texts)
import Derived.Test.YtgmdlndiilibpaaPHx0
import Derived.Test.YtgmdlndiilibpaaPHx1
namespace Go.Proofs.Ytgmdlndiilibpaa.PH
open Go.RowKit Go.Proofs.YtgmdlndiilibpaaW.PrintWords Go.Proofs.YtgmdlndiilibpaaW.PrintLast Go.Proofs.YtgmdlndiilibpaaW.PrintMore
attribute [local go_sem] max2_int min2_int max_two min_two max_three min_three max_four min_four   -- for this text's walks alone
set_option linter.unusedVariables false
set_option linter.unusedSimpArgs false

attribute [local go_sem high] eqA24
/-! ### lookasideref11_New: function 39 -/
def lookasideref11_New.f (a0 : Int) (a1 : Int) : Option (Int × (List (List (S128)))) := if 0 ≤ (mx a1 1) then (if (mx a1 1 : Int).toNat ≤ 11728124029610 then (some (mx a0 0, (List.replicate (mx a1 1 : Int).toNat []))) else (none)) else (none)
set_option maxHeartbeats 8000000 in
set_option maxRecDepth 100000 in
theorem lookasideref11_New.calls (a0 : Int) (a1 : Int) (r1 : Int) (r2 : List (List (S128))) (w : World) (h : lookasideref11_New.f a0 a1 = some (r1, r2)) :
    Calls Try.prog 39 #[.int .i64 a0, .int .i64 a1] w fun e w' => ∃ v1_ : Value, e = .returned (.agg #[.int .i64 r1, v1_]) ∧ Kd.S (Kd.slice 128 k128) 76 w' w.heap.size (fun _ => True) v1_ r2 ∧ Below w.heap.size w w' := by
  have hu71 := Try.underlying71
  have HB := Aside0.mk (Below.refl w.heap.size w)
  have H : (if 0 ≤ (mx a1 1) then (if (mx a1 1 : Int).toNat ≤ 11728124029610 then (some (mx a0 0, (List.replicate (mx a1 1 : Int).toNat []))) else (none)) else (none)) = some (r1, r2) := h
  clear h
  obtain ⟨ji3, hji3⟩ : ∃ j_ : Int, (mx a0 0) = j_ := ⟨_, rfl⟩
  replace H : (if 0 ≤ (mx a1 1) then (if (mx a1 1 : Int).toNat ≤ 11728124029610 then (some (ji3, (List.replicate (mx a1 1 : Int).toNat []))) else (none)) else (none)) = some (r1, r2) := by first | (rw [hji3] at H; exact H) | (simp only [hji3] at H ⊢; exact H)
  (try (have hji3l : 0 ≤ ji3 := by (rw [← hji3]; unfold mx; (repeat' split) <;> omega)))
  (try (have hji3m : 0 ≤ ji3 := by omega))
  have hji3_ : (if a0 < 0 then 0 else a0) = ji3 := hji3
  obtain ⟨ji4, hji4⟩ : ∃ j_ : Int, (mx a1 1) = j_ := ⟨_, rfl⟩
  replace H : (if 0 ≤ (ji4) then (if (ji4 : Int).toNat ≤ 11728124029610 then (some (ji3, (List.replicate (ji4 : Int).toNat []))) else (none)) else (none)) = some (r1, r2) := by first | (rw [hji4] at H; exact H) | (simp only [hji4] at H ⊢; exact H)
  (try (have hji4l : 1 ≤ ji4 := by (rw [← hji4]; unfold mx; (repeat' split) <;> omega)))
  (try (have hji4m : 0 ≤ ji4 := by omega))
  have hji4_ : (if a1 < 1 then 1 else a1) = ji4 := hji4
  by_cases c5 : 0 ≤ (ji4)
  · rw [if_pos c5] at H
    have c5b0 := eq_true c5
    have c5b1 : decide (0 ≤ (ji4)) = true := decide_eq_true c5
    clear c5
    by_cases c6 : (ji4 : Int).toNat ≤ 11728124029610
    · rw [if_pos c6] at H
      have c6b0 := eq_true c6
      have c6b1 : decide ((ji4 : Int).toNat ≤ 11728124029610) = true := decide_eq_true c6
      clear c6
      obtain ⟨y155, hy155⟩ : ∃ y_ : List (List (S128)), y_ = (List.replicate (ji4 : Int).toNat []) := ⟨_, rfl⟩
      replace H : (some (ji3, y155)) = some (r1, r2) := by first | (rw [hy155]; with_reducible exact H) | (have H2_ := (Option.bind_some _ _).symm.trans H; rw [hy155]; with_reducible exact H2_) | (have H2_ := (Option.bind_some _ _).symm.trans H; with_reducible exact H2_) | with_reducible exact H | (rw [hy155]; exact H) | exact H
      have Ny155 := Aside0.mk hy155
      clear hy155
      simp only [Option.some.injEq, Prod.mk.injEq] at H
      obtain ⟨rfl, rfl⟩ := H
      go_enter Try.func39, Try.ntmps39
      go_wp2_with (first | ((with_reducible refine gate_dst (N := 4) rfl ?_); refine box_event ?hg (N := 4) ?hd (cs := #[.int .i64 0, .slice none 0 0]) (t := 71) ?hr ?_; (case hd => rfl); (case hg => rfl); (case hr => first | (go_simp; done) | (go_simp; rfl)); intro gb154 hg w7 hbox hb; have n0_ := Aside0.mk (below_step (by repeat (first | (with_reducible first | exact HB.out | apply below_alloc | apply pw_below_drewN | apply below_drew1) | exact HB.out)) hb); have n1_ := Aside0.mk (hbox); have n2_ := Aside0.mk ((by rw [hg]; exact (below_size (by repeat (first | (with_reducible first | exact HB.out | apply below_alloc | apply pw_below_drewN | apply below_drew1) | exact HB.out))) : w.heap.size ≤ gb154)); have n3_ := Aside0.mk ((by rw [hg]; exact (below_size (by repeat (first | (with_reducible first | exact HB.out | apply below_alloc | apply pw_below_drewN | apply below_drew1) | exact HB.out))) : w.heap.size ≤ gb154)); clear HB; have HB := n0_; have BK154 := n1_; have GW154 := n2_; have GE154 := n3_; clear n0_ n1_ n2_ n3_; clear hb hbox hg) | ((with_reducible refine gate_dst (N := 9) rfl ?_); refine Kd.S_make (Kd.slice 128 k128) _ 76 rfl (N := 9) rfl 69 _ _ rfl ji4 rfl rfl Try.underlying69 (.slice none 0 0) 24 info76 rfl (by decide) (by omega) [] (ok := fun _ => True) (okp := fun _ => True) ⟨_, rfl, Kd.R_nil _ _ _ _ _⟩ (fun _ hk => hk) trivial (of_decide_eq_true (by first | (with_reducible assumption) | assumption)) (Nat.le_trans (Nat.mul_le_mul_right _ (of_decide_eq_true (by first | (with_reducible assumption) | assumption) : ji4.toNat ≤ 11728124029610)) (by omega)) (Below.refl _ _) (Nat.le_refl _) ?_; intro v156 w8 ho9 hb hg_ hnew_; clear hg_ hnew_; (first | rw [← Ny155.out] at ho9 | (simp only [Int.reduceToNat] at ho9; rw [← Ny155.out] at ho9)); have n0_ := Aside0.mk (Kd.S_lower ho9 (below_size (by repeat (first | (with_reducible first | exact HB.out | apply below_alloc | apply pw_below_drewN | apply below_drew1 | refine below_set ?_ GE154.out) | exact HB.out)))); have n1_ := Aside0.mk (blk_below (g := gb154) (o := .cells #[.int .i64 0, .slice none 0 0] 71 (0, 0)) (by (with_reducible repeat (first | refine blk_drewN ?_ _ | refine blk_drew ?_ | refine blk_alloc ?_ _)); exact BK154.out) hb); have n2_ := Aside0.mk (below_step (by repeat (first | (with_reducible first | exact HB.out | apply below_alloc | apply pw_below_drewN | apply below_drew1 | refine below_set ?_ GE154.out) | exact HB.out)) hb); clear BK154; clear HB; have HO157 := n0_; have BK154 := n1_; have HB := n2_; clear n0_ n1_ n2_; clear hb ho9; obtain ⟨Ao10, co10, eo10⟩ := Kd.S_slice HO157.out; subst eo10; have hcz11_0 : w8.cell? ⟨gb154, 0, none⟩ = some (.int .i64 0) := (blk_cell BK154.out 0).trans rfl; have hcz11_1 : w8.cell? ⟨gb154, 1, none⟩ = some (.slice none 0 0) := (blk_cell BK154.out 1).trans rfl; have hfz11_0 := blk_frozen BK154.out 0; have hfz11_1 := blk_frozen BK154.out 1))
      refine bodyPost_ret (results_cell_row rfl _ _ gb154 71 #[.int .i64 ji3, .slice Ao10 y155.length co10] (0, 0) _ rfl (by (with_reducible repeat (first | refine blk_drewN ?_ _ | refine blk_drew ?_ | refine blk_alloc ?_ _)); refine blk_put (cs := #[.int .i64 ji3, .slice none 0 0]) ?_ 1 _ rfl; (with_reducible repeat (first | refine blk_drewN ?_ _ | refine blk_drew ?_ | refine blk_alloc ?_ _)); refine blk_put (cs := #[.int .i64 0, .slice none 0 0]) ?_ 0 _ rfl; (with_reducible repeat (first | refine blk_drewN ?_ _ | refine blk_drew ?_ | refine blk_alloc ?_ _)); exact BK154.out) Try.underlying71 rfl (by kernel_rfl)) rfl ?_
      exact ⟨_, by first | rfl | (simp [errW_none, errW_some] <;> rfl) | (simp only [← hji3, ← hji4]; first | rfl | (simp [errW_none, errW_some] <;> rfl)) | (simp [*, errW_none, errW_some] <;> rfl), by (with_reducible repeat (first | apply Kd.S_alloc | apply Kd.S_drewN | apply Kd.S_drew)); exact Kd.S_mono (Kd.S_far (p := ⟨gb154, 1, none⟩) (Kd.S_far (p := ⟨gb154, 0, none⟩) (Kd.S_types HO157.out BK154.out (by decide)) (fun _ hk => hk.2) (.int .i64 ji3)) (fun _ hk => hk.2) (.slice Ao10 y155.length co10)) (fun _ hk => trivial), by repeat (first | (with_reducible first | exact HB.out | apply below_alloc | apply pw_below_drewN | apply below_drew1 | refine below_set ?_ GE154.out) | exact HB.out)⟩
    · rw [if_neg c6] at H
      exact absurd H (by simp)
  · rw [if_neg c5] at H
    exact absurd H (by simp)

-- NOT PRINTED: function 34 (hash_Table_int_Set)

/-! ### lookasideref11_at: function 68 -/
def lookasideref11_at.l0 : Nat → List (S128) → Int → Int → Int → Int → Option (Int)
  | 0, _, _, _, _, _ => none
  | k + 1, x0, x5, x159000, x159001, x159002 => if x5 < (x0.length : Int) then (if 0 ≤ x5 then (if (((rd_T128 x0 x5).f0.f0) == x159000 && (((rd_T128 x0 x5).f0.f1) == x159001 && (((rd_T128 x0 x5).f0.f2) == x159002))) = true then (some x5) else (lookasideref11_at.l0 k x0 (wrap64 (x5 + 1)) x159000 x159001 x159002)) else (none)) else (some (-1))
def lookasideref11_at.f (k : Nat) (l0 : List (S128)) (a1_0 : Int) (a1_1 : Int) (a1_2 : Int) : Option (Int) := lookasideref11_at.l0 k l0 0 a1_0 a1_1 a1_2
theorem lookasideref11_at.mono_l : ∀ k, (∀ y0 y1 y2 y3 y4, LeO (lookasideref11_at.l0 k y0 y1 y2 y3 y4) (lookasideref11_at.l0 (k + 1) y0 y1 y2 y3 y4))
  | 0 => fun _ _ _ _ _ r h => by simp [lookasideref11_at.l0] at h
  | k + 1 => by
    have ih0 := lookasideref11_at.mono_l k
    · intro y0 y1 y2 y3 y4
      unfold lookasideref11_at.l0
      repeat' first
      | (with_reducible exact ih0 _ _ _ _ _)
      | (with_reducible exact LeO.refl _)
      | (with_reducible exact LeO.none _)
      | (with_reducible refine LeO.ite ?_ ?_)
      | (with_reducible refine LeO.bind ?_ (fun _ => ?_))
      | exact ih0 _ _ _ _ _
      | exact LeO.none _
      | refine LeO.ite ?_ ?_
      | refine LeO.bind ?_ (fun _ => ?_)
theorem lookasideref11_at.mono : ∀ a0 a1 a2 a3 k, LeO (lookasideref11_at.f k a0 a1 a2 a3) (lookasideref11_at.f (k + 1) a0 a1 a2 a3) := by
  intro a0 a1 a2 a3 k
  have ih0 := lookasideref11_at.mono_l k
  unfold lookasideref11_at.f
  repeat' first
      | (with_reducible exact ih0 _ _ _ _ _)
      | (with_reducible exact LeO.refl _)
      | (with_reducible exact LeO.none _)
      | (with_reducible refine LeO.ite ?_ ?_)
      | (with_reducible refine LeO.bind ?_ (fun _ => ?_))
      | exact ih0 _ _ _ _ _
      | exact LeO.none _
      | refine LeO.ite ?_ ?_
      | refine LeO.bind ?_ (fun _ => ?_)
set_option maxHeartbeats 8000000 in
set_option maxRecDepth 100000 in
theorem lookasideref11_at.calls (k : Nat) (A0 : Option Addr) (c0 : Nat) (l0 : List (S128)) (a1_0 : Int) (a1_1 : Int) (a1_2 : Int) (r : Int) (w : World) (hr0 : Kd.C k128 w A0 l0.length l0) (hc0 : l0.length ≤ c0) (h : lookasideref11_at.f k l0 a1_0 a1_1 a1_2 = some r) :
    Calls Try.prog 68 #[.slice A0 l0.length c0, .agg #[.int .i64 a1_0, .int .u64 a1_1, .int .i64 a1_2]] w fun e w' => e = .returned (.int .i64 r) ∧ Below w.heap.size w w' := by
  have hu24 := Try.underlying24
  have HR0 := Aside0.mk hr0
  have HC0 := Aside0.mk hc0
  clear hr0 hc0
  have HB := Aside0.mk (Below.refl w.heap.size w)
  have H : (lookasideref11_at.l0 k l0 0 a1_0 a1_1 a1_2) = some r := h
  clear h
  have H' := Aside0.mk H
  clear H
  go_enter Try.func68, Try.ntmps68
  go_wp2_with (first | ((with_reducible refine gate_dst (N := 3) rfl ?_); refine box_event ?hg (N := 3) ?hd (cs := #[.int .i64 a1_0, .int .u64 a1_1, .int .i64 a1_2]) (t := 24) ?hr ?_; (case hd => rfl); (case hg => rfl); (case hr => first | (go_simp; done) | (go_simp; rfl)); intro gb158 hg w3 hbox hb; have n0_ := Aside0.mk (below_step (by repeat (first | (with_reducible first | exact HB.out | apply below_alloc | apply pw_below_drewN | apply below_drew1) | exact HB.out)) hb); have n1_ := Aside0.mk (hbox); have n2_ := Aside0.mk ((by rw [hg]; exact (below_size (by repeat (first | (with_reducible first | exact HB.out | apply below_alloc | apply pw_below_drewN | apply below_drew1) | exact HB.out))) : w.heap.size ≤ gb158)); have n3_ := Aside0.mk ((by rw [hg]; exact (below_size (by repeat (first | (with_reducible first | exact HB.out | apply below_alloc | apply pw_below_drewN | apply below_drew1) | exact HB.out))) : w.heap.size ≤ gb158)); clear HB; have HB := n0_; have BK158 := n1_; have GW158 := n2_; have GE158 := n3_; clear n0_ n1_ n2_ n3_; clear hb hbox hg))
  repeat (go_quiet (first | ((with_reducible refine gate_dst (N := 3) rfl ?_); refine box_event ?hg (N := 3) ?hd (cs := #[.int .i64 a1_0, .int .u64 a1_1, .int .i64 a1_2]) (t := 24) ?hr ?_; (case hd => rfl); (case hg => rfl); (case hr => first | (go_simp; done) | (go_simp; rfl)); intro gb158 hg w3 hbox hb; have n0_ := Aside0.mk (below_step (by repeat (first | (with_reducible first | exact HB.out | apply below_alloc | apply pw_below_drewN | apply below_drew1) | exact HB.out)) hb); have n1_ := Aside0.mk (hbox); have n2_ := Aside0.mk ((by rw [hg]; exact (below_size (by repeat (first | (with_reducible first | exact HB.out | apply below_alloc | apply pw_below_drewN | apply below_drew1) | exact HB.out))) : w.heap.size ≤ gb158)); have n3_ := Aside0.mk ((by rw [hg]; exact (below_size (by repeat (first | (with_reducible first | exact HB.out | apply below_alloc | apply pw_below_drewN | apply below_drew1) | exact HB.out))) : w.heap.size ≤ gb158)); clear HB; have HB := n0_; have BK158 := n1_; have GW158 := n2_; have GE158 := n3_; clear n0_ n1_ n2_ n3_; clear hb hbox hg)); try go_wp2_with (first | ((with_reducible refine gate_dst (N := 3) rfl ?_); refine box_event ?hg (N := 3) ?hd (cs := #[.int .i64 a1_0, .int .u64 a1_1, .int .i64 a1_2]) (t := 24) ?hr ?_; (case hd => rfl); (case hg => rfl); (case hr => first | (go_simp; done) | (go_simp; rfl)); intro gb158 hg w3 hbox hb; have n0_ := Aside0.mk (below_step (by repeat (first | (with_reducible first | exact HB.out | apply below_alloc | apply pw_below_drewN | apply below_drew1) | exact HB.out)) hb); have n1_ := Aside0.mk (hbox); have n2_ := Aside0.mk ((by rw [hg]; exact (below_size (by repeat (first | (with_reducible first | exact HB.out | apply below_alloc | apply pw_below_drewN | apply below_drew1) | exact HB.out))) : w.heap.size ≤ gb158)); have n3_ := Aside0.mk ((by rw [hg]; exact (below_size (by repeat (first | (with_reducible first | exact HB.out | apply below_alloc | apply pw_below_drewN | apply below_drew1) | exact HB.out))) : w.heap.size ≤ gb158)); clear HB; have HB := n0_; have BK158 := n1_; have GW158 := n2_; have GE158 := n3_; clear n0_ n1_ n2_ n3_; clear hb hbox hg)))
  go_loopg [5] k (fun kq v5 w' => ∃ (x5_1 : Int), v5 = .int .i64 x5_1 ∧ Aside0 (lookasideref11_at.l0 kq l0 x5_1 a1_0 a1_1 a1_2 = some r) ∧ Aside0 (kq ≤ k) ∧ Aside0 (w'.heap[gb158]? = some (.cells #[.int .i64 a1_0, .int .u64 a1_1, .int .i64 a1_2] 24 (0, 0))) ∧ Aside0 (Below w.heap.size w w'))
  case atStart => exact ⟨(0), (by first | rfl | (simp; done) | (simp [*]; done)), H', ⟨Nat.le_refl _⟩, ⟨by (with_reducible repeat (first | refine blk_drewN ?_ _ | refine blk_drew ?_ | refine blk_alloc ?_ _)); exact BK158.out⟩, ⟨by repeat (first | (with_reducible first | exact HB.out | apply below_alloc | apply pw_below_drewN | apply below_drew1 | refine below_set ?_ GE158.out) | exact HB.out)⟩⟩
  case round =>
    clear H'
    try clear p2
    obtain ⟨x5_1, rfl, HA, HK1, BK158, HB⟩ := hrel
    cases gk with
    | zero => exact absurd HA.out (by simp [lookasideref11_at.l0])
    | succ k1 =>
      have H := HA.out
      clear HA
      simp only [lookasideref11_at.l0] at H
      by_cases c4 : x5_1 < (l0.length : Int)
      · rw [if_pos c4] at H
        have c4b0 : decide (x5_1 < (l0.length : Int)) = true := decide_eq_true c4
        clear c4
        by_cases c5 : 0 ≤ x5_1
        · rw [if_pos c5] at H
          have c5b0 : decide (0 ≤ x5_1) = true := decide_eq_true c5
          clear c5
          by_cases c6 : (((rd_T128 l0 x5_1).f0.f0) == a1_0 && (((rd_T128 l0 x5_1).f0.f1) == a1_1 && (((rd_T128 l0 x5_1).f0.f2) == a1_2))) = true
          · rw [if_pos c6] at H
            have c6b0 : (((rd_T128 l0 x5_1).f0.f0) == a1_0 && (((rd_T128 l0 x5_1).f0.f1) == a1_1 && (((rd_T128 l0 x5_1).f0.f2) == a1_2))) = true := c6
            (try (have c6b1 : decide (((rd_T128 l0 x5_1).f0.f0) = a1_0 && (((rd_T128 l0 x5_1).f0.f1) == a1_1 && (((rd_T128 l0 x5_1).f0.f2) == a1_2))) = true := by simpa using c6))
            (try (have c6b2 : (((rd_T128 l0 x5_1).f0.f0) == a1_0 && (((rd_T128 l0 x5_1).f0.f1) == a1_1 && (((rd_T128 l0 x5_1).f0.f2) == a1_2))) = true := by simpa using c6))
            clear c6
            obtain rfl := Option.some.inj H
            have p159 : 0 ≤ (x5_1 : Int) := of_decide_eq_true (by first | (with_reducible assumption) | assumption)
            have q159 : x5_1 < (l0.length : Int) := of_decide_eq_true (by first | (with_reducible assumption) | assumption)
            obtain ⟨ad159, e159, hx159_0, hx159_1, hx159_2, hx159_3⟩ := at_T128 HR0.out x5_1 p159 q159
            cases e159
            replace hx159_0 := (HB.out.cell (World.block_lt_of_cell? w _ hx159_0)).trans hx159_0
            replace hx159_1 := (HB.out.cell (World.block_lt_of_cell? w _ hx159_1)).trans hx159_1
            replace hx159_2 := (HB.out.cell (World.block_lt_of_cell? w _ hx159_2)).trans hx159_2
            replace hx159_3 := (HB.out.cell (World.block_lt_of_cell? w _ hx159_3)).trans hx159_3
            replace p159 := eq_true p159
            replace q159 := eq_true q159
            have hcz7_0 : wr.cell? ⟨gb158, 0, none⟩ = some (.int .i64 a1_0) := (blk_cell BK158.out 0).trans rfl
            have hcz7_1 : wr.cell? ⟨gb158, 1, none⟩ = some (.int .u64 a1_1) := (blk_cell BK158.out 1).trans rfl
            have hcz7_2 : wr.cell? ⟨gb158, 2, none⟩ = some (.int .i64 a1_2) := (blk_cell BK158.out 2).trans rfl
            have hfz7_0 := blk_frozen BK158.out 0
            have hfz7_1 := blk_frozen BK158.out 1
            have hfz7_2 := blk_frozen BK158.out 2
            go_wp2
            repeat (go_quiet (fail); try go_wp2)
            go_ret
            exact ⟨by first | rfl | (simp [errW_none, errW_some] <;> rfl) | (simp [*, errW_none, errW_some] <;> rfl), by repeat (first | (with_reducible first | exact HB.out | apply below_alloc | apply pw_below_drewN | apply below_drew1 | refine below_set ?_ GE158.out) | exact HB.out)⟩
          · rw [if_neg c6] at H
            have c6b0 : (((rd_T128 l0 x5_1).f0.f0) == a1_0 && (((rd_T128 l0 x5_1).f0.f1) == a1_1 && (((rd_T128 l0 x5_1).f0.f2) == a1_2))) = false := by simpa using c6
            (try (have c6b1 : decide (((rd_T128 l0 x5_1).f0.f0) = a1_0 && (((rd_T128 l0 x5_1).f0.f1) == a1_1 && (((rd_T128 l0 x5_1).f0.f2) == a1_2))) = false := by simpa using c6))
            (try (have c6b2 : (((rd_T128 l0 x5_1).f0.f0) == a1_0 && (((rd_T128 l0 x5_1).f0.f1) == a1_1 && (((rd_T128 l0 x5_1).f0.f2) == a1_2))) = false := by simpa using c6))
            (try (have c6b3 : ¬ (((rd_T128 l0 x5_1).f0.f0) = a1_0 && (((rd_T128 l0 x5_1).f0.f1) == a1_1 && (((rd_T128 l0 x5_1).f0.f2) == a1_2))) := by simpa using c6))
            clear c6
            have H' := Aside0.mk H
            clear H
            have p159 : 0 ≤ (x5_1 : Int) := of_decide_eq_true (by first | (with_reducible assumption) | assumption)
            have q159 : x5_1 < (l0.length : Int) := of_decide_eq_true (by first | (with_reducible assumption) | assumption)
            obtain ⟨ad159, e159, hx159_0, hx159_1, hx159_2, hx159_3⟩ := at_T128 HR0.out x5_1 p159 q159
            cases e159
            replace hx159_0 := (HB.out.cell (World.block_lt_of_cell? w _ hx159_0)).trans hx159_0
            replace hx159_1 := (HB.out.cell (World.block_lt_of_cell? w _ hx159_1)).trans hx159_1
            replace hx159_2 := (HB.out.cell (World.block_lt_of_cell? w _ hx159_2)).trans hx159_2
            replace hx159_3 := (HB.out.cell (World.block_lt_of_cell? w _ hx159_3)).trans hx159_3
            replace p159 := eq_true p159
            replace q159 := eq_true q159
            have hcz8_0 : wr.cell? ⟨gb158, 0, none⟩ = some (.int .i64 a1_0) := (blk_cell BK158.out 0).trans rfl
            have hcz8_1 : wr.cell? ⟨gb158, 1, none⟩ = some (.int .u64 a1_1) := (blk_cell BK158.out 1).trans rfl
            have hcz8_2 : wr.cell? ⟨gb158, 2, none⟩ = some (.int .i64 a1_2) := (blk_cell BK158.out 2).trans rfl
            have hfz8_0 := blk_frozen BK158.out 0
            have hfz8_1 := blk_frozen BK158.out 1
            have hfz8_2 := blk_frozen BK158.out 2
            go_wp2
            repeat (go_quiet (fail); try go_wp2)
            go_roundg k1
            case measure => have := HK1.out; omega
            case rel => exact ⟨(wrap64 (x5_1 + 1)), (by first | rfl | (simp; done) | (simp [*]; done)), H', ⟨by have := HK1.out; omega⟩, ⟨by (with_reducible repeat (first | refine blk_drewN ?_ _ | refine blk_drew ?_ | refine blk_alloc ?_ _)); exact BK158.out⟩, ⟨by repeat (first | (with_reducible first | exact HB.out | apply below_alloc | apply pw_below_drewN | apply below_drew1 | refine below_set ?_ GE158.out) | exact HB.out)⟩⟩
        · rw [if_neg c5] at H
          exact absurd H (by simp)
      · rw [if_neg c4] at H
        have c4b0 : decide (x5_1 < (l0.length : Int)) = false := decide_eq_false c4
        clear c4
        obtain rfl := Option.some.inj H
        go_wp2
        repeat (go_quiet (fail); try go_wp2)
        go_ret
        exact ⟨by first | rfl | (simp [errW_none, errW_some] <;> rfl) | (simp [*, errW_none, errW_some] <;> rfl), by repeat (first | (with_reducible first | exact HB.out | apply below_alloc | apply pw_below_drewN | apply below_drew1 | refine below_set ?_ GE158.out) | exact HB.out)⟩

end Go.Proofs.Ytgmdlndiilibpaa.PH

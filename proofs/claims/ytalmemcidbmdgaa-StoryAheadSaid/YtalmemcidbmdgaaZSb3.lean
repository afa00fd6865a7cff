import Derived.Test.YtalmemcidbmdgaaZSb1
import Derived.Test.YtalmemcidbmdgaaZSb2
import Derived.Laws.BitsLemmas
import Derived.Laws.Bits64
import Derived.Test.YtalmemcidbmdgaaZSb0
-- written by xprint.py, a program of this session, over the kit's print (functions told by hand: see the texts)
namespace Go.Proofs.Ytalmemcidbmdgaa.PM
open Go.RowKit Go.Proofs.YtalmemcidbmdgaaW.PrintWords Go.Proofs.YtalmemcidbmdgaaW.PrintLast Go.Proofs.YtalmemcidbmdgaaW.PrintMore
attribute [local go_sem] max2_int min2_int max_two min_two max_three min_three max_four min_four   -- for this text's walks alone
set_option linter.unusedVariables false
set_option linter.unusedSimpArgs false

/-! ### fault_May: function 67 -/
def fault_May.f (a0_0 : Int) (a0_1 : Bool) (a0_2 : Int) : Option (Bool) := if a0_0 ≥ 0 then (some (decide (a0_0 < 4))) else (some false)
set_option maxHeartbeats 8000000 in
set_option maxRecDepth 100000 in
theorem fault_May.calls (a0_0 : Int) (a0_1 : Bool) (a0_2 : Int) (r : Bool) (w : World) (h : fault_May.f a0_0 a0_1 a0_2 = some r) :
    Calls Try.prog 67 #[.agg #[.int .i64 a0_0, .bool a0_1, .int .u64 a0_2]] w fun e w' => e = .returned (.bool r) ∧ Below w.heap.size w w' := by
  have hu32 := Try.underlying32
  have HB := Aside0.mk (Below.refl w.heap.size w)
  have H : (if a0_0 ≥ 0 then (some (decide (a0_0 < 4))) else (some false)) = some r := h
  clear h
  by_cases c2 : a0_0 ≥ 0
  · rw [if_pos c2] at H
    have c2b0 : decide (0 ≤ a0_0) = true := decide_eq_true c2
    clear c2
    obtain rfl := Option.some.inj H
    go_enter Try.func67, Try.ntmps67
    go_wp2_with (first | ((with_reducible refine gate_dst (N := 1) rfl ?_); refine box_event ?hg (N := 1) ?hd (cs := #[.int .i64 a0_0, .bool a0_1, .int .u64 a0_2]) (t := 32) ?hr ?_; (case hd => rfl); (case hg => rfl); (case hr => first | (go_simp; done) | (go_simp; rfl)); intro gb228 hg w3 hbox hb; have n0_ := Aside0.mk (below_step (by repeat (first | (with_reducible first | exact HB.out | apply below_alloc | apply pw_below_drewN | apply below_drew1) | exact HB.out)) hb); have n1_ := Aside0.mk (hbox); have n2_ := Aside0.mk ((by rw [hg]; exact (below_size (by repeat (first | (with_reducible first | exact HB.out | apply below_alloc | apply pw_below_drewN | apply below_drew1) | exact HB.out))) : w.heap.size ≤ gb228)); have n3_ := Aside0.mk ((by rw [hg]; exact (below_size (by repeat (first | (with_reducible first | exact HB.out | apply below_alloc | apply pw_below_drewN | apply below_drew1) | exact HB.out))) : w.heap.size ≤ gb228)); clear HB; have HB := n0_; have BK228 := n1_; have GW228 := n2_; have GE228 := n3_; clear n0_ n1_ n2_ n3_; clear hb hbox hg; have hcz4_0 : w3.cell? ⟨gb228, 0, none⟩ = some (.int .i64 a0_0) := (blk_cell BK228.out 0).trans rfl; have hcz4_1 : w3.cell? ⟨gb228, 1, none⟩ = some (.bool a0_1) := (blk_cell BK228.out 1).trans rfl; have hcz4_2 : w3.cell? ⟨gb228, 2, none⟩ = some (.int .u64 a0_2) := (blk_cell BK228.out 2).trans rfl; have hfz4_0 := blk_frozen BK228.out 0; have hfz4_1 := blk_frozen BK228.out 1; have hfz4_2 := blk_frozen BK228.out 2))
    go_ret
    exact ⟨by first | rfl | (simp [errW_none, errW_some] <;> rfl) | (simp [*, errW_none, errW_some] <;> rfl), by repeat (first | (with_reducible first | exact HB.out | apply below_alloc | apply pw_below_drewN | apply below_drew1 | refine below_set ?_ GE228.out) | exact HB.out)⟩
  · rw [if_neg c2] at H
    have c2b0 : decide (0 ≤ a0_0) = false := decide_eq_false c2
    clear c2
    obtain rfl := Option.some.inj H
    go_enter Try.func67, Try.ntmps67
    go_wp2_with (first | ((with_reducible refine gate_dst (N := 1) rfl ?_); refine box_event ?hg (N := 1) ?hd (cs := #[.int .i64 a0_0, .bool a0_1, .int .u64 a0_2]) (t := 32) ?hr ?_; (case hd => rfl); (case hg => rfl); (case hr => first | (go_simp; done) | (go_simp; rfl)); intro gb228 hg w5 hbox hb; have n0_ := Aside0.mk (below_step (by repeat (first | (with_reducible first | exact HB.out | apply below_alloc | apply pw_below_drewN | apply below_drew1) | exact HB.out)) hb); have n1_ := Aside0.mk (hbox); have n2_ := Aside0.mk ((by rw [hg]; exact (below_size (by repeat (first | (with_reducible first | exact HB.out | apply below_alloc | apply pw_below_drewN | apply below_drew1) | exact HB.out))) : w.heap.size ≤ gb228)); have n3_ := Aside0.mk ((by rw [hg]; exact (below_size (by repeat (first | (with_reducible first | exact HB.out | apply below_alloc | apply pw_below_drewN | apply below_drew1) | exact HB.out))) : w.heap.size ≤ gb228)); clear HB; have HB := n0_; have BK228 := n1_; have GW228 := n2_; have GE228 := n3_; clear n0_ n1_ n2_ n3_; clear hb hbox hg; have hcz6_0 : w5.cell? ⟨gb228, 0, none⟩ = some (.int .i64 a0_0) := (blk_cell BK228.out 0).trans rfl; have hcz6_1 : w5.cell? ⟨gb228, 1, none⟩ = some (.bool a0_1) := (blk_cell BK228.out 1).trans rfl; have hcz6_2 : w5.cell? ⟨gb228, 2, none⟩ = some (.int .u64 a0_2) := (blk_cell BK228.out 2).trans rfl; have hfz6_0 := blk_frozen BK228.out 0; have hfz6_1 := blk_frozen BK228.out 1; have hfz6_2 := blk_frozen BK228.out 2))
    go_ret
    exact ⟨by first | rfl | (simp [errW_none, errW_some] <;> rfl) | (simp [*, errW_none, errW_some] <;> rfl), by repeat (first | (with_reducible first | exact HB.out | apply below_alloc | apply pw_below_drewN | apply below_drew1 | refine below_set ?_ GE228.out) | exact HB.out)⟩

/-! ### model_told: function 37 -/
def model_told.f (a0 : Int) : Option (Int × Int × Int) := some (a0, 0, 0)
set_option maxHeartbeats 8000000 in
set_option maxRecDepth 100000 in
theorem model_told.calls (a0 : Int) (r1 : Int) (r2 : Int) (r3 : Int) (w : World) (h : model_told.f a0 = some (r1, r2, r3)) :
    Calls Try.prog 37 #[.int .i64 a0] w fun e w' => e = .returned (.agg #[.int .i64 r1, .int .i64 r2, .int .u8 r3]) ∧ Below w.heap.size w w' := by
  have hu42 := Try.underlying42
  have HB := Aside0.mk (Below.refl w.heap.size w)
  have H : (some (a0, 0, 0)) = some (r1, r2, r3) := h
  clear h
  simp only [Option.some.injEq, Prod.mk.injEq] at H
  obtain ⟨rfl, rfl, rfl⟩ := H
  go_enter Try.func37, Try.ntmps37
  go_wp2_with (first | ((with_reducible refine gate_dst (N := 2) rfl ?_); refine box_event ?hg (N := 2) ?hd (cs := #[.int .i64 0, .int .i64 0, .int .u8 0]) (t := 42) ?hr ?_; (case hd => rfl); (case hg => rfl); (case hr => first | (go_simp; done) | (go_simp; rfl)); intro gb229 hg w2 hbox hb; have n0_ := Aside0.mk (below_step (by repeat (first | (with_reducible first | exact HB.out | apply below_alloc | apply pw_below_drewN | apply below_drew1) | exact HB.out)) hb); have n1_ := Aside0.mk (hbox); have n2_ := Aside0.mk ((by rw [hg]; exact (below_size (by repeat (first | (with_reducible first | exact HB.out | apply below_alloc | apply pw_below_drewN | apply below_drew1) | exact HB.out))) : w.heap.size ≤ gb229)); have n3_ := Aside0.mk ((by rw [hg]; exact (below_size (by repeat (first | (with_reducible first | exact HB.out | apply below_alloc | apply pw_below_drewN | apply below_drew1) | exact HB.out))) : w.heap.size ≤ gb229)); clear HB; have HB := n0_; have BK229 := n1_; have GW229 := n2_; have GE229 := n3_; clear n0_ n1_ n2_ n3_; clear hb hbox hg; have hcz3_0 : w2.cell? ⟨gb229, 0, none⟩ = some (.int .i64 0) := (blk_cell BK229.out 0).trans rfl; have hcz3_1 : w2.cell? ⟨gb229, 1, none⟩ = some (.int .i64 0) := (blk_cell BK229.out 1).trans rfl; have hcz3_2 : w2.cell? ⟨gb229, 2, none⟩ = some (.int .u8 0) := (blk_cell BK229.out 2).trans rfl; have hfz3_0 := blk_frozen BK229.out 0; have hfz3_1 := blk_frozen BK229.out 1; have hfz3_2 := blk_frozen BK229.out 2))
  refine bodyPost_ret (results_cell_row rfl _ _ gb229 42 #[.int .i64 a0, .int .i64 0, .int .u8 0] (0, 0) _ rfl (by (with_reducible repeat (first | refine blk_drewN ?_ _ | refine blk_drew ?_ | refine blk_alloc ?_ _)); refine blk_put (cs := #[.int .i64 a0, .int .i64 0, .int .u8 0]) ?_ 2 _ rfl; (with_reducible repeat (first | refine blk_drewN ?_ _ | refine blk_drew ?_ | refine blk_alloc ?_ _)); refine blk_put (cs := #[.int .i64 a0, .int .i64 0, .int .u8 0]) ?_ 1 _ rfl; (with_reducible repeat (first | refine blk_drewN ?_ _ | refine blk_drew ?_ | refine blk_alloc ?_ _)); refine blk_put (cs := #[.int .i64 0, .int .i64 0, .int .u8 0]) ?_ 0 _ rfl; (with_reducible repeat (first | refine blk_drewN ?_ _ | refine blk_drew ?_ | refine blk_alloc ?_ _)); exact BK229.out) Try.underlying42 rfl (by kernel_rfl)) rfl ?_
  exact ⟨by first | rfl | (simp [errW_none, errW_some] <;> rfl) | (simp [*, errW_none, errW_some] <;> rfl), by repeat (first | (with_reducible first | exact HB.out | apply below_alloc | apply pw_below_drewN | apply below_drew1 | refine below_set ?_ GE229.out) | exact HB.out)⟩

/-! ### model_spotOf: function 52 -/
def model_spotOf.f (a0_0 : Int) (a0_1 : Int) (a0_2 : Int) (a0_3 : Bool) (a0_4 : Bool) (a0_5 : Bool) (a0_6 : Bool) (a0_7 : Bool) (a0_8 : Bool) (a0_9 : Bool) (a0_10 : Bool) (a1 : Int) : Option (Int × Int) := (page_Offset.f a1 a0_1).bind fun t232 => (some (wrap64 (a0_2), t232))
def model_spotOf.T1 : Bool × List (List Nat × List Nat) := (true, [([], []), ([0], [0]), ([1], [1]), ([], []), ([], []), ([4], [4]), ([3, 5], [3, 5]), ([2, 6], [2, 6]), ([7, 6, 0, 1, 2, 3, 4, 5, 6, 7], [7])])
def model_spotOf.B1 : List Nat := [0, 1, 3, 0, 0, 16, 56, 127, 255]
theorem model_spotOf.tab1 : rtab .any (opsOf Try.f52 1) = model_spotOf.T1 := by kernel_rfl
theorem model_spotOf.bits1 : waitsOk model_spotOf.T1.2 model_spotOf.B1 = true := by kernel_rfl
set_option maxHeartbeats 8000000 in
set_option maxRecDepth 100000 in
theorem model_spotOf.calls (a0_0 : Int) (a0_1 : Int) (a0_2 : Int) (a0_3 : Bool) (a0_4 : Bool) (a0_5 : Bool) (a0_6 : Bool) (a0_7 : Bool) (a0_8 : Bool) (a0_9 : Bool) (a0_10 : Bool) (a1 : Int) (r1 : Int) (r2 : Int) (w : World) (h : model_spotOf.f a0_0 a0_1 a0_2 a0_3 a0_4 a0_5 a0_6 a0_7 a0_8 a0_9 a0_10 a1 = some (r1, r2)) :
    Calls Try.prog 52 #[.agg #[.int .u64 a0_0, .int .i64 a0_1, .int .u64 a0_2, .bool a0_3, .bool a0_4, .bool a0_5, .bool a0_6, .bool a0_7, .bool a0_8, .bool a0_9, .bool a0_10], .int .u64 a1] w fun e w' => e = .returned (.agg #[.int .i64 r1, .int .u64 r2]) ∧ Below w.heap.size w w' := by
  have hu50 := Try.underlying50
  have hu91 := Try.underlying91
  have HB := Aside0.mk (Below.refl w.heap.size w)
  have H : ((page_Offset.f a1 a0_1).bind fun t232 => (some (wrap64 (a0_2), t232))) = some (r1, r2) := h
  clear h
  replace H := Option.bind_eq_some_iff.mp H
  obtain ⟨t232, A30, H⟩ := H
  replace H : (some (wrap64 (a0_2), t232)) = some (r1, r2) := H
  have A3 := Aside0.mk A30
  clear A30
  simp only [Option.some.injEq, Prod.mk.injEq] at H
  obtain ⟨rfl, rfl⟩ := H
  go_enter Try.func52, Try.ntmps52
  try go_wp2_with (first | ((with_reducible refine gate_dst (N := 2) rfl ?_); refine box_event ?hg (N := 2) ?hd (cs := #[.int .u64 a0_0, .int .i64 a0_1, .int .u64 a0_2, .bool a0_3, .bool a0_4, .bool a0_5, .bool a0_6, .bool a0_7, .bool a0_8, .bool a0_9, .bool a0_10]) (t := 50) ?hr ?_; (case hd => rfl); (case hg => rfl); (case hr => first | (go_simp; done) | (go_simp; rfl)); intro gb230 hg w4 hbox hb; have n0_ := Aside0.mk (below_step (by repeat (first | (with_reducible first | exact HB.out | apply below_alloc | apply pw_below_drewN | apply below_drew1) | exact HB.out)) hb); have n1_ := Aside0.mk (hbox); have n2_ := Aside0.mk ((by rw [hg]; exact (below_size (by repeat (first | (with_reducible first | exact HB.out | apply below_alloc | apply pw_below_drewN | apply below_drew1) | exact HB.out))) : w.heap.size ≤ gb230)); have n3_ := Aside0.mk ((by rw [hg]; exact (below_size (by repeat (first | (with_reducible first | exact HB.out | apply below_alloc | apply pw_below_drewN | apply below_drew1) | exact HB.out))) : w.heap.size ≤ gb230)); clear HB; have HB := n0_; have BK230 := n1_; have GW230 := n2_; have GE230 := n3_; clear n0_ n1_ n2_ n3_; clear hb hbox hg) | ((with_reducible refine gate_dst (N := 4) rfl ?_); refine box_event ?hg (N := 4) ?hd (cs := #[.int .i64 0, .int .u64 0]) (t := 91) ?hr ?_; (case hd => rfl); (case hg => rfl); (case hr => first | (go_simp; done) | (go_simp; rfl)); intro gb231 hg w5 hbox hb; have n0_ := Aside0.mk (blk_below (g := gb230) (o := .cells #[.int .u64 a0_0, .int .i64 a0_1, .int .u64 a0_2, .bool a0_3, .bool a0_4, .bool a0_5, .bool a0_6, .bool a0_7, .bool a0_8, .bool a0_9, .bool a0_10] 50 (0, 0)) (by (with_reducible repeat (first | refine blk_drewN ?_ _ | refine blk_drew ?_ | refine blk_alloc ?_ _)); exact BK230.out) hb); have n1_ := Aside0.mk (below_step (by repeat (first | (with_reducible first | exact HB.out | apply below_alloc | apply pw_below_drewN | apply below_drew1 | refine below_set ?_ GE230.out) | exact HB.out)) hb); have n2_ := Aside0.mk (hbox); have n3_ := Aside0.mk ((by rw [hg]; exact (below_size (by repeat (first | (with_reducible first | exact HB.out | apply below_alloc | apply pw_below_drewN | apply below_drew1 | refine below_set ?_ GE230.out) | exact HB.out))) : w.heap.size ≤ gb231)); have n4_ := Aside0.mk ((by rw [hg]; exact (below_size (by repeat (first | (with_reducible first | exact HB.out | apply below_alloc | apply pw_below_drewN | apply below_drew1 | refine below_set ?_ GE230.out) | exact HB.out))) : w.heap.size ≤ gb231)); have n5_ := Aside0.mk ((by rw [hg]; exact Nat.ne_of_lt (blk_lt (g := gb230) (o := .cells #[.int .u64 a0_0, .int .i64 a0_1, .int .u64 a0_2, .bool a0_3, .bool a0_4, .bool a0_5, .bool a0_6, .bool a0_7, .bool a0_8, .bool a0_9, .bool a0_10] 50 (0, 0)) (by (with_reducible repeat (first | refine blk_drewN ?_ _ | refine blk_drew ?_ | refine blk_alloc ?_ _)); exact BK230.out)) : gb230 ≠ gb231)); have n6_ := Aside0.mk ((by rw [hg]; exact Nat.ne_of_gt (blk_lt (g := gb230) (o := .cells #[.int .u64 a0_0, .int .i64 a0_1, .int .u64 a0_2, .bool a0_3, .bool a0_4, .bool a0_5, .bool a0_6, .bool a0_7, .bool a0_8, .bool a0_9, .bool a0_10] 50 (0, 0)) (by (with_reducible repeat (first | refine blk_drewN ?_ _ | refine blk_drew ?_ | refine blk_alloc ?_ _)); exact BK230.out)) : gb231 ≠ gb230)); clear BK230; clear HB; have BK230 := n0_; have HB := n1_; have BK231 := n2_; have GW231 := n3_; have GE231 := n4_; have NB230_231 := n5_; have NB231_230 := n6_; clear n0_ n1_ n2_ n3_ n4_ n5_ n6_; clear hb hbox hg))
  have n0_ := Aside0.mk (blk_drew BK230.out)
  have n1_ := Aside0.mk (blk_drew BK231.out)
  have n2_ := Aside0.mk (below_drew1 HB.out)
  clear BK230
  clear BK231
  clear HB
  have BK230 := n0_
  have BK231 := n1_
  have HB := n2_
  clear n0_ n1_ n2_
  refine start_ (n := 9) (S := fun w' => w'.cell? ⟨gb230, 0, none⟩ = some (.int .u64 a0_0) ∧ w'.cell? ⟨gb230, 1, none⟩ = some (.int .i64 a0_1) ∧ w'.cell? ⟨gb230, 2, none⟩ = some (.int .u64 a0_2) ∧ w'.cell? ⟨gb230, 3, none⟩ = some (.bool a0_3) ∧ w'.cell? ⟨gb230, 4, none⟩ = some (.bool a0_4) ∧ w'.cell? ⟨gb230, 5, none⟩ = some (.bool a0_5) ∧ w'.cell? ⟨gb230, 6, none⟩ = some (.bool a0_6) ∧ w'.cell? ⟨gb230, 7, none⟩ = some (.bool a0_7) ∧ w'.cell? ⟨gb230, 8, none⟩ = some (.bool a0_8) ∧ w'.cell? ⟨gb230, 9, none⟩ = some (.bool a0_9) ∧ w'.cell? ⟨gb230, 10, none⟩ = some (.bool a0_10)) (ds := []) #[false, false, false, false, false, false, false, false, false] (by kernel_rfl) rfl rfl ⟨(blk_cell BK230.out 0).trans rfl, (blk_cell BK230.out 1).trans rfl, (blk_cell BK230.out 2).trans rfl, (blk_cell BK230.out 3).trans rfl, (blk_cell BK230.out 4).trans rfl, (blk_cell BK230.out 5).trans rfl, (blk_cell BK230.out 6).trans rfl, (blk_cell BK230.out 7).trans rfl, (blk_cell BK230.out 8).trans rfl, (blk_cell BK230.out 9).trans rfl, (blk_cell BK230.out 10).trans rfl⟩ (fun hHeld => ?_); refine with_tabW model_spotOf.tab1 model_spotOf.bits1 (fun HT_ HW_ => ?_)
  generalize w5.drew = w6 at BK230 BK231 HB hHeld ⊢
  refine pure_ (i := 0) (N := some 5) (v := ?_) (a' := ?_) #[true, false, false, false, false, false, false, false, false] rfl rfl (any_of HT_.out (by kernel_rfl)) (fun _ _ _ h => h) (Or.inl ⟨by rfl, ?_⟩) ?_ ?_
  rotate_left
  · intro w'
    go_simp
    with_reducible rfl
  rotate_left
  · simp only [Act.put, List.setIfInBounds_toArray, List.set_cons_zero, List.set_cons_succ, i64_w, i32_w]
    rfl
  refine pure_ (i := 3) (N := some 8) (v := ?_) (a' := ?_) #[true, false, false, true, false, false, false, false, false] rfl rfl (any_of HT_.out (by kernel_rfl)) (fun _ _ _ h => h) (Or.inl ⟨by rfl, ?_⟩) ?_ ?_
  rotate_left
  · intro w'
    go_simp
    with_reducible rfl
  rotate_left
  · simp only [Act.put, List.setIfInBounds_toArray, List.set_cons_zero, List.set_cons_succ, i64_w, i32_w]
    rfl
  refine pure_ (i := 4) (N := some 9) (v := ?_) (a' := ?_) #[true, false, false, true, true, false, false, false, false] rfl rfl (any_of HT_.out (by kernel_rfl)) (fun _ _ _ h => h) (Or.inl ⟨by rfl, ?_⟩) ?_ ?_
  rotate_left
  · intro w'
    go_simp
    with_reducible rfl
  rotate_left
  · simp only [Act.put, List.setIfInBounds_toArray, List.set_cons_zero, List.set_cons_succ, i64_w, i32_w]
    rfl
  refine take_ (i := 1) (N := some 6) (v := ?_) (a' := ?_) #[true, true, false, true, true, false, false, false, false] rfl rfl (take_ofW HT_.out HW_.out (by kernel_rfl)) (fun _ _ _ h => h) (Or.inl ⟨by rfl, ?_⟩) hHeld ?_ ?_
  rotate_left
  · rintro w' ⟨s0, s1, s2, s3, s4, s5, s6, s7, s8, s9, s10⟩
    go_simp
    with_reducible rfl
  rotate_left
  · simp only [Act.put, List.setIfInBounds_toArray, List.set_cons_zero, List.set_cons_succ, i64_w, i32_w]
    rfl
  refine pure_ (i := 2) (N := some 7) (v := ?_) (a' := ?_) #[true, true, true, true, true, false, false, false, false] rfl rfl (any_of HT_.out (by kernel_rfl)) (fun _ _ _ h => h) (Or.inl ⟨by rfl, ?_⟩) ?_ ?_
  rotate_left
  · intro w'
    go_simp
    with_reducible rfl
  rotate_left
  · simp only [Act.put, List.setIfInBounds_toArray, List.set_cons_zero, List.set_cons_succ, i64_w, i32_w]
    rfl
  refine take_ (i := 5) (N := some 10) (v := ?_) (a' := ?_) #[true, true, true, true, true, true, false, false, false] rfl rfl (take_ofW HT_.out HW_.out (by kernel_rfl)) (fun _ _ _ h => h) (Or.inl ⟨by rfl, ?_⟩) hHeld ?_ ?_
  rotate_left
  · rintro w' ⟨s0, s1, s2, s3, s4, s5, s6, s7, s8, s9, s10⟩
    go_simp
    with_reducible rfl
  rotate_left
  · simp only [Act.put, List.setIfInBounds_toArray, List.set_cons_zero, List.set_cons_succ, i64_w, i32_w]
    rfl
  refine one_ (i := 6) (N := some 11) #[true, true, true, true, true, true, true, false, false] rfl rfl (one_of HT_.out (by kernel_rfl)) (by decide) (fun K hK => ?_)
  refine goes_ Try.func80 (by kernel_rfl) rfl #[.int .u64 a1, .int .i64 a0_1] (by rfl) rfl rfl (by (try simp only [List.map_toArray, List.map_cons, List.map_nil]); first | done | rfl | (simp only [List.length_drop, List.length_take]; rfl)) ?_
  with_reducible refine (page_Offset.calls a1 a0_1 t232 _ A3.out).mono ?_
  rintro e w' ⟨rfl, ⟨nd, rfl⟩⟩
  refine ⟨_, rfl, ?_⟩
  refine hK.out _ _ ⟨(blk_cell BK230.out 0).trans rfl, (blk_cell BK230.out 1).trans rfl, (blk_cell BK230.out 2).trans rfl, (blk_cell BK230.out 3).trans rfl, (blk_cell BK230.out 4).trans rfl, (blk_cell BK230.out 5).trans rfl, (blk_cell BK230.out 6).trans rfl, (blk_cell BK230.out 7).trans rfl, (blk_cell BK230.out 8).trans rfl, (blk_cell BK230.out 9).trans rfl, (blk_cell BK230.out 10).trans rfl⟩ (fun hHeld => ?_)
  clear hK K
  refine norm_ (a' := ?_) ?_ ?_
  rotate_left
  · show Act.put _ (some 11) _ = _
    simp only [Act.put, List.setIfInBounds_toArray, List.set_cons_zero, List.set_cons_succ, i64_w, i32_w]
    rfl
  refine pure_ (i := 7) (N := some 12) (v := ?_) (a' := ?_) #[true, true, true, true, true, true, true, true, false] rfl rfl (any_of HT_.out (by kernel_rfl)) (fun _ _ _ h => h) (Or.inl ⟨by rfl, ?_⟩) ?_ ?_
  rotate_left
  · intro w'
    go_simp
    with_reducible rfl
  rotate_left
  · simp only [Act.put, List.setIfInBounds_toArray, List.set_cons_zero, List.set_cons_succ, i64_w, i32_w]
    rfl
  refine one_ (i := 8) (N := none) #[true, true, true, true, true, true, true, true, true] rfl rfl (one_of HT_.out (by kernel_rfl)) (by decide) (fun K hK => ?_)
  have hs7 : w6.cell? ⟨gb231, 0, none⟩ = some (.int .i64 0) := (blk_cell BK231.out 0).trans rfl
  have hfs7 := blk_frozen BK231.out 0
  have hns7_0 := NB230_231.out
  have hms7_0 := NB231_230.out
  have hs8 : w6.cell? ⟨gb231, 1, none⟩ = some (.int .u64 0) := (blk_cell BK231.out 1).trans rfl
  have hfs8 := blk_frozen BK231.out 1
  have hns8_0 := NB230_231.out
  have hms8_0 := NB231_230.out
  refine skip_ (w1 := ?_) (by rfl) rfl ?_ ?_
  rotate_left
  · go_simp
    rfl
  refine hK.out _ _ ⟨((cell_far (p := ⟨gb231, _, none⟩) NB230_231.out _).trans (((cell_far (p := ⟨gb231, _, none⟩) NB230_231.out _).trans (hHeld.1)))), ((cell_far (p := ⟨gb231, _, none⟩) NB230_231.out _).trans (((cell_far (p := ⟨gb231, _, none⟩) NB230_231.out _).trans (hHeld.2.1)))), ((cell_far (p := ⟨gb231, _, none⟩) NB230_231.out _).trans (((cell_far (p := ⟨gb231, _, none⟩) NB230_231.out _).trans (hHeld.2.2.1)))), ((cell_far (p := ⟨gb231, _, none⟩) NB230_231.out _).trans (((cell_far (p := ⟨gb231, _, none⟩) NB230_231.out _).trans (hHeld.2.2.2.1)))), ((cell_far (p := ⟨gb231, _, none⟩) NB230_231.out _).trans (((cell_far (p := ⟨gb231, _, none⟩) NB230_231.out _).trans (hHeld.2.2.2.2.1)))), ((cell_far (p := ⟨gb231, _, none⟩) NB230_231.out _).trans (((cell_far (p := ⟨gb231, _, none⟩) NB230_231.out _).trans (hHeld.2.2.2.2.2.1)))), ((cell_far (p := ⟨gb231, _, none⟩) NB230_231.out _).trans (((cell_far (p := ⟨gb231, _, none⟩) NB230_231.out _).trans (hHeld.2.2.2.2.2.2.1)))), ((cell_far (p := ⟨gb231, _, none⟩) NB230_231.out _).trans (((cell_far (p := ⟨gb231, _, none⟩) NB230_231.out _).trans (hHeld.2.2.2.2.2.2.2.1)))), ((cell_far (p := ⟨gb231, _, none⟩) NB230_231.out _).trans (((cell_far (p := ⟨gb231, _, none⟩) NB230_231.out _).trans (hHeld.2.2.2.2.2.2.2.2.1)))), ((cell_far (p := ⟨gb231, _, none⟩) NB230_231.out _).trans (((cell_far (p := ⟨gb231, _, none⟩) NB230_231.out _).trans (hHeld.2.2.2.2.2.2.2.2.2.1)))), ((cell_far (p := ⟨gb231, _, none⟩) NB230_231.out _).trans (((cell_far (p := ⟨gb231, _, none⟩) NB230_231.out _).trans (hHeld.2.2.2.2.2.2.2.2.2.2))))⟩ (fun hHeld => ?_)
  clear hK K
  refine done_ (done_of HT_.out (by kernel_rfl)) ?_
  try go_wp2
  refine bodyPost_ret (results_cell_row rfl _ _ gb231 91 #[.int .i64 (wrap64 (a0_2)), .int .u64 t232] (0, 0) _ rfl (by (with_reducible repeat (first | refine blk_drewN ?_ _ | refine blk_drew ?_ | refine blk_alloc ?_ _)); refine blk_put (cs := #[.int .i64 (wrap64 (a0_2)), .int .u64 0]) ?_ 1 _ rfl; (with_reducible repeat (first | refine blk_drewN ?_ _ | refine blk_drew ?_ | refine blk_alloc ?_ _)); refine blk_put (cs := #[.int .i64 0, .int .u64 0]) ?_ 0 _ rfl; (with_reducible repeat (first | refine blk_drewN ?_ _ | refine blk_drew ?_ | refine blk_alloc ?_ _)); exact BK231.out) Try.underlying91 rfl (by kernel_rfl)) rfl ?_
  exact ⟨by first | rfl | (simp [errW_none, errW_some] <;> rfl) | (simp [*, errW_none, errW_some] <;> rfl), by repeat (first | (with_reducible first | exact HB.out | apply below_alloc | apply pw_below_drewN | apply below_drew1 | refine below_set ?_ GE230.out | refine below_set ?_ GE231.out) | exact HB.out)⟩

/-! ### model_Frees: function 24 -/
def model_Frees.f (a0 : Int) : Option (Bool) := if a0 = 6 then (some true) else (if a0 = 7 then (some true) else (some (a0 == 8)))
set_option maxHeartbeats 8000000 in
set_option maxRecDepth 100000 in
theorem model_Frees.calls (a0 : Int) (r : Bool) (w : World) (h : model_Frees.f a0 = some r) :
    Calls Try.prog 24 #[.int .i64 a0] w fun e w' => e = .returned (.bool r) ∧ Drawn0 w w' := by
  have H : (if a0 = 6 then (some true) else (if a0 = 7 then (some true) else (some (a0 == 8)))) = some r := h
  clear h
  by_cases c2 : a0 = 6
  · rw [if_pos c2] at H
    have c2b0 : (a0 == 6) = true := beq_iff_eq.mpr c2
    have c2b1 : (a0 != 6) = false := bne_eq_false_iff_eq.mpr c2
    clear c2
    obtain rfl := Option.some.inj H
    go_enter Try.func24, Try.ntmps24
    go_wp2
    go_ret
    exact ⟨by first | rfl | (simp; done) | (simp [*]; done), by repeat (first | exact Drawn0.refl _ | apply Drawn0.step)⟩
  · rw [if_neg c2] at H
    have c2b0 : (a0 == 6) = false := beq_eq_false_iff_ne.mpr c2
    have c2b1 : (a0 != 6) = true := bne_iff_ne.mpr c2
    by_cases c3 : a0 = 7
    · rw [if_pos c3] at H
      have c3b0 : (a0 == 7) = true := beq_iff_eq.mpr c3
      have c3b1 : (a0 != 7) = false := bne_eq_false_iff_eq.mpr c3
      clear c3
      obtain rfl := Option.some.inj H
      go_enter Try.func24, Try.ntmps24
      go_wp2
      go_ret
      exact ⟨by first | rfl | (simp; done) | (simp [*]; done), by repeat (first | exact Drawn0.refl _ | apply Drawn0.step)⟩
    · rw [if_neg c3] at H
      have c3b0 : (a0 == 7) = false := beq_eq_false_iff_ne.mpr c3
      have c3b1 : (a0 != 7) = true := bne_iff_ne.mpr c3
      obtain rfl := Option.some.inj H
      go_enter Try.func24, Try.ntmps24
      go_wp2
      go_ret
      exact ⟨by first | rfl | (simp; done) | (simp [*]; done), by repeat (first | exact Drawn0.refl _ | apply Drawn0.step)⟩

/-- THE ONE PURE STATEMENT of model_Frees: yours. -/
def model_Frees.Pure : Prop := ∀ (a0 : Int), (Lit.int .i64 a0).wf = true → model_Frees.f a0 = some true
theorem model_Frees.walk (P : model_Frees.Pure) (a0 : Int) (w : World) (w0 : (Lit.int .i64 a0).wf = true) :
    Calls Try.prog 24 #[.int .i64 a0] w fun e w' => e = .returned (.bool true) ∧ Below w.heap.size w w' := by
  have h := P a0 w0
  refine (model_Frees.calls a0 true w h).mono ?_
  rintro e w' ⟨rfl, hd⟩
  exact ⟨rfl, hd.below⟩

end Go.Proofs.Ytalmemcidbmdgaa.PM

-- written by xprint.py, a program of this session, over the kit's print (functions told by hand: see the texts)
namespace Go.Proofs.Ytalmemcidbmdgaa.PM
open Go.RowKit Go.Proofs.YtalmemcidbmdgaaW.PrintWords Go.Proofs.YtalmemcidbmdgaaW.PrintLast Go.Proofs.YtalmemcidbmdgaaW.PrintMore
attribute [local go_sem] max2_int min2_int max_two min_two max_three min_three max_four min_four   -- for this text's walks alone
set_option linter.unusedVariables false
set_option linter.unusedSimpArgs false

attribute [local go_sem high] eqA42
/-! ### story_Room: function 25 -/
def story_Room.j0 : Nat → Bool → Int → Int → Int → Bool → Int → Int → Int → Int → Bool → Bool → Bool → Bool → Bool → Bool → Int → Int → Int → Int → Int → Option (Bool)
  | 0, _, _, _, _, _, _, _, _, _, _, _, _, _, _, _, _, _, _, _, _ => none
  | k + 1, x16, x234000, x234001, x234002, x234003, x234004, x234005, x234006, x234007, x234008, x234009, x234010, x234011, x234012, x234013, x234014, x234015, x235000, x235001, x235002 => if x16 = true then (some false) else (if x234000 = 0 then (some (x235000 != 6)) else (if x234000 = 1 then (some (x235000 == 6)) else (if x234000 = 5 then (some (x235000 == 6)) else (if x234000 = 6 then (some (x235000 == 6)) else (some false)))))
def story_Room.f (k : Nat) (a0_0 : Int) (a0_1 : Int) (a0_2 : Int) (a0_3 : Bool) (a0_4 : Int) (a0_5 : Int) (a0_6 : Int) (a0_7 : Int) (a0_8 : Bool) (a0_9 : Bool) (a0_10 : Bool) (a0_11 : Bool) (a0_12 : Bool) (a0_13 : Bool) (a0_14 : Int) (a0_15 : Int) (a1_0 : Int) (a1_1 : Int) (a1_2 : Int) : Option (Bool) := if (!(a1_1 == 0) || (!(a1_2 == 0))) = true then (story_Room.j0 k true a0_0 a0_1 a0_2 a0_3 a0_4 a0_5 a0_6 a0_7 a0_8 a0_9 a0_10 a0_11 a0_12 a0_13 a0_14 a0_15 a1_0 a1_1 a1_2) else ((model_Frees.f a1_0).bind fun t235 => (story_Room.j0 k (!t235) a0_0 a0_1 a0_2 a0_3 a0_4 a0_5 a0_6 a0_7 a0_8 a0_9 a0_10 a0_11 a0_12 a0_13 a0_14 a0_15 a1_0 a1_1 a1_2))
set_option maxHeartbeats 8000000 in
set_option maxRecDepth 100000 in
theorem story_Room.calls (k : Nat) (a0_0 : Int) (a0_1 : Int) (a0_2 : Int) (a0_3 : Bool) (a0_4 : Int) (a0_5 : Int) (a0_6 : Int) (a0_7 : Int) (a0_8 : Bool) (a0_9 : Bool) (a0_10 : Bool) (a0_11 : Bool) (a0_12 : Bool) (a0_13 : Bool) (a0_14 : Int) (a0_15 : Int) (a1_0 : Int) (a1_1 : Int) (a1_2 : Int) (r : Bool) (w : World) (h : story_Room.f k a0_0 a0_1 a0_2 a0_3 a0_4 a0_5 a0_6 a0_7 a0_8 a0_9 a0_10 a0_11 a0_12 a0_13 a0_14 a0_15 a1_0 a1_1 a1_2 = some r) :
    Calls Try.prog 25 #[.agg #[.int .i64 a0_0, .int .i64 a0_1, .int .i64 a0_2, .bool a0_3, .int .u64 a0_4, .int .u8 a0_5, .int .u64 a0_6, .int .i64 a0_7, .bool a0_8, .bool a0_9, .bool a0_10, .bool a0_11, .bool a0_12, .bool a0_13, .int .i64 a0_14, .int .u64 a0_15], .agg #[.int .i64 a1_0, .int .i64 a1_1, .int .u8 a1_2]] w fun e w' => e = .returned (.bool r) ∧ Below w.heap.size w w' := by
  have hu36 := Try.underlying36
  have hu42 := Try.underlying42
  have HB := Aside0.mk (Below.refl w.heap.size w)
  have H : (if (!(a1_1 == 0) || (!(a1_2 == 0))) = true then (story_Room.j0 k true a0_0 a0_1 a0_2 a0_3 a0_4 a0_5 a0_6 a0_7 a0_8 a0_9 a0_10 a0_11 a0_12 a0_13 a0_14 a0_15 a1_0 a1_1 a1_2) else ((model_Frees.f a1_0).bind fun t235 => (story_Room.j0 k (!t235) a0_0 a0_1 a0_2 a0_3 a0_4 a0_5 a0_6 a0_7 a0_8 a0_9 a0_10 a0_11 a0_12 a0_13 a0_14 a0_15 a1_0 a1_1 a1_2))) = some r := h
  clear h
  have HC3 := Aside0.mk H
  clear H
  go_enter Try.func25, Try.ntmps25
  go_upto_region 1 with (first | ((with_reducible refine gate_dst (N := 2) rfl ?_); refine box_event ?hg (N := 2) ?hd (cs := #[.int .i64 a0_0, .int .i64 a0_1, .int .i64 a0_2, .bool a0_3, .int .u64 a0_4, .int .u8 a0_5, .int .u64 a0_6, .int .i64 a0_7, .bool a0_8, .bool a0_9, .bool a0_10, .bool a0_11, .bool a0_12, .bool a0_13, .int .i64 a0_14, .int .u64 a0_15]) (t := 36) ?hr ?_; (case hd => rfl); (case hg => rfl); (case hr => first | (go_simp; done) | (go_simp; rfl)); intro gb233 hg w4 hbox hb; have n0_ := Aside0.mk (below_step (by repeat (first | (with_reducible first | exact HB.out | apply below_alloc | apply pw_below_drewN | apply below_drew1) | exact HB.out)) hb); have n1_ := Aside0.mk (hbox); have n2_ := Aside0.mk ((by rw [hg]; exact (below_size (by repeat (first | (with_reducible first | exact HB.out | apply below_alloc | apply pw_below_drewN | apply below_drew1) | exact HB.out))) : w.heap.size ≤ gb233)); have n3_ := Aside0.mk ((by rw [hg]; exact (below_size (by repeat (first | (with_reducible first | exact HB.out | apply below_alloc | apply pw_below_drewN | apply below_drew1) | exact HB.out))) : w.heap.size ≤ gb233)); clear HB; have HB := n0_; have BK233 := n1_; have GW233 := n2_; have GE233 := n3_; clear n0_ n1_ n2_ n3_; clear hb hbox hg) | ((with_reducible refine gate_dst (N := 3) rfl ?_); refine box_event ?hg (N := 3) ?hd (cs := #[.int .i64 a1_0, .int .i64 a1_1, .int .u8 a1_2]) (t := 42) ?hr ?_; (case hd => rfl); (case hg => rfl); (case hr => first | (go_simp; done) | (go_simp; rfl)); intro gb234 hg w5 hbox hb; have n0_ := Aside0.mk (blk_below (g := gb233) (o := .cells #[.int .i64 a0_0, .int .i64 a0_1, .int .i64 a0_2, .bool a0_3, .int .u64 a0_4, .int .u8 a0_5, .int .u64 a0_6, .int .i64 a0_7, .bool a0_8, .bool a0_9, .bool a0_10, .bool a0_11, .bool a0_12, .bool a0_13, .int .i64 a0_14, .int .u64 a0_15] 36 (0, 0)) (by (with_reducible repeat (first | refine blk_drewN ?_ _ | refine blk_drew ?_ | refine blk_alloc ?_ _)); exact BK233.out) hb); have n1_ := Aside0.mk (below_step (by repeat (first | (with_reducible first | exact HB.out | apply below_alloc | apply pw_below_drewN | apply below_drew1 | refine below_set ?_ GE233.out) | exact HB.out)) hb); have n2_ := Aside0.mk (hbox); have n3_ := Aside0.mk ((by rw [hg]; exact (below_size (by repeat (first | (with_reducible first | exact HB.out | apply below_alloc | apply pw_below_drewN | apply below_drew1 | refine below_set ?_ GE233.out) | exact HB.out))) : w.heap.size ≤ gb234)); have n4_ := Aside0.mk ((by rw [hg]; exact (below_size (by repeat (first | (with_reducible first | exact HB.out | apply below_alloc | apply pw_below_drewN | apply below_drew1 | refine below_set ?_ GE233.out) | exact HB.out))) : w.heap.size ≤ gb234)); have n5_ := Aside0.mk ((by rw [hg]; exact Nat.ne_of_lt (blk_lt (g := gb233) (o := .cells #[.int .i64 a0_0, .int .i64 a0_1, .int .i64 a0_2, .bool a0_3, .int .u64 a0_4, .int .u8 a0_5, .int .u64 a0_6, .int .i64 a0_7, .bool a0_8, .bool a0_9, .bool a0_10, .bool a0_11, .bool a0_12, .bool a0_13, .int .i64 a0_14, .int .u64 a0_15] 36 (0, 0)) (by (with_reducible repeat (first | refine blk_drewN ?_ _ | refine blk_drew ?_ | refine blk_alloc ?_ _)); exact BK233.out)) : gb233 ≠ gb234)); have n6_ := Aside0.mk ((by rw [hg]; exact Nat.ne_of_gt (blk_lt (g := gb233) (o := .cells #[.int .i64 a0_0, .int .i64 a0_1, .int .i64 a0_2, .bool a0_3, .int .u64 a0_4, .int .u8 a0_5, .int .u64 a0_6, .int .i64 a0_7, .bool a0_8, .bool a0_9, .bool a0_10, .bool a0_11, .bool a0_12, .bool a0_13, .int .i64 a0_14, .int .u64 a0_15] 36 (0, 0)) (by (with_reducible repeat (first | refine blk_drewN ?_ _ | refine blk_drew ?_ | refine blk_alloc ?_ _)); exact BK233.out)) : gb234 ≠ gb233)); clear BK233; clear HB; have BK233 := n0_; have HB := n1_; have BK234 := n2_; have GW234 := n3_; have GE234 := n4_; have NB233_234 := n5_; have NB234_233 := n6_; clear n0_ n1_ n2_ n3_ n4_ n5_ n6_; clear hb hbox hg))
  (try simp only [Act.put, List.setIfInBounds_toArray, List.set_cons_zero, List.set_cons_succ])
  go_cut [16] (fun v16 wc => ∃ (kq : Nat) (x16_2 : Bool), v16 = .bool x16_2 ∧ Aside0 (story_Room.j0 kq x16_2 a0_0 a0_1 a0_2 a0_3 a0_4 a0_5 a0_6 a0_7 a0_8 a0_9 a0_10 a0_11 a0_12 a0_13 a0_14 a0_15 a1_0 a1_1 a1_2 = some r) ∧ Aside0 (kq ≤ k) ∧ Aside0 (wc.heap[gb233]? = some (.cells #[.int .i64 a0_0, .int .i64 a0_1, .int .i64 a0_2, .bool a0_3, .int .u64 a0_4, .int .u8 a0_5, .int .u64 a0_6, .int .i64 a0_7, .bool a0_8, .bool a0_9, .bool a0_10, .bool a0_11, .bool a0_12, .bool a0_13, .int .i64 a0_14, .int .u64 a0_15] 36 (0, 0))) ∧ Aside0 (wc.heap[gb234]? = some (.cells #[.int .i64 a1_0, .int .i64 a1_1, .int .u8 a1_2] 42 (0, 0))) ∧ Aside0 (Below w.heap.size w wc))
  case first =>
    have H := HC3.out
    clear HC3
    by_cases c6 : (!(a1_1 == 0) || (!(a1_2 == 0))) = true
    · rw [if_pos c6] at H
      have c6b0 : (!(a1_1 == 0) || (!(a1_2 == 0))) = true := c6
      clear c6
      (first | rw [c6b0] | (simp only [i64_w, i32_w]; rw [c6b0]) | skip)
      have H' := Aside0.mk H
      clear H
      have hnb7 := NB234_233.out
      have hnc7 := NB233_234.out
      have hcz8_0 : w5.cell? ⟨gb234, 0, none⟩ = some (.int .i64 a1_0) := (blk_cell BK234.out 0).trans rfl
      have hcz8_1 : w5.cell? ⟨gb234, 1, none⟩ = some (.int .i64 a1_1) := (blk_cell BK234.out 1).trans rfl
      have hcz8_2 : w5.cell? ⟨gb234, 2, none⟩ = some (.int .u8 a1_2) := (blk_cell BK234.out 2).trans rfl
      have hfz8_0 := blk_frozen BK234.out 0
      have hfz8_1 := blk_frozen BK234.out 1
      have hfz8_2 := blk_frozen BK234.out 2
      go_wp2
      go_meet
      case rel => exact ⟨_, (true), (by first | rfl | (simp; done) | (simp [*]; done)), H', ⟨by first | omega | exact Nat.le_refl _⟩, ⟨by (with_reducible repeat (first | refine blk_drewN ?_ _ | refine blk_drew ?_ | refine blk_alloc ?_ _)); exact BK233.out⟩, ⟨by (with_reducible repeat (first | refine blk_drewN ?_ _ | refine blk_drew ?_ | refine blk_alloc ?_ _)); exact BK234.out⟩, ⟨by repeat (first | (with_reducible first | exact HB.out | apply below_alloc | apply pw_below_drewN | apply below_drew1 | refine below_set ?_ GE233.out | refine below_set ?_ GE234.out) | exact HB.out)⟩⟩
    · rw [if_neg c6] at H
      have c6b0 : (!(a1_1 == 0) || (!(a1_2 == 0))) = false := by simpa using c6
      clear c6
      (first | rw [c6b0] | (simp only [i64_w, i32_w]; rw [c6b0]) | skip)
      replace H := Option.bind_eq_some_iff.mp H
      obtain ⟨t235, A90, H⟩ := H
      replace H : (story_Room.j0 k (!t235) a0_0 a0_1 a0_2 a0_3 a0_4 a0_5 a0_6 a0_7 a0_8 a0_9 a0_10 a0_11 a0_12 a0_13 a0_14 a0_15 a1_0 a1_1 a1_2) = some r := H
      have A9 := Aside0.mk A90
      clear A90
      have H' := Aside0.mk H
      clear H
      have hnb10 := NB234_233.out
      have hnc10 := NB233_234.out
      have hcz11_0 : w5.cell? ⟨gb234, 0, none⟩ = some (.int .i64 a1_0) := (blk_cell BK234.out 0).trans rfl
      have hcz11_1 : w5.cell? ⟨gb234, 1, none⟩ = some (.int .i64 a1_1) := (blk_cell BK234.out 1).trans rfl
      have hcz11_2 : w5.cell? ⟨gb234, 2, none⟩ = some (.int .u8 a1_2) := (blk_cell BK234.out 2).trans rfl
      have hfz11_0 := blk_frozen BK234.out 0
      have hfz11_1 := blk_frozen BK234.out 1
      have hfz11_2 := blk_frozen BK234.out 2
      go_wp2_with (first | (go_at_call 24; (with_reducible refine (model_Frees.calls a1_0 t235 _ A9.out).mono ?_); rintro e w' ⟨rfl, ⟨nd, rfl⟩⟩))
      go_meet
      case rel => exact ⟨_, (!t235), (by first | rfl | (simp; done) | (simp [*]; done)), H', ⟨by first | omega | exact Nat.le_refl _⟩, ⟨by (with_reducible repeat (first | refine blk_drewN ?_ _ | refine blk_drew ?_ | refine blk_alloc ?_ _)); exact BK233.out⟩, ⟨by (with_reducible repeat (first | refine blk_drewN ?_ _ | refine blk_drew ?_ | refine blk_alloc ?_ _)); exact BK234.out⟩, ⟨by repeat (first | (with_reducible first | exact HB.out | apply below_alloc | apply pw_below_drewN | apply below_drew1 | refine below_set ?_ GE233.out | refine below_set ?_ GE234.out) | exact HB.out)⟩⟩
  case rest =>
    clear HC3
    try clear c1
    try clear c2
    try clear p2
    try clear c6
    try clear c6b0
    try clear c7
    try clear c10
    try clear hcz11_0
    try clear hcz11_1
    try clear hcz11_2
    try clear hcz8_0
    try clear hcz8_1
    try clear hcz8_2
    try clear hfz11_0
    try clear hfz11_1
    try clear hfz11_2
    try clear hfz8_0
    try clear hfz8_1
    try clear hfz8_2
    obtain ⟨kq, x16_2, rfl, HA, HJ2, BK233, BK234, HB⟩ := hcut
    cases kq with
    | zero => exact absurd HA.out (by simp [story_Room.j0])
    | succ kj2 =>
      have H := HA.out
      clear HA
      simp only [story_Room.j0] at H
      by_cases c12 : x16_2 = true
      · subst c12
        have H1 : (some false) = some r := by rw [if_pos rfl] at H; exact H
        clear H
        have H := H1
        clear H1
        obtain rfl := Option.some.inj H
        go_wp2
        go_ret
        exact ⟨by first | rfl | (simp [errW_none, errW_some] <;> rfl) | (simp [*, errW_none, errW_some] <;> rfl), by repeat (first | (with_reducible first | exact HB.out | apply below_alloc | apply pw_below_drewN | apply below_drew1 | refine below_set ?_ GE233.out | refine below_set ?_ GE234.out) | exact HB.out)⟩
      · replace c12 := Bool.eq_false_iff.mpr c12
        subst c12
        have H1 : (if a0_0 = 0 then (some (a1_0 != 6)) else (if a0_0 = 1 then (some (a1_0 == 6)) else (if a0_0 = 5 then (some (a1_0 == 6)) else (if a0_0 = 6 then (some (a1_0 == 6)) else (some false))))) = some r := by rw [if_neg (show ¬ (false = true) by decide)] at H; exact H
        clear H
        have H := H1
        clear H1
        by_cases c13 : a0_0 = 0
        · rw [if_pos c13] at H
          have c13b0 : (a0_0 == 0) = true := beq_iff_eq.mpr c13
          have c13b1 : (a0_0 != 0) = false := bne_eq_false_iff_eq.mpr c13
          clear c13
          obtain rfl := Option.some.inj H
          have hnb14 := NB233_234.out
          have hnc14 := NB234_233.out
          have hcz15_0 : wc.cell? ⟨gb233, 0, none⟩ = some (.int .i64 a0_0) := (blk_cell BK233.out 0).trans rfl
          have hcz15_1 : wc.cell? ⟨gb233, 1, none⟩ = some (.int .i64 a0_1) := (blk_cell BK233.out 1).trans rfl
          have hcz15_2 : wc.cell? ⟨gb233, 2, none⟩ = some (.int .i64 a0_2) := (blk_cell BK233.out 2).trans rfl
          have hcz15_3 : wc.cell? ⟨gb233, 3, none⟩ = some (.bool a0_3) := (blk_cell BK233.out 3).trans rfl
          have hcz15_4 : wc.cell? ⟨gb233, 4, none⟩ = some (.int .u64 a0_4) := (blk_cell BK233.out 4).trans rfl
          have hcz15_5 : wc.cell? ⟨gb233, 5, none⟩ = some (.int .u8 a0_5) := (blk_cell BK233.out 5).trans rfl
          have hcz15_6 : wc.cell? ⟨gb233, 6, none⟩ = some (.int .u64 a0_6) := (blk_cell BK233.out 6).trans rfl
          have hcz15_7 : wc.cell? ⟨gb233, 7, none⟩ = some (.int .i64 a0_7) := (blk_cell BK233.out 7).trans rfl
          have hcz15_8 : wc.cell? ⟨gb233, 8, none⟩ = some (.bool a0_8) := (blk_cell BK233.out 8).trans rfl
          have hcz15_9 : wc.cell? ⟨gb233, 9, none⟩ = some (.bool a0_9) := (blk_cell BK233.out 9).trans rfl
          have hcz15_10 : wc.cell? ⟨gb233, 10, none⟩ = some (.bool a0_10) := (blk_cell BK233.out 10).trans rfl
          have hcz15_11 : wc.cell? ⟨gb233, 11, none⟩ = some (.bool a0_11) := (blk_cell BK233.out 11).trans rfl
          have hcz15_12 : wc.cell? ⟨gb233, 12, none⟩ = some (.bool a0_12) := (blk_cell BK233.out 12).trans rfl
          have hcz15_13 : wc.cell? ⟨gb233, 13, none⟩ = some (.bool a0_13) := (blk_cell BK233.out 13).trans rfl
          have hcz15_14 : wc.cell? ⟨gb233, 14, none⟩ = some (.int .i64 a0_14) := (blk_cell BK233.out 14).trans rfl
          have hcz15_15 : wc.cell? ⟨gb233, 15, none⟩ = some (.int .u64 a0_15) := (blk_cell BK233.out 15).trans rfl
          have hfz15_0 := blk_frozen BK233.out 0
          have hfz15_1 := blk_frozen BK233.out 1
          have hfz15_2 := blk_frozen BK233.out 2
          have hfz15_3 := blk_frozen BK233.out 3
          have hfz15_4 := blk_frozen BK233.out 4
          have hfz15_5 := blk_frozen BK233.out 5
          have hfz15_6 := blk_frozen BK233.out 6
          have hfz15_7 := blk_frozen BK233.out 7
          have hfz15_8 := blk_frozen BK233.out 8
          have hfz15_9 := blk_frozen BK233.out 9
          have hfz15_10 := blk_frozen BK233.out 10
          have hfz15_11 := blk_frozen BK233.out 11
          have hfz15_12 := blk_frozen BK233.out 12
          have hfz15_13 := blk_frozen BK233.out 13
          have hfz15_14 := blk_frozen BK233.out 14
          have hfz15_15 := blk_frozen BK233.out 15
          have hcz16_0 : wc.cell? ⟨gb234, 0, none⟩ = some (.int .i64 a1_0) := (blk_cell BK234.out 0).trans rfl
          have hcz16_1 : wc.cell? ⟨gb234, 1, none⟩ = some (.int .i64 a1_1) := (blk_cell BK234.out 1).trans rfl
          have hcz16_2 : wc.cell? ⟨gb234, 2, none⟩ = some (.int .u8 a1_2) := (blk_cell BK234.out 2).trans rfl
          have hfz16_0 := blk_frozen BK234.out 0
          have hfz16_1 := blk_frozen BK234.out 1
          have hfz16_2 := blk_frozen BK234.out 2
          go_wp2
          go_ret
          exact ⟨by first | rfl | (simp [errW_none, errW_some] <;> rfl) | (simp [*, errW_none, errW_some] <;> rfl), by repeat (first | (with_reducible first | exact HB.out | apply below_alloc | apply pw_below_drewN | apply below_drew1 | refine below_set ?_ GE233.out | refine below_set ?_ GE234.out) | exact HB.out)⟩
        · rw [if_neg c13] at H
          have c13b0 : (a0_0 == 0) = false := beq_eq_false_iff_ne.mpr c13
          have c13b1 : (a0_0 != 0) = true := bne_iff_ne.mpr c13
          by_cases c17 : a0_0 = 1
          · rw [if_pos c17] at H
            have c17b0 : (a0_0 == 1) = true := beq_iff_eq.mpr c17
            have c17b1 : (a0_0 != 1) = false := bne_eq_false_iff_eq.mpr c17
            clear c17
            obtain rfl := Option.some.inj H
            have hnb18 := NB233_234.out
            have hnc18 := NB234_233.out
            have hcz19_0 : wc.cell? ⟨gb233, 0, none⟩ = some (.int .i64 a0_0) := (blk_cell BK233.out 0).trans rfl
            have hcz19_1 : wc.cell? ⟨gb233, 1, none⟩ = some (.int .i64 a0_1) := (blk_cell BK233.out 1).trans rfl
            have hcz19_2 : wc.cell? ⟨gb233, 2, none⟩ = some (.int .i64 a0_2) := (blk_cell BK233.out 2).trans rfl
            have hcz19_3 : wc.cell? ⟨gb233, 3, none⟩ = some (.bool a0_3) := (blk_cell BK233.out 3).trans rfl
            have hcz19_4 : wc.cell? ⟨gb233, 4, none⟩ = some (.int .u64 a0_4) := (blk_cell BK233.out 4).trans rfl
            have hcz19_5 : wc.cell? ⟨gb233, 5, none⟩ = some (.int .u8 a0_5) := (blk_cell BK233.out 5).trans rfl
            have hcz19_6 : wc.cell? ⟨gb233, 6, none⟩ = some (.int .u64 a0_6) := (blk_cell BK233.out 6).trans rfl
            have hcz19_7 : wc.cell? ⟨gb233, 7, none⟩ = some (.int .i64 a0_7) := (blk_cell BK233.out 7).trans rfl
            have hcz19_8 : wc.cell? ⟨gb233, 8, none⟩ = some (.bool a0_8) := (blk_cell BK233.out 8).trans rfl
            have hcz19_9 : wc.cell? ⟨gb233, 9, none⟩ = some (.bool a0_9) := (blk_cell BK233.out 9).trans rfl
            have hcz19_10 : wc.cell? ⟨gb233, 10, none⟩ = some (.bool a0_10) := (blk_cell BK233.out 10).trans rfl
            have hcz19_11 : wc.cell? ⟨gb233, 11, none⟩ = some (.bool a0_11) := (blk_cell BK233.out 11).trans rfl
            have hcz19_12 : wc.cell? ⟨gb233, 12, none⟩ = some (.bool a0_12) := (blk_cell BK233.out 12).trans rfl
            have hcz19_13 : wc.cell? ⟨gb233, 13, none⟩ = some (.bool a0_13) := (blk_cell BK233.out 13).trans rfl
            have hcz19_14 : wc.cell? ⟨gb233, 14, none⟩ = some (.int .i64 a0_14) := (blk_cell BK233.out 14).trans rfl
            have hcz19_15 : wc.cell? ⟨gb233, 15, none⟩ = some (.int .u64 a0_15) := (blk_cell BK233.out 15).trans rfl
            have hfz19_0 := blk_frozen BK233.out 0
            have hfz19_1 := blk_frozen BK233.out 1
            have hfz19_2 := blk_frozen BK233.out 2
            have hfz19_3 := blk_frozen BK233.out 3
            have hfz19_4 := blk_frozen BK233.out 4
            have hfz19_5 := blk_frozen BK233.out 5
            have hfz19_6 := blk_frozen BK233.out 6
            have hfz19_7 := blk_frozen BK233.out 7
            have hfz19_8 := blk_frozen BK233.out 8
            have hfz19_9 := blk_frozen BK233.out 9
            have hfz19_10 := blk_frozen BK233.out 10
            have hfz19_11 := blk_frozen BK233.out 11
            have hfz19_12 := blk_frozen BK233.out 12
            have hfz19_13 := blk_frozen BK233.out 13
            have hfz19_14 := blk_frozen BK233.out 14
            have hfz19_15 := blk_frozen BK233.out 15
            have hcz20_0 : wc.cell? ⟨gb234, 0, none⟩ = some (.int .i64 a1_0) := (blk_cell BK234.out 0).trans rfl
            have hcz20_1 : wc.cell? ⟨gb234, 1, none⟩ = some (.int .i64 a1_1) := (blk_cell BK234.out 1).trans rfl
            have hcz20_2 : wc.cell? ⟨gb234, 2, none⟩ = some (.int .u8 a1_2) := (blk_cell BK234.out 2).trans rfl
            have hfz20_0 := blk_frozen BK234.out 0
            have hfz20_1 := blk_frozen BK234.out 1
            have hfz20_2 := blk_frozen BK234.out 2
            go_wp2
            go_ret
            exact ⟨by first | rfl | (simp [errW_none, errW_some] <;> rfl) | (simp [*, errW_none, errW_some] <;> rfl), by repeat (first | (with_reducible first | exact HB.out | apply below_alloc | apply pw_below_drewN | apply below_drew1 | refine below_set ?_ GE233.out | refine below_set ?_ GE234.out) | exact HB.out)⟩
          · rw [if_neg c17] at H
            have c17b0 : (a0_0 == 1) = false := beq_eq_false_iff_ne.mpr c17
            have c17b1 : (a0_0 != 1) = true := bne_iff_ne.mpr c17
            by_cases c21 : a0_0 = 5
            · rw [if_pos c21] at H
              have c21b0 : (a0_0 == 5) = true := beq_iff_eq.mpr c21
              have c21b1 : (a0_0 != 5) = false := bne_eq_false_iff_eq.mpr c21
              clear c21
              obtain rfl := Option.some.inj H
              have hnb22 := NB233_234.out
              have hnc22 := NB234_233.out
              have hcz23_0 : wc.cell? ⟨gb233, 0, none⟩ = some (.int .i64 a0_0) := (blk_cell BK233.out 0).trans rfl
              have hcz23_1 : wc.cell? ⟨gb233, 1, none⟩ = some (.int .i64 a0_1) := (blk_cell BK233.out 1).trans rfl
              have hcz23_2 : wc.cell? ⟨gb233, 2, none⟩ = some (.int .i64 a0_2) := (blk_cell BK233.out 2).trans rfl
              have hcz23_3 : wc.cell? ⟨gb233, 3, none⟩ = some (.bool a0_3) := (blk_cell BK233.out 3).trans rfl
              have hcz23_4 : wc.cell? ⟨gb233, 4, none⟩ = some (.int .u64 a0_4) := (blk_cell BK233.out 4).trans rfl
              have hcz23_5 : wc.cell? ⟨gb233, 5, none⟩ = some (.int .u8 a0_5) := (blk_cell BK233.out 5).trans rfl
              have hcz23_6 : wc.cell? ⟨gb233, 6, none⟩ = some (.int .u64 a0_6) := (blk_cell BK233.out 6).trans rfl
              have hcz23_7 : wc.cell? ⟨gb233, 7, none⟩ = some (.int .i64 a0_7) := (blk_cell BK233.out 7).trans rfl
              have hcz23_8 : wc.cell? ⟨gb233, 8, none⟩ = some (.bool a0_8) := (blk_cell BK233.out 8).trans rfl
              have hcz23_9 : wc.cell? ⟨gb233, 9, none⟩ = some (.bool a0_9) := (blk_cell BK233.out 9).trans rfl
              have hcz23_10 : wc.cell? ⟨gb233, 10, none⟩ = some (.bool a0_10) := (blk_cell BK233.out 10).trans rfl
              have hcz23_11 : wc.cell? ⟨gb233, 11, none⟩ = some (.bool a0_11) := (blk_cell BK233.out 11).trans rfl
              have hcz23_12 : wc.cell? ⟨gb233, 12, none⟩ = some (.bool a0_12) := (blk_cell BK233.out 12).trans rfl
              have hcz23_13 : wc.cell? ⟨gb233, 13, none⟩ = some (.bool a0_13) := (blk_cell BK233.out 13).trans rfl
              have hcz23_14 : wc.cell? ⟨gb233, 14, none⟩ = some (.int .i64 a0_14) := (blk_cell BK233.out 14).trans rfl
              have hcz23_15 : wc.cell? ⟨gb233, 15, none⟩ = some (.int .u64 a0_15) := (blk_cell BK233.out 15).trans rfl
              have hfz23_0 := blk_frozen BK233.out 0
              have hfz23_1 := blk_frozen BK233.out 1
              have hfz23_2 := blk_frozen BK233.out 2
              have hfz23_3 := blk_frozen BK233.out 3
              have hfz23_4 := blk_frozen BK233.out 4
              have hfz23_5 := blk_frozen BK233.out 5
              have hfz23_6 := blk_frozen BK233.out 6
              have hfz23_7 := blk_frozen BK233.out 7
              have hfz23_8 := blk_frozen BK233.out 8
              have hfz23_9 := blk_frozen BK233.out 9
              have hfz23_10 := blk_frozen BK233.out 10
              have hfz23_11 := blk_frozen BK233.out 11
              have hfz23_12 := blk_frozen BK233.out 12
              have hfz23_13 := blk_frozen BK233.out 13
              have hfz23_14 := blk_frozen BK233.out 14
              have hfz23_15 := blk_frozen BK233.out 15
              have hcz24_0 : wc.cell? ⟨gb234, 0, none⟩ = some (.int .i64 a1_0) := (blk_cell BK234.out 0).trans rfl
              have hcz24_1 : wc.cell? ⟨gb234, 1, none⟩ = some (.int .i64 a1_1) := (blk_cell BK234.out 1).trans rfl
              have hcz24_2 : wc.cell? ⟨gb234, 2, none⟩ = some (.int .u8 a1_2) := (blk_cell BK234.out 2).trans rfl
              have hfz24_0 := blk_frozen BK234.out 0
              have hfz24_1 := blk_frozen BK234.out 1
              have hfz24_2 := blk_frozen BK234.out 2
              go_wp2
              go_ret
              exact ⟨by first | rfl | (simp [errW_none, errW_some] <;> rfl) | (simp [*, errW_none, errW_some] <;> rfl), by repeat (first | (with_reducible first | exact HB.out | apply below_alloc | apply pw_below_drewN | apply below_drew1 | refine below_set ?_ GE233.out | refine below_set ?_ GE234.out) | exact HB.out)⟩
            · rw [if_neg c21] at H
              have c21b0 : (a0_0 == 5) = false := beq_eq_false_iff_ne.mpr c21
              have c21b1 : (a0_0 != 5) = true := bne_iff_ne.mpr c21
              by_cases c25 : a0_0 = 6
              · rw [if_pos c25] at H
                have c25b0 : (a0_0 == 6) = true := beq_iff_eq.mpr c25
                have c25b1 : (a0_0 != 6) = false := bne_eq_false_iff_eq.mpr c25
                clear c25
                obtain rfl := Option.some.inj H
                have hnb26 := NB233_234.out
                have hnc26 := NB234_233.out
                have hcz27_0 : wc.cell? ⟨gb233, 0, none⟩ = some (.int .i64 a0_0) := (blk_cell BK233.out 0).trans rfl
                have hcz27_1 : wc.cell? ⟨gb233, 1, none⟩ = some (.int .i64 a0_1) := (blk_cell BK233.out 1).trans rfl
                have hcz27_2 : wc.cell? ⟨gb233, 2, none⟩ = some (.int .i64 a0_2) := (blk_cell BK233.out 2).trans rfl
                have hcz27_3 : wc.cell? ⟨gb233, 3, none⟩ = some (.bool a0_3) := (blk_cell BK233.out 3).trans rfl
                have hcz27_4 : wc.cell? ⟨gb233, 4, none⟩ = some (.int .u64 a0_4) := (blk_cell BK233.out 4).trans rfl
                have hcz27_5 : wc.cell? ⟨gb233, 5, none⟩ = some (.int .u8 a0_5) := (blk_cell BK233.out 5).trans rfl
                have hcz27_6 : wc.cell? ⟨gb233, 6, none⟩ = some (.int .u64 a0_6) := (blk_cell BK233.out 6).trans rfl
                have hcz27_7 : wc.cell? ⟨gb233, 7, none⟩ = some (.int .i64 a0_7) := (blk_cell BK233.out 7).trans rfl
                have hcz27_8 : wc.cell? ⟨gb233, 8, none⟩ = some (.bool a0_8) := (blk_cell BK233.out 8).trans rfl
                have hcz27_9 : wc.cell? ⟨gb233, 9, none⟩ = some (.bool a0_9) := (blk_cell BK233.out 9).trans rfl
                have hcz27_10 : wc.cell? ⟨gb233, 10, none⟩ = some (.bool a0_10) := (blk_cell BK233.out 10).trans rfl
                have hcz27_11 : wc.cell? ⟨gb233, 11, none⟩ = some (.bool a0_11) := (blk_cell BK233.out 11).trans rfl
                have hcz27_12 : wc.cell? ⟨gb233, 12, none⟩ = some (.bool a0_12) := (blk_cell BK233.out 12).trans rfl
                have hcz27_13 : wc.cell? ⟨gb233, 13, none⟩ = some (.bool a0_13) := (blk_cell BK233.out 13).trans rfl
                have hcz27_14 : wc.cell? ⟨gb233, 14, none⟩ = some (.int .i64 a0_14) := (blk_cell BK233.out 14).trans rfl
                have hcz27_15 : wc.cell? ⟨gb233, 15, none⟩ = some (.int .u64 a0_15) := (blk_cell BK233.out 15).trans rfl
                have hfz27_0 := blk_frozen BK233.out 0
                have hfz27_1 := blk_frozen BK233.out 1
                have hfz27_2 := blk_frozen BK233.out 2
                have hfz27_3 := blk_frozen BK233.out 3
                have hfz27_4 := blk_frozen BK233.out 4
                have hfz27_5 := blk_frozen BK233.out 5
                have hfz27_6 := blk_frozen BK233.out 6
                have hfz27_7 := blk_frozen BK233.out 7
                have hfz27_8 := blk_frozen BK233.out 8
                have hfz27_9 := blk_frozen BK233.out 9
                have hfz27_10 := blk_frozen BK233.out 10
                have hfz27_11 := blk_frozen BK233.out 11
                have hfz27_12 := blk_frozen BK233.out 12
                have hfz27_13 := blk_frozen BK233.out 13
                have hfz27_14 := blk_frozen BK233.out 14
                have hfz27_15 := blk_frozen BK233.out 15
                have hcz28_0 : wc.cell? ⟨gb234, 0, none⟩ = some (.int .i64 a1_0) := (blk_cell BK234.out 0).trans rfl
                have hcz28_1 : wc.cell? ⟨gb234, 1, none⟩ = some (.int .i64 a1_1) := (blk_cell BK234.out 1).trans rfl
                have hcz28_2 : wc.cell? ⟨gb234, 2, none⟩ = some (.int .u8 a1_2) := (blk_cell BK234.out 2).trans rfl
                have hfz28_0 := blk_frozen BK234.out 0
                have hfz28_1 := blk_frozen BK234.out 1
                have hfz28_2 := blk_frozen BK234.out 2
                go_wp2
                go_ret
                exact ⟨by first | rfl | (simp [errW_none, errW_some] <;> rfl) | (simp [*, errW_none, errW_some] <;> rfl), by repeat (first | (with_reducible first | exact HB.out | apply below_alloc | apply pw_below_drewN | apply below_drew1 | refine below_set ?_ GE233.out | refine below_set ?_ GE234.out) | exact HB.out)⟩
              · rw [if_neg c25] at H
                have c25b0 : (a0_0 == 6) = false := beq_eq_false_iff_ne.mpr c25
                have c25b1 : (a0_0 != 6) = true := bne_iff_ne.mpr c25
                obtain rfl := Option.some.inj H
                have hnb29 := NB233_234.out
                have hnc29 := NB234_233.out
                have hcz30_0 : wc.cell? ⟨gb233, 0, none⟩ = some (.int .i64 a0_0) := (blk_cell BK233.out 0).trans rfl
                have hcz30_1 : wc.cell? ⟨gb233, 1, none⟩ = some (.int .i64 a0_1) := (blk_cell BK233.out 1).trans rfl
                have hcz30_2 : wc.cell? ⟨gb233, 2, none⟩ = some (.int .i64 a0_2) := (blk_cell BK233.out 2).trans rfl
                have hcz30_3 : wc.cell? ⟨gb233, 3, none⟩ = some (.bool a0_3) := (blk_cell BK233.out 3).trans rfl
                have hcz30_4 : wc.cell? ⟨gb233, 4, none⟩ = some (.int .u64 a0_4) := (blk_cell BK233.out 4).trans rfl
                have hcz30_5 : wc.cell? ⟨gb233, 5, none⟩ = some (.int .u8 a0_5) := (blk_cell BK233.out 5).trans rfl
                have hcz30_6 : wc.cell? ⟨gb233, 6, none⟩ = some (.int .u64 a0_6) := (blk_cell BK233.out 6).trans rfl
                have hcz30_7 : wc.cell? ⟨gb233, 7, none⟩ = some (.int .i64 a0_7) := (blk_cell BK233.out 7).trans rfl
                have hcz30_8 : wc.cell? ⟨gb233, 8, none⟩ = some (.bool a0_8) := (blk_cell BK233.out 8).trans rfl
                have hcz30_9 : wc.cell? ⟨gb233, 9, none⟩ = some (.bool a0_9) := (blk_cell BK233.out 9).trans rfl
                have hcz30_10 : wc.cell? ⟨gb233, 10, none⟩ = some (.bool a0_10) := (blk_cell BK233.out 10).trans rfl
                have hcz30_11 : wc.cell? ⟨gb233, 11, none⟩ = some (.bool a0_11) := (blk_cell BK233.out 11).trans rfl
                have hcz30_12 : wc.cell? ⟨gb233, 12, none⟩ = some (.bool a0_12) := (blk_cell BK233.out 12).trans rfl
                have hcz30_13 : wc.cell? ⟨gb233, 13, none⟩ = some (.bool a0_13) := (blk_cell BK233.out 13).trans rfl
                have hcz30_14 : wc.cell? ⟨gb233, 14, none⟩ = some (.int .i64 a0_14) := (blk_cell BK233.out 14).trans rfl
                have hcz30_15 : wc.cell? ⟨gb233, 15, none⟩ = some (.int .u64 a0_15) := (blk_cell BK233.out 15).trans rfl
                have hfz30_0 := blk_frozen BK233.out 0
                have hfz30_1 := blk_frozen BK233.out 1
                have hfz30_2 := blk_frozen BK233.out 2
                have hfz30_3 := blk_frozen BK233.out 3
                have hfz30_4 := blk_frozen BK233.out 4
                have hfz30_5 := blk_frozen BK233.out 5
                have hfz30_6 := blk_frozen BK233.out 6
                have hfz30_7 := blk_frozen BK233.out 7
                have hfz30_8 := blk_frozen BK233.out 8
                have hfz30_9 := blk_frozen BK233.out 9
                have hfz30_10 := blk_frozen BK233.out 10
                have hfz30_11 := blk_frozen BK233.out 11
                have hfz30_12 := blk_frozen BK233.out 12
                have hfz30_13 := blk_frozen BK233.out 13
                have hfz30_14 := blk_frozen BK233.out 14
                have hfz30_15 := blk_frozen BK233.out 15
                go_wp2
                go_ret
                exact ⟨by first | rfl | (simp [errW_none, errW_some] <;> rfl) | (simp [*, errW_none, errW_some] <;> rfl), by repeat (first | (with_reducible first | exact HB.out | apply below_alloc | apply pw_below_drewN | apply below_drew1 | refine below_set ?_ GE233.out | refine below_set ?_ GE234.out) | exact HB.out)⟩

end Go.Proofs.Ytalmemcidbmdgaa.PM

-- written by xprint.py, a program of this session, over the kit's print (functions told by hand: see the texts)
namespace Go.Proofs.Ytalmemcidbmdgaa.PM
open Go.RowKit Go.Proofs.YtalmemcidbmdgaaW.PrintWords Go.Proofs.YtalmemcidbmdgaaW.PrintLast Go.Proofs.YtalmemcidbmdgaaW.PrintMore
attribute [local go_sem] max2_int min2_int max_two min_two max_three min_three max_four min_four   -- for this text's walks alone
set_option linter.unusedVariables false
set_option linter.unusedSimpArgs false

/-! ### lookasideref18_Free: function 26 -/
end Go.Proofs.Ytalmemcidbmdgaa.PM

-- written by xprint.py, a program of this session, over the kit's print (functions told by hand: see the texts)
namespace Go.Proofs.Ytalmemcidbmdgaa.PM
open Go.RowKit Go.Proofs.YtalmemcidbmdgaaW.PrintWords Go.Proofs.YtalmemcidbmdgaaW.PrintLast Go.Proofs.YtalmemcidbmdgaaW.PrintMore
attribute [local go_sem] max2_int min2_int max_two min_two max_three min_three max_four min_four   -- for this text's walks alone
set_option linter.unusedVariables false
set_option linter.unusedSimpArgs false

/-! ### story_Ahead: function 28 -/
def story_Ahead.f (a0_0 : Int) (a0_1 : Int) (a0_2 : Int) (a0_3 : Int) (a0_4 : Bool) (a0_5 : Int) (a0_6 : Int) (a0_7 : Int) (a0_8 : Int) (a0_9 : Bool) (a0_10 : Bool) (a0_11 : Bool) (a0_12 : Bool) (a0_13 : Bool) (a0_14 : Bool) (a0_15 : Int) (a0_16 : Int) (a0_17 : Int) (a0_18 : Int) (a0_19 : Int) (a0_20 : Int) (a0_21 : Int) (a0_22 : Int) (a0_23 : Int) (a1_0 : Int) (a1_1 : Int) (a1_2 : Int) (a1_3 : Int) (a1_4 : Bool) (a1_5 : Int) (a1_6 : Int) (a1_7 : Int) (a1_8 : Int) (a1_9 : Bool) (a1_10 : Bool) (a1_11 : Bool) (a1_12 : Bool) (a1_13 : Bool) (a1_14 : Bool) (a1_15 : Int) (a1_16 : Int) (a1_17 : Int) (a1_18 : Int) (a1_19 : Int) (a1_20 : Int) (a1_21 : Int) (a1_22 : Int) (a1_23 : Int) : Option (Bool) := if a0_18 ≥ 0 then (some (decide (a1_17 > a0_18))) else (some false)
set_option maxHeartbeats 8000000 in
set_option maxRecDepth 100000 in
theorem story_Ahead.calls (a0_0 : Int) (a0_1 : Int) (a0_2 : Int) (a0_3 : Int) (a0_4 : Bool) (a0_5 : Int) (a0_6 : Int) (a0_7 : Int) (a0_8 : Int) (a0_9 : Bool) (a0_10 : Bool) (a0_11 : Bool) (a0_12 : Bool) (a0_13 : Bool) (a0_14 : Bool) (a0_15 : Int) (a0_16 : Int) (a0_17 : Int) (a0_18 : Int) (a0_19 : Int) (a0_20 : Int) (a0_21 : Int) (a0_22 : Int) (a0_23 : Int) (a1_0 : Int) (a1_1 : Int) (a1_2 : Int) (a1_3 : Int) (a1_4 : Bool) (a1_5 : Int) (a1_6 : Int) (a1_7 : Int) (a1_8 : Int) (a1_9 : Bool) (a1_10 : Bool) (a1_11 : Bool) (a1_12 : Bool) (a1_13 : Bool) (a1_14 : Bool) (a1_15 : Int) (a1_16 : Int) (a1_17 : Int) (a1_18 : Int) (a1_19 : Int) (a1_20 : Int) (a1_21 : Int) (a1_22 : Int) (a1_23 : Int) (r : Bool) (w : World) (h : story_Ahead.f a0_0 a0_1 a0_2 a0_3 a0_4 a0_5 a0_6 a0_7 a0_8 a0_9 a0_10 a0_11 a0_12 a0_13 a0_14 a0_15 a0_16 a0_17 a0_18 a0_19 a0_20 a0_21 a0_22 a0_23 a1_0 a1_1 a1_2 a1_3 a1_4 a1_5 a1_6 a1_7 a1_8 a1_9 a1_10 a1_11 a1_12 a1_13 a1_14 a1_15 a1_16 a1_17 a1_18 a1_19 a1_20 a1_21 a1_22 a1_23 = some r) :
    Calls Try.prog 28 #[.agg #[.int .i64 a0_0, .int .i64 a0_1, .int .i64 a0_2, .int .i64 a0_3, .bool a0_4, .int .u64 a0_5, .int .u8 a0_6, .int .u64 a0_7, .int .i64 a0_8, .bool a0_9, .bool a0_10, .bool a0_11, .bool a0_12, .bool a0_13, .bool a0_14, .int .i64 a0_15, .int .u64 a0_16, .int .i64 a0_17, .int .i64 a0_18, .int .i64 a0_19, .int .i64 a0_20, .int .i64 a0_21, .int .u8 a0_22, .int .i64 a0_23], .agg #[.int .i64 a1_0, .int .i64 a1_1, .int .i64 a1_2, .int .i64 a1_3, .bool a1_4, .int .u64 a1_5, .int .u8 a1_6, .int .u64 a1_7, .int .i64 a1_8, .bool a1_9, .bool a1_10, .bool a1_11, .bool a1_12, .bool a1_13, .bool a1_14, .int .i64 a1_15, .int .u64 a1_16, .int .i64 a1_17, .int .i64 a1_18, .int .i64 a1_19, .int .i64 a1_20, .int .i64 a1_21, .int .u8 a1_22, .int .i64 a1_23]] w fun e w' => e = .returned (.bool r) ∧ Below w.heap.size w w' := by
  have hu69 := Try.underlying69
  have HB := Aside0.mk (Below.refl w.heap.size w)
  have H : (if a0_18 ≥ 0 then (some (decide (a1_17 > a0_18))) else (some false)) = some r := h
  clear h
  by_cases c3 : a0_18 ≥ 0
  · rw [if_pos c3] at H
    have c3b0 : decide (0 ≤ a0_18) = true := decide_eq_true c3
    clear c3
    obtain rfl := Option.some.inj H
    go_enter Try.func28, Try.ntmps28
    go_wp2_with (first | ((with_reducible refine gate_dst (N := 2) rfl ?_); refine box_event ?hg (N := 2) ?hd (cs := #[.int .i64 a0_0, .int .i64 a0_1, .int .i64 a0_2, .int .i64 a0_3, .bool a0_4, .int .u64 a0_5, .int .u8 a0_6, .int .u64 a0_7, .int .i64 a0_8, .bool a0_9, .bool a0_10, .bool a0_11, .bool a0_12, .bool a0_13, .bool a0_14, .int .i64 a0_15, .int .u64 a0_16, .int .i64 a0_17, .int .i64 a0_18, .int .i64 a0_19, .int .i64 a0_20, .int .i64 a0_21, .int .u8 a0_22, .int .i64 a0_23]) (t := 69) ?hr ?_; (case hd => rfl); (case hg => rfl); (case hr => first | (go_simp; done) | (go_simp; rfl)); intro gb237 hg w4 hbox hb; have n0_ := Aside0.mk (below_step (by repeat (first | (with_reducible first | exact HB.out | apply below_alloc | apply pw_below_drewN | apply below_drew1) | exact HB.out)) hb); have n1_ := Aside0.mk (hbox); have n2_ := Aside0.mk ((by rw [hg]; exact (below_size (by repeat (first | (with_reducible first | exact HB.out | apply below_alloc | apply pw_below_drewN | apply below_drew1) | exact HB.out))) : w.heap.size ≤ gb237)); have n3_ := Aside0.mk ((by rw [hg]; exact (below_size (by repeat (first | (with_reducible first | exact HB.out | apply below_alloc | apply pw_below_drewN | apply below_drew1) | exact HB.out))) : w.heap.size ≤ gb237)); clear HB; have HB := n0_; have BK237 := n1_; have GW237 := n2_; have GE237 := n3_; clear n0_ n1_ n2_ n3_; clear hb hbox hg) | ((with_reducible refine gate_dst (N := 3) rfl ?_); refine box_event ?hg (N := 3) ?hd (cs := #[.int .i64 a1_0, .int .i64 a1_1, .int .i64 a1_2, .int .i64 a1_3, .bool a1_4, .int .u64 a1_5, .int .u8 a1_6, .int .u64 a1_7, .int .i64 a1_8, .bool a1_9, .bool a1_10, .bool a1_11, .bool a1_12, .bool a1_13, .bool a1_14, .int .i64 a1_15, .int .u64 a1_16, .int .i64 a1_17, .int .i64 a1_18, .int .i64 a1_19, .int .i64 a1_20, .int .i64 a1_21, .int .u8 a1_22, .int .i64 a1_23]) (t := 69) ?hr ?_; (case hd => rfl); (case hg => rfl); (case hr => first | (go_simp; done) | (go_simp; rfl)); intro gb238 hg w5 hbox hb; have n0_ := Aside0.mk (blk_below (g := gb237) (o := .cells #[.int .i64 a0_0, .int .i64 a0_1, .int .i64 a0_2, .int .i64 a0_3, .bool a0_4, .int .u64 a0_5, .int .u8 a0_6, .int .u64 a0_7, .int .i64 a0_8, .bool a0_9, .bool a0_10, .bool a0_11, .bool a0_12, .bool a0_13, .bool a0_14, .int .i64 a0_15, .int .u64 a0_16, .int .i64 a0_17, .int .i64 a0_18, .int .i64 a0_19, .int .i64 a0_20, .int .i64 a0_21, .int .u8 a0_22, .int .i64 a0_23] 69 (0, 0)) (by (with_reducible repeat (first | refine blk_drewN ?_ _ | refine blk_drew ?_ | refine blk_alloc ?_ _)); exact BK237.out) hb); have n1_ := Aside0.mk (below_step (by repeat (first | (with_reducible first | exact HB.out | apply below_alloc | apply pw_below_drewN | apply below_drew1 | refine below_set ?_ GE237.out) | exact HB.out)) hb); have n2_ := Aside0.mk (hbox); have n3_ := Aside0.mk ((by rw [hg]; exact (below_size (by repeat (first | (with_reducible first | exact HB.out | apply below_alloc | apply pw_below_drewN | apply below_drew1 | refine below_set ?_ GE237.out) | exact HB.out))) : w.heap.size ≤ gb238)); have n4_ := Aside0.mk ((by rw [hg]; exact (below_size (by repeat (first | (with_reducible first | exact HB.out | apply below_alloc | apply pw_below_drewN | apply below_drew1 | refine below_set ?_ GE237.out) | exact HB.out))) : w.heap.size ≤ gb238)); have n5_ := Aside0.mk ((by rw [hg]; exact Nat.ne_of_lt (blk_lt (g := gb237) (o := .cells #[.int .i64 a0_0, .int .i64 a0_1, .int .i64 a0_2, .int .i64 a0_3, .bool a0_4, .int .u64 a0_5, .int .u8 a0_6, .int .u64 a0_7, .int .i64 a0_8, .bool a0_9, .bool a0_10, .bool a0_11, .bool a0_12, .bool a0_13, .bool a0_14, .int .i64 a0_15, .int .u64 a0_16, .int .i64 a0_17, .int .i64 a0_18, .int .i64 a0_19, .int .i64 a0_20, .int .i64 a0_21, .int .u8 a0_22, .int .i64 a0_23] 69 (0, 0)) (by (with_reducible repeat (first | refine blk_drewN ?_ _ | refine blk_drew ?_ | refine blk_alloc ?_ _)); exact BK237.out)) : gb237 ≠ gb238)); have n6_ := Aside0.mk ((by rw [hg]; exact Nat.ne_of_gt (blk_lt (g := gb237) (o := .cells #[.int .i64 a0_0, .int .i64 a0_1, .int .i64 a0_2, .int .i64 a0_3, .bool a0_4, .int .u64 a0_5, .int .u8 a0_6, .int .u64 a0_7, .int .i64 a0_8, .bool a0_9, .bool a0_10, .bool a0_11, .bool a0_12, .bool a0_13, .bool a0_14, .int .i64 a0_15, .int .u64 a0_16, .int .i64 a0_17, .int .i64 a0_18, .int .i64 a0_19, .int .i64 a0_20, .int .i64 a0_21, .int .u8 a0_22, .int .i64 a0_23] 69 (0, 0)) (by (with_reducible repeat (first | refine blk_drewN ?_ _ | refine blk_drew ?_ | refine blk_alloc ?_ _)); exact BK237.out)) : gb238 ≠ gb237)); clear BK237; clear HB; have BK237 := n0_; have HB := n1_; have BK238 := n2_; have GW238 := n3_; have GE238 := n4_; have NB237_238 := n5_; have NB238_237 := n6_; clear n0_ n1_ n2_ n3_ n4_ n5_ n6_; clear hb hbox hg; have hnb6 := NB237_238.out; have hnc6 := NB238_237.out; have hcz7_0 : w5.cell? ⟨gb237, 0, none⟩ = some (.int .i64 a0_0) := (blk_cell BK237.out 0).trans rfl; have hcz7_1 : w5.cell? ⟨gb237, 1, none⟩ = some (.int .i64 a0_1) := (blk_cell BK237.out 1).trans rfl; have hcz7_2 : w5.cell? ⟨gb237, 2, none⟩ = some (.int .i64 a0_2) := (blk_cell BK237.out 2).trans rfl; have hcz7_3 : w5.cell? ⟨gb237, 3, none⟩ = some (.int .i64 a0_3) := (blk_cell BK237.out 3).trans rfl; have hcz7_4 : w5.cell? ⟨gb237, 4, none⟩ = some (.bool a0_4) := (blk_cell BK237.out 4).trans rfl; have hcz7_5 : w5.cell? ⟨gb237, 5, none⟩ = some (.int .u64 a0_5) := (blk_cell BK237.out 5).trans rfl; have hcz7_6 : w5.cell? ⟨gb237, 6, none⟩ = some (.int .u8 a0_6) := (blk_cell BK237.out 6).trans rfl; have hcz7_7 : w5.cell? ⟨gb237, 7, none⟩ = some (.int .u64 a0_7) := (blk_cell BK237.out 7).trans rfl; have hcz7_8 : w5.cell? ⟨gb237, 8, none⟩ = some (.int .i64 a0_8) := (blk_cell BK237.out 8).trans rfl; have hcz7_9 : w5.cell? ⟨gb237, 9, none⟩ = some (.bool a0_9) := (blk_cell BK237.out 9).trans rfl; have hcz7_10 : w5.cell? ⟨gb237, 10, none⟩ = some (.bool a0_10) := (blk_cell BK237.out 10).trans rfl; have hcz7_11 : w5.cell? ⟨gb237, 11, none⟩ = some (.bool a0_11) := (blk_cell BK237.out 11).trans rfl; have hcz7_12 : w5.cell? ⟨gb237, 12, none⟩ = some (.bool a0_12) := (blk_cell BK237.out 12).trans rfl; have hcz7_13 : w5.cell? ⟨gb237, 13, none⟩ = some (.bool a0_13) := (blk_cell BK237.out 13).trans rfl; have hcz7_14 : w5.cell? ⟨gb237, 14, none⟩ = some (.bool a0_14) := (blk_cell BK237.out 14).trans rfl; have hcz7_15 : w5.cell? ⟨gb237, 15, none⟩ = some (.int .i64 a0_15) := (blk_cell BK237.out 15).trans rfl; have hcz7_16 : w5.cell? ⟨gb237, 16, none⟩ = some (.int .u64 a0_16) := (blk_cell BK237.out 16).trans rfl; have hcz7_17 : w5.cell? ⟨gb237, 17, none⟩ = some (.int .i64 a0_17) := (blk_cell BK237.out 17).trans rfl; have hcz7_18 : w5.cell? ⟨gb237, 18, none⟩ = some (.int .i64 a0_18) := (blk_cell BK237.out 18).trans rfl; have hcz7_19 : w5.cell? ⟨gb237, 19, none⟩ = some (.int .i64 a0_19) := (blk_cell BK237.out 19).trans rfl; have hcz7_20 : w5.cell? ⟨gb237, 20, none⟩ = some (.int .i64 a0_20) := (blk_cell BK237.out 20).trans rfl; have hcz7_21 : w5.cell? ⟨gb237, 21, none⟩ = some (.int .i64 a0_21) := (blk_cell BK237.out 21).trans rfl; have hcz7_22 : w5.cell? ⟨gb237, 22, none⟩ = some (.int .u8 a0_22) := (blk_cell BK237.out 22).trans rfl; have hcz7_23 : w5.cell? ⟨gb237, 23, none⟩ = some (.int .i64 a0_23) := (blk_cell BK237.out 23).trans rfl; have hfz7_0 := blk_frozen BK237.out 0; have hfz7_1 := blk_frozen BK237.out 1; have hfz7_2 := blk_frozen BK237.out 2; have hfz7_3 := blk_frozen BK237.out 3; have hfz7_4 := blk_frozen BK237.out 4; have hfz7_5 := blk_frozen BK237.out 5; have hfz7_6 := blk_frozen BK237.out 6; have hfz7_7 := blk_frozen BK237.out 7; have hfz7_8 := blk_frozen BK237.out 8; have hfz7_9 := blk_frozen BK237.out 9; have hfz7_10 := blk_frozen BK237.out 10; have hfz7_11 := blk_frozen BK237.out 11; have hfz7_12 := blk_frozen BK237.out 12; have hfz7_13 := blk_frozen BK237.out 13; have hfz7_14 := blk_frozen BK237.out 14; have hfz7_15 := blk_frozen BK237.out 15; have hfz7_16 := blk_frozen BK237.out 16; have hfz7_17 := blk_frozen BK237.out 17; have hfz7_18 := blk_frozen BK237.out 18; have hfz7_19 := blk_frozen BK237.out 19; have hfz7_20 := blk_frozen BK237.out 20; have hfz7_21 := blk_frozen BK237.out 21; have hfz7_22 := blk_frozen BK237.out 22; have hfz7_23 := blk_frozen BK237.out 23; have hcz8_0 : w5.cell? ⟨gb238, 0, none⟩ = some (.int .i64 a1_0) := (blk_cell BK238.out 0).trans rfl; have hcz8_1 : w5.cell? ⟨gb238, 1, none⟩ = some (.int .i64 a1_1) := (blk_cell BK238.out 1).trans rfl; have hcz8_2 : w5.cell? ⟨gb238, 2, none⟩ = some (.int .i64 a1_2) := (blk_cell BK238.out 2).trans rfl; have hcz8_3 : w5.cell? ⟨gb238, 3, none⟩ = some (.int .i64 a1_3) := (blk_cell BK238.out 3).trans rfl; have hcz8_4 : w5.cell? ⟨gb238, 4, none⟩ = some (.bool a1_4) := (blk_cell BK238.out 4).trans rfl; have hcz8_5 : w5.cell? ⟨gb238, 5, none⟩ = some (.int .u64 a1_5) := (blk_cell BK238.out 5).trans rfl; have hcz8_6 : w5.cell? ⟨gb238, 6, none⟩ = some (.int .u8 a1_6) := (blk_cell BK238.out 6).trans rfl; have hcz8_7 : w5.cell? ⟨gb238, 7, none⟩ = some (.int .u64 a1_7) := (blk_cell BK238.out 7).trans rfl; have hcz8_8 : w5.cell? ⟨gb238, 8, none⟩ = some (.int .i64 a1_8) := (blk_cell BK238.out 8).trans rfl; have hcz8_9 : w5.cell? ⟨gb238, 9, none⟩ = some (.bool a1_9) := (blk_cell BK238.out 9).trans rfl; have hcz8_10 : w5.cell? ⟨gb238, 10, none⟩ = some (.bool a1_10) := (blk_cell BK238.out 10).trans rfl; have hcz8_11 : w5.cell? ⟨gb238, 11, none⟩ = some (.bool a1_11) := (blk_cell BK238.out 11).trans rfl; have hcz8_12 : w5.cell? ⟨gb238, 12, none⟩ = some (.bool a1_12) := (blk_cell BK238.out 12).trans rfl; have hcz8_13 : w5.cell? ⟨gb238, 13, none⟩ = some (.bool a1_13) := (blk_cell BK238.out 13).trans rfl; have hcz8_14 : w5.cell? ⟨gb238, 14, none⟩ = some (.bool a1_14) := (blk_cell BK238.out 14).trans rfl; have hcz8_15 : w5.cell? ⟨gb238, 15, none⟩ = some (.int .i64 a1_15) := (blk_cell BK238.out 15).trans rfl; have hcz8_16 : w5.cell? ⟨gb238, 16, none⟩ = some (.int .u64 a1_16) := (blk_cell BK238.out 16).trans rfl; have hcz8_17 : w5.cell? ⟨gb238, 17, none⟩ = some (.int .i64 a1_17) := (blk_cell BK238.out 17).trans rfl; have hcz8_18 : w5.cell? ⟨gb238, 18, none⟩ = some (.int .i64 a1_18) := (blk_cell BK238.out 18).trans rfl; have hcz8_19 : w5.cell? ⟨gb238, 19, none⟩ = some (.int .i64 a1_19) := (blk_cell BK238.out 19).trans rfl; have hcz8_20 : w5.cell? ⟨gb238, 20, none⟩ = some (.int .i64 a1_20) := (blk_cell BK238.out 20).trans rfl; have hcz8_21 : w5.cell? ⟨gb238, 21, none⟩ = some (.int .i64 a1_21) := (blk_cell BK238.out 21).trans rfl; have hcz8_22 : w5.cell? ⟨gb238, 22, none⟩ = some (.int .u8 a1_22) := (blk_cell BK238.out 22).trans rfl; have hcz8_23 : w5.cell? ⟨gb238, 23, none⟩ = some (.int .i64 a1_23) := (blk_cell BK238.out 23).trans rfl; have hfz8_0 := blk_frozen BK238.out 0; have hfz8_1 := blk_frozen BK238.out 1; have hfz8_2 := blk_frozen BK238.out 2; have hfz8_3 := blk_frozen BK238.out 3; have hfz8_4 := blk_frozen BK238.out 4; have hfz8_5 := blk_frozen BK238.out 5; have hfz8_6 := blk_frozen BK238.out 6; have hfz8_7 := blk_frozen BK238.out 7; have hfz8_8 := blk_frozen BK238.out 8; have hfz8_9 := blk_frozen BK238.out 9; have hfz8_10 := blk_frozen BK238.out 10; have hfz8_11 := blk_frozen BK238.out 11; have hfz8_12 := blk_frozen BK238.out 12; have hfz8_13 := blk_frozen BK238.out 13; have hfz8_14 := blk_frozen BK238.out 14; have hfz8_15 := blk_frozen BK238.out 15; have hfz8_16 := blk_frozen BK238.out 16; have hfz8_17 := blk_frozen BK238.out 17; have hfz8_18 := blk_frozen BK238.out 18; have hfz8_19 := blk_frozen BK238.out 19; have hfz8_20 := blk_frozen BK238.out 20; have hfz8_21 := blk_frozen BK238.out 21; have hfz8_22 := blk_frozen BK238.out 22; have hfz8_23 := blk_frozen BK238.out 23))
    go_ret
    exact ⟨by first | rfl | (simp [errW_none, errW_some] <;> rfl) | (simp [*, errW_none, errW_some] <;> rfl), by repeat (first | (with_reducible first | exact HB.out | apply below_alloc | apply pw_below_drewN | apply below_drew1 | refine below_set ?_ GE237.out | refine below_set ?_ GE238.out) | exact HB.out)⟩
  · rw [if_neg c3] at H
    have c3b0 : decide (0 ≤ a0_18) = false := decide_eq_false c3
    clear c3
    obtain rfl := Option.some.inj H
    go_enter Try.func28, Try.ntmps28
    go_wp2_with (first | ((with_reducible refine gate_dst (N := 2) rfl ?_); refine box_event ?hg (N := 2) ?hd (cs := #[.int .i64 a0_0, .int .i64 a0_1, .int .i64 a0_2, .int .i64 a0_3, .bool a0_4, .int .u64 a0_5, .int .u8 a0_6, .int .u64 a0_7, .int .i64 a0_8, .bool a0_9, .bool a0_10, .bool a0_11, .bool a0_12, .bool a0_13, .bool a0_14, .int .i64 a0_15, .int .u64 a0_16, .int .i64 a0_17, .int .i64 a0_18, .int .i64 a0_19, .int .i64 a0_20, .int .i64 a0_21, .int .u8 a0_22, .int .i64 a0_23]) (t := 69) ?hr ?_; (case hd => rfl); (case hg => rfl); (case hr => first | (go_simp; done) | (go_simp; rfl)); intro gb237 hg w9 hbox hb; have n0_ := Aside0.mk (below_step (by repeat (first | (with_reducible first | exact HB.out | apply below_alloc | apply pw_below_drewN | apply below_drew1) | exact HB.out)) hb); have n1_ := Aside0.mk (hbox); have n2_ := Aside0.mk ((by rw [hg]; exact (below_size (by repeat (first | (with_reducible first | exact HB.out | apply below_alloc | apply pw_below_drewN | apply below_drew1) | exact HB.out))) : w.heap.size ≤ gb237)); have n3_ := Aside0.mk ((by rw [hg]; exact (below_size (by repeat (first | (with_reducible first | exact HB.out | apply below_alloc | apply pw_below_drewN | apply below_drew1) | exact HB.out))) : w.heap.size ≤ gb237)); clear HB; have HB := n0_; have BK237 := n1_; have GW237 := n2_; have GE237 := n3_; clear n0_ n1_ n2_ n3_; clear hb hbox hg) | ((with_reducible refine gate_dst (N := 3) rfl ?_); refine box_event ?hg (N := 3) ?hd (cs := #[.int .i64 a1_0, .int .i64 a1_1, .int .i64 a1_2, .int .i64 a1_3, .bool a1_4, .int .u64 a1_5, .int .u8 a1_6, .int .u64 a1_7, .int .i64 a1_8, .bool a1_9, .bool a1_10, .bool a1_11, .bool a1_12, .bool a1_13, .bool a1_14, .int .i64 a1_15, .int .u64 a1_16, .int .i64 a1_17, .int .i64 a1_18, .int .i64 a1_19, .int .i64 a1_20, .int .i64 a1_21, .int .u8 a1_22, .int .i64 a1_23]) (t := 69) ?hr ?_; (case hd => rfl); (case hg => rfl); (case hr => first | (go_simp; done) | (go_simp; rfl)); intro gb238 hg w10 hbox hb; have n0_ := Aside0.mk (blk_below (g := gb237) (o := .cells #[.int .i64 a0_0, .int .i64 a0_1, .int .i64 a0_2, .int .i64 a0_3, .bool a0_4, .int .u64 a0_5, .int .u8 a0_6, .int .u64 a0_7, .int .i64 a0_8, .bool a0_9, .bool a0_10, .bool a0_11, .bool a0_12, .bool a0_13, .bool a0_14, .int .i64 a0_15, .int .u64 a0_16, .int .i64 a0_17, .int .i64 a0_18, .int .i64 a0_19, .int .i64 a0_20, .int .i64 a0_21, .int .u8 a0_22, .int .i64 a0_23] 69 (0, 0)) (by (with_reducible repeat (first | refine blk_drewN ?_ _ | refine blk_drew ?_ | refine blk_alloc ?_ _)); exact BK237.out) hb); have n1_ := Aside0.mk (below_step (by repeat (first | (with_reducible first | exact HB.out | apply below_alloc | apply pw_below_drewN | apply below_drew1 | refine below_set ?_ GE237.out) | exact HB.out)) hb); have n2_ := Aside0.mk (hbox); have n3_ := Aside0.mk ((by rw [hg]; exact (below_size (by repeat (first | (with_reducible first | exact HB.out | apply below_alloc | apply pw_below_drewN | apply below_drew1 | refine below_set ?_ GE237.out) | exact HB.out))) : w.heap.size ≤ gb238)); have n4_ := Aside0.mk ((by rw [hg]; exact (below_size (by repeat (first | (with_reducible first | exact HB.out | apply below_alloc | apply pw_below_drewN | apply below_drew1 | refine below_set ?_ GE237.out) | exact HB.out))) : w.heap.size ≤ gb238)); have n5_ := Aside0.mk ((by rw [hg]; exact Nat.ne_of_lt (blk_lt (g := gb237) (o := .cells #[.int .i64 a0_0, .int .i64 a0_1, .int .i64 a0_2, .int .i64 a0_3, .bool a0_4, .int .u64 a0_5, .int .u8 a0_6, .int .u64 a0_7, .int .i64 a0_8, .bool a0_9, .bool a0_10, .bool a0_11, .bool a0_12, .bool a0_13, .bool a0_14, .int .i64 a0_15, .int .u64 a0_16, .int .i64 a0_17, .int .i64 a0_18, .int .i64 a0_19, .int .i64 a0_20, .int .i64 a0_21, .int .u8 a0_22, .int .i64 a0_23] 69 (0, 0)) (by (with_reducible repeat (first | refine blk_drewN ?_ _ | refine blk_drew ?_ | refine blk_alloc ?_ _)); exact BK237.out)) : gb237 ≠ gb238)); have n6_ := Aside0.mk ((by rw [hg]; exact Nat.ne_of_gt (blk_lt (g := gb237) (o := .cells #[.int .i64 a0_0, .int .i64 a0_1, .int .i64 a0_2, .int .i64 a0_3, .bool a0_4, .int .u64 a0_5, .int .u8 a0_6, .int .u64 a0_7, .int .i64 a0_8, .bool a0_9, .bool a0_10, .bool a0_11, .bool a0_12, .bool a0_13, .bool a0_14, .int .i64 a0_15, .int .u64 a0_16, .int .i64 a0_17, .int .i64 a0_18, .int .i64 a0_19, .int .i64 a0_20, .int .i64 a0_21, .int .u8 a0_22, .int .i64 a0_23] 69 (0, 0)) (by (with_reducible repeat (first | refine blk_drewN ?_ _ | refine blk_drew ?_ | refine blk_alloc ?_ _)); exact BK237.out)) : gb238 ≠ gb237)); clear BK237; clear HB; have BK237 := n0_; have HB := n1_; have BK238 := n2_; have GW238 := n3_; have GE238 := n4_; have NB237_238 := n5_; have NB238_237 := n6_; clear n0_ n1_ n2_ n3_ n4_ n5_ n6_; clear hb hbox hg; have hnb11 := NB237_238.out; have hnc11 := NB238_237.out; have hcz12_0 : w10.cell? ⟨gb237, 0, none⟩ = some (.int .i64 a0_0) := (blk_cell BK237.out 0).trans rfl; have hcz12_1 : w10.cell? ⟨gb237, 1, none⟩ = some (.int .i64 a0_1) := (blk_cell BK237.out 1).trans rfl; have hcz12_2 : w10.cell? ⟨gb237, 2, none⟩ = some (.int .i64 a0_2) := (blk_cell BK237.out 2).trans rfl; have hcz12_3 : w10.cell? ⟨gb237, 3, none⟩ = some (.int .i64 a0_3) := (blk_cell BK237.out 3).trans rfl; have hcz12_4 : w10.cell? ⟨gb237, 4, none⟩ = some (.bool a0_4) := (blk_cell BK237.out 4).trans rfl; have hcz12_5 : w10.cell? ⟨gb237, 5, none⟩ = some (.int .u64 a0_5) := (blk_cell BK237.out 5).trans rfl; have hcz12_6 : w10.cell? ⟨gb237, 6, none⟩ = some (.int .u8 a0_6) := (blk_cell BK237.out 6).trans rfl; have hcz12_7 : w10.cell? ⟨gb237, 7, none⟩ = some (.int .u64 a0_7) := (blk_cell BK237.out 7).trans rfl; have hcz12_8 : w10.cell? ⟨gb237, 8, none⟩ = some (.int .i64 a0_8) := (blk_cell BK237.out 8).trans rfl; have hcz12_9 : w10.cell? ⟨gb237, 9, none⟩ = some (.bool a0_9) := (blk_cell BK237.out 9).trans rfl; have hcz12_10 : w10.cell? ⟨gb237, 10, none⟩ = some (.bool a0_10) := (blk_cell BK237.out 10).trans rfl; have hcz12_11 : w10.cell? ⟨gb237, 11, none⟩ = some (.bool a0_11) := (blk_cell BK237.out 11).trans rfl; have hcz12_12 : w10.cell? ⟨gb237, 12, none⟩ = some (.bool a0_12) := (blk_cell BK237.out 12).trans rfl; have hcz12_13 : w10.cell? ⟨gb237, 13, none⟩ = some (.bool a0_13) := (blk_cell BK237.out 13).trans rfl; have hcz12_14 : w10.cell? ⟨gb237, 14, none⟩ = some (.bool a0_14) := (blk_cell BK237.out 14).trans rfl; have hcz12_15 : w10.cell? ⟨gb237, 15, none⟩ = some (.int .i64 a0_15) := (blk_cell BK237.out 15).trans rfl; have hcz12_16 : w10.cell? ⟨gb237, 16, none⟩ = some (.int .u64 a0_16) := (blk_cell BK237.out 16).trans rfl; have hcz12_17 : w10.cell? ⟨gb237, 17, none⟩ = some (.int .i64 a0_17) := (blk_cell BK237.out 17).trans rfl; have hcz12_18 : w10.cell? ⟨gb237, 18, none⟩ = some (.int .i64 a0_18) := (blk_cell BK237.out 18).trans rfl; have hcz12_19 : w10.cell? ⟨gb237, 19, none⟩ = some (.int .i64 a0_19) := (blk_cell BK237.out 19).trans rfl; have hcz12_20 : w10.cell? ⟨gb237, 20, none⟩ = some (.int .i64 a0_20) := (blk_cell BK237.out 20).trans rfl; have hcz12_21 : w10.cell? ⟨gb237, 21, none⟩ = some (.int .i64 a0_21) := (blk_cell BK237.out 21).trans rfl; have hcz12_22 : w10.cell? ⟨gb237, 22, none⟩ = some (.int .u8 a0_22) := (blk_cell BK237.out 22).trans rfl; have hcz12_23 : w10.cell? ⟨gb237, 23, none⟩ = some (.int .i64 a0_23) := (blk_cell BK237.out 23).trans rfl; have hfz12_0 := blk_frozen BK237.out 0; have hfz12_1 := blk_frozen BK237.out 1; have hfz12_2 := blk_frozen BK237.out 2; have hfz12_3 := blk_frozen BK237.out 3; have hfz12_4 := blk_frozen BK237.out 4; have hfz12_5 := blk_frozen BK237.out 5; have hfz12_6 := blk_frozen BK237.out 6; have hfz12_7 := blk_frozen BK237.out 7; have hfz12_8 := blk_frozen BK237.out 8; have hfz12_9 := blk_frozen BK237.out 9; have hfz12_10 := blk_frozen BK237.out 10; have hfz12_11 := blk_frozen BK237.out 11; have hfz12_12 := blk_frozen BK237.out 12; have hfz12_13 := blk_frozen BK237.out 13; have hfz12_14 := blk_frozen BK237.out 14; have hfz12_15 := blk_frozen BK237.out 15; have hfz12_16 := blk_frozen BK237.out 16; have hfz12_17 := blk_frozen BK237.out 17; have hfz12_18 := blk_frozen BK237.out 18; have hfz12_19 := blk_frozen BK237.out 19; have hfz12_20 := blk_frozen BK237.out 20; have hfz12_21 := blk_frozen BK237.out 21; have hfz12_22 := blk_frozen BK237.out 22; have hfz12_23 := blk_frozen BK237.out 23))
    go_ret
    exact ⟨by first | rfl | (simp [errW_none, errW_some] <;> rfl) | (simp [*, errW_none, errW_some] <;> rfl), by repeat (first | (with_reducible first | exact HB.out | apply below_alloc | apply pw_below_drewN | apply below_drew1 | refine below_set ?_ GE237.out | refine below_set ?_ GE238.out) | exact HB.out)⟩

end Go.Proofs.Ytalmemcidbmdgaa.PM

-- written by xprint.py, a program of this session, over the kit's print (functions told by hand: see the texts)
namespace Go.Proofs.Ytalmemcidbmdgaa.PM
open Go.RowKit Go.Proofs.YtalmemcidbmdgaaW.PrintWords Go.Proofs.YtalmemcidbmdgaaW.PrintLast Go.Proofs.YtalmemcidbmdgaaW.PrintMore
attribute [local go_sem] max2_int min2_int max_two min_two max_three min_three max_four min_four   -- for this text's walks alone
set_option linter.unusedVariables false
set_option linter.unusedSimpArgs false

/-! ### lookasideref16_New: function 11 -/
end Go.Proofs.Ytalmemcidbmdgaa.PM

-- written by xprint.py, a program of this session, over the kit's print (functions told by hand: see the texts)
namespace Go.Proofs.Ytalmemcidbmdgaa.PM
open Go.RowKit Go.Proofs.YtalmemcidbmdgaaW.PrintWords Go.Proofs.YtalmemcidbmdgaaW.PrintLast Go.Proofs.YtalmemcidbmdgaaW.PrintMore
attribute [local go_sem] max2_int min2_int max_two min_two max_three min_three max_four min_four   -- for this text's walks alone
set_option linter.unusedVariables false
set_option linter.unusedSimpArgs false

/-! ### lookasideref12_At: function 64 -/
end Go.Proofs.Ytalmemcidbmdgaa.PM

-- written by xprint.py, a program of this session, over the kit's print (functions told by hand: see the texts)
namespace Go.Proofs.Ytalmemcidbmdgaa.PM
open Go.RowKit Go.Proofs.YtalmemcidbmdgaaW.PrintWords Go.Proofs.YtalmemcidbmdgaaW.PrintLast Go.Proofs.YtalmemcidbmdgaaW.PrintMore
attribute [local go_sem] max2_int min2_int max_two min_two max_three min_three max_four min_four   -- for this text's walks alone
set_option linter.unusedVariables false
set_option linter.unusedSimpArgs false

/-! ### lookasideref16_At: function 36 -/
-- NOT PRINTED: function 58 (lookasideref16_with)

-- NOT PRINTED: function 60 (lookasideref16_put)

/-! ### lookasideref16_get: function 61 -/
end Go.Proofs.Ytalmemcidbmdgaa.PM


namespace Go.Proofs.Ytalmemcidbmdgaa.BitsN
open Go.Proofs.YtalmemcidbmdgaaW.PrintMore

theorem w64 (n : Int) (h₀ : 0 ≤ n) (h₁ : n < 2 ^ 64) : IntKind.u64.wrap n = n := by rw [IntKind.wrap_u64]; omega
theorem and_nat (a b : Nat) (ha : a < 2 ^ 64) (hb : b < 2 ^ 64) : Go.bits .and .u64 (a : Int) (b : Int) = ((a &&& b : Nat) : Int) := (bits_nat .u64 64 (by decide) w64 a b ha hb).1
/-- the field's mask -/
def mk (P S : Nat) : Nat := (2 ^ S - 1) * 2 ^ P
theorem tb_mk (P S i : Nat) : (mk P S).testBit i = (decide (P ≤ i) && decide (i < P + S)) := by
  unfold mk
  rw [Nat.testBit_mul_two_pow, Nat.testBit_two_pow_sub_one]
  by_cases h : P ≤ i
  · have : (i - P < S) ↔ (i < P + S) := by omega
    simp [h, this]
  · simp [h]
theorem mk_lt (P S : Nat) (h : P + S ≤ 64) : mk P S < 2 ^ 64 := by
  unfold mk
  have h1 : 0 < 2 ^ S := Nat.two_pow_pos S
  have h2 : (2 ^ S - 1) * 2 ^ P < 2 ^ S * 2 ^ P := Nat.mul_lt_mul_of_pos_right (by omega) (Nat.two_pow_pos P)
  rw [← Nat.pow_add] at h2
  exact Nat.lt_of_lt_of_le h2 (Nat.pow_le_pow_right (by decide) (by omega))
/-- what stands in the field -/
def get (w P S : Nat) : Nat := w / 2 ^ P % 2 ^ S
theorem tb_get (w P S i : Nat) : (get w P S).testBit i = (decide (i < S) && w.testBit (P + i)) := by
  unfold get
  rw [Nat.testBit_mod_two_pow, Nat.testBit_div_two_pow, Nat.add_comm]
theorem and_mk_div (w P S : Nat) : (w &&& mk P S) / 2 ^ P = get w P S := by
  apply Nat.eq_of_testBit_eq
  intro i
  rw [Nat.testBit_div_two_pow, Nat.testBit_and, tb_mk, tb_get, Nat.add_comm i P]
  have : P ≤ P + i := by omega
  have h2 : (P + i < P + S) ↔ i < S := by omega
  simp [this, h2, Bool.and_comm]
/-- a word with a number in the field -/
def put (w P S v : Nat) : Nat := (w &&& (2 ^ 64 - (mk P S + 1))) ||| (v * 2 ^ P % 2 ^ 64 &&& mk P S)
end Go.Proofs.Ytalmemcidbmdgaa.BitsN

namespace Go.Proofs.Ytalmemcidbmdgaa.FieldG
open Go.RowKit Go.Proofs.Ytalmemcidbmdgaa.PM Go.Proofs.Ytalmemcidbmdgaa.BitsN Go.Proofs.YtalmemcidbmdgaaW.PrintWords Go.Proofs.YtalmemcidbmdgaaW.PrintLast Go.Proofs.YtalmemcidbmdgaaW.PrintMore

def May (p s : Int) : Prop := 0 ≤ p ∧ 1 ≤ s ∧ s ≤ 64 ∧ p + s ≤ 64
instance (p s : Int) : Decidable (May p s) := by unfold May; infer_instance
theorem may_eq (p s : Int) : field_May.f p s = some (decide (May p s)) := by
  unfold field_May.f May
  by_cases h1 : p ≥ 0
  · rw [if_pos h1]
    by_cases h2 : s ≥ 1
    · rw [if_pos h2]
      by_cases h3 : s ≤ 64
      · rw [if_pos h3]
        have : wrap64 (64 - s) = 64 - s := by unfold wrap64; omega
        rw [this]
        congr 1
        apply decide_eq_decide.mpr
        omega
      · rw [if_neg h3]; exact congrArg some (decide_eq_false (by omega)).symm
    · rw [if_neg h2]; exact congrArg some (decide_eq_false (by omega)).symm
  · rw [if_neg h1]; exact congrArg some (decide_eq_false (by omega)).symm
theorem may_of {P S : Nat} (h1 : 1 ≤ S) (h : P + S ≤ 64) : May (P : Int) (S : Int) := ⟨by omega, by omega, by omega, by omega⟩
theorem pow_cast (n : Nat) : ((2 : Int) ^ n) = ((2 ^ n : Nat) : Int) := by simp
theorem shr_nat (a n : Nat) (hn : n ≤ 64) : shr .u64 (a : Int) (n : Int) = ((a / 2 ^ n : Nat) : Int) := by
  unfold shr
  have : min (n : Int).toNat IntKind.u64.bits = n := by
    have : IntKind.u64.bits = 64 := rfl
    omega
  rw [this, pow_cast, Int.natCast_ediv]
theorem shl_nat (a n : Nat) (hn : n ≤ 64) : shl .u64 (a : Int) (n : Int) = ((a * 2 ^ n % 2 ^ 64 : Nat) : Int) := by
  unfold shl
  have : min (n : Int).toNat IntKind.u64.bits = n := by
    have : IntKind.u64.bits = 64 := rfl
    omega
  rw [this, pow_cast, IntKind.wrap_u64, ← Int.natCast_mul]
  omega
theorem mask_yes {P S : Nat} (h1 : 1 ≤ S) (h : P + S ≤ 64) : field_Mask.f P S = some ((mk P S : Nat) : Int) := by
  unfold field_Mask.f
  rw [may_eq, decide_eq_true (may_of h1 h)]
  simp only [Option.bind_some, if_true]
  have e : wrap64 (64 - (S : Int)) = ((64 - S : Nat) : Int) := by unfold wrap64; omega
  rw [e, if_pos (by omega), if_pos (by omega)]
  have e2 : (18446744073709551615 : Int) = ((2 ^ 64 - 1 : Nat) : Int) := by simp
  rw [e2, shr_nat _ _ (by omega), shl_nat _ _ (by omega)]
  congr 2
  have hp : (2 : Nat) ^ 64 = 2 ^ S * 2 ^ (64 - S) := by rw [← Nat.pow_add]; congr 1; omega
  have : (2 ^ 64 - 1) / 2 ^ (64 - S) = 2 ^ S - 1 := by
    rw [hp]
    have hq : 0 < 2 ^ (64 - S) := Nat.two_pow_pos _
    have hs : 0 < 2 ^ S := Nat.two_pow_pos _
    have e3 : 2 ^ S * 2 ^ (64 - S) - 1 = (2 ^ S - 1) * 2 ^ (64 - S) + (2 ^ (64 - S) - 1) := by
      have : (2 ^ S - 1) * 2 ^ (64 - S) = 2 ^ S * 2 ^ (64 - S) - 2 ^ (64 - S) := by rw [Nat.sub_mul, Nat.one_mul]
      have : 2 ^ (64 - S) ≤ 2 ^ S * 2 ^ (64 - S) := Nat.le_mul_of_pos_left _ hs
      omega
    rw [e3, Nat.add_comm, Nat.add_mul_div_right _ _ hq, Nat.div_eq_of_lt (by omega)]
    omega
  rw [this]
  exact Nat.mod_eq_of_lt (mk_lt P S h)
theorem get_yes {P S : Nat} (w : Nat) (hw : w < 2 ^ 64) (h1 : 1 ≤ S) (h : P + S ≤ 64) : field_Get.f w P S = some ((get w P S : Nat) : Int) := by
  unfold field_Get.f
  rw [may_eq, decide_eq_true (may_of h1 h)]
  simp only [Option.bind_some, if_true]
  rw [mask_yes h1 h]
  simp only [Option.bind_some]
  rw [if_pos (by omega), and_nat _ _ hw (mk_lt P S h), shr_nat _ _ (by omega), and_mk_div]
end Go.Proofs.Ytalmemcidbmdgaa.FieldG

/- Pages' bases: the program's and the reference's. -/
set_option linter.unusedVariables false
set_option linter.unusedSimpArgs false
namespace Go.Proofs.Ytalmemcidbmdgaa.PageG
open Go.RowKit Go.Proofs.Ytalmemcidbmdgaa.PM Go.Proofs.Ytalmemcidbmdgaa.BitsN Go.Proofs.YtalmemcidbmdgaaW.PrintWords Go.Proofs.YtalmemcidbmdgaaW.PrintLast Go.Proofs.YtalmemcidbmdgaaW.PrintMore
theorem pmay (s : Int) : page_May.f s = some (decide (0 ≤ s ∧ s < 4)) := by
  unfold page_May.f
  split
  · congr 1; rw [Bool.eq_iff_iff]; simp; omega
  · congr 1; rw [Bool.eq_iff_iff]; simp; omega
theorem pbits (s : Nat) (h : s < 4) : page_Bits.f s = some ((13 + 3 * s : Nat) : Int) := by
  have : s = 0 ∨ s = 1 ∨ s = 2 ∨ s = 3 := by omega
  rcases this with rfl | rfl | rfl | rfl <;> decide +kernel
theorem wu (n : Int) (h0 : 0 ≤ n) (h1 : n < 18446744073709551616) : IntKind.u64.wrap n = n := by rw [IntKind.wrap_u64]; omega
/-- Where the page of an address begins. -/
def bs (va s : Nat) : Nat := va / 2 ^ (13 + 3 * s) * 2 ^ (13 + 3 * s)
theorem bs_le (va s : Nat) : bs va s ≤ va := Nat.div_mul_le_self _ _
theorem off_p (va s : Nat) (hv : va < 2 ^ 64) (hs : s < 4) : page_Offset.f va s = some ((va % 2 ^ (13 + 3 * s) : Nat) : Int) := by
  unfold page_Offset.f
  rw [pmay]
  rw [Option.bind_some]
  rw [if_pos (by simp; omega), pbits s hs]
  rw [Option.bind_some]
  have hg := FieldG.get_yes (P := 0) (S := 13 + 3 * s) va hv (by omega) (by omega)
  rw [show ((0 : Nat) : Int) = 0 from rfl] at hg
  rw [hg]
  rw [Option.bind_some]
  unfold BitsN.get
  simp only [Nat.pow_zero, Nat.div_one]
theorem base_p (va s : Nat) (hv : va < 2 ^ 64) (hs : s < 4) : page_Base.f va s = some ((bs va s : Nat) : Int) := by
  unfold page_Base.f
  rw [pmay]
  rw [Option.bind_some]
  rw [if_pos (by simp; omega), off_p va s hv hs]
  rw [Option.bind_some]
  have h1 : bs va s + va % 2 ^ (13 + 3 * s) = va := by unfold bs; rw [Nat.mul_comm]; exact Nat.div_add_mod _ _
  rw [wu _ (by omega) (by omega)]
  congr 1
  omega
theorem in_p (a b s : Nat) (ha : a < 2 ^ 64) (hb : b < 2 ^ 64) (hs : s < 4) : page_In.f a b s = some (decide (bs a s = bs b s)) := by
  unfold page_In.f
  rw [pmay]
  rw [Option.bind_some]
  rw [if_pos (by simp; omega), base_p a s ha hs]
  rw [Option.bind_some]
  rw [base_p b s hb hs]
  rw [Option.bind_some]
  congr 1
  rw [Bool.eq_iff_iff]
  simp
  omega
theorem meet_p (a m b n : Nat) (ha : a < 2 ^ 64) (hb : b < 2 ^ 64) (hm : m < 4) (hn : n < 4) : page_Meet.f a m b n = some (decide (bs a (max m n) = bs b (max m n))) := by
  unfold page_Meet.f
  rw [pmay]
  rw [Option.bind_some]
  rw [if_pos (by simp; omega), pmay]
  rw [Option.bind_some]
  rw [if_pos (by simp; omega)]
  have hmx : mx (m : Int) (n : Int) = ((max m n : Nat) : Int) := by unfold mx; split <;> omega
  rw [hmx, in_p a b (max m n) ha hb (by omega)]
  rw [Option.bind_some]
end Go.Proofs.Ytalmemcidbmdgaa.PageG

/- A model of spaces (layer 16), plain: its pages, which is at an address, and what is done with them. -/
set_option linter.unusedVariables false
set_option linter.unusedSimpArgs false
namespace Go.Proofs.Ytalmemcidbmdgaa.PM
open Go.RowKit Go.Proofs.Ytalmemcidbmdgaa.PageG
abbrev Pg := S50
abbrev Atr := S34
abbrev Ent := S105
abbrev Bt := S114
def vaN (x : Ent) : Nat := x.f1.f0.toNat
def szN (x : Ent) : Nat := x.f1.f1.toNat
structure OkE (x : Ent) : Prop where
  sp0 : 0 ≤ x.f0
  sp1 : x.f0 < 64
  va : x.f1.f0 = (vaN x : Int)
  va1 : vaN x < 2 ^ 64
  sz : x.f1.f1 = (szN x : Int)
  sz1 : szN x < 4
  st : bs (vaN x) (szN x) = vaN x
  pa0 : 0 ≤ x.f1.f2
  pa1 : x.f1.f2 < 1000000
def meets (x y : Ent) : Prop := x.f0 = y.f0 ∧ bs (vaN x) (max (szN x) (szN y)) = bs (vaN y) (max (szN x) (szN y))
structure WfL (L : List Ent) : Prop where
  ok : ∀ x ∈ L, OkE x
  apart : L.Pairwise (fun x y => ¬ meets x y)
def hit (sp : Int) (va : Nat) (x : Ent) : Bool := x.f0 == sp && bs va (szN x) == vaN x
theorem hit_iff {sp : Int} {va : Nat} {x : Ent} : hit sp va x = true ↔ x.f0 = sp ∧ bs va (szN x) = vaN x := by simp [hit]
theorem div_div_pow (v a b : Nat) (h : a ≤ b) : v / 2 ^ a * 2 ^ a / 2 ^ b = v / 2 ^ b := by
  have e : 2 ^ b = 2 ^ a * 2 ^ (b - a) := by rw [← Nat.pow_add]; congr 1; omega
  rw [e, ← Nat.div_div_eq_div_mul, Nat.mul_div_cancel _ (Nat.two_pow_pos a), ← Nat.div_div_eq_div_mul]
theorem bs_bs (v a b : Nat) (h : a ≤ b) : bs (bs v a) b = bs v b := by
  unfold bs
  rw [div_div_pow v _ _ (by omega)]
theorem meets_symm {x y : Ent} (h : meets x y) : meets y x := ⟨h.1.symm, by rw [Nat.max_comm]; exact h.2.symm⟩
theorem hit_meets {sp : Int} {va : Nat} {x y : Ent} (hx : hit sp va x = true) (hy : hit sp va y = true) : meets x y := by
  obtain ⟨h1, h2⟩ := hit_iff.1 hx
  obtain ⟨h3, h4⟩ := hit_iff.1 hy
  refine ⟨h1.trans h3.symm, ?_⟩
  rw [← h2, ← h4, bs_bs _ _ _ (Nat.le_max_left _ _), bs_bs _ _ _ (Nat.le_max_right _ _)]
theorem pw_index {α : Type} {R : α → α → Prop} (hs : ∀ x y, R x y → R y x) : ∀ {l : List α}, l.Pairwise (fun x y => ¬ R x y) → ∀ {i j : Nat} {x y : α}, l[i]? = some x → l[j]? = some y → R x y → i = j
  | [], _, i, j, x, y, hi, _, _ => by simp at hi
  | a :: l, h, 0, 0, x, y, _, _, _ => rfl
  | a :: l, h, 0, j + 1, x, y, hi, hj, hr => by
    simp at hi hj
    subst hi
    exact absurd hr ((List.pairwise_cons.1 h).1 y (List.mem_of_getElem? hj))
  | a :: l, h, i + 1, 0, x, y, hi, hj, hr => by
    simp at hi hj
    subst hj
    exact absurd (hs _ _ hr) ((List.pairwise_cons.1 h).1 x (List.mem_of_getElem? hi))
  | a :: l, h, i + 1, j + 1, x, y, hi, hj, hr => by
    simp at hi hj
    rw [pw_index hs (List.pairwise_cons.1 h).2 hi hj hr]
theorem WfL.one {L : List Ent} (h : WfL L) {i j : Nat} {x y : Ent} (hi : L[i]? = some x) (hj : L[j]? = some y) (hm : meets x y) : i = j := pw_index (fun _ _ => meets_symm) h.apart hi hj hm
/-- Where a space's page at an address stands. -/
def find (L : List Ent) (sp : Int) (va : Nat) : Option Nat := L.findIdx? (hit sp va)
theorem find_some {L : List Ent} {sp : Int} {va i : Nat} (h : find L sp va = some i) : ∃ x, L[i]? = some x ∧ hit sp va x = true := by
  unfold find at h
  rw [List.findIdx?_eq_some_iff_getElem] at h
  obtain ⟨hi, h1, _⟩ := h
  exact ⟨L[i], List.getElem?_eq_getElem hi, h1⟩
theorem find_none {L : List Ent} {sp : Int} {va : Nat} (h : find L sp va = none) : ∀ x ∈ L, hit sp va x = false := by
  unfold find at h
  rw [List.findIdx?_eq_none_iff] at h
  exact h
theorem find_of {L : List Ent} (hw : WfL L) {sp : Int} {va i : Nat} {x : Ent} (hi : L[i]? = some x) (h : hit sp va x = true) : find L sp va = some i := by
  cases hf : find L sp va with
  | none => rw [find_none hf x (List.mem_of_getElem? hi)] at h; cases h
  | some j =>
    obtain ⟨y, hj, hy⟩ := find_some hf
    rw [hw.one hj hi (hit_meets hy h)]
/-- A region's byte. -/
def getB (by_ : List Bt) (r o : Int) : Int := match by_.find? (fun b => b.f0 == r && b.f1 == o) with
  | some b => b.f2
  | none => 0
def putB (by_ : List Bt) (r o v : Int) : List Bt := ⟨r, o, v⟩ :: by_.filter (fun b => !(b.f0 == r && b.f1 == o))
def cutB (by_ : List Bt) (r : Int) : List Bt := by_.filter (fun b => !(b.f0 == r))
theorem find_filter_of {α : Type} {p q : α → Bool} (h : ∀ b, q b = true → p b = true) : ∀ l : List α, (l.filter p).find? q = l.find? q
  | [] => rfl
  | b :: l => by
    cases hq : q b with
    | true => simp [List.filter_cons, h b hq, hq]
    | false =>
      cases hp : p b <;> simp [List.filter_cons, hp, hq, find_filter_of h l]
theorem find_filter_no {α : Type} {p q : α → Bool} (h : ∀ b, q b = true → p b = false) (l : List α) : (l.filter p).find? q = none := by
  rw [List.find?_eq_none]
  intro b hb hq
  have := (List.mem_filter.1 hb).2
  rw [h b hq] at this
  cases this
theorem getB_put (by_ : List Bt) (r o v r' o' : Int) : getB (putB by_ r o v) r' o' = if r' = r ∧ o' = o then v else getB by_ r' o' := by
  unfold getB putB
  by_cases h : r' = r ∧ o' = o
  · obtain ⟨rfl, rfl⟩ := h
    simp
  · rw [if_neg h]
    have h0 : ((r == r') && (o == o')) = false := by
      rw [Bool.and_eq_false_iff]
      by_cases e : r' = r
      · right; simp; intro e2; exact h ⟨e, e2.symm⟩
      · left; simp; exact fun e2 => e e2.symm
    rw [List.find?_cons]
    simp only [h0]
    rw [find_filter_of (fun b hb => ?_)]
    simp only [Bool.and_eq_true, beq_iff_eq] at hb
    cases hc : (b.f0 == r && b.f1 == o) with
    | false => rfl
    | true =>
      simp only [Bool.and_eq_true, beq_iff_eq] at hc
      exact absurd ⟨hb.1.symm.trans hc.1, hb.2.symm.trans hc.2⟩ h
theorem getB_cut (by_ : List Bt) (r r' o' : Int) : getB (cutB by_ r) r' o' = if r' = r then 0 else getB by_ r' o' := by
  unfold getB cutB
  by_cases h : r' = r
  · rw [if_pos h, find_filter_no (fun b hb => ?_)]
    simp only [Bool.and_eq_true, beq_iff_eq] at hb
    simp [hb.1, h]
  · rw [if_neg h, find_filter_of (fun b hb => ?_)]
    simp only [Bool.and_eq_true, beq_iff_eq] at hb
    simp [hb.1, h]
/-- How many pages are on a region. -/
def winN (L : List Ent) (r : Int) : Nat := L.countP (fun x => x.f1.f2 == r)
end Go.Proofs.Ytalmemcidbmdgaa.PM


import Derived.Test.YtgmdlndiilibpaaZHp8
import Derived.Test.YtgmdlndiilibpaaZHp3
import Derived.RangeFuncNested
-- printed by xprint.py, but for region 7 of Cut (rw.py)
namespace Go.Proofs.Ytgmdlndiilibpaa.PH
open Go.RowKit Go.Proofs.YtgmdlndiilibpaaW.PrintWords Go.Proofs.YtgmdlndiilibpaaW.PrintLast Go.Proofs.YtgmdlndiilibpaaW.PrintMore
attribute [local go_sem] max2_int min2_int max_two min_two max_three min_three max_four min_four   -- for this text's walks alone
set_option linter.unusedVariables false
set_option linter.unusedSimpArgs false
/-! ### lookasideref11_Cut: function 81 -/
def lookasideref11_Cut.f (k : Nat) (a0_0 : Int) (l0_1 : List (List (S128))) (a1_0 : Int) (a1_1 : Int) (a1_2 : Int) : Option (Int × (List (List (S128))) × Int) := (lookasideref11_Get.f k a0_0 l0_1 a1_0 a1_1 a1_2).bind fun bt206 => (if bt206.2.2 = true then ((lookasideref11_Chain.f a1_0 a1_1 a1_2 (l0_1.length : Int)).bind fun t209 => (if 0 ≤ t209 then (if t209 < (l0_1.length : Int) then (if 0 ≤ (wrap64 (bt206.2.1 - 1)) then (if (wrap64 (bt206.2.1 - 1)) ≤ ((rd_L4 l0_1 t209).length : Int) then ((some ((rd_L4 l0_1 t209).take ((wrap64 (bt206.2.1 - 1)) : Int).toNat : List (S128))).bind fun y211 => (if ([] : List (S128)).length + y211.length < 4398046511104 then ((some (([] : List (S128)) ++ y211 : List (S128))).bind fun y216 => (if 0 ≤ bt206.2.1 then (if bt206.2.1 ≤ ((rd_L4 l0_1 t209).length : Int) then ((some ((rd_L4 l0_1 t209).drop (bt206.2.1 : Int).toNat : List (S128))).bind fun y220 => (if y216.length + y220.length < 4398046511104 then ((lookasideref11_with.f a0_0 l0_1 t209 (y216 ++ y220)).bind fun bt228 => (some (bt228.1, bt228.2, 0))) else (none))) else (none)) else (none))) else (none))) else (none)) else (none)) else (none)) else (none))) else (some (a0_0, l0_1, 10)))
set_option maxHeartbeats 8000000 in
set_option maxRecDepth 100000 in
theorem lookasideref11_Cut.calls (k : Nat) (a0_0 : Int) (P0_1_ : Nat → Prop) (A0_1 : Option Addr) (c0_1 : Nat) (l0_1 : List (List (S128))) (a1_0 : Int) (a1_1 : Int) (a1_2 : Int) (r1 : Int) (r2 : List (List (S128))) (r3 : Int) (w : World) (hs0_1 : Kd.V (Kd.slice 128 k128) 76 w w.heap.size (fun k_ => P0_1_ k_) (.slice A0_1 l0_1.length c0_1) l0_1) (h : lookasideref11_Cut.f k a0_0 l0_1 a1_0 a1_1 a1_2 = some (r1, r2, r3)) :
    Calls Try.prog 81 #[.agg #[.int .i64 a0_0, .slice A0_1 l0_1.length c0_1], .agg #[.int .i64 a1_0, .int .u64 a1_1, .int .i64 a1_2]] w fun e w' => ∃ v1_ : Value, e = .returned (.tuple #[.agg #[.int .i64 r1, v1_], .int .i64 r3]) ∧ Kd.V (Kd.slice 128 k128) 76 w' w.heap.size (fun k_ => (P0_1_ k_ ∨ w.heap.size ≤ k_)) v1_ r2 ∧ Below w.heap.size w w' := by
  have hu71 := Try.underlying71
  have hu24 := Try.underlying24
  have HO0_1 := Aside0.mk (show Kd.V (Kd.slice 128 k128) 76 w w.heap.size (fun k_ => (P0_1_ k_ ∨ w.heap.size ≤ k_)) (.slice A0_1 l0_1.length c0_1) l0_1 from Kd.V_mono hs0_1 (fun k_ hk => .inl hk))
  have HB := Aside0.mk (Below.refl w.heap.size w)
  have H : ((lookasideref11_Get.f k a0_0 l0_1 a1_0 a1_1 a1_2).bind fun bt206 => (if bt206.2.2 = true then ((lookasideref11_Chain.f a1_0 a1_1 a1_2 (l0_1.length : Int)).bind fun t209 => (if 0 ≤ t209 then (if t209 < (l0_1.length : Int) then (if 0 ≤ (wrap64 (bt206.2.1 - 1)) then (if (wrap64 (bt206.2.1 - 1)) ≤ ((rd_L4 l0_1 t209).length : Int) then ((some ((rd_L4 l0_1 t209).take ((wrap64 (bt206.2.1 - 1)) : Int).toNat : List (S128))).bind fun y211 => (if ([] : List (S128)).length + y211.length < 4398046511104 then ((some (([] : List (S128)) ++ y211 : List (S128))).bind fun y216 => (if 0 ≤ bt206.2.1 then (if bt206.2.1 ≤ ((rd_L4 l0_1 t209).length : Int) then ((some ((rd_L4 l0_1 t209).drop (bt206.2.1 : Int).toNat : List (S128))).bind fun y220 => (if y216.length + y220.length < 4398046511104 then ((lookasideref11_with.f a0_0 l0_1 t209 (y216 ++ y220)).bind fun bt228 => (some (bt228.1, bt228.2, 0))) else (none))) else (none)) else (none))) else (none))) else (none)) else (none)) else (none)) else (none))) else (some (a0_0, l0_1, 10)))) = some (r1, r2, r3) := h
  clear h
  replace H := Option.bind_eq_some_iff.mp H
  obtain ⟨⟨t206, t207, t208⟩, A30, H⟩ := H
  replace H : (if t208 = true then ((lookasideref11_Chain.f a1_0 a1_1 a1_2 (l0_1.length : Int)).bind fun t209 => (if 0 ≤ t209 then (if t209 < (l0_1.length : Int) then (if 0 ≤ (wrap64 (t207 - 1)) then (if (wrap64 (t207 - 1)) ≤ ((rd_L4 l0_1 t209).length : Int) then ((some ((rd_L4 l0_1 t209).take ((wrap64 (t207 - 1)) : Int).toNat : List (S128))).bind fun y211 => (if ([] : List (S128)).length + y211.length < 4398046511104 then ((some (([] : List (S128)) ++ y211 : List (S128))).bind fun y216 => (if 0 ≤ t207 then (if t207 ≤ ((rd_L4 l0_1 t209).length : Int) then ((some ((rd_L4 l0_1 t209).drop (t207 : Int).toNat : List (S128))).bind fun y220 => (if y216.length + y220.length < 4398046511104 then ((lookasideref11_with.f a0_0 l0_1 t209 (y216 ++ y220)).bind fun bt228 => (some (bt228.1, bt228.2, 0))) else (none))) else (none)) else (none))) else (none))) else (none)) else (none)) else (none)) else (none))) else (some (a0_0, l0_1, 10))) = some (r1, r2, r3) := H
  have A3 := Aside0.mk A30
  clear A30
  by_cases c4 : t208 = true
  · subst c4
    have H1 : ((lookasideref11_Chain.f a1_0 a1_1 a1_2 (l0_1.length : Int)).bind fun t209 => (if 0 ≤ t209 then (if t209 < (l0_1.length : Int) then (if 0 ≤ (wrap64 (t207 - 1)) then (if (wrap64 (t207 - 1)) ≤ ((rd_L4 l0_1 t209).length : Int) then ((some ((rd_L4 l0_1 t209).take ((wrap64 (t207 - 1)) : Int).toNat : List (S128))).bind fun y211 => (if ([] : List (S128)).length + y211.length < 4398046511104 then ((some (([] : List (S128)) ++ y211 : List (S128))).bind fun y216 => (if 0 ≤ t207 then (if t207 ≤ ((rd_L4 l0_1 t209).length : Int) then ((some ((rd_L4 l0_1 t209).drop (t207 : Int).toNat : List (S128))).bind fun y220 => (if y216.length + y220.length < 4398046511104 then ((lookasideref11_with.f a0_0 l0_1 t209 (y216 ++ y220)).bind fun bt228 => (some (bt228.1, bt228.2, 0))) else (none))) else (none)) else (none))) else (none))) else (none)) else (none)) else (none)) else (none))) = some (r1, r2, r3) := by rw [if_pos rfl] at H; exact H
    clear H
    have H := H1
    clear H1
    replace H := Option.bind_eq_some_iff.mp H
    obtain ⟨t209, A50, H⟩ := H
    replace H : (if 0 ≤ t209 then (if t209 < (l0_1.length : Int) then (if 0 ≤ (wrap64 (t207 - 1)) then (if (wrap64 (t207 - 1)) ≤ ((rd_L4 l0_1 t209).length : Int) then ((some ((rd_L4 l0_1 t209).take ((wrap64 (t207 - 1)) : Int).toNat : List (S128))).bind fun y211 => (if ([] : List (S128)).length + y211.length < 4398046511104 then ((some (([] : List (S128)) ++ y211 : List (S128))).bind fun y216 => (if 0 ≤ t207 then (if t207 ≤ ((rd_L4 l0_1 t209).length : Int) then ((some ((rd_L4 l0_1 t209).drop (t207 : Int).toNat : List (S128))).bind fun y220 => (if y216.length + y220.length < 4398046511104 then ((lookasideref11_with.f a0_0 l0_1 t209 (y216 ++ y220)).bind fun bt228 => (some (bt228.1, bt228.2, 0))) else (none))) else (none)) else (none))) else (none))) else (none)) else (none)) else (none)) else (none)) = some (r1, r2, r3) := H
    have A5 := Aside0.mk A50
    clear A50
    by_cases c6 : 0 ≤ t209
    · rw [if_pos c6] at H
      have c6b0 : decide (0 ≤ t209) = true := decide_eq_true c6
      clear c6
      by_cases c7 : t209 < (l0_1.length : Int)
      · rw [if_pos c7] at H
        have c7b0 : decide (t209 < (l0_1.length : Int)) = true := decide_eq_true c7
        clear c7
        obtain ⟨ji8, hji8⟩ : ∃ j_ : Int, (wrap64 (t207 - 1)) = j_ := ⟨_, rfl⟩
        replace H : (if 0 ≤ (ji8) then (if (ji8) ≤ ((rd_L4 l0_1 t209).length : Int) then ((some ((rd_L4 l0_1 t209).take ((ji8) : Int).toNat : List (S128))).bind fun y211 => (if ([] : List (S128)).length + y211.length < 4398046511104 then ((some (([] : List (S128)) ++ y211 : List (S128))).bind fun y216 => (if 0 ≤ t207 then (if t207 ≤ ((rd_L4 l0_1 t209).length : Int) then ((some ((rd_L4 l0_1 t209).drop (t207 : Int).toNat : List (S128))).bind fun y220 => (if y216.length + y220.length < 4398046511104 then ((lookasideref11_with.f a0_0 l0_1 t209 (y216 ++ y220)).bind fun bt228 => (some (bt228.1, bt228.2, 0))) else (none))) else (none)) else (none))) else (none))) else (none)) else (none)) = some (r1, r2, r3) := by first | (rw [hji8] at H; exact H) | (simp only [hji8] at H ⊢; exact H)
        (try rw [hji8] at A3)
        (try rw [hji8] at A5)
        have hji8w : (IntKind.i64.wrap (t207 - 1)) = ji8 := (i64_w _).trans hji8
        by_cases c9 : 0 ≤ (ji8)
        · rw [if_pos c9] at H
          have c9b0 := eq_true c9
          have c9b1 : decide (0 ≤ (ji8)) = true := decide_eq_true c9
          clear c9
          by_cases c10 : (ji8) ≤ ((rd_L4 l0_1 t209).length : Int)
          · rw [if_pos c10] at H
            have c10b0 := eq_true c10
            have c10b1 : decide ((ji8) ≤ ((rd_L4 l0_1 t209).length : Int)) = true := decide_eq_true c10
            clear c10
            obtain ⟨y211, hy211⟩ : ∃ y_ : List (S128), y_ = ((rd_L4 l0_1 t209).take ((ji8) : Int).toNat) := ⟨_, rfl⟩
            replace H : (if ([] : List (S128)).length + y211.length < 4398046511104 then ((some (([] : List (S128)) ++ y211 : List (S128))).bind fun y216 => (if 0 ≤ t207 then (if t207 ≤ ((rd_L4 l0_1 t209).length : Int) then ((some ((rd_L4 l0_1 t209).drop (t207 : Int).toNat : List (S128))).bind fun y220 => (if y216.length + y220.length < 4398046511104 then ((lookasideref11_with.f a0_0 l0_1 t209 (y216 ++ y220)).bind fun bt228 => (some (bt228.1, bt228.2, 0))) else (none))) else (none)) else (none))) else (none)) = some (r1, r2, r3) := by first | (rw [hy211]; with_reducible exact H) | (have H2_ := (Option.bind_some _ _).symm.trans H; rw [hy211]; with_reducible exact H2_) | (have H2_ := (Option.bind_some _ _).symm.trans H; with_reducible exact H2_) | with_reducible exact H | (rw [hy211]; exact H) | exact H
            have Ny211 := Aside0.mk hy211
            clear hy211
            by_cases c11 : ([] : List (S128)).length + y211.length < 4398046511104
            · rw [if_pos c11] at H
              have LMc11 := Aside0.mk c11
              clear c11
              obtain ⟨y216, hy216⟩ : ∃ y_ : List (S128), y_ = (([] : List (S128)) ++ y211) := ⟨_, rfl⟩
              replace H : (if 0 ≤ t207 then (if t207 ≤ ((rd_L4 l0_1 t209).length : Int) then ((some ((rd_L4 l0_1 t209).drop (t207 : Int).toNat : List (S128))).bind fun y220 => (if y216.length + y220.length < 4398046511104 then ((lookasideref11_with.f a0_0 l0_1 t209 (y216 ++ y220)).bind fun bt228 => (some (bt228.1, bt228.2, 0))) else (none))) else (none)) else (none)) = some (r1, r2, r3) := by first | (rw [hy216]; with_reducible exact H) | (have H2_ := (Option.bind_some _ _).symm.trans H; rw [hy216]; with_reducible exact H2_) | (have H2_ := (Option.bind_some _ _).symm.trans H; with_reducible exact H2_) | with_reducible exact H | (rw [hy216]; exact H) | exact H
              have Ny216 := Aside0.mk hy216
              clear hy216
              by_cases c12 : 0 ≤ t207
              · rw [if_pos c12] at H
                have c12b0 := eq_true c12
                have c12b1 : decide (0 ≤ t207) = true := decide_eq_true c12
                clear c12
                by_cases c13 : t207 ≤ ((rd_L4 l0_1 t209).length : Int)
                · rw [if_pos c13] at H
                  have c13b0 := eq_true c13
                  have c13b1 : decide (t207 ≤ ((rd_L4 l0_1 t209).length : Int)) = true := decide_eq_true c13
                  clear c13
                  obtain ⟨y220, hy220⟩ : ∃ y_ : List (S128), y_ = ((rd_L4 l0_1 t209).drop (t207 : Int).toNat) := ⟨_, rfl⟩
                  replace H : (if y216.length + y220.length < 4398046511104 then ((lookasideref11_with.f a0_0 l0_1 t209 (y216 ++ y220)).bind fun bt228 => (some (bt228.1, bt228.2, 0))) else (none)) = some (r1, r2, r3) := by first | (rw [hy220]; with_reducible exact H) | (have H2_ := (Option.bind_some _ _).symm.trans H; rw [hy220]; with_reducible exact H2_) | (have H2_ := (Option.bind_some _ _).symm.trans H; with_reducible exact H2_) | with_reducible exact H | (rw [hy220]; exact H) | exact H
                  have Ny220 := Aside0.mk hy220
                  clear hy220
                  by_cases c14 : y216.length + y220.length < 4398046511104
                  · rw [if_pos c14] at H
                    have LMc14 := Aside0.mk c14
                    clear c14
                    obtain ⟨y225, hy225⟩ : ∃ y_ : List (S128), y_ = (y216 ++ y220) := ⟨_, rfl⟩
                    replace H : ((lookasideref11_with.f a0_0 l0_1 t209 y225).bind fun bt228 => (some (bt228.1, bt228.2, 0))) = some (r1, r2, r3) := by first | (rw [hy225]; with_reducible exact H) | (have H2_ := (Option.bind_some _ _).symm.trans H; rw [hy225]; with_reducible exact H2_) | (have H2_ := (Option.bind_some _ _).symm.trans H; with_reducible exact H2_) | with_reducible exact H | (rw [hy225]; exact H) | exact H
                    have Ny225 := Aside0.mk hy225
                    clear hy225
                    replace H := Option.bind_eq_some_iff.mp H
                    obtain ⟨⟨t228, t229⟩, A150, H⟩ := H
                    replace H : (some (t228, t229, 0)) = some (r1, r2, r3) := H
                    have A15 := Aside0.mk A150
                    clear A150
                    simp only [Option.some.injEq, Prod.mk.injEq] at H
                    obtain ⟨rfl, rfl, rfl⟩ := H
                    have HLT0 := Aside0.mk (show ∀ ad, A0_1 = some ad → (ad.add t209.toNat).block < w.heap.size from fun ad e => by
                      obtain ⟨ad', A', c', e', hw', _, _⟩ := at_L4 (Kd.V_reads' hs0_1).2.2 t209 (of_decide_eq_true c6b0) (of_decide_eq_true c7b0)
                      obtain rfl : ad' = ad := by rw [e] at e'; injection e' with e'; exact e'.symm
                      exact World.block_lt_of_cell? w _ hw')
                    go_enter Try.func81, Try.ntmps81
                    go_wp2_with (first | ((with_reducible refine gate_dst (N := 2) rfl ?_); refine box_event ?hg (N := 2) ?hd (cs := #[.int .i64 a0_0, .slice A0_1 l0_1.length c0_1]) (t := 71) ?hr ?_; (case hd => rfl); (case hg => rfl); (case hr => first | (go_simp; done) | (go_simp; rfl)); intro gb203 hg w16 hbox hb; have n0_ := Aside0.mk (Kd.V_below (Kd.V_elderB (by (with_reducible repeat (first | apply Kd.V_alloc | apply Kd.V_drewN | apply Kd.V_drew)); exact HO0_1.out) gb203 (Nat.le_of_eq hg.symm)) hb); have n1_ := Aside0.mk (below_step (by repeat (first | (with_reducible first | exact HB.out | apply below_alloc | apply pw_below_drewN | apply below_drew1) | exact HB.out)) hb); have n2_ := Aside0.mk (hbox); have n3_ := Aside0.mk ((by rw [hg]; exact (below_size (by repeat (first | (with_reducible first | exact HB.out | apply below_alloc | apply pw_below_drewN | apply below_drew1) | exact HB.out))) : w.heap.size ≤ gb203)); have n4_ := Aside0.mk ((by rw [hg]; exact (below_size (by repeat (first | (with_reducible first | exact HB.out | apply below_alloc | apply pw_below_drewN | apply below_drew1) | exact HB.out))) : w.heap.size ≤ gb203)); clear HO0_1; clear HB; have HO0_1 := n0_; have HB := n1_; have BK203 := n2_; have GW203 := n3_; have GE203 := n4_; clear n0_ n1_ n2_ n3_ n4_; clear hb hbox hg) | ((with_reducible refine gate_dst (N := 3) rfl ?_); refine box_event ?hg (N := 3) ?hd (cs := #[.int .i64 a1_0, .int .u64 a1_1, .int .i64 a1_2]) (t := 24) ?hr ?_; (case hd => rfl); (case hg => rfl); (case hr => first | (go_simp; done) | (go_simp; rfl)); intro gb204 hg w17 hbox hb; have n0_ := Aside0.mk (Kd.V_below (Kd.V_elderB (by (with_reducible repeat (first | apply Kd.V_alloc | apply Kd.V_drewN | apply Kd.V_drew)); exact HO0_1.out) gb204 (Nat.le_of_eq hg.symm)) hb); have n1_ := Aside0.mk (blk_below (g := gb203) (o := .cells #[.int .i64 a0_0, .slice A0_1 l0_1.length c0_1] 71 (0, 0)) (by (with_reducible repeat (first | refine blk_drewN ?_ _ | refine blk_drew ?_ | refine blk_alloc ?_ _)); exact BK203.out) hb); have n2_ := Aside0.mk (below_step (by repeat (first | (with_reducible first | exact HB.out | apply below_alloc | apply pw_below_drewN | apply below_drew1 | refine below_set ?_ GE203.out) | exact HB.out)) hb); have n3_ := Aside0.mk (hbox); have n4_ := Aside0.mk ((by rw [hg]; exact (below_size (by repeat (first | (with_reducible first | exact HB.out | apply below_alloc | apply pw_below_drewN | apply below_drew1 | refine below_set ?_ GE203.out) | exact HB.out))) : w.heap.size ≤ gb204)); have n5_ := Aside0.mk ((by rw [hg]; exact (below_size (by repeat (first | (with_reducible first | exact HB.out | apply below_alloc | apply pw_below_drewN | apply below_drew1 | refine below_set ?_ GE203.out) | exact HB.out))) : w.heap.size ≤ gb204)); have n6_ := Aside0.mk ((by rw [hg]; exact Nat.ne_of_lt (blk_lt (g := gb203) (o := .cells #[.int .i64 a0_0, .slice A0_1 l0_1.length c0_1] 71 (0, 0)) (by (with_reducible repeat (first | refine blk_drewN ?_ _ | refine blk_drew ?_ | refine blk_alloc ?_ _)); exact BK203.out)) : gb203 ≠ gb204)); have n7_ := Aside0.mk ((by rw [hg]; exact Nat.ne_of_gt (blk_lt (g := gb203) (o := .cells #[.int .i64 a0_0, .slice A0_1 l0_1.length c0_1] 71 (0, 0)) (by (with_reducible repeat (first | refine blk_drewN ?_ _ | refine blk_drew ?_ | refine blk_alloc ?_ _)); exact BK203.out)) : gb204 ≠ gb203)); clear HO0_1; clear BK203; clear HB; have HO0_1 := n0_; have BK203 := n1_; have HB := n2_; have BK204 := n3_; have GW204 := n4_; have GE204 := n5_; have NB203_204 := n6_; have NB204_203 := n7_; clear n0_ n1_ n2_ n3_ n4_ n5_ n6_ n7_; clear hb hbox hg) | ((with_reducible refine gate_dst (N := 4) rfl ?_); refine box_event ?hg (N := 4) ?hd (cs := #[.int .i64 0, .slice none 0 0]) (t := 71) ?hr ?_; (case hd => rfl); (case hg => rfl); (case hr => first | (go_simp; done) | (go_simp; rfl)); intro gb205 hg w18 hbox hb; have n0_ := Aside0.mk (Kd.V_below (Kd.V_elderB (by (with_reducible repeat (first | apply Kd.V_alloc | apply Kd.V_drewN | apply Kd.V_drew)); exact HO0_1.out) gb205 (Nat.le_of_eq hg.symm)) hb); have n1_ := Aside0.mk (blk_below (g := gb203) (o := .cells #[.int .i64 a0_0, .slice A0_1 l0_1.length c0_1] 71 (0, 0)) (by (with_reducible repeat (first | refine blk_drewN ?_ _ | refine blk_drew ?_ | refine blk_alloc ?_ _)); exact BK203.out) hb); have n2_ := Aside0.mk (blk_below (g := gb204) (o := .cells #[.int .i64 a1_0, .int .u64 a1_1, .int .i64 a1_2] 24 (0, 0)) (by (with_reducible repeat (first | refine blk_drewN ?_ _ | refine blk_drew ?_ | refine blk_alloc ?_ _)); exact BK204.out) hb); have n3_ := Aside0.mk (below_step (by repeat (first | (with_reducible first | exact HB.out | apply below_alloc | apply pw_below_drewN | apply below_drew1 | refine below_set ?_ GE203.out | refine below_set ?_ GE204.out) | exact HB.out)) hb); have n4_ := Aside0.mk (hbox); have n5_ := Aside0.mk ((by rw [hg]; exact (below_size (by repeat (first | (with_reducible first | exact HB.out | apply below_alloc | apply pw_below_drewN | apply below_drew1 | refine below_set ?_ GE203.out | refine below_set ?_ GE204.out) | exact HB.out))) : w.heap.size ≤ gb205)); have n6_ := Aside0.mk ((by rw [hg]; exact (below_size (by repeat (first | (with_reducible first | exact HB.out | apply below_alloc | apply pw_below_drewN | apply below_drew1 | refine below_set ?_ GE203.out | refine below_set ?_ GE204.out) | exact HB.out))) : w.heap.size ≤ gb205)); have n7_ := Aside0.mk ((by rw [hg]; exact Nat.ne_of_lt (blk_lt (g := gb203) (o := .cells #[.int .i64 a0_0, .slice A0_1 l0_1.length c0_1] 71 (0, 0)) (by (with_reducible repeat (first | refine blk_drewN ?_ _ | refine blk_drew ?_ | refine blk_alloc ?_ _)); exact BK203.out)) : gb203 ≠ gb205)); have n8_ := Aside0.mk ((by rw [hg]; exact Nat.ne_of_gt (blk_lt (g := gb203) (o := .cells #[.int .i64 a0_0, .slice A0_1 l0_1.length c0_1] 71 (0, 0)) (by (with_reducible repeat (first | refine blk_drewN ?_ _ | refine blk_drew ?_ | refine blk_alloc ?_ _)); exact BK203.out)) : gb205 ≠ gb203)); have n9_ := Aside0.mk ((by rw [hg]; exact Nat.ne_of_lt (blk_lt (g := gb204) (o := .cells #[.int .i64 a1_0, .int .u64 a1_1, .int .i64 a1_2] 24 (0, 0)) (by (with_reducible repeat (first | refine blk_drewN ?_ _ | refine blk_drew ?_ | refine blk_alloc ?_ _)); exact BK204.out)) : gb204 ≠ gb205)); have n10_ := Aside0.mk ((by rw [hg]; exact Nat.ne_of_gt (blk_lt (g := gb204) (o := .cells #[.int .i64 a1_0, .int .u64 a1_1, .int .i64 a1_2] 24 (0, 0)) (by (with_reducible repeat (first | refine blk_drewN ?_ _ | refine blk_drew ?_ | refine blk_alloc ?_ _)); exact BK204.out)) : gb205 ≠ gb204)); clear HO0_1; clear BK203; clear BK204; clear HB; have HO0_1 := n0_; have BK203 := n1_; have BK204 := n2_; have HB := n3_; have BK205 := n4_; have GW205 := n5_; have GE205 := n6_; have NB203_205 := n7_; have NB205_203 := n8_; have NB204_205 := n9_; have NB205_204 := n10_; clear n0_ n1_ n2_ n3_ n4_ n5_ n6_ n7_ n8_ n9_ n10_; clear hb hbox hg; have hnb19 := NB203_204.out; have hnc19 := NB204_203.out; have hnb20 := NB203_205.out; have hnc20 := NB205_203.out; have hcz21_0 : w18.cell? ⟨gb203, 0, none⟩ = some (.int .i64 a0_0) := (blk_cell BK203.out 0).trans rfl; have hcz21_1 : w18.cell? ⟨gb203, 1, none⟩ = some (.slice A0_1 l0_1.length c0_1) := (blk_cell BK203.out 1).trans rfl; have hfz21_0 := blk_frozen BK203.out 0; have hfz21_1 := blk_frozen BK203.out 1; have hnb22 := NB204_205.out; have hnc22 := NB205_204.out; have hcz23_0 : w18.cell? ⟨gb204, 0, none⟩ = some (.int .i64 a1_0) := (blk_cell BK204.out 0).trans rfl; have hcz23_1 : w18.cell? ⟨gb204, 1, none⟩ = some (.int .u64 a1_1) := (blk_cell BK204.out 1).trans rfl; have hcz23_2 : w18.cell? ⟨gb204, 2, none⟩ = some (.int .i64 a1_2) := (blk_cell BK204.out 2).trans rfl; have hfz23_0 := blk_frozen BK204.out 0; have hfz23_1 := blk_frozen BK204.out 1; have hfz23_2 := blk_frozen BK204.out 2) | ((with_reducible refine gate_callee (f := 83) rfl ?_); refine goesL_ (some 14) rfl rfl Try.func83 (by kernel_rfl) rfl #[.agg #[.int .i64 a0_0, .slice A0_1 l0_1.length c0_1], .agg #[.int .i64 a1_0, .int .u64 a1_1, .int .i64 a1_2]] rfl (by (try simp only [List.map_toArray, List.map_cons, List.map_nil]); first | done | rfl | (simp only [List.length_drop, List.length_take]; rfl)) ?_; (with_reducible refine (lookasideref11_Get.calls k a0_0 _ _ l0_1 a1_0 a1_1 a1_2 t206 t207 true _ ?side1 ?side2 A3.out).mono ?_); (case side1 => repeat (first | exact (Kd.V_reads' HO0_1.out).2.2 | (with_reducible refine Kd.C_alloc ?_ _) | (with_reducible refine Kd.C_drewN ?_ _) | (with_reducible refine Kd.C_drew ?_))); (case side2 => exact (Kd.V_reads' HO0_1.out).2.1); rintro e w24 ⟨rfl, hb⟩; refine ⟨_, rfl, ?_⟩; have n0_ := Aside0.mk (Kd.V_below (by (with_reducible repeat (first | apply Kd.V_alloc | apply Kd.V_drewN | apply Kd.V_drew)); exact HO0_1.out) hb); have n1_ := Aside0.mk (blk_below (g := gb203) (o := .cells #[.int .i64 a0_0, .slice A0_1 l0_1.length c0_1] 71 (0, 0)) (by (with_reducible repeat (first | refine blk_drewN ?_ _ | refine blk_drew ?_ | refine blk_alloc ?_ _)); exact BK203.out) hb); have n2_ := Aside0.mk (blk_below (g := gb204) (o := .cells #[.int .i64 a1_0, .int .u64 a1_1, .int .i64 a1_2] 24 (0, 0)) (by (with_reducible repeat (first | refine blk_drewN ?_ _ | refine blk_drew ?_ | refine blk_alloc ?_ _)); exact BK204.out) hb); have n3_ := Aside0.mk (blk_below (g := gb205) (o := .cells #[.int .i64 0, .slice none 0 0] 71 (0, 0)) (by (with_reducible repeat (first | refine blk_drewN ?_ _ | refine blk_drew ?_ | refine blk_alloc ?_ _)); exact BK205.out) hb); have n4_ := Aside0.mk (below_step (by repeat (first | (with_reducible first | exact HB.out | apply below_alloc | apply pw_below_drewN | apply below_drew1 | refine below_set ?_ GE203.out | refine below_set ?_ GE204.out | refine below_set ?_ GE205.out) | exact HB.out)) hb); clear HO0_1; clear BK203; clear BK204; clear BK205; clear HB; have HO0_1 := n0_; have BK203 := n1_; have BK204 := n2_; have BK205 := n3_; have HB := n4_; clear n0_ n1_ n2_ n3_ n4_; (try clear hb); (try clear hb2); (try clear hk); (try clear hi); have hcz25_0 : w24.cell? ⟨gb204, 0, none⟩ = some (.int .i64 a1_0) := (blk_cell BK204.out 0).trans rfl; have hcz25_1 : w24.cell? ⟨gb204, 1, none⟩ = some (.int .u64 a1_1) := (blk_cell BK204.out 1).trans rfl; have hcz25_2 : w24.cell? ⟨gb204, 2, none⟩ = some (.int .i64 a1_2) := (blk_cell BK204.out 2).trans rfl; have hfz25_0 := blk_frozen BK204.out 0; have hfz25_1 := blk_frozen BK204.out 1; have hfz25_2 := blk_frozen BK204.out 2; have hcz26_0 : w24.cell? ⟨gb203, 0, none⟩ = some (.int .i64 a0_0) := (blk_cell BK203.out 0).trans rfl; have hcz26_1 : w24.cell? ⟨gb203, 1, none⟩ = some (.slice A0_1 l0_1.length c0_1) := (blk_cell BK203.out 1).trans rfl; have hfz26_0 := blk_frozen BK203.out 0; have hfz26_1 := blk_frozen BK203.out 1) | ((with_reducible refine gate_callee (f := 19) rfl ?_); refine goesL_ (some 25) rfl rfl Try.func19 (by kernel_rfl) rfl #[.agg #[.int .i64 a1_0, .int .u64 a1_1, .int .i64 a1_2], .int .i64 (l0_1.length : Int)] rfl (by (try simp only [List.map_toArray, List.map_cons, List.map_nil]); first | done | rfl | (simp only [List.length_drop, List.length_take]; rfl)) ?_; (with_reducible refine (lookasideref11_Chain.calls a1_0 a1_1 a1_2 (l0_1.length : Int) t209 _ A5.out).mono ?_); rintro e w27 ⟨rfl, hb⟩; refine ⟨_, rfl, ?_⟩; have n0_ := Aside0.mk (Kd.V_below (by (with_reducible repeat (first | apply Kd.V_alloc | apply Kd.V_drewN | apply Kd.V_drew)); exact HO0_1.out) hb); have n1_ := Aside0.mk (blk_below (g := gb203) (o := .cells #[.int .i64 a0_0, .slice A0_1 l0_1.length c0_1] 71 (0, 0)) (by (with_reducible repeat (first | refine blk_drewN ?_ _ | refine blk_drew ?_ | refine blk_alloc ?_ _)); exact BK203.out) hb); have n2_ := Aside0.mk (blk_below (g := gb204) (o := .cells #[.int .i64 a1_0, .int .u64 a1_1, .int .i64 a1_2] 24 (0, 0)) (by (with_reducible repeat (first | refine blk_drewN ?_ _ | refine blk_drew ?_ | refine blk_alloc ?_ _)); exact BK204.out) hb); have n3_ := Aside0.mk (blk_below (g := gb205) (o := .cells #[.int .i64 0, .slice none 0 0] 71 (0, 0)) (by (with_reducible repeat (first | refine blk_drewN ?_ _ | refine blk_drew ?_ | refine blk_alloc ?_ _)); exact BK205.out) hb); have n4_ := Aside0.mk (below_step (by repeat (first | (with_reducible first | exact HB.out | apply below_alloc | apply pw_below_drewN | apply below_drew1 | refine below_set ?_ GE203.out | refine below_set ?_ GE204.out | refine below_set ?_ GE205.out) | exact HB.out)) hb); clear HO0_1; clear BK203; clear BK204; clear BK205; clear HB; have HO0_1 := n0_; have BK203 := n1_; have BK204 := n2_; have BK205 := n3_; have HB := n4_; clear n0_ n1_ n2_ n3_ n4_; (try clear hb); (try clear hb2); (try clear hk); (try clear hi); have hcz28_0 : w27.cell? ⟨gb203, 0, none⟩ = some (.int .i64 a0_0) := (blk_cell BK203.out 0).trans rfl; have hcz28_1 : w27.cell? ⟨gb203, 1, none⟩ = some (.slice A0_1 l0_1.length c0_1) := (blk_cell BK203.out 1).trans rfl; have hfz28_0 := blk_frozen BK203.out 0; have hfz28_1 := blk_frozen BK203.out 1; have p210 : 0 ≤ (t209 : Int) := of_decide_eq_true (by first | (with_reducible assumption) | assumption); have q210 : t209 < (l0_1.length : Int) := of_decide_eq_true (by first | (with_reducible assumption) | assumption); obtain ⟨ad210, A210_0, c210_0, e210, hx210_0, hl210_0, hi210_0⟩ := at_L4 (Kd.V_reads' HO0_1.out).2.2 t209 p210 q210; cases e210; obtain ⟨ce210, hce210, hMe210, hcc210⟩ := Kd.V_get HO0_1.out [] t209 p210 (by first | exact q210 | exact of_decide_eq_true (by first | (with_reducible assumption) | assumption) | (have e_ := (Kd.V_reads' HO0_1.out).1; omega)); obtain ⟨ua210_0, uc210_0, rfl, ul210_0, ge210_0⟩ := Kd.FK_slice_open hMe210; have hv210_0 := hcc210 0 _ rfl; rw [Nat.add_zero, show ((Kd.slice 128 k128)).sz = 1 from rfl, Nat.mul_one] at hv210_0; replace hv210_0 := Option.some.inj (hv210_0.symm.trans hx210_0); injection hv210_0 with hva_ hvn_ hvc_; rw [hva_] at ge210_0; rw [hvc_] at ul210_0; have HL210_0 := Aside0.mk (show Kd.V k128 128 _ w.heap.size _ _ (rd_L4 l0_1 t209) from Kd.V_mk ul210_0 ge210_0); clear hva_ hvn_ hvc_ ge210_0 ul210_0; clear hcc210 hce210; have HR210_0 := Aside0.mk hi210_0; have HC210_0 := Aside0.mk hl210_0; clear hi210_0 hl210_0; replace p210 := eq_true p210; replace q210 := eq_true q210; have q29 : ((ji8) : Int) ≤ (((rd_L4 l0_1 t209).length : Int) : Int) := of_decide_eq_true (by first | (with_reducible assumption) | assumption); obtain ⟨i029, hi029, _, hsz29, _⟩ := info_parts info128; have hroom29 : (rd_L4 l0_1 t209).length ≤ c210_0 := HC210_0.out; have hC29 : Kd.F k128 _ _ A210_0 (rd_L4 l0_1 t209).length (rd_L4 l0_1 t209) := (Kd.V_at (base := w.heap.size) HL210_0.out).2.2; have hcut29 := cut_to (P := Try.prog) 76 128 .i64 Try.underlying76 hi029 A210_0 (rd_L4 l0_1 t209).length c210_0 (ji8) (of_decide_eq_true (by first | (with_reducible assumption) | assumption)) q29 hroom29; have hr29 := Kd.F_take (m := ((ji8) : Int).toNat) hC29 (by omega); have hy29 : y211.length = ((ji8) : Int).toNat := (by rw [Ny211.out, List.length_take]; omega); rw [← Ny211.out] at hr29; rw [← hy29] at hcut29; have HO215 := Aside0.mk (show Kd.V k128 128 _ w.heap.size _ (.slice A210_0 y211.length c210_0) y211 from Kd.V_mk (by omega) hr29); have HC215 := Aside0.mk (show y211.length ≤ c210_0 from by omega); clear hr29 hC29 hroom29 hi029 hsz29; have KY29 := Aside0.mk hy29; clear hy29; replace q29 := eq_true q29) | ((with_reducible refine gate_builtin (b := .append) (xs := #[.tmp 26, .tmp 34]) rfl ?_); at_builtin; refine Kd.R_append_rows k128 (w0 := w) w.heap.size rfl (.tmp 26) (.tmp 34) 76 128 (.agg #[(.int .i64 0), (.int .u64 0), (.int .i64 0), (.int .i64 0)]) 32 rfl Try.underlying76 info128 rfl (by decide) (by omega) (.slice none 0 0) ([] : List (S128)) y211 _ _ _ (fun k_ => (w.heap.size ≤ k_)) (fun _ => False) rfl rfl ?aO ?aR (fun _ _ h => h) (fun _ h => h.elim) ?aF ?aB ?aS ?aL ?_; (case aR => repeat (first | exact (Kd.V_reads' HO215.out).2.2 | (with_reducible refine Kd.C_alloc ?_ _) | (with_reducible refine Kd.C_drewN ?_ _) | (with_reducible refine Kd.C_drew ?_))); (case aB => exact (by repeat (first | (with_reducible first | exact HB.out | apply below_alloc | apply pw_below_drewN | apply below_drew1 | refine below_set ?_ GE203.out | refine below_set ?_ GE204.out | refine below_set ?_ GE205.out) | exact HB.out))); (case aF => exact (fun k_ hk => (Nat.le_trans (below_size (by repeat (first | (with_reducible first | exact HB.out | apply below_alloc | apply pw_below_drewN | apply below_drew1 | refine below_set ?_ GE203.out | refine below_set ?_ GE204.out | refine below_set ?_ GE205.out) | exact HB.out))) hk))); (case aO => exact ((Kd.R_nil _ _ _ _ (fun k_ => (w.heap.size ≤ k_))))); (case aS => exact (below_size (by repeat (first | (with_reducible first | exact HB.out | apply below_alloc | apply pw_below_drewN | apply below_drew1 | refine below_set ?_ GE203.out | refine below_set ?_ GE204.out | refine below_set ?_ GE205.out) | exact HB.out)))); (case aL => have := LMc11.out; omega); intro v217 w30 ho hb hg hat; rw [← Ny216.out] at ho; have n0_ := Aside0.mk (Kd.V_afterv (Kd.V_apart_nil (by (with_reducible repeat (first | apply Kd.V_alloc | apply Kd.V_drewN | apply Kd.V_drew)); exact HO0_1.out)) hg hat); have n1_ := Aside0.mk (blk_grown (g := gb203) (o := .cells #[.int .i64 a0_0, .slice (some ad210) l0_1.length c0_1] 71 (0, 0)) (by (with_reducible repeat (first | refine blk_drewN ?_ _ | refine blk_drew ?_ | refine blk_alloc ?_ _)); exact BK203.out) hg (by simp [Value.ownBlock])); have n2_ := Aside0.mk (blk_grown (g := gb204) (o := .cells #[.int .i64 a1_0, .int .u64 a1_1, .int .i64 a1_2] 24 (0, 0)) (by (with_reducible repeat (first | refine blk_drewN ?_ _ | refine blk_drew ?_ | refine blk_alloc ?_ _)); exact BK204.out) hg (by simp [Value.ownBlock])); have n3_ := Aside0.mk (blk_grown (g := gb205) (o := .cells #[.int .i64 0, .slice none 0 0] 71 (0, 0)) (by (with_reducible repeat (first | refine blk_drewN ?_ _ | refine blk_drew ?_ | refine blk_alloc ?_ _)); exact BK205.out) hg (by simp [Value.ownBlock])); have n4_ := Aside0.mk (Kd.V_afterv (Kd.V_apart_nil (by (with_reducible repeat (first | apply Kd.V_alloc | apply Kd.V_drewN | apply Kd.V_drew)); exact HL210_0.out)) hg hat); have n5_ := Aside0.mk (Kd.V_afterv (Kd.V_apart_nil (by (with_reducible repeat (first | apply Kd.V_alloc | apply Kd.V_drewN | apply Kd.V_drew)); exact HO215.out)) hg hat); have n6_ := Aside0.mk (hb); have n7_ := Aside0.mk (ho); clear HO0_1; clear BK203; clear BK204; clear BK205; clear HL210_0; clear HO215; clear HB; have HO0_1 := n0_; have BK203 := n1_; have BK204 := n2_; have BK205 := n3_; have HL210_0 := n4_; have HO215 := n5_; have HB := n6_; have HO218 := n7_; clear n0_ n1_ n2_ n3_ n4_ n5_ n6_ n7_; clear ho hb hg hat; have hcz31_0 : w30.cell? ⟨gb203, 0, none⟩ = some (.int .i64 a0_0) := (blk_cell BK203.out 0).trans rfl; have hcz31_1 : w30.cell? ⟨gb203, 1, none⟩ = some (.slice (some ad210) l0_1.length c0_1) := (blk_cell BK203.out 1).trans rfl; have hfz31_0 := blk_frozen BK203.out 0; have hfz31_1 := blk_frozen BK203.out 1; have p219 : 0 ≤ (t209 : Int) := of_decide_eq_true (by first | (with_reducible assumption) | assumption); have q219 : t209 < (l0_1.length : Int) := of_decide_eq_true (by first | (with_reducible assumption) | assumption); obtain ⟨ad219, A219_0, c219_0, e219, hx219_0, hl219_0, hi219_0⟩ := at_L4 (Kd.V_reads' HO0_1.out).2.2 t209 p219 q219; obtain rfl : ad210 = ad219 := (by injection e219); obtain ⟨ce219, hce219, hMe219, hcc219⟩ := Kd.V_get HO0_1.out [] t209 p219 (by first | exact q219 | exact of_decide_eq_true (by first | (with_reducible assumption) | assumption) | (have e_ := (Kd.V_reads' HO0_1.out).1; omega)); obtain ⟨ua219_0, uc219_0, rfl, ul219_0, ge219_0⟩ := Kd.FK_slice_open hMe219; have hv219_0 := hcc219 0 _ rfl; rw [Nat.add_zero, show ((Kd.slice 128 k128)).sz = 1 from rfl, Nat.mul_one] at hv219_0; replace hv219_0 := Option.some.inj (hv219_0.symm.trans hx219_0); injection hv219_0 with hva_ hvn_ hvc_; rw [hva_] at ge219_0; rw [hvc_] at ul219_0; have HL219_0 := Aside0.mk (show Kd.V k128 128 _ w.heap.size _ _ (rd_L4 l0_1 t209) from Kd.V_mk ul219_0 ge219_0); clear hva_ hvn_ hvc_ ge219_0 ul219_0; clear hcc219 hce219; have HR219_0 := Aside0.mk hi219_0; have HC219_0 := Aside0.mk hl219_0; clear hi219_0 hl219_0; replace p219 := eq_true p219; replace q219 := eq_true q219; have q32 : (t207 : Int) ≤ (((rd_L4 l0_1 t209).length : Int) : Int) := of_decide_eq_true (by first | (with_reducible assumption) | assumption); obtain ⟨i032, hi032, _, hsz32, _⟩ := info_parts info128; have hroom32 : (rd_L4 l0_1 t209).length ≤ c219_0 := HC219_0.out; have hC32 : Kd.F k128 _ _ A219_0 (rd_L4 l0_1 t209).length (rd_L4 l0_1 t209) := (Kd.V_at (base := w.heap.size) HL219_0.out).2.2; have q032 : (0 : Int) ≤ (t207 : Int) := of_decide_eq_true (by first | (with_reducible assumption) | assumption); have hcut32 := cut_from (P := Try.prog) 76 128 .i64 Try.underlying76 hi032 4 hsz32 A219_0 (rd_L4 l0_1 t209).length c219_0 t207 q032 q32; have hr32 := Kd.F_cut (m := (t207 : Int).toNat) (c := c219_0) hC32 (by omega) hroom32; obtain ⟨A32, hA32⟩ : ∃ A1, A1 = (if c219_0 = (t207 : Int).toNat then A219_0 else (A219_0 : Option Addr).map (·.add ((t207 : Int).toNat * 4))) := ⟨_, rfl⟩; obtain ⟨c32, hc32⟩ : ∃ c1, c1 = c219_0 - (t207 : Int).toNat := ⟨_, rfl⟩; have hy32 : y220.length = (rd_L4 l0_1 t209).length - (t207 : Int).toNat := (by rw [Ny220.out, List.length_drop] <;> omega); rw [show (rd_L4 l0_1 t209).drop (t207 : Int).toNat = y220 from Ny220.out.symm] at hr32; replace hr32 : Kd.F k128 _ _ A32 y220.length y220 := (by rw [hA32]; exact hr32); rw [← hy32, ← hA32, ← hc32] at hcut32; have HO224 := Aside0.mk (show Kd.V k128 128 _ w.heap.size _ (.slice A32 y220.length c32) y220 from Kd.V_mk (by rw [hy32, hc32]; exact Nat.sub_le_sub_right hroom32 _) hr32); have HC224 := Aside0.mk (show y220.length ≤ c32 from by rw [hy32, hc32]; exact Nat.sub_le_sub_right hroom32 _); clear hr32 hC32 hroom32 hi032 hsz32 hc32; have KY32 := Aside0.mk hy32; have KA32 := Aside0.mk hA32; clear hy32 hA32; replace q32 := eq_true q32))
                    refine start_ (n := 14) (S := fun w' => w'.cell? ⟨gb203, 0, none⟩ = some (.int .i64 a0_0) ∧ w'.cell? ⟨gb203, 1, none⟩ = some (.slice (some ad210) l0_1.length c0_1) ∧ w'.cell? (ad210.add t209.toNat) = some (.slice A219_0 (rd_L4 l0_1 t209).length c219_0)) (ds := [12]) #[false, false, false, false, false, false, false, false, false, false, false, false, false, false] (by kernel_rfl) rfl rfl ⟨(blk_cell BK203.out 0).trans rfl, (blk_cell BK203.out 1).trans rfl, hx219_0⟩ (fun hHeld => ?_)
                    refine pure_ (i := 1) (N := some 37) (v := ?_) (a' := ?_) #[false, true, false, false, false, false, false, false, false, false, false, false, false, false] rfl rfl (by kernel_rfl) (fun _ _ _ h => h) (Or.inl ⟨by rfl, ?_⟩) ?_ ?_
                    rotate_left
                    · intro w'
                      go_simp
                      with_reducible rfl
                    rotate_left
                    · simp only [Act.put, List.setIfInBounds_toArray, List.set_cons_zero, List.set_cons_succ, i64_w, i32_w]
                      rfl
                    refine pure_ (i := 2) (N := some 38) (v := ?_) (a' := ?_) #[false, true, true, false, false, false, false, false, false, false, false, false, false, false] rfl rfl (by kernel_rfl) (fun _ _ _ h => h) (Or.inl ⟨by rfl, ?_⟩) ?_ ?_
                    rotate_left
                    · intro w'
                      go_simp
                      with_reducible rfl
                    rotate_left
                    · simp only [Act.put, List.setIfInBounds_toArray, List.set_cons_zero, List.set_cons_succ, i64_w, i32_w]
                      rfl
                    refine pure_ (i := 3) (N := some 39) (v := ?_) (a' := ?_) #[false, true, true, true, false, false, false, false, false, false, false, false, false, false] rfl rfl (by kernel_rfl) (fun _ _ _ h => h) (Or.inl ⟨by rfl, ?_⟩) ?_ ?_
                    rotate_left
                    · intro w'
                      go_simp
                      with_reducible rfl
                    rotate_left
                    · simp only [Act.put, List.setIfInBounds_toArray, List.set_cons_zero, List.set_cons_succ, i64_w, i32_w]
                      rfl
                    refine pure_ (i := 5) (N := some 41) (v := ?_) (a' := ?_) #[false, true, true, true, false, true, false, false, false, false, false, false, false, false] rfl rfl (by kernel_rfl) (fun _ _ _ h => h) (Or.inl ⟨by rfl, ?_⟩) ?_ ?_
                    rotate_left
                    · intro w'
                      go_simp
                      with_reducible rfl
                    rotate_left
                    · simp only [Act.put, List.setIfInBounds_toArray, List.set_cons_zero, List.set_cons_succ, i64_w, i32_w]
                      rfl
                    refine pure_ (i := 8) (N := some 44) (v := ?_) (a' := ?_) #[false, true, true, true, false, true, false, false, true, false, false, false, false, false] rfl rfl (by kernel_rfl) (fun _ _ _ h => h) (Or.inl ⟨by rfl, ?_⟩) ?_ ?_
                    rotate_left
                    · intro w'
                      go_simp
                      with_reducible rfl
                    rotate_left
                    · simp only [Act.put, List.setIfInBounds_toArray, List.set_cons_zero, List.set_cons_succ, i64_w, i32_w]
                      rfl
                    refine take_ (i := 0) (N := some 36) (v := ?_) (a' := ?_) #[true, true, true, true, false, true, false, false, true, false, false, false, false, false] rfl rfl (by kernel_rfl) (fun _ _ _ h => h) (Or.inl ⟨by rfl, ?_⟩) hHeld ?_ ?_
                    rotate_left
                    · rintro w' ⟨s0, s1, s2⟩
                      go_simp
                      with_reducible rfl
                    rotate_left
                    · simp only [Act.put, List.setIfInBounds_toArray, List.set_cons_zero, List.set_cons_succ, i64_w, i32_w]
                      rfl
                    refine take_ (i := 4) (N := some 40) (v := ?_) (a' := ?_) #[true, true, true, true, true, true, false, false, true, false, false, false, false, false] rfl rfl (by kernel_rfl) (fun _ _ _ h => h) (Or.inl ⟨by rfl, ?_⟩) hHeld ?_ ?_
                    rotate_left
                    · rintro w' ⟨s0, s1, s2⟩
                      go_simp
                      with_reducible rfl
                    rotate_left
                    · simp only [Act.put, List.setIfInBounds_toArray, List.set_cons_zero, List.set_cons_succ, i64_w, i32_w]
                      rfl
                    refine pure_ (i := 6) (N := some 42) (v := ?_) (a' := ?_) #[true, true, true, true, true, true, true, false, true, false, false, false, false, false] rfl rfl (by kernel_rfl) (fun _ _ _ h => h) (Or.inl ⟨by rfl, ?_⟩) ?_ ?_
                    rotate_left
                    · intro w'
                      go_simp
                      with_reducible rfl
                    rotate_left
                    · simp only [Act.put, List.setIfInBounds_toArray, List.set_cons_zero, List.set_cons_succ, i64_w, i32_w]
                      rfl
                    refine take_ (i := 7) (N := some 43) (v := ?_) (a' := ?_) #[true, true, true, true, true, true, true, true, true, false, false, false, false, false] rfl rfl (by kernel_rfl) (fun _ _ _ h => h) (Or.inl ⟨by rfl, ?_⟩) hHeld ?_ ?_
                    rotate_left
                    · rintro w' ⟨s0, s1, s2⟩
                      go_simp
                      with_reducible rfl
                    rotate_left
                    · simp only [Act.put, List.setIfInBounds_toArray, List.set_cons_zero, List.set_cons_succ, i64_w, i32_w]
                      rfl
                    refine pure_ (i := 9) (N := some 45) (v := ?_) (a' := ?_) #[true, true, true, true, true, true, true, true, true, true, false, false, false, false] rfl rfl (by kernel_rfl) (fun _ _ _ h => h) (Or.inl ⟨by rfl, ?_⟩) ?_ ?_
                    rotate_left
                    · intro w'
                      go_simp
                      with_reducible rfl
                    rotate_left
                    · simp only [Act.put, List.setIfInBounds_toArray, List.set_cons_zero, List.set_cons_succ, i64_w, i32_w]
                      rfl
                    refine one_ (i := 10) (N := some 46) #[true, true, true, true, true, true, true, true, true, true, true, false, false, false] rfl rfl (by kernel_rfl) (by decide) (fun K hK => ?_)
                    have hwx_ := Aside0.mk ((HB.out.cell (p := ad210.add t209.toNat) (HLT0.out ad210 rfl)).symm.trans hx219_0)
                    refine Kd.R_append_rows_step k128 (w0 := w) w.heap.size (by rfl) (.tmp 38) (.tmp 45) 76 128 (.agg #[(.int .i64 0), (.int .u64 0), (.int .i64 0), (.int .i64 0)]) 32 rfl Try.underlying76 info128 rfl (by decide) (by omega) v217 y216 y220 _ _ _ (fun k_ => (w.heap.size ≤ k_)) (fun _ => False) rfl rfl ?aO ?aR (fun _ _ h => h) (fun _ h => h.elim) ?aF ?aB ?aS ?aL ?_
                    (case aR => repeat (first | exact (Kd.V_reads' HO224.out).2.2 | (with_reducible refine Kd.C_alloc ?_ _) | (with_reducible refine Kd.C_drewN ?_ _) | (with_reducible refine Kd.C_drew ?_)))
                    (case aB => exact (by repeat (first | (with_reducible first | exact HB.out | apply below_alloc | apply pw_below_drewN | apply below_drew1 | refine below_set ?_ GE203.out | refine below_set ?_ GE204.out | refine below_set ?_ GE205.out) | exact HB.out)))
                    (case aF => exact (fun k_ hk => (Nat.le_trans (below_size (by repeat (first | (with_reducible first | exact HB.out | apply below_alloc | apply pw_below_drewN | apply below_drew1 | refine below_set ?_ GE203.out | refine below_set ?_ GE204.out | refine below_set ?_ GE205.out) | exact HB.out))) hk)))
                    (case aO => exact (by (with_reducible repeat (first | apply Kd.R_alloc | apply Kd.R_drewN | apply Kd.R_drew)); exact HO218.out))
                    (case aS => exact (below_size (by repeat (first | (with_reducible first | exact HB.out | apply below_alloc | apply pw_below_drewN | apply below_drew1 | refine below_set ?_ GE203.out | refine below_set ?_ GE204.out | refine below_set ?_ GE205.out) | exact HB.out))))
                    (case aL => have := LMc14.out; omega)
                    intro v226 w33 ho hb hg hat
                    rw [← Ny225.out] at ho
                    have n0_ := Aside0.mk (Kd.V_afterv (ok := (fun k_ => (P0_1_ k_ ∨ w.heap.size ≤ k_) ∧ k_ ≠ gb203 ∧ k_ ≠ gb204 ∧ k_ ≠ gb205)) (by (with_reducible repeat (first | apply Kd.V_alloc | apply Kd.V_drewN | apply Kd.V_drew)); exact Kd.V_mono HO0_1.out (fun _ hk => ⟨⟨hk.1.1.1.1, ⟨hk.1.1.1.2, ⟨hk.1.1.2, hk.1.2⟩⟩⟩, hk.2⟩)) hg hat)
                    have n1_ := Aside0.mk (blk_grown (g := gb203) (o := .cells #[.int .i64 a0_0, .slice (some ad210) l0_1.length c0_1] 71 (0, 0)) (by (with_reducible repeat (first | refine blk_drewN ?_ _ | refine blk_drew ?_ | refine blk_alloc ?_ _)); exact BK203.out) hg (Kd.R_ne HO218.out BK203.out (by decide)))
                    have n2_ := Aside0.mk (blk_grown (g := gb204) (o := .cells #[.int .i64 a1_0, .int .u64 a1_1, .int .i64 a1_2] 24 (0, 0)) (by (with_reducible repeat (first | refine blk_drewN ?_ _ | refine blk_drew ?_ | refine blk_alloc ?_ _)); exact BK204.out) hg (Kd.R_ne HO218.out BK204.out (by decide)))
                    have n3_ := Aside0.mk (blk_grown (g := gb205) (o := .cells #[.int .i64 0, .slice none 0 0] 71 (0, 0)) (by (with_reducible repeat (first | refine blk_drewN ?_ _ | refine blk_drew ?_ | refine blk_alloc ?_ _)); exact BK205.out) hg (Kd.R_ne HO218.out BK205.out (by decide)))
                    have n4_ := Aside0.mk (Kd.V_afterv (ok := (fun k_ => (P0_1_ k_ ∨ w.heap.size ≤ k_) ∧ k_ ≠ gb203 ∧ k_ ≠ gb204 ∧ k_ ≠ gb205)) (by (with_reducible repeat (first | apply Kd.V_alloc | apply Kd.V_drewN | apply Kd.V_drew)); exact Kd.V_mono HL210_0.out (fun _ hk => ⟨⟨hk.1.1.1.1, ⟨hk.1.1.1.2, ⟨hk.1.1.2, hk.1.2⟩⟩⟩, hk.2⟩)) hg hat)
                    have n5_ := Aside0.mk (Kd.V_afterv (ok := (fun k_ => (P0_1_ k_ ∨ w.heap.size ≤ k_) ∧ k_ ≠ gb203 ∧ k_ ≠ gb204 ∧ k_ ≠ gb205)) (by (with_reducible repeat (first | apply Kd.V_alloc | apply Kd.V_drewN | apply Kd.V_drew)); exact Kd.V_mono HO215.out (fun _ hk => ⟨⟨hk.1.1.1.1, ⟨hk.1.1.1.2, ⟨hk.1.1.2, hk.1.2⟩⟩⟩, hk.2⟩)) hg hat)
                    have n6_ := Aside0.mk (Kd.V_afterv (ok := (fun k_ => (P0_1_ k_ ∨ w.heap.size ≤ k_) ∧ k_ ≠ gb203 ∧ k_ ≠ gb204 ∧ k_ ≠ gb205)) (by (with_reducible repeat (first | apply Kd.V_alloc | apply Kd.V_drewN | apply Kd.V_drew)); exact Kd.V_mono HL219_0.out (fun _ hk => ⟨⟨hk.1.1.1.1, ⟨hk.1.1.1.2, ⟨hk.1.1.2, hk.1.2⟩⟩⟩, hk.2⟩)) hg hat)
                    have n7_ := Aside0.mk (Kd.V_afterv (ok := (fun k_ => (P0_1_ k_ ∨ w.heap.size ≤ k_) ∧ k_ ≠ gb203 ∧ k_ ≠ gb204 ∧ k_ ≠ gb205)) (by (with_reducible repeat (first | apply Kd.V_alloc | apply Kd.V_drewN | apply Kd.V_drew)); exact Kd.V_mono HO224.out (fun _ hk => ⟨⟨hk.1.1.1.1, ⟨hk.1.1.1.2, ⟨hk.1.1.2, hk.1.2⟩⟩⟩, hk.2⟩)) hg hat)
                    have n8_ := Aside0.mk (hb)
                    have n9_ := Aside0.mk (ho)
                    clear HO0_1
                    clear BK203
                    clear BK204
                    clear BK205
                    clear HL210_0
                    clear HO215
                    clear HL219_0
                    clear HO224
                    clear HB
                    clear HO218
                    have HO0_1 := n0_
                    have BK203 := n1_
                    have BK204 := n2_
                    have BK205 := n3_
                    have HL210_0 := n4_
                    have HO215 := n5_
                    have HL219_0 := n6_
                    have HO224 := n7_
                    have HB := n8_
                    have HO227 := n9_
                    clear n0_ n1_ n2_ n3_ n4_ n5_ n6_ n7_ n8_ n9_
                    clear ho hb hg hat
                    obtain ⟨Ao34, co34, eo34⟩ := Kd.R_slice HO227.out
                    subst eo34
                    refine hK.out _ _ ⟨(blk_cell BK203.out 0).trans rfl, (blk_cell BK203.out 1).trans rfl, (HB.out.cell (p := ad210.add t209.toNat) (HLT0.out ad210 rfl)).trans hwx_.out⟩ (fun hHeld => ?_)
                    clear hK K
                    refine norm_ (a' := ?_) ?_ ?_
                    rotate_left
                    · show Act.put _ (some 46) _ = _
                      simp only [Act.put, List.setIfInBounds_toArray, List.set_cons_zero, List.set_cons_succ, i64_w, i32_w]
                      rfl
                    refine one_ (i := 11) (N := some 47) #[true, true, true, true, true, true, true, true, true, true, true, true, false, false] rfl rfl (by kernel_rfl) (by decide) (fun K hK => ?_)
                    refine goes_ Try.func91 (by kernel_rfl) rfl #[.agg #[.int .i64 a0_0, .slice (some ad210) l0_1.length c0_1], .int .i64 t209, .slice Ao34 y225.length co34] (by rfl) rfl rfl (by (try simp only [List.map_toArray, List.map_cons, List.map_nil]); first | done | rfl | (simp only [List.length_drop, List.length_take]; rfl)) ?_
                    (with_reducible refine (lookasideref11_with.calls a0_0 (fun k_ => (((P0_1_ k_ ∨ w.heap.size ≤ k_) ∧ (k_ ≠ gb203 ∧ (k_ ≠ gb204 ∧ k_ ≠ gb205))) ∧ some k_ ≠ (.slice Ao34 y225.length co34 : Value).ownBlock)) _ _ l0_1 t209 (fun k_ => some k_ = (.slice Ao34 y225.length co34 : Value).ownBlock) _ _ y225 t228 t229 _ ?side1 ?side2 A15.out).mono ?_)
                    (case side1 => exact HO0_1.out)
                    (case side2 => exact Kd.R_V (Kd.R_tight rfl (Kd.R_types (Kd.R_types (Kd.R_types (HO227.out) BK203.out (by decide)) BK204.out (by decide)) BK205.out (by decide))))
                    rintro e w35 ⟨v230, rfl, ho0, hb⟩
                    refine ⟨_, rfl, ?_⟩
                    have n0_ := Aside0.mk (Kd.V_elder' (by (with_reducible repeat (first | apply Kd.V_alloc | apply Kd.V_drewN | apply Kd.V_drew)); exact HO0_1.out) (Kd.N_base ho0) hb)
                    have n1_ := Aside0.mk (Kd.V_elder' (by (with_reducible repeat (first | apply Kd.V_alloc | apply Kd.V_drewN | apply Kd.V_drew)); exact HL210_0.out) (Kd.N_base ho0) hb)
                    have n2_ := Aside0.mk (Kd.V_elder' (by (with_reducible repeat (first | apply Kd.V_alloc | apply Kd.V_drewN | apply Kd.V_drew)); exact HO215.out) (Kd.N_base ho0) hb)
                    have n3_ := Aside0.mk (Kd.V_elder' (by (with_reducible repeat (first | apply Kd.V_alloc | apply Kd.V_drewN | apply Kd.V_drew)); exact HL219_0.out) (Kd.N_base ho0) hb)
                    have n4_ := Aside0.mk (Kd.V_elder' (by (with_reducible repeat (first | apply Kd.V_alloc | apply Kd.V_drewN | apply Kd.V_drew)); exact HO224.out) (Kd.N_base ho0) hb)
                    have n5_ := Aside0.mk (Kd.R_below (by (with_reducible repeat (first | apply Kd.R_alloc | apply Kd.R_drewN | apply Kd.R_drew)); exact HO227.out) hb)
                    have n6_ := Aside0.mk (Kd.N_lower (Kd.N_mono (ok' := fun k_ => (P0_1_ k_ ∨ w.heap.size ≤ k_) ∧ k_ ≠ gb203 ∧ k_ ≠ gb204 ∧ k_ ≠ gb205) ho0 (fun k_ hk_ => ⟨Or.elim hk_ (fun hs_ => Or.elim hs_ (fun hs_ => hs_.1.1) (fun hs_ => (.inr (((Kd.R_types (Kd.R_types (Kd.R_types (HO227.out) BK203.out (by decide)) BK204.out (by decide)) BK205.out (by decide)).1 k_ hs_.symm).1.1.1)))) (fun hn_ => (.inr (Nat.le_trans (below_size (by repeat (first | (with_reducible first | exact HB.out | apply below_alloc | apply pw_below_drewN | apply below_drew1 | refine below_set ?_ GE203.out | refine below_set ?_ GE204.out | refine below_set ?_ GE205.out) | exact HB.out))) hn_))), Or.elim hk_ (fun hs_ => Or.elim hs_ (fun hs_ => hs_.1.2.1) (fun hs_ => ((Kd.R_types (Kd.R_types (Kd.R_types (HO227.out) BK203.out (by decide)) BK204.out (by decide)) BK205.out (by decide)).1 k_ hs_.symm).1.1.2)) (fun hn_ => (Kd.freshB (g := gb203) (o := .cells #[.int .i64 a0_0, .slice (some ad210) l0_1.length c0_1] 71 (0, 0)) (by (with_reducible repeat (first | refine blk_drewN ?_ _ | refine blk_drew ?_ | refine blk_alloc ?_ _)); exact BK203.out) k_ hn_)), Or.elim hk_ (fun hs_ => Or.elim hs_ (fun hs_ => hs_.1.2.2.1) (fun hs_ => ((Kd.R_types (Kd.R_types (Kd.R_types (HO227.out) BK203.out (by decide)) BK204.out (by decide)) BK205.out (by decide)).1 k_ hs_.symm).1.2)) (fun hn_ => (Kd.freshB (g := gb204) (o := .cells #[.int .i64 a1_0, .int .u64 a1_1, .int .i64 a1_2] 24 (0, 0)) (by (with_reducible repeat (first | refine blk_drewN ?_ _ | refine blk_drew ?_ | refine blk_alloc ?_ _)); exact BK204.out) k_ hn_)), Or.elim hk_ (fun hs_ => Or.elim hs_ (fun hs_ => hs_.1.2.2.2) (fun hs_ => ((Kd.R_types (Kd.R_types (Kd.R_types (HO227.out) BK203.out (by decide)) BK204.out (by decide)) BK205.out (by decide)).1 k_ hs_.symm).2)) (fun hn_ => (Kd.freshB (g := gb205) (o := .cells #[.int .i64 0, .slice none 0 0] 71 (0, 0)) (by (with_reducible repeat (first | refine blk_drewN ?_ _ | refine blk_drew ?_ | refine blk_alloc ?_ _)); exact BK205.out) k_ hn_))⟩)) (below_size (by repeat (first | (with_reducible first | exact HB.out | apply below_alloc | apply pw_below_drewN | apply below_drew1 | refine below_set ?_ GE203.out | refine below_set ?_ GE204.out | refine below_set ?_ GE205.out) | exact HB.out))))
                    have n7_ := Aside0.mk (blk_below (g := gb203) (o := .cells #[.int .i64 a0_0, .slice (some ad210) l0_1.length c0_1] 71 (0, 0)) (by (with_reducible repeat (first | refine blk_drewN ?_ _ | refine blk_drew ?_ | refine blk_alloc ?_ _)); exact BK203.out) hb)
                    have n8_ := Aside0.mk (blk_below (g := gb204) (o := .cells #[.int .i64 a1_0, .int .u64 a1_1, .int .i64 a1_2] 24 (0, 0)) (by (with_reducible repeat (first | refine blk_drewN ?_ _ | refine blk_drew ?_ | refine blk_alloc ?_ _)); exact BK204.out) hb)
                    have n9_ := Aside0.mk (blk_below (g := gb205) (o := .cells #[.int .i64 0, .slice none 0 0] 71 (0, 0)) (by (with_reducible repeat (first | refine blk_drewN ?_ _ | refine blk_drew ?_ | refine blk_alloc ?_ _)); exact BK205.out) hb)
                    have n10_ := Aside0.mk (below_step (by repeat (first | (with_reducible first | exact HB.out | apply below_alloc | apply pw_below_drewN | apply below_drew1 | refine below_set ?_ GE203.out | refine below_set ?_ GE204.out | refine below_set ?_ GE205.out) | exact HB.out)) hb)
                    clear HO0_1
                    clear HL210_0
                    clear HO215
                    clear HL219_0
                    clear HO224
                    clear HO227
                    clear BK203
                    clear BK204
                    clear BK205
                    clear HB
                    have HO0_1 := n0_
                    have HL210_0 := n1_
                    have HO215 := n2_
                    have HL219_0 := n3_
                    have HO224 := n4_
                    have HO227 := n5_
                    have HO231 := n6_
                    have BK203 := n7_
                    have BK204 := n8_
                    have BK205 := n9_
                    have HB := n10_
                    clear n0_ n1_ n2_ n3_ n4_ n5_ n6_ n7_ n8_ n9_ n10_
                    (try clear hb)
                    (try clear hb2)
                    (try clear hk)
                    (try clear hi)
                    (try clear ho0)
                    have hcz36_0 : w35.cell? ⟨gb205, 0, none⟩ = some (.int .i64 0) := (blk_cell BK205.out 0).trans rfl
                    have hcz36_1 : w35.cell? ⟨gb205, 1, none⟩ = some (.slice none 0 0) := (blk_cell BK205.out 1).trans rfl
                    have hfz36_0 := blk_frozen BK205.out 0
                    have hfz36_1 := blk_frozen BK205.out 1
                    obtain ⟨Ao37, co37, eo37⟩ := Kd.N_slice HO231.out
                    subst eo37
                    refine hK.out _ _ ⟨(blk_cell BK203.out 0).trans rfl, (blk_cell BK203.out 1).trans rfl, (HB.out.cell (p := ad210.add t209.toNat) (HLT0.out ad210 rfl)).trans hwx_.out⟩ (fun hHeld => ?_)
                    clear hK K
                    refine norm_ (a' := ?_) ?_ ?_
                    rotate_left
                    · show Act.put _ (some 47) _ = _
                      simp only [Act.put, List.setIfInBounds_toArray, List.set_cons_zero, List.set_cons_succ, i64_w, i32_w]
                      rfl
                    refine last_ (i := 12) (N := none) #[true, true, true, true, true, true, true, true, true, true, true, true, true, false] rfl rfl (by kernel_rfl) (by decide) (fun K hK => ?_)
                    refine skip_ (w1 := ?_) (by rfl) rfl ?_ ?_
                    rotate_left
                    · go_simp
                      with_reducible rfl
                    refine hK.out _ _ ?_
                    clear hK K
                    refine pure_ (i := 13) (N := some 5) (v := ?_) (a' := ?_) #[true, true, true, true, true, true, true, true, true, true, true, true, true, true] rfl rfl (by kernel_rfl) (fun _ _ _ h => h) (Or.inl ⟨by rfl, ?_⟩) ?_ ?_
                    rotate_left
                    · intro w'
                      go_simp
                      with_reducible rfl
                    rotate_left
                    · simp only [Act.put, List.setIfInBounds_toArray, List.set_cons_zero, List.set_cons_succ, i64_w, i32_w]
                      rfl
                    refine done_ (by kernel_rfl) ?_
                    try go_wp2
                    refine bodyPost_ret (results_ct rfl _ _ gb205 71 #[.int .i64 t228, .slice Ao37 t229.length co37] (0, 0) _ rfl (by (with_reducible repeat (first | refine blk_drewN ?_ _ | refine blk_drew ?_ | refine blk_alloc ?_ _)); refine blk_put (cs := #[.int .i64 t228, .slice none 0 0]) ?_ 1 _ rfl; (with_reducible repeat (first | refine blk_drewN ?_ _ | refine blk_drew ?_ | refine blk_alloc ?_ _)); refine blk_put (cs := #[.int .i64 0, .slice none 0 0]) ?_ 0 _ rfl; (with_reducible repeat (first | refine blk_drewN ?_ _ | refine blk_drew ?_ | refine blk_alloc ?_ _)); exact BK205.out) Try.underlying71 rfl (by kernel_rfl)) rfl ?_
                    exact ⟨_, by first | rfl | (simp [errW_none, errW_some] <;> rfl) | (simp only [← hji8]; first | rfl | (simp [errW_none, errW_some] <;> rfl)) | (simp [*, errW_none, errW_some] <;> rfl), Kd.N_V (by (with_reducible repeat (first | apply Kd.N_alloc | apply Kd.N_drewN | apply Kd.N_drew)); exact Kd.N_mono (Kd.N_far (p := ⟨gb205, 1, none⟩) (Kd.N_far (p := ⟨gb205, 0, none⟩) (Kd.N_mono HO231.out (fun k_ hk => (⟨hk, hk.2.2.2⟩ : _ ∧ k_ ≠ gb205))) (fun _ hk => hk.2) (.int .i64 t228)) (fun _ hk => hk.2) (.slice Ao37 t229.length co37)) (fun _ hk => hk.1.1)), by repeat (first | (with_reducible first | exact HB.out | apply below_alloc | apply pw_below_drewN | apply below_drew1 | refine below_set ?_ GE203.out | refine below_set ?_ GE204.out | refine below_set ?_ GE205.out) | exact HB.out)⟩
                  · rw [if_neg c14] at H
                    exact absurd H (by simp)
                · rw [if_neg c13] at H
                  exact absurd H (by simp)
              · rw [if_neg c12] at H
                exact absurd H (by simp)
            · rw [if_neg c11] at H
              exact absurd H (by simp)
          · rw [if_neg c10] at H
            exact absurd H (by simp)
        · rw [if_neg c9] at H
          exact absurd H (by simp)
      · rw [if_neg c7] at H
        exact absurd H (by simp)
    · rw [if_neg c6] at H
      exact absurd H (by simp)
  · replace c4 := Bool.eq_false_iff.mpr c4
    subst c4
    have H1 : (some (a0_0, l0_1, 10)) = some (r1, r2, r3) := by rw [if_neg (show ¬ (false = true) by decide)] at H; exact H
    clear H
    have H := H1
    clear H1
    simp only [Option.some.injEq, Prod.mk.injEq] at H
    obtain ⟨rfl, rfl, rfl⟩ := H
    go_enter Try.func81, Try.ntmps81
    go_wp2_with (first | ((with_reducible refine gate_dst (N := 2) rfl ?_); refine box_event ?hg (N := 2) ?hd (cs := #[.int .i64 a0_0, .slice A0_1 l0_1.length c0_1]) (t := 71) ?hr ?_; (case hd => rfl); (case hg => rfl); (case hr => first | (go_simp; done) | (go_simp; rfl)); intro gb203 hg w38 hbox hb; have n0_ := Aside0.mk (Kd.V_below (Kd.V_elderB (by (with_reducible repeat (first | apply Kd.V_alloc | apply Kd.V_drewN | apply Kd.V_drew)); exact HO0_1.out) gb203 (Nat.le_of_eq hg.symm)) hb); have n1_ := Aside0.mk (below_step (by repeat (first | (with_reducible first | exact HB.out | apply below_alloc | apply pw_below_drewN | apply below_drew1) | exact HB.out)) hb); have n2_ := Aside0.mk (hbox); have n3_ := Aside0.mk ((by rw [hg]; exact (below_size (by repeat (first | (with_reducible first | exact HB.out | apply below_alloc | apply pw_below_drewN | apply below_drew1) | exact HB.out))) : w.heap.size ≤ gb203)); have n4_ := Aside0.mk ((by rw [hg]; exact (below_size (by repeat (first | (with_reducible first | exact HB.out | apply below_alloc | apply pw_below_drewN | apply below_drew1) | exact HB.out))) : w.heap.size ≤ gb203)); clear HO0_1; clear HB; have HO0_1 := n0_; have HB := n1_; have BK203 := n2_; have GW203 := n3_; have GE203 := n4_; clear n0_ n1_ n2_ n3_ n4_; clear hb hbox hg) | ((with_reducible refine gate_dst (N := 3) rfl ?_); refine box_event ?hg (N := 3) ?hd (cs := #[.int .i64 a1_0, .int .u64 a1_1, .int .i64 a1_2]) (t := 24) ?hr ?_; (case hd => rfl); (case hg => rfl); (case hr => first | (go_simp; done) | (go_simp; rfl)); intro gb204 hg w39 hbox hb; have n0_ := Aside0.mk (Kd.V_below (Kd.V_elderB (by (with_reducible repeat (first | apply Kd.V_alloc | apply Kd.V_drewN | apply Kd.V_drew)); exact HO0_1.out) gb204 (Nat.le_of_eq hg.symm)) hb); have n1_ := Aside0.mk (blk_below (g := gb203) (o := .cells #[.int .i64 a0_0, .slice A0_1 l0_1.length c0_1] 71 (0, 0)) (by (with_reducible repeat (first | refine blk_drewN ?_ _ | refine blk_drew ?_ | refine blk_alloc ?_ _)); exact BK203.out) hb); have n2_ := Aside0.mk (below_step (by repeat (first | (with_reducible first | exact HB.out | apply below_alloc | apply pw_below_drewN | apply below_drew1 | refine below_set ?_ GE203.out) | exact HB.out)) hb); have n3_ := Aside0.mk (hbox); have n4_ := Aside0.mk ((by rw [hg]; exact (below_size (by repeat (first | (with_reducible first | exact HB.out | apply below_alloc | apply pw_below_drewN | apply below_drew1 | refine below_set ?_ GE203.out) | exact HB.out))) : w.heap.size ≤ gb204)); have n5_ := Aside0.mk ((by rw [hg]; exact (below_size (by repeat (first | (with_reducible first | exact HB.out | apply below_alloc | apply pw_below_drewN | apply below_drew1 | refine below_set ?_ GE203.out) | exact HB.out))) : w.heap.size ≤ gb204)); have n6_ := Aside0.mk ((by rw [hg]; exact Nat.ne_of_lt (blk_lt (g := gb203) (o := .cells #[.int .i64 a0_0, .slice A0_1 l0_1.length c0_1] 71 (0, 0)) (by (with_reducible repeat (first | refine blk_drewN ?_ _ | refine blk_drew ?_ | refine blk_alloc ?_ _)); exact BK203.out)) : gb203 ≠ gb204)); have n7_ := Aside0.mk ((by rw [hg]; exact Nat.ne_of_gt (blk_lt (g := gb203) (o := .cells #[.int .i64 a0_0, .slice A0_1 l0_1.length c0_1] 71 (0, 0)) (by (with_reducible repeat (first | refine blk_drewN ?_ _ | refine blk_drew ?_ | refine blk_alloc ?_ _)); exact BK203.out)) : gb204 ≠ gb203)); clear HO0_1; clear BK203; clear HB; have HO0_1 := n0_; have BK203 := n1_; have HB := n2_; have BK204 := n3_; have GW204 := n4_; have GE204 := n5_; have NB203_204 := n6_; have NB204_203 := n7_; clear n0_ n1_ n2_ n3_ n4_ n5_ n6_ n7_; clear hb hbox hg) | ((with_reducible refine gate_dst (N := 4) rfl ?_); refine box_event ?hg (N := 4) ?hd (cs := #[.int .i64 0, .slice none 0 0]) (t := 71) ?hr ?_; (case hd => rfl); (case hg => rfl); (case hr => first | (go_simp; done) | (go_simp; rfl)); intro gb205 hg w40 hbox hb; have n0_ := Aside0.mk (Kd.V_below (Kd.V_elderB (by (with_reducible repeat (first | apply Kd.V_alloc | apply Kd.V_drewN | apply Kd.V_drew)); exact HO0_1.out) gb205 (Nat.le_of_eq hg.symm)) hb); have n1_ := Aside0.mk (blk_below (g := gb203) (o := .cells #[.int .i64 a0_0, .slice A0_1 l0_1.length c0_1] 71 (0, 0)) (by (with_reducible repeat (first | refine blk_drewN ?_ _ | refine blk_drew ?_ | refine blk_alloc ?_ _)); exact BK203.out) hb); have n2_ := Aside0.mk (blk_below (g := gb204) (o := .cells #[.int .i64 a1_0, .int .u64 a1_1, .int .i64 a1_2] 24 (0, 0)) (by (with_reducible repeat (first | refine blk_drewN ?_ _ | refine blk_drew ?_ | refine blk_alloc ?_ _)); exact BK204.out) hb); have n3_ := Aside0.mk (below_step (by repeat (first | (with_reducible first | exact HB.out | apply below_alloc | apply pw_below_drewN | apply below_drew1 | refine below_set ?_ GE203.out | refine below_set ?_ GE204.out) | exact HB.out)) hb); have n4_ := Aside0.mk (hbox); have n5_ := Aside0.mk ((by rw [hg]; exact (below_size (by repeat (first | (with_reducible first | exact HB.out | apply below_alloc | apply pw_below_drewN | apply below_drew1 | refine below_set ?_ GE203.out | refine below_set ?_ GE204.out) | exact HB.out))) : w.heap.size ≤ gb205)); have n6_ := Aside0.mk ((by rw [hg]; exact (below_size (by repeat (first | (with_reducible first | exact HB.out | apply below_alloc | apply pw_below_drewN | apply below_drew1 | refine below_set ?_ GE203.out | refine below_set ?_ GE204.out) | exact HB.out))) : w.heap.size ≤ gb205)); have n7_ := Aside0.mk ((by rw [hg]; exact Nat.ne_of_lt (blk_lt (g := gb203) (o := .cells #[.int .i64 a0_0, .slice A0_1 l0_1.length c0_1] 71 (0, 0)) (by (with_reducible repeat (first | refine blk_drewN ?_ _ | refine blk_drew ?_ | refine blk_alloc ?_ _)); exact BK203.out)) : gb203 ≠ gb205)); have n8_ := Aside0.mk ((by rw [hg]; exact Nat.ne_of_gt (blk_lt (g := gb203) (o := .cells #[.int .i64 a0_0, .slice A0_1 l0_1.length c0_1] 71 (0, 0)) (by (with_reducible repeat (first | refine blk_drewN ?_ _ | refine blk_drew ?_ | refine blk_alloc ?_ _)); exact BK203.out)) : gb205 ≠ gb203)); have n9_ := Aside0.mk ((by rw [hg]; exact Nat.ne_of_lt (blk_lt (g := gb204) (o := .cells #[.int .i64 a1_0, .int .u64 a1_1, .int .i64 a1_2] 24 (0, 0)) (by (with_reducible repeat (first | refine blk_drewN ?_ _ | refine blk_drew ?_ | refine blk_alloc ?_ _)); exact BK204.out)) : gb204 ≠ gb205)); have n10_ := Aside0.mk ((by rw [hg]; exact Nat.ne_of_gt (blk_lt (g := gb204) (o := .cells #[.int .i64 a1_0, .int .u64 a1_1, .int .i64 a1_2] 24 (0, 0)) (by (with_reducible repeat (first | refine blk_drewN ?_ _ | refine blk_drew ?_ | refine blk_alloc ?_ _)); exact BK204.out)) : gb205 ≠ gb204)); clear HO0_1; clear BK203; clear BK204; clear HB; have HO0_1 := n0_; have BK203 := n1_; have BK204 := n2_; have HB := n3_; have BK205 := n4_; have GW205 := n5_; have GE205 := n6_; have NB203_205 := n7_; have NB205_203 := n8_; have NB204_205 := n9_; have NB205_204 := n10_; clear n0_ n1_ n2_ n3_ n4_ n5_ n6_ n7_ n8_ n9_ n10_; clear hb hbox hg; have hnb41 := NB203_204.out; have hnc41 := NB204_203.out; have hnb42 := NB203_205.out; have hnc42 := NB205_203.out; have hcz43_0 : w40.cell? ⟨gb203, 0, none⟩ = some (.int .i64 a0_0) := (blk_cell BK203.out 0).trans rfl; have hcz43_1 : w40.cell? ⟨gb203, 1, none⟩ = some (.slice A0_1 l0_1.length c0_1) := (blk_cell BK203.out 1).trans rfl; have hfz43_0 := blk_frozen BK203.out 0; have hfz43_1 := blk_frozen BK203.out 1; have hnb44 := NB204_205.out; have hnc44 := NB205_204.out; have hcz45_0 : w40.cell? ⟨gb204, 0, none⟩ = some (.int .i64 a1_0) := (blk_cell BK204.out 0).trans rfl; have hcz45_1 : w40.cell? ⟨gb204, 1, none⟩ = some (.int .u64 a1_1) := (blk_cell BK204.out 1).trans rfl; have hcz45_2 : w40.cell? ⟨gb204, 2, none⟩ = some (.int .i64 a1_2) := (blk_cell BK204.out 2).trans rfl; have hfz45_0 := blk_frozen BK204.out 0; have hfz45_1 := blk_frozen BK204.out 1; have hfz45_2 := blk_frozen BK204.out 2) | ((with_reducible refine gate_callee (f := 83) rfl ?_); refine goesL_ (some 14) rfl rfl Try.func83 (by kernel_rfl) rfl #[.agg #[.int .i64 a0_0, .slice A0_1 l0_1.length c0_1], .agg #[.int .i64 a1_0, .int .u64 a1_1, .int .i64 a1_2]] rfl (by (try simp only [List.map_toArray, List.map_cons, List.map_nil]); first | done | rfl | (simp only [List.length_drop, List.length_take]; rfl)) ?_; (with_reducible refine (lookasideref11_Get.calls k a0_0 _ _ l0_1 a1_0 a1_1 a1_2 t206 t207 false _ ?side1 ?side2 A3.out).mono ?_); (case side1 => repeat (first | exact (Kd.V_reads' HO0_1.out).2.2 | (with_reducible refine Kd.C_alloc ?_ _) | (with_reducible refine Kd.C_drewN ?_ _) | (with_reducible refine Kd.C_drew ?_))); (case side2 => exact (Kd.V_reads' HO0_1.out).2.1); rintro e w46 ⟨rfl, hb⟩; refine ⟨_, rfl, ?_⟩; have n0_ := Aside0.mk (Kd.V_below (by (with_reducible repeat (first | apply Kd.V_alloc | apply Kd.V_drewN | apply Kd.V_drew)); exact HO0_1.out) hb); have n1_ := Aside0.mk (blk_below (g := gb203) (o := .cells #[.int .i64 a0_0, .slice A0_1 l0_1.length c0_1] 71 (0, 0)) (by (with_reducible repeat (first | refine blk_drewN ?_ _ | refine blk_drew ?_ | refine blk_alloc ?_ _)); exact BK203.out) hb); have n2_ := Aside0.mk (blk_below (g := gb204) (o := .cells #[.int .i64 a1_0, .int .u64 a1_1, .int .i64 a1_2] 24 (0, 0)) (by (with_reducible repeat (first | refine blk_drewN ?_ _ | refine blk_drew ?_ | refine blk_alloc ?_ _)); exact BK204.out) hb); have n3_ := Aside0.mk (blk_below (g := gb205) (o := .cells #[.int .i64 0, .slice none 0 0] 71 (0, 0)) (by (with_reducible repeat (first | refine blk_drewN ?_ _ | refine blk_drew ?_ | refine blk_alloc ?_ _)); exact BK205.out) hb); have n4_ := Aside0.mk (below_step (by repeat (first | (with_reducible first | exact HB.out | apply below_alloc | apply pw_below_drewN | apply below_drew1 | refine below_set ?_ GE203.out | refine below_set ?_ GE204.out | refine below_set ?_ GE205.out) | exact HB.out)) hb); clear HO0_1; clear BK203; clear BK204; clear BK205; clear HB; have HO0_1 := n0_; have BK203 := n1_; have BK204 := n2_; have BK205 := n3_; have HB := n4_; clear n0_ n1_ n2_ n3_ n4_; (try clear hb); (try clear hb2); (try clear hk); (try clear hi); have hcz47_0 : w46.cell? ⟨gb203, 0, none⟩ = some (.int .i64 a0_0) := (blk_cell BK203.out 0).trans rfl; have hcz47_1 : w46.cell? ⟨gb203, 1, none⟩ = some (.slice A0_1 l0_1.length c0_1) := (blk_cell BK203.out 1).trans rfl; have hfz47_0 := blk_frozen BK203.out 0; have hfz47_1 := blk_frozen BK203.out 1; have hcz48_0 : w46.cell? ⟨gb205, 0, none⟩ = some (.int .i64 0) := (blk_cell BK205.out 0).trans rfl; have hcz48_1 : w46.cell? ⟨gb205, 1, none⟩ = some (.slice none 0 0) := (blk_cell BK205.out 1).trans rfl; have hfz48_0 := blk_frozen BK205.out 0; have hfz48_1 := blk_frozen BK205.out 1))
    refine bodyPost_ret (results_ct rfl _ _ gb205 71 #[.int .i64 a0_0, .slice A0_1 l0_1.length c0_1] (0, 0) _ rfl (by (with_reducible repeat (first | refine blk_drewN ?_ _ | refine blk_drew ?_ | refine blk_alloc ?_ _)); refine blk_put (cs := #[.int .i64 a0_0, .slice none 0 0]) ?_ 1 _ rfl; (with_reducible repeat (first | refine blk_drewN ?_ _ | refine blk_drew ?_ | refine blk_alloc ?_ _)); refine blk_put (cs := #[.int .i64 0, .slice none 0 0]) ?_ 0 _ rfl; (with_reducible repeat (first | refine blk_drewN ?_ _ | refine blk_drew ?_ | refine blk_alloc ?_ _)); exact BK205.out) Try.underlying71 rfl (by kernel_rfl)) rfl ?_
    exact ⟨_, by first | rfl | (simp [errW_none, errW_some] <;> rfl) | (simp [*, errW_none, errW_some] <;> rfl), by (with_reducible repeat (first | apply Kd.V_alloc | apply Kd.V_drewN | apply Kd.V_drew)); exact Kd.V_mono (Kd.V_far (p := ⟨gb205, 1, none⟩) (Kd.V_far (p := ⟨gb205, 0, none⟩) (Kd.V_mono HO0_1.out (fun k_ hk => (⟨hk, hk.2⟩ : _ ∧ k_ ≠ gb205))) (fun _ hk => hk.2) (.int .i64 a0_0)) (fun _ hk => hk.2) (.slice A0_1 l0_1.length c0_1)) (fun _ hk => hk.1.1.1.1), by repeat (first | (with_reducible first | exact HB.out | apply below_alloc | apply pw_below_drewN | apply below_drew1 | refine below_set ?_ GE203.out | refine below_set ?_ GE204.out | refine below_set ?_ GE205.out) | exact HB.out)⟩



end Go.Proofs.Ytgmdlndiilibpaa.PH

/- slices.Backward over a row of blocks: the iterator's contract. -/
set_option linter.unusedVariables false
set_option linter.unusedSimpArgs false
namespace Go.Proofs.Ytgmdlndiilibpaa.PH
open Go.RowKit Go.Shelf Go.Proofs.YtgmdlndiilibpaaW.PrintWords Go.Proofs.YtgmdlndiilibpaaW.PrintLast Go.Proofs.YtgmdlndiilibpaaW.PrintMore Go.Proofs.Ytgmdlndiilibpaa.Tab
attribute [local go_sem] Oper.semAt_some
/-- The pointer to a block. -/
def pv (k : Nat) : Value := .pointer (some ⟨k, 0, none⟩)
/-- What Backward yields: the places from the last down. -/
def bkQ (ks : List Nat) : List (Int × Nat) := (List.range ks.length).map (fun j => (((ks.length - 1 - j : Nat) : Int), ks.getD (ks.length - 1 - j) 0))
theorem bkQ_len (ks : List Nat) : (bkQ ks).length = ks.length := by simp [bkQ]
theorem bkQ_take {ks : List Nat} {p : Nat} (h : p < ks.length) : (bkQ ks).take (ks.length - p) = (bkQ ks).take (ks.length - (p + 1)) ++ [((p : Int), ks[p])] := by
  have e : ks.length - p = (ks.length - (p + 1)) + 1 := by omega
  have hlt : ks.length - (p + 1) < (bkQ ks).length := by rw [bkQ_len]; omega
  rw [e, List.take_succ_eq_append_getElem hlt]
  congr 2
  simp only [bkQ, List.getElem_map, List.getElem_range]
  have e2 : ks.length - 1 - (ks.length - (p + 1)) = p := by omega
  rw [e2, List.getD_eq_getElem?_getD, List.getElem?_eq_getElem h]
  rfl
/-- The blocks below n₀, but those of S, stay. -/
def KpB (n₀ : Nat) (S : List Nat) (W W' : World) : Prop := W.heap.size ≤ W'.heap.size ∧ ∀ k, k < n₀ → k ∉ S → W'.heap[k]? = W.heap[k]?
theorem KpB.refl (n₀ : Nat) (S : List Nat) (W : World) : KpB n₀ S W W := ⟨Nat.le_refl _, fun _ _ _ => rfl⟩
theorem KpB.trans {n₀ : Nat} {S : List Nat} {A B C : World} (h : KpB n₀ S A B) (k : KpB n₀ S B C) : KpB n₀ S A C := ⟨Nat.le_trans h.1 k.1, fun i h1 h2 => (k.2 i h1 h2).trans (h.2 i h1 h2)⟩
theorem KpB.of_below {n₀ : Nat} {S : List Nat} {A B : World} (h : Below n₀ A B) : KpB n₀ S A B := ⟨h.size, fun k hk _ => h.block k hk⟩
theorem KpB.cell {n₀ : Nat} {S : List Nat} {A B : World} (h : KpB n₀ S A B) {p : Addr} (h1 : p.block < n₀) (h2 : p.block ∉ S) : B.cell? p = A.cell? p := by
  unfold World.cell?
  rw [h.2 _ h1 h2]
set_option maxHeartbeats 4000000 in
set_option maxRecDepth 100000 in
theorem back_calls (F : Fence) (n : Nat) (h78 : F.fn 78) (hro : F.round = none) (A : Option Addr) (m c : Nat) (w : World) :
    CallsIn F n Try.prog 78 #[.slice A m c] w fun e w' => e = .returned (.func (.func 94) #[] #[.pointer (some ⟨w.heap.size, 0, none⟩)]) ∧ w' = w.alloc (.cells #[.slice A m c] 114) := by
  refine callsIn_of_wp Try.func78 rfl h78 ?_ hro
  simp only [Try.ntmps78, List.size_toArray, List.length_cons, List.length_nil, Nat.reduceAdd, Nat.reduceSub, Array.replicate_succ, Array.replicate_zero, List.push_toArray, List.append_toArray, List.nil_append, List.cons_append]
  gi_wp2
  go_ret
  exact ⟨rfl, rfl⟩
theorem q_len {α : Type} {f : α → Int × Nat} {ks : List Nat} {Q : List α} (hQ : Q.map f = bkQ ks) : Q.length = ks.length := by
  have := congrArg List.length hQ
  rwa [List.length_map, bkQ_len] at this
theorem q_take {α : Type} {f : α → Int × Nat} {ks : List Nat} {Q : List α} (hQ : Q.map f = bkQ ks) {p : Nat} (h : p < ks.length) : ∃ x, Q.take (ks.length - p) = Q.take (ks.length - (p + 1)) ++ [x] ∧ f x = ((p : Int), ks[p]) := by
  have hl := q_len hQ
  have e : ks.length - p = (ks.length - (p + 1)) + 1 := by omega
  have hlt : ks.length - (p + 1) < Q.length := by omega
  refine ⟨Q[ks.length - (p + 1)], ?_, ?_⟩
  · rw [e, List.take_succ_eq_append_getElem hlt]
  · have h1 := bkQ_take h
    rw [← hQ, ← List.map_take, ← List.map_take, e, List.take_succ_eq_append_getElem hlt, List.map_append] at h1
    have h2 := List.append_cancel_left h1
    simpa using h2
/-- Each of a list as an element that bears what it is. -/
theorem lift_list {α : Type} (p : α → Prop) : ∀ (l : List α), (∀ x ∈ l, p x) → ∃ Q : List { x : α // p x }, Q.map Subtype.val = l
  | [], _ => ⟨[], rfl⟩
  | a :: l, h => by
    obtain ⟨Q, hQ⟩ := lift_list p l (fun x hx => h x (List.mem_cons_of_mem _ hx))
    exact ⟨⟨a, h a List.mem_cons_self⟩ :: Q, by rw [List.map_cons, hQ]⟩
set_option maxHeartbeats 4000000 in
set_option maxRecDepth 100000 in
theorem back1_in {α : Type} (f : α → Int × Nat) (n : Nat) (hn : 1 ≤ n) (lq Bn n₀ : Nat) (S : List Nat) (A : Option Addr) (c : Nat) (ks : List Nat) (hmx : ks.length ≤ 1000000000000) (hlc : ks.length ≤ c) (Q : List α) (hQ : Q.map f = bkQ ks) (J Jx : List α → World → Prop)
    (hY : ∀ pre x W, J pre W → pre.length < Q.length → YieldAt Fence.wide (n - 1) Try.prog lq #[.int .i64 (f x).1, pv (f x).2] W fun e W' =>
      (e = .returned (.bool true) ∧ J (pre ++ [x]) W' ∧ KpB n₀ S W W') ∨ (e = .returned (.bool false) ∧ Jx (pre ++ [x]) W'))
    (W : World) (hB0 : Bn < n₀) (hBS : Bn ∉ S) (hBn : W.cell? ⟨Bn, 0, none⟩ = some (.slice A ks.length c))
    (hA : ∀ i (h : i < ks.length), ∃ g, A = some ⟨g, 0, none⟩ ∧ g < n₀ ∧ g ∉ S ∧ W.cell? ⟨g, i, none⟩ = some (pv ks[i])) (h0 : J [] W) :
    CallsIn Fence.wide n Try.prog 94 #[.func (.yield lq) #[] #[], .pointer (some ⟨Bn, 0, none⟩)] W fun e W' => (∃ v, e = .returned v) ∧
      ((∃ ys, ys = Q ∧ J ys W') ∨ (∃ pre, pre <+: Q ∧ Jx pre W')) := by
  have HQ := Aside0.mk hQ
  clear hQ
  have HA := Aside0.mk hA
  have HY := Aside0.mk hY
  have HBN := Aside0.mk hBn
  have HBS := Aside0.mk hBS
  clear hA hY hBS
  refine callsIn_of_wp Try.func94 rfl trivial ?_ rfl
  simp only [Try.ntmps94, List.size_toArray, List.length_cons, List.length_nil, Nat.reduceAdd, Nat.reduceSub, Array.replicate_succ, Array.replicate_zero, List.push_toArray, List.append_toArray, List.nil_append, List.cons_append]
  gi_wp2
  clear hBn
  gi_loopw [3] (fun iv wr => ∃ m : Nat, iv = .int .i64 ((m : Int) - 1) ∧ m ≤ ks.length ∧ J (Q.take (ks.length - m)) wr ∧ Aside0 (KpB n₀ S W wr)) (fun iv _ => (intOf iv + 1).toNat)
  case atStart => exact ⟨ks.length, rfl, Nat.le_refl _, by simpa using h0, ⟨KpB.refl _ _ _⟩⟩
  case round =>
    obtain ⟨m, rfl, hm, hJ, HK⟩ := hrel
    rcases m with _ | p
    · have hJ' : J Q wr := by
        have : Q.take (ks.length - 0) = Q := List.take_of_length_le (by rw [q_len HQ.out]; omega)
        rwa [this] at hJ
      have HJ := Aside0.mk hJ'
      clear hJ hJ' h0
      gi_wp2
      go_end0
      exact ⟨⟨_, rfl⟩, .inl ⟨_, rfl, HJ.out⟩⟩
    · have hpl : p < ks.length := by omega
      obtain ⟨g, eA, hg0, hgS, hgc⟩ := HA.out p hpl
      subst eA
      have cB : wr.cell? ⟨Bn, 0, none⟩ = some (.slice (some ⟨g, 0, none⟩) ks.length c) := (HK.out.cell (p := ⟨Bn, 0, none⟩) hB0 HBS.out).trans HBN.out
      have cg : wr.cell? ⟨g, p, none⟩ = some (.pointer (some ⟨ks[p], 0, none⟩)) := (HK.out.cell (p := ⟨g, p, none⟩) hg0 hgS).trans hgc
      have e1 : ((p + 1 : Nat) : Int) - 1 = (p : Int) := by omega
      rw [e1]
      obtain ⟨x, htk, hfx⟩ := q_take HQ.out hpl
      have hq : (Q.take (ks.length - (p + 1))).length < Q.length := by rw [List.length_take, q_len HQ.out]; omega
      obtain ⟨fn, tmps, assign, body, hy, hR⟩ := HY.out _ x _ hJ hq
      rw [hfx] at hy
      dsimp only [pv] at hy
      have hR2 := hR.mono (R' := fun e W' => (e = .returned (.bool true) ∧ J (Q.take (ks.length - p)) W' ∧ KpB n₀ S wr W') ∨ (e = .returned (.bool false) ∧ Jx (Q.take (ks.length - p)) W')) (fun e W' h => by rw [htk]; exact h)
      have hp0 : (0 : Int) ≤ (p : Int) := by omega
      have hp1 : (p : Int) < (ks.length : Int) := by omega
      generalize ks[p] = kp at *
      clear htk hfx hq hR hgc e1 hJ h0
      gi_wp2
      refine hR2.mono ?_
      rintro e W3 (⟨rfl, hJ3, hk3⟩ | ⟨rfl, hJx3⟩)
      · have HK3 := Aside0.mk (HK.out.trans hk3)
        have HJ3 := Aside0.mk hJ3
        clear hJ3 hk3 HK cB cg hy hR2
        gi_wp2
        go_roundw
        case rel => exact ⟨p, by first | rfl | go_num, by omega, HJ3.out, HK3⟩
        case measure => simp [intOf]
      · have HJx := Aside0.mk hJx3
        clear hJx3
        gi_wp2
        refine bodyPost_ret (results_none rfl _ _ _) rfl ?_
        exact ⟨⟨_, rfl⟩, .inr ⟨_, List.take_prefix _ _, HJx.out⟩⟩
/-- What Backward hands back, as a contract for callers. -/
theorem back_stops {α : Type} (f : α → Int × Nat) (n : Nat) (hn : 1 ≤ n) (Bn n₀ : Nat) (S : List Nat) (A : Option Addr) (c : Nat) (ks : List Nat) (hmx : ks.length ≤ 1000000000000) (hlc : ks.length ≤ c) (Q : List α) (hQ : Q.map f = bkQ ks) (w : World) (hn₀ : n₀ ≤ w.heap.size) (hB0 : Bn < n₀) (hBS : Bn ∉ S)
    (hc : w.cell? ⟨Bn, 0, none⟩ = some (.slice A ks.length c)) (hA : ∀ i (h : i < ks.length), ∃ g, A = some ⟨g, 0, none⟩ ∧ g < n₀ ∧ g ∉ S ∧ w.cell? ⟨g, i, none⟩ = some (pv ks[i])) :
    SeqStopsK Fence.wide n Try.prog 94 #[.pointer (some ⟨Bn, 0, none⟩)] (fun x : α => #[.int .i64 (f x).1, pv (f x).2]) (KpB n₀ S) (fun ys => ys = Q) (fun pre => pre <+: Q) Q.length w := fun l J Jx W hW hJ _ hY h0 =>
  back1_in f n hn l Bn n₀ S A c ks hmx hlc Q hQ J Jx hY W hB0 hBS ((hW.cell (p := ⟨Bn, 0, none⟩) (Nat.lt_of_lt_of_le hB0 hn₀)).trans hc) (fun i h => by
    obtain ⟨g, e, h1, h2, h3⟩ := hA i h
    exact ⟨g, e, h1, h2, (hW.cell (p := ⟨g, i, none⟩) (Nat.lt_of_lt_of_le h1 hn₀)).trans h3⟩) h0
end Go.Proofs.Ytgmdlndiilibpaa.PH


/- Resize: plain words: what a table's things become when the chains are made anew. -/
set_option linter.unusedVariables false
set_option linter.unusedSimpArgs false
namespace Go.Proofs.Ytgmdlndiilibpaa.PH
open Go.RowKit Go.Shelf Go.Proofs.YtgmdlndiilibpaaW.PrintWords Go.Proofs.YtgmdlndiilibpaaW.PrintLast Go.Proofs.YtgmdlndiilibpaaW.PrintMore Go.Proofs.Ytgmdlndiilibpaa.Tab
/-- A block's key and its thing. -/
def kv (n : Nd) : (Int × Int × Int) × Int := (n.key, n.v)
/-- Things, each in its chain, in their row. -/
def redo (ch : Int × Int × Int → Nat) (q : Nat) (M : List ((Int × Int × Int) × Int)) : List (List ((Int × Int × Int) × Int)) := (List.range q).map (fun i => M.filter (fun x => decide (ch x.1 = i)))
theorem redo_nil (ch : Int × Int × Int → Nat) (q : Nat) : redo ch q [] = List.replicate q [] := by
  apply List.ext_getElem
  · simp [redo]
  · intro i h1 h2
    simp [redo]
theorem redo_len (ch : Int × Int × Int → Nat) (q : Nat) (M : List ((Int × Int × Int) × Int)) : (redo ch q M).length = q := by simp [redo]
theorem redo_cons {ch : Int × Int × Int → Nat} {q : Nat} (x : (Int × Int × Int) × Int) (M : List ((Int × Int × Int) × Int)) :
    redo ch q (x :: M) = (redo ch q M).set (ch x.1) (x :: M.filter (fun y => decide (ch y.1 = ch x.1))) := by
  apply List.ext_getElem
  · simp [redo]
  · intro i h1 h2
    simp only [redo_len] at h1
    rw [List.getElem_set]
    simp only [redo, List.getElem_map, List.getElem_range, List.filter_cons]
    by_cases h : ch x.1 = i
    · simp [h]
    · simp [h]
theorem redo_get {ch : Int × Int × Int → Nat} {q i : Nat} {M : List ((Int × Int × Int) × Int)} (h : i < q) : (redo ch q M)[i]? = some (M.filter (fun y => decide (ch y.1 = i))) := by
  rw [List.getElem?_eq_getElem (by rw [redo_len]; exact h)]
  simp [redo]
/-- The blocks from the last down, with their places. -/
def bkN (ns : List Nd) : List (Int × Nd) := (List.range ns.length).map (fun j => (((ns.length - 1 - j : Nat) : Int), ns.getD (ns.length - 1 - j) ⟨0, 0, 0, 0, 0⟩))
theorem bkN_map (ns : List Nd) : (bkN ns).map (fun x => (x.1, x.2.id)) = bkQ (ns.map Nd.id) := by
  apply List.ext_getElem
  · simp [bkN, bkQ]
  · intro i h1 h2
    simp only [bkN, List.length_map, List.length_range] at h1
    simp only [bkN, bkQ, List.map_map, List.getElem_map, List.getElem_range, Function.comp, List.length_map]
    rw [List.getD_eq_getElem?_getD, List.getD_eq_getElem?_getD, List.getElem?_map, List.getElem?_eq_getElem (by omega)]
    rfl
theorem bkN_snd (ns : List Nd) : (bkN ns).map Prod.snd = ns.reverse := by
  apply List.ext_getElem
  · simp [bkN]
  · intro i h1 h2
    simp only [List.length_reverse] at h2
    simp only [bkN, List.map_map, List.getElem_map, List.getElem_range, Function.comp, List.getElem_reverse]
    rw [List.getD_eq_getElem?_getD, List.getElem?_eq_getElem (by omega)]
    rfl
theorem bkN_mem {ns : List Nd} {x : Int × Nd} (h : x ∈ bkN ns) : x.2 ∈ ns := by
  have : x.2 ∈ (bkN ns).map Prod.snd := List.mem_map_of_mem h
  rw [bkN_snd] at this
  exact List.mem_reverse.1 this
/-- A block that is in no chain yet. -/
def Loose (W : World) (n₀ : Nat) (ns : List Nd) : Prop := ∀ m ∈ ns, n₀ ≤ m.id ∧ W.heap[m.id]? = some (.cells (cells m []) 123 (0, 0))
theorem Loose.grown {W W' : World} {n₀ : Nat} {ns : List Nd} {row : Option Nat} (h : Loose W n₀ ns) (hg : W.grownBy W' row) (hr : ∀ r, row = some r → ∃ o : Obj, W.heap[r]? = some o ∧ o.isCells = false) : Loose W' n₀ ns := fun m hm =>
  ⟨(h m hm).1, (grownBy_keeps_cells hg hr (h m hm).2 rfl).trans (h m hm).2⟩
theorem Loose.move {W W' : World} {n₀ : Nat} {ns : List Nd} (h : Loose W n₀ ns) (hm : ∀ m ∈ ns, W'.heap[m.id]? = W.heap[m.id]?) : Loose W' n₀ ns := fun m hm' => ⟨(h m hm').1, (hm m hm').trans (h m hm').2⟩
theorem Loose.lt {W : World} {n₀ : Nat} {ns : List Nd} (h : Loose W n₀ ns) : ∀ m ∈ ns, m.id < W.heap.size := fun m hm => (Array.getElem?_eq_some_iff.1 (h m hm).2).1
theorem _root_.Go.Proofs.Ytgmdlndiilibpaa.Tab.At.typedR {w : World} {b c : Nat} {L : List (List Nd)} {free n : Int} (h : At 116 120 123 w b c L free n) : ∀ k ∈ ids b c L, ∃ cs t, w.heap[k]? = some (.cells cs t (0, 0)) := by
  intro k hk
  rcases ids_cases hk with rfl | rfl | ⟨i, l, m, hi, hm, rfl⟩
  · exact ⟨_, _, h.hb⟩
  · exact ⟨_, _, h.hc⟩
  · obtain ⟨j, hj, rfl⟩ := List.getElem_of_mem hm
    exact ⟨_, _, (h.hl _ (List.mem_of_getElem? hi)).at_ j hj⟩
theorem _root_.Go.Proofs.Ytgmdlndiilibpaa.Tab.At.grownR {w w' : World} {b c : Nat} {L : List (List Nd)} {free n : Int} {row : Option Nat} (h : At 116 120 123 w b c L free n) (hg : w.grownBy w' row) (hr : ∀ r, row = some r → ∃ o : Obj, w.heap[r]? = some o ∧ o.isCells = false) : At 116 120 123 w' b c L free n :=
  h.move (fun k hk => by
    obtain ⟨cs, t, e⟩ := h.typedR k hk
    exact grownBy_keeps_cells hg hr e rfl)
theorem _root_.Go.Proofs.Ytgmdlndiilibpaa.Tab.Mv.grownR {S : List Nat} {w W W' : World} {row : Option Nat} (h : Mv S w W) (hg : W.grownBy W' row) (hr : ∀ r, row = some r → w.heap.size ≤ r) : Mv S w W' := by
  obtain ⟨h1, h2, h3, h4, h5⟩ := hg
  exact ⟨h1.trans h.os, h2.trans h.tape, h3.trans h.output, Nat.le_trans h.size h4, fun k hk hn => (h5 k (Nat.lt_of_lt_of_le hk h.size) (fun e => Nat.not_lt.2 (hr k e.symm) hk)).trans (h.block k hk hn)⟩
theorem ownsRow_grown {W W' : World} {row : Option Nat} {base : Nat} {e : TypeId} {size : Nat} {v : Value} {k : Nat} {xs : List Value} (h : W.ownsRow base e size v k xs) (hg : W.grownBy W' row)
    (hrow : ∀ r, row = some r → ∃ o : Obj, W.heap[r]? = some o ∧ o.isCells = false) : W'.ownsRow base e size v k xs := by
  refine h.kept hg ?_
  rcases h.2 with ⟨rfl, _⟩ | ⟨g, cap, cur, rfl, _, hgb, _⟩
  · exact .inl rfl
  · refine .inr fun e' => ?_
    obtain ⟨o, ho, hc⟩ := hrow g (by rw [← e']; rfl)
    rw [hgb] at ho
    obtain rfl := Option.some.inj ho
    cases hc
/-- The table whose chains are made anew. -/
theorem _root_.Go.Proofs.Ytgmdlndiilibpaa.Tab.At.redone {w w' : World} {b c c' q : Nat} {L : List (List Nd)} {free n : Int} (h : At 116 120 123 w b c L free n) (hq1 : 1 ≤ q) (hq2 : q ≤ 10000000) (hne : b ≠ c')
    (hb : w'.heap[b]? = some (.cells #[.slice (some ⟨c', 0, none⟩) q q, .int .i64 free, .int .i64 n] 116 (0, 0))) (hc : w'.heap[c']? = some (.cells (madeCells #[.pointer none] q) 120 (0, 0))) : At 116 120 123 w' b c' (List.replicate q []) free n where
  hb := by rw [hb]; simp
  hc := by
    have e : madeCells #[Value.pointer none] q = ((List.replicate q ([] : List Nd)).map ptr).toArray := by
      apply Array.ext
      · simp [madeCells]
      · intro i h1 h2
        simp [madeCells, ptr, Nat.mod_one]
    rw [← e]
    exact hc
  hl := fun l hl => by rw [(List.mem_replicate.1 hl).2]; trivial
  nd := by simp [ids, hne]
  pos := by simp; omega
  small := by simp; omega
  few := fun l hl => by rw [(List.mem_replicate.1 hl).2]; simp
end Go.Proofs.Ytgmdlndiilibpaa.PH


/- Resize: what one round of the gathering leaves. -/
set_option linter.unusedVariables false
set_option linter.unusedSimpArgs false
namespace Go.Proofs.Ytgmdlndiilibpaa.PH
open Go.RowKit Go.Shelf Go.Proofs.YtgmdlndiilibpaaW.PrintWords Go.Proofs.YtgmdlndiilibpaaW.PrintLast Go.Proofs.YtgmdlndiilibpaaW.PrintMore Go.Proofs.Ytgmdlndiilibpaa.Tab
/-- The gathering: the blocks made so far, their pointers in a row. -/
def Gath (w : World) (D b : Nat) (pre : List Nd) (W : World) : Prop :=
  Boxed W D 58 (.pointer (some ⟨b, 0, none⟩)) ∧ (∃ v ns, ns.map kv = pre.map kv ∧ Boxed W (D + 1) 114 v ∧ W.ownsRow D 120 1 v ns.length (ns.map (fun m => pv m.id)) ∧ Loose W D ns) ∧ Below D w W ∧ D + 3 ≤ W.heap.size
theorem gath_own (w : World) (D b B : Nat) (hD : D ≤ w.heap.size) (hB : D ≤ B) : OwnFrom B (Gath w D b) := by
  intro pre X Y row ⟨h1, ⟨v, ns, h2, h3, h4, h5⟩, h6, h7⟩ hg hr
  have hr' := fun r e => (hr r e).2
  exact ⟨boxed_own _ _ (fun _ : Unit => _) () X Y row h1 hg hr', ⟨v, ns, h2, boxed_own _ _ (fun _ : Unit => _) () X Y row h3 hg hr', ownsRow_grown h4 hg hr', h5.grown hg hr'⟩, ownFrom_below hD hB () X Y row h6 hg hr, Nat.le_trans h7 hg.size⟩
theorem own_lt {W : World} {base e size k : Nat} {v : Value} {xs : List Value} (h : W.ownsRow base e size v k xs) : ∀ j, v.ownBlock = some j → base ≤ j ∧ j < W.heap.size ∧ ∃ cur, W.heap[j]? = some (.cells cur e (0, 0)) := by
  intro j hj
  rcases h.2 with ⟨rfl, _⟩ | ⟨g, cap, cur, rfl, hg0, hgb, _⟩
  · cases hj
  · obtain rfl : g = j := by simpa [Value.ownBlock] using hj
    exact ⟨hg0, (Array.getElem?_eq_some_iff.1 hgb).1, _, hgb⟩
theorem own_form {W : World} {base e size k : Nat} {v : Value} {xs : List Value} (h : W.ownsRow base e size v k xs) (hk : 0 < k) : ∃ g cap, v = .slice (some ⟨g, 0, none⟩) k cap := by
  rcases h.2 with ⟨rfl, h0⟩ | ⟨g, cap, cur, rfl, hg0, hgb, _⟩
  · omega
  · exact ⟨g, cap, rfl⟩
theorem own_ne {W : World} {base e size k : Nat} {v : Value} {xs : List Value} (h : W.ownsRow base e size v k xs) {j : Nat} {o : Obj} (hj : W.heap[j]? = some o) (hno : ∀ cur, o ≠ .cells cur e (0, 0)) : some j ≠ v.ownBlock := fun e' => by
  obtain ⟨_, _, cur, hc⟩ := own_lt h j e'.symm
  rw [hj] at hc
  exact hno cur (Option.some.inj hc)
theorem own_ne' {W : World} {base e size k : Nat} {v : Value} {xs : List Value} (h : W.ownsRow base e size v k xs) {j : Nat} {o : Obj} (hj : W.heap[j]? = some o) (hno : ∀ cur, o ≠ .cells cur e (0, 0)) : v.ownBlock = none ∨ v.ownBlock ≠ some j := .inr (fun e => own_ne h hj hno e.symm)
theorem gath_step {w W w3 : World} {D b : Nat} {pre ns : List Nd} {x : Nd} {v v' : Value} (h1 : Boxed W D 58 (.pointer (some ⟨b, 0, none⟩))) (h2 : ns.map kv = pre.map kv) (h3 : Boxed W (D + 1) 114 v)
    (h4 : W.ownsRow D 120 1 v ns.length (ns.map (fun m => pv m.id))) (h5 : Loose W D ns) (h6 : Below D w W) (hD : D ≤ w.heap.size) (h7 : D + 3 ≤ W.heap.size)
    (hg : ((W.alloc (.cells #[.int .i64 x.sp, .int .u64 x.va, .int .i64 x.sz, .int .i64 x.v, .pointer none] 123)).alloc (.cells #[.pointer (some ⟨W.heap.size, 0, none⟩)] 120)).grownBy w3 v.ownBlock)
    (ho : w3.ownsRow D 120 1 v' (ns.length + 1) (ns.map (fun m => pv m.id) ++ [.pointer (some ⟨W.heap.size, 0, none⟩)])) :
    Boxed w3 (D + 1) 114 v ∧ KeepsFrom (D + 3) W (w3.setCell ⟨D + 1, 0, none⟩ v') ∧ Below D W (w3.setCell ⟨D + 1, 0, none⟩ v') ∧ Gath w D b (pre ++ [x]) (w3.setCell ⟨D + 1, 0, none⟩ v') := by
  obtain ⟨W2, hW2⟩ : ∃ W2, (W.alloc (.cells #[.int .i64 x.sp, .int .u64 x.va, .int .i64 x.sz, .int .i64 x.v, .pointer none] 123)).alloc (.cells #[.pointer (some ⟨W.heap.size, 0, none⟩)] 120) = W2 := ⟨_, rfl⟩
  have hb2 : Below W.heap.size W W2 := by rw [← hW2]; exact ((Below.refl _ W).alloc (Nat.le_refl _) _).alloc (by simp) _
  have hs2 : W2.heap.size = W.heap.size + 2 := by rw [← hW2]; simp
  have hnew : W2.heap[W.heap.size]? = some (.cells (cells ⟨W.heap.size, x.sp, x.va, x.sz, x.v⟩ []) 123 (0, 0)) := by
    rw [← hW2]
    exact (Below.heap_alloc _ _ _ (by simp)).trans (World.alloc_heap_new W _)
  rw [hW2] at hg
  clear hW2
  have hDW : D + 1 < W.heap.size := h3.lt
  have hv := own_lt h4
  have key : ∀ k, k < W.heap.size → some k ≠ v.ownBlock → w3.heap[k]? = W.heap[k]? := fun k hk hn => (hg.block k (by omega) hn).trans (hb2.block k hk)
  have h1' : Boxed w3 D 58 (.pointer (some ⟨b, 0, none⟩)) := (key D (by omega) (own_ne h4 h1 (fun cur e => by cases e))).trans h1
  have h3' : Boxed w3 (D + 1) 114 v := (key (D + 1) hDW (own_ne h4 h3 (fun cur e => by cases e))).trans h3
  have hn3 : w3.heap[W.heap.size]? = some (.cells (cells ⟨W.heap.size, x.sp, x.va, x.sz, x.v⟩ []) 123 (0, 0)) :=
    (hg.block _ (by omega) (fun e => by obtain ⟨_, h, _⟩ := hv _ e.symm; omega)).trans hnew
  have hs3 : W.heap.size + 2 ≤ w3.heap.size := by rw [← hs2]; exact hg.size
  have hs4 : (w3.setCell ⟨D + 1, 0, none⟩ v').heap.size = w3.heap.size := by simp [World.setCell]
  have hbelow : Below D W (w3.setCell ⟨D + 1, 0, none⟩ v') :=
    ((hb2.mono (by omega)).grown hg (by omega) (fun k e => (hv k e).1)).setCell (p := ⟨D + 1, 0, none⟩) (by simp) _
  have oth : ∀ k, k ≠ D + 1 → (w3.setCell ⟨D + 1, 0, none⟩ v').heap[k]? = w3.heap[k]? := fun k hk => Below.heap_setCell w3 ⟨D + 1, 0, none⟩ v' k hk
  refine ⟨h3', ⟨by omega, fun k o hk h0 hoc => ?_⟩, hbelow, ?_, ⟨v', ns ++ [⟨W.heap.size, x.sp, x.va, x.sz, x.v⟩], ?_, ?_, ?_, ?_⟩, ?_, ?_⟩
  · rw [oth k (by omega), key k (Array.getElem?_eq_some_iff.1 h0).1 (own_ne h4 h0 (fun cur e => by subst e; cases hoc))]
    exact h0
  · exact (oth D (by omega)).trans h1'
  · rw [List.map_append, List.map_append, h2]; rfl
  · exact Boxed.set v' h3'
  · have := ho.kept (grownBy_setCell' w3 (D + 1) v') (own_ne' ho h3' (fun cur e => by cases e))
    simpa [pv] using this
  · intro m hm
    rcases List.mem_append.1 hm with hm | hm
    · obtain ⟨e1, e2⟩ := h5 m hm
      have hlt := h5.lt m hm
      have hne : m.id ≠ D + 1 := fun e => by
        rw [e, h3] at e2
        cases e2
      exact ⟨e1, by rw [oth _ hne, key _ hlt (own_ne h4 e2 (fun cur e => by cases e))]; exact e2⟩
    · obtain rfl := List.mem_singleton.1 hm
      exact ⟨by show D ≤ W.heap.size; omega, (oth W.heap.size (by omega)).trans hn3⟩
  · exact h6.trans hbelow
  · omega
end Go.Proofs.Ytgmdlndiilibpaa.PH


/- Resize: what one round of the giving-out leaves. -/
set_option linter.unusedVariables false
set_option linter.unusedSimpArgs false
namespace Go.Proofs.Ytgmdlndiilibpaa.PH
open Go.RowKit Go.Shelf Go.Proofs.YtgmdlndiilibpaaW.PrintWords Go.Proofs.YtgmdlndiilibpaaW.PrintLast Go.Proofs.YtgmdlndiilibpaaW.PrintMore Go.Proofs.Ytgmdlndiilibpaa.Tab
/-- The giving-out: the table has what was given, each in its chain. -/
def Dist {α : Type} (nd : α → Nd) (W1 : World) (D b c' q : Nat) (ch : Int × Int × Int → Nat) (free n : Int) (pre : List α) (W : World) : Prop :=
  Boxed W D 58 (.pointer (some ⟨b, 0, none⟩)) ∧ (∃ L', L'.map (List.map kv) = redo ch q ((pre.map (fun x => kv (nd x))).reverse) ∧ At 116 120 123 W b c' L' free n ∧ (∀ k ∈ ids b c' L', k = b ∨ D ≤ k)) ∧ Mv [c'] W1 W
theorem dist_own {α : Type} (nd : α → Nd) (W1 : World) (D b c' q : Nat) (ch : Int × Int × Int → Nat) (free n : Int) (B : Nat) (hB : W1.heap.size ≤ B) : OwnFrom B (Dist nd W1 D b c' q ch free n) := by
  intro pre X Y row ⟨h1, ⟨L', h2, h3, h4⟩, h5⟩ hg hr
  have hr' := fun r e => (hr r e).2
  exact ⟨boxed_own _ _ (fun _ : Unit => _) () X Y row h1 hg hr', ⟨L', h2, h3.grownR hg hr', h4⟩, h5.grownR hg (fun r e => Nat.le_trans hB (hr r e).1)⟩
theorem dist_chain {q i : Nat} {ch : Int × Int × Int → Nat} {M : List ((Int × Int × Int) × Int)} {L' : List (List Nd)} (h : L'.map (List.map kv) = redo ch q M) (hi : i < q) : ∃ l, L'[i]? = some l ∧ l.map kv = M.filter (fun y => decide (ch y.1 = i)) ∧ l.length ≤ M.length := by
  have h1 := redo_get (ch := ch) (M := M) hi
  rw [← h, List.getElem?_map] at h1
  cases hl : L'[i]? with
  | none => rw [hl] at h1; cases h1
  | some l =>
    rw [hl] at h1
    have h2 : l.map kv = M.filter (fun y => decide (ch y.1 = i)) := Option.some.inj h1
    refine ⟨l, rfl, h2, ?_⟩
    have := congrArg List.length h2
    rw [List.length_map] at this
    rw [this]
    exact List.length_filter_le _ _
theorem dist_len {q : Nat} {ch : Int × Int × Int → Nat} {M : List ((Int × Int × Int) × Int)} {L' : List (List Nd)} (h : L'.map (List.map kv) = redo ch q M) : L'.length = q := by
  have := congrArg List.length h
  rwa [List.length_map, redo_len] at this
theorem dist_step {α : Type} {nd : α → Nd} {W1 W W' : World} {D b c' q : Nat} {ch : Int × Int × Int → Nat} {free n : Int} {pre : List α} {x : α} {L' : List (List Nd)} {l : List Nd} {g : Nat}
    (h1 : Boxed W D 58 (.pointer (some ⟨b, 0, none⟩))) (h2 : L'.map (List.map kv) = redo ch q ((pre.map (fun x => kv (nd x))).reverse)) (h3 : At 116 120 123 W b c' L' free n) (h4 : ∀ k ∈ ids b c' L', k = b ∨ D ≤ k) (h5 : Mv [c'] W1 W)
    (hl : L'[ch (nd x).key]? = some l) (hlm : l.map kv = ((pre.map (fun x => kv (nd x))).reverse).filter (fun y => decide (ch y.1 = ch (nd x).key))) (hg : W.heap.size ≤ g)
    (hA : At 116 120 123 W' b c' (L'.set (ch (nd x).key) (⟨g, (nd x).sp, (nd x).va, (nd x).sz, (nd x).v⟩ :: l)) free n) (hM : Mv [c'] W W') :
    Dist nd W1 D b c' q ch free n (pre ++ [x]) W' ∧ KpB W1.heap.size [c'] W W' ∧ KeepsFrom W1.heap.size W W' := by
  have hDc : D ≠ c' := fun e => by
    have := h3.hc
    rw [← e, h1] at this
    have := Option.some.inj this
    simp at this
  have hDW := h1.lt
  refine ⟨⟨(hM.block D hDW (by simpa using hDc)).trans h1, ⟨_, ?_, hA, ?_⟩, h5.trans hM (fun k hk => .inl hk)⟩, ⟨hM.size, fun k hk hn => hM.block k (Nat.lt_of_lt_of_le hk h5.size) hn⟩, ⟨hM.size, fun k o hk h0 ho => ?_⟩⟩
  · rw [List.map_set, List.map_cons, h2, hlm, List.map_append, List.reverse_append]
    show _ = redo ch q (kv (nd x) :: _)
    rw [redo_cons]
    rfl
  · intro k hk
    rcases ids_set hk with hk | hk
    · exact h4 k hk
    · simp only [List.map_cons, List.mem_cons] at hk
      rcases hk with rfl | hk
      · exact .inr (by omega)
      · obtain ⟨m, hm, rfl⟩ := List.mem_map.1 hk
        exact h4 _ (mem_ids hl hm)
  · refine (hM.block k (Array.getElem?_eq_some_iff.1 h0).1 ?_).trans h0
    intro hk'
    obtain rfl := List.mem_singleton.1 hk'
    rw [h3.hc] at h0
    obtain rfl := Option.some.inj h0
    cases ho
theorem own_slice {β : Type} {W : World} {base e : Nat} {v : Value} {ns : List β} {f : β → Value} (h : W.ownsRow base e 1 v ns.length (ns.map f)) :
    ∃ A c, v = .slice A ns.length c ∧ ns.length ≤ c ∧ ∀ i (hi : i < ns.length), ∃ g, A = some ⟨g, 0, none⟩ ∧ base ≤ g ∧ g < W.heap.size ∧ W.cell? ⟨g, i, none⟩ = some (f ns[i]) := by
  rcases h.2 with ⟨rfl, h0⟩ | ⟨g, cap, cur, rfl, hg0, hgb, hc1, hc2, hc3, hc4⟩
  · exact ⟨none, 0, by rw [h0], by omega, fun i hi => by omega⟩
  · refine ⟨_, cap, rfl, hc1, fun i hi => ⟨g, rfl, hg0, (Array.getElem?_eq_some_iff.1 hgb).1, ?_⟩⟩
    have h1 : (cur.toList.take (ns.length * 1))[i]? = some (f ns[i]) := by rw [hc4]; simp [hi]
    rw [List.getElem?_take, if_pos (by omega)] at h1
    rw [Lib.cell_of_heap hgb]
    simpa using h1
theorem kpb_put {n₀ : Nat} {S : List Nat} (X : World) (l : Nat) (o' : Obj) (hl : n₀ ≤ l) : KpB n₀ S X (X.putObj l o') := by
  refine ⟨by simp [World.putObj], fun k hk _ => ?_⟩
  simp [World.putObj, Array.getElem?_setIfInBounds_ne (show l ≠ k by omega)]
end Go.Proofs.Ytgmdlndiilibpaa.PH



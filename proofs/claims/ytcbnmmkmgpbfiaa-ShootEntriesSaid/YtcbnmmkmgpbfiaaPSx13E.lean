-- written by xprint.py, a program of this session, over the kit's print (functions told by hand: see the texts)
import Derived.Test.YtcbnmmkmgpbfiaaPSx0E
import Derived.Test.YtcbnmmkmgpbfiaaPSx7E
import Derived.Test.YtcbnmmkmgpbfiaaPSx12E
namespace Go.Proofs.Ytcbnmmkmgpbfiaa.PS
open Go.RowKit Go.Proofs.YtcbnmmkmgpbfiaaW.PrintWords Go.Proofs.YtcbnmmkmgpbfiaaW.PrintLast Go.Proofs.YtcbnmmkmgpbfiaaW.PrintMore
attribute [local go_sem] max2_int min2_int max_two min_two max_three min_three max_four min_four   -- for this text's walks alone
set_option linter.unusedVariables false
set_option linter.unusedSimpArgs false

/-! ### lookasideref19_Reach: function 25 -/
def lookasideref19_Reach.l0 : Nat → List (S32) → List Int → Int → Int → Bool → Int → Option (List Int)
  | 0, _, _, _, _, _, _ => none
  | k + 1, x0, x5, x6, x274000, x274001, x274002 => if x6 < (x0.length : Int) then (if 0 ≤ x6 then ((lookasideref03_Hits.f ((rd_T32 x0 x6).f0) ((rd_T32 x0 x6).f1) ((rd_T32 x0 x6).f2) ((rd_T32 x0 x6).f3) ((rd_T32 x0 x6).f4.f0) ((rd_T32 x0 x6).f4.f1) ((rd_T32 x0 x6).f4.f2) ((rd_T32 x0 x6).f4.f3) ((rd_T32 x0 x6).f4.f4) ((rd_T32 x0 x6).f4.f5) ((rd_T32 x0 x6).f5) x274002 ((rd_T32 x0 x6).f1)).bind fun t276 => (if t276 = true then ((lookasideref09_Judge.f k ((rd_T32 x0 x6).f4.f0) ((rd_T32 x0 x6).f4.f1) ((rd_T32 x0 x6).f4.f2) ((rd_T32 x0 x6).f4.f3) ((rd_T32 x0 x6).f4.f4) ((rd_T32 x0 x6).f4.f5) x274000 x274001 x274002).bind fun t278 => (if t278 = 0 then (if x5.length < 17592186044416 then (lookasideref19_Reach.l0 k x0 (x5 ++ [x6]) (wrap64 (x6 + 1)) x274000 x274001 x274002) else (none)) else (lookasideref19_Reach.l0 k x0 x5 (wrap64 (x6 + 1)) x274000 x274001 x274002))) else (lookasideref19_Reach.l0 k x0 x5 (wrap64 (x6 + 1)) x274000 x274001 x274002))) else (none)) else (some x5)
def lookasideref19_Reach.f (k : Nat) (l0 : List (S32)) (a1_0 : Int) (a1_1 : Bool) (a1_2 : Int) : Option (List Int) := lookasideref19_Reach.l0 k l0 ([] : List Int) 0 a1_0 a1_1 a1_2
def lookasideref19_Reach.T5 : Bool × List (List Nat × List Nat) := (true, [([], []), ([], []), ([0, 1], [0, 1]), ([2], [2]), ([], []), ([4], [4]), ([], []), ([], []), ([6, 7], [6, 7]), ([8], [8]), ([9], [9]), ([3, 5, 10], [3, 5, 10]), ([11, 11, 0, 1, 2, 3, 4, 5, 6, 7, 8, 9, 10, 11], [11])])
def lookasideref19_Reach.B5 : List Nat := [0, 0, 3, 7, 0, 16, 0, 0, 192, 448, 960, 2047, 4095]
theorem lookasideref19_Reach.tab5 : rtab .any (opsOf Try.f25 5) = lookasideref19_Reach.T5 := by kernel_rfl
theorem lookasideref19_Reach.bits5 : waitsOk lookasideref19_Reach.T5.2 lookasideref19_Reach.B5 = true := by kernel_rfl
def lookasideref19_Reach.T6 : Bool × List (List Nat × List Nat) := (true, [([], []), ([0], [0]), ([1], [1]), ([1], [1]), ([2, 3, 1], [1, 2, 3]), ([4, 1], [1, 4]), ([5, 1], [1, 5]), ([1], [1]), ([6, 7, 1, 1], [1, 6, 7]), ([8, 1], [1, 8]), ([1, 9], [1, 9])])
def lookasideref19_Reach.B6 : List Nat := [0, 1, 3, 3, 15, 31, 63, 3, 255, 511, 1023]
theorem lookasideref19_Reach.tab6 : rtab .any (opsOf Try.f25 6) = lookasideref19_Reach.T6 := by kernel_rfl
theorem lookasideref19_Reach.bits6 : waitsOk lookasideref19_Reach.T6.2 lookasideref19_Reach.B6 = true := by kernel_rfl
set_option maxHeartbeats 8000000 in
set_option maxRecDepth 100000 in
theorem lookasideref19_Reach.calls (k : Nat) (A0 : Option Addr) (c0 : Nat) (l0 : List (S32)) (a1_0 : Int) (a1_1 : Bool) (a1_2 : Int) (r : List Int) (w : World) (hr0 : Kd.C k32 w A0 l0.length l0) (hc0 : l0.length ≤ c0) (h : lookasideref19_Reach.f k l0 a1_0 a1_1 a1_2 = some r) :
    Calls Try.prog 25 #[.slice A0 l0.length c0, .agg #[.int .i64 a1_0, .bool a1_1, .int .u64 a1_2]] w fun e w' => ∃ v0_ : Value, e = .returned (v0_) ∧ Kd.R (Kd.int .i64) 3 w' w.heap.size (fun _ => True) v0_ r ∧ Below w.heap.size w w' := by
  have hu39 := Try.underlying39
  have hu32 := Try.underlying32
  have hu28 := Try.underlying28
  have HR0 := Aside0.mk hr0
  have HC0 := Aside0.mk hc0
  clear hr0 hc0
  have HB := Aside0.mk (Below.refl w.heap.size w)
  have H : (lookasideref19_Reach.l0 k l0 ([] : List Int) 0 a1_0 a1_1 a1_2) = some r := h
  clear h
  have H' := Aside0.mk H
  clear H
  go_enter Try.func25, Try.ntmps25
  go_wp2_with (first | ((with_reducible refine gate_dst (N := 3) rfl ?_); refine box_event ?hg (N := 3) ?hd (cs := #[.int .i64 a1_0, .bool a1_1, .int .u64 a1_2]) (t := 39) ?hr ?_; (case hd => rfl); (case hg => rfl); (case hr => first | (go_simp; done) | (go_simp; rfl)); intro gb273 hg w3 hbox hb; have n0_ := Aside0.mk (below_step (by repeat (first | (with_reducible first | exact HB.out | apply below_alloc | apply pw_below_drewN | apply below_drew1) | exact HB.out)) hb); have n1_ := Aside0.mk (hbox); have n2_ := Aside0.mk ((by rw [hg]; exact (below_size (by repeat (first | (with_reducible first | exact HB.out | apply below_alloc | apply pw_below_drewN | apply below_drew1) | exact HB.out))) : w.heap.size ≤ gb273)); have n3_ := Aside0.mk ((by rw [hg]; exact (below_size (by repeat (first | (with_reducible first | exact HB.out | apply below_alloc | apply pw_below_drewN | apply below_drew1) | exact HB.out))) : w.heap.size ≤ gb273)); clear HB; have HB := n0_; have BK273 := n1_; have GW273 := n2_; have GE273 := n3_; clear n0_ n1_ n2_ n3_; clear hb hbox hg))
  go_loopg [5, 6] k (fun kq v5 v6 w' => ∃ (x5_1 : List Int) (x6_1 : Int), v6 = .int .i64 x6_1 ∧ Aside0 (lookasideref19_Reach.l0 kq l0 x5_1 x6_1 a1_0 a1_1 a1_2 = some r) ∧ Aside0 (kq ≤ k) ∧ Aside0 (Kd.R (Kd.int .i64) 3 w' w.heap.size (fun _ => True) v5 x5_1) ∧ Aside0 (w'.heap[gb273]? = some (.cells #[.int .i64 a1_0, .bool a1_1, .int .u64 a1_2] 39 (0, 0))) ∧ Aside0 (Below w.heap.size w w'))
  case atStart => exact ⟨(([] : List Int)), (0), (by first | rfl | (simp; done) | (simp [*]; done)), H', ⟨Nat.le_refl _⟩, ⟨by first | exact Kd.R_nil _ _ _ _ _ | exact Kd.N_nil _ _ _ _ _ | exact Kd.V_nil _ _ _ _ _ | exact Kd.Q_nil _ _ _ _ _ | exact Kd.S_nil _ _ _ _ _⟩, ⟨by (with_reducible repeat (first | refine blk_drewN ?_ _ | refine blk_drew ?_ | refine blk_alloc ?_ _)); exact BK273.out⟩, ⟨by repeat (first | (with_reducible first | exact HB.out | apply below_alloc | apply pw_below_drewN | apply below_drew1 | refine below_set ?_ GE273.out) | exact HB.out)⟩⟩
  case round =>
    clear H'
    try clear c2
    try clear p2
    obtain ⟨x5_1, x6_1, rfl, HA, HK1, HO_5, BK273, HB⟩ := hrel
    cases gk with
    | zero => exact absurd HA.out (by simp [lookasideref19_Reach.l0])
    | succ k1 =>
      have H := HA.out
      clear HA
      simp only [lookasideref19_Reach.l0] at H
      by_cases c4 : x6_1 < (l0.length : Int)
      · rw [if_pos c4] at H
        have c4b0 : decide (x6_1 < (l0.length : Int)) = true := decide_eq_true c4
        clear c4
        by_cases c5 : 0 ≤ x6_1
        · rw [if_pos c5] at H
          have c5b0 : decide (0 ≤ x6_1) = true := decide_eq_true c5
          clear c5
          replace H := Option.bind_eq_some_iff.mp H
          obtain ⟨t276, A60, H⟩ := H
          replace H : (if t276 = true then ((lookasideref09_Judge.f k1 ((rd_T32 l0 x6_1).f4.f0) ((rd_T32 l0 x6_1).f4.f1) ((rd_T32 l0 x6_1).f4.f2) ((rd_T32 l0 x6_1).f4.f3) ((rd_T32 l0 x6_1).f4.f4) ((rd_T32 l0 x6_1).f4.f5) a1_0 a1_1 a1_2).bind fun t278 => (if t278 = 0 then (if x5_1.length < 17592186044416 then (lookasideref19_Reach.l0 k1 l0 (x5_1 ++ [x6_1]) (wrap64 (x6_1 + 1)) a1_0 a1_1 a1_2) else (none)) else (lookasideref19_Reach.l0 k1 l0 x5_1 (wrap64 (x6_1 + 1)) a1_0 a1_1 a1_2))) else (lookasideref19_Reach.l0 k1 l0 x5_1 (wrap64 (x6_1 + 1)) a1_0 a1_1 a1_2)) = some r := H
          have A6 := Aside0.mk A60
          clear A60
          by_cases c7 : t276 = true
          · subst c7
            have H1 : ((lookasideref09_Judge.f k1 ((rd_T32 l0 x6_1).f4.f0) ((rd_T32 l0 x6_1).f4.f1) ((rd_T32 l0 x6_1).f4.f2) ((rd_T32 l0 x6_1).f4.f3) ((rd_T32 l0 x6_1).f4.f4) ((rd_T32 l0 x6_1).f4.f5) a1_0 a1_1 a1_2).bind fun t278 => (if t278 = 0 then (if x5_1.length < 17592186044416 then (lookasideref19_Reach.l0 k1 l0 (x5_1 ++ [x6_1]) (wrap64 (x6_1 + 1)) a1_0 a1_1 a1_2) else (none)) else (lookasideref19_Reach.l0 k1 l0 x5_1 (wrap64 (x6_1 + 1)) a1_0 a1_1 a1_2))) = some r := by rw [if_pos rfl] at H; exact H
            clear H
            have H := H1
            clear H1
            replace H := Option.bind_eq_some_iff.mp H
            obtain ⟨t278, A80, H⟩ := H
            replace H : (if t278 = 0 then (if x5_1.length < 17592186044416 then (lookasideref19_Reach.l0 k1 l0 (x5_1 ++ [x6_1]) (wrap64 (x6_1 + 1)) a1_0 a1_1 a1_2) else (none)) else (lookasideref19_Reach.l0 k1 l0 x5_1 (wrap64 (x6_1 + 1)) a1_0 a1_1 a1_2)) = some r := H
            have A8 := Aside0.mk A80
            clear A80
            by_cases c9 : t278 = 0
            · rw [if_pos c9] at H
              have c9b0 : (t278 == 0) = true := beq_iff_eq.mpr c9
              have c9b1 : (t278 != 0) = false := bne_eq_false_iff_eq.mpr c9
              clear c9
              by_cases c10 : x5_1.length < 17592186044416
              · rw [if_pos c10] at H
                have LMc10 := Aside0.mk c10
                clear c10
                obtain ⟨y279, hy279⟩ : ∃ y_ : List Int, y_ = (x5_1 ++ [x6_1]) := ⟨_, rfl⟩
                replace H : (lookasideref19_Reach.l0 k1 l0 y279 (wrap64 (x6_1 + 1)) a1_0 a1_1 a1_2) = some r := by first | (rw [hy279]; with_reducible exact H) | (have H2_ := (Option.bind_some _ _).symm.trans H; rw [hy279]; with_reducible exact H2_) | (have H2_ := (Option.bind_some _ _).symm.trans H; with_reducible exact H2_) | with_reducible exact H | (rw [hy279]; exact H) | exact H
                have Ny279 := Aside0.mk hy279
                clear hy279
                have H' := Aside0.mk H
                clear H
                try go_wp2
                have n0_ := Aside0.mk (Kd.R_drew HO_5.out)
                have n1_ := Aside0.mk (blk_drew BK273.out)
                have n2_ := Aside0.mk (below_drew1 HB.out)
                clear HO_5
                clear BK273
                clear HB
                have HO_5 := n0_
                have BK273 := n1_
                have HB := n2_
                clear n0_ n1_ n2_
                have p274 : 0 ≤ (x6_1 : Int) := of_decide_eq_true (by first | (with_reducible assumption) | assumption)
                have q274 : x6_1 < (l0.length : Int) := of_decide_eq_true (by first | (with_reducible assumption) | assumption)
                obtain ⟨ad274, e274, hx274_0, hx274_1, hx274_2, hx274_3, hx274_4, hx274_5, hx274_6, hx274_7, hx274_8, hx274_9, hx274_10⟩ := at_T32 HR0.out x6_1 p274 q274
                have hw274_10 := hx274_10
                have hw274_9 := hx274_9
                have hw274_8 := hx274_8
                have hw274_7 := hx274_7
                have hw274_6 := hx274_6
                have hw274_5 := hx274_5
                have hw274_4 := hx274_4
                have hw274_3 := hx274_3
                have hw274_2 := hx274_2
                have hw274_1 := hx274_1
                have hw274_0 := hx274_0
                cases e274
                replace hx274_0 := (HB.out.cell (World.block_lt_of_cell? w _ hx274_0)).trans hx274_0
                replace hx274_1 := (HB.out.cell (World.block_lt_of_cell? w _ hx274_1)).trans hx274_1
                replace hx274_2 := (HB.out.cell (World.block_lt_of_cell? w _ hx274_2)).trans hx274_2
                replace hx274_3 := (HB.out.cell (World.block_lt_of_cell? w _ hx274_3)).trans hx274_3
                replace hx274_4 := (HB.out.cell (World.block_lt_of_cell? w _ hx274_4)).trans hx274_4
                replace hx274_5 := (HB.out.cell (World.block_lt_of_cell? w _ hx274_5)).trans hx274_5
                replace hx274_6 := (HB.out.cell (World.block_lt_of_cell? w _ hx274_6)).trans hx274_6
                replace hx274_7 := (HB.out.cell (World.block_lt_of_cell? w _ hx274_7)).trans hx274_7
                replace hx274_8 := (HB.out.cell (World.block_lt_of_cell? w _ hx274_8)).trans hx274_8
                replace hx274_9 := (HB.out.cell (World.block_lt_of_cell? w _ hx274_9)).trans hx274_9
                replace hx274_10 := (HB.out.cell (World.block_lt_of_cell? w _ hx274_10)).trans hx274_10
                replace p274 := eq_true p274
                replace q274 := eq_true q274
                have p275 : 0 ≤ (x6_1 : Int) := of_decide_eq_true (by first | (with_reducible assumption) | assumption)
                have q275 : x6_1 < (l0.length : Int) := of_decide_eq_true (by first | (with_reducible assumption) | assumption)
                obtain ⟨ad275, e275, hx275_0, hx275_1, hx275_2, hx275_3, hx275_4, hx275_5, hx275_6, hx275_7, hx275_8, hx275_9, hx275_10⟩ := at_T32 HR0.out x6_1 p275 q275
                have hw275_10 := hx275_10
                have hw275_9 := hx275_9
                have hw275_8 := hx275_8
                have hw275_7 := hx275_7
                have hw275_6 := hx275_6
                have hw275_5 := hx275_5
                have hw275_4 := hx275_4
                have hw275_3 := hx275_3
                have hw275_2 := hx275_2
                have hw275_1 := hx275_1
                have hw275_0 := hx275_0
                obtain rfl : ad274 = ad275 := (by injection e275)
                replace hx275_0 := (HB.out.cell (World.block_lt_of_cell? w _ hx275_0)).trans hx275_0
                replace hx275_1 := (HB.out.cell (World.block_lt_of_cell? w _ hx275_1)).trans hx275_1
                replace hx275_2 := (HB.out.cell (World.block_lt_of_cell? w _ hx275_2)).trans hx275_2
                replace hx275_3 := (HB.out.cell (World.block_lt_of_cell? w _ hx275_3)).trans hx275_3
                replace hx275_4 := (HB.out.cell (World.block_lt_of_cell? w _ hx275_4)).trans hx275_4
                replace hx275_5 := (HB.out.cell (World.block_lt_of_cell? w _ hx275_5)).trans hx275_5
                replace hx275_6 := (HB.out.cell (World.block_lt_of_cell? w _ hx275_6)).trans hx275_6
                replace hx275_7 := (HB.out.cell (World.block_lt_of_cell? w _ hx275_7)).trans hx275_7
                replace hx275_8 := (HB.out.cell (World.block_lt_of_cell? w _ hx275_8)).trans hx275_8
                replace hx275_9 := (HB.out.cell (World.block_lt_of_cell? w _ hx275_9)).trans hx275_9
                replace hx275_10 := (HB.out.cell (World.block_lt_of_cell? w _ hx275_10)).trans hx275_10
                replace p275 := eq_true p275
                replace q275 := eq_true q275
                refine start_ (n := 13) (S := fun w' => w'.cell? ⟨gb273, 0, none⟩ = some (.int .i64 a1_0) ∧ w'.cell? ⟨gb273, 1, none⟩ = some (.bool a1_1) ∧ w'.cell? ⟨gb273, 2, none⟩ = some (.int .u64 a1_2) ∧ w'.cell? (ad274.add ((x6_1).toNat * 11)) = some (.int .i64 ((rd_T32 l0 x6_1).f0)) ∧ w'.cell? ⟨(ad274.add ((x6_1).toNat * 11)).block, (ad274.add ((x6_1).toNat * 11)).off + 1, none⟩ = some (.int .i64 ((rd_T32 l0 x6_1).f1)) ∧ w'.cell? ⟨(ad274.add ((x6_1).toNat * 11)).block, (ad274.add ((x6_1).toNat * 11)).off + 2, none⟩ = some (.int .u64 ((rd_T32 l0 x6_1).f2)) ∧ w'.cell? ⟨(ad274.add ((x6_1).toNat * 11)).block, (ad274.add ((x6_1).toNat * 11)).off + 3, none⟩ = some (.int .u64 ((rd_T32 l0 x6_1).f3)) ∧ w'.cell? ⟨(ad274.add ((x6_1).toNat * 11)).block, (ad274.add ((x6_1).toNat * 11)).off + 4, none⟩ = some (.bool ((rd_T32 l0 x6_1).f4.f0)) ∧ w'.cell? ⟨(ad274.add ((x6_1).toNat * 11)).block, (ad274.add ((x6_1).toNat * 11)).off + 5, none⟩ = some (.bool ((rd_T32 l0 x6_1).f4.f1)) ∧ w'.cell? ⟨(ad274.add ((x6_1).toNat * 11)).block, (ad274.add ((x6_1).toNat * 11)).off + 6, none⟩ = some (.bool ((rd_T32 l0 x6_1).f4.f2)) ∧ w'.cell? ⟨(ad274.add ((x6_1).toNat * 11)).block, (ad274.add ((x6_1).toNat * 11)).off + 7, none⟩ = some (.bool ((rd_T32 l0 x6_1).f4.f3)) ∧ w'.cell? ⟨(ad274.add ((x6_1).toNat * 11)).block, (ad274.add ((x6_1).toNat * 11)).off + 8, none⟩ = some (.bool ((rd_T32 l0 x6_1).f4.f4)) ∧ w'.cell? ⟨(ad274.add ((x6_1).toNat * 11)).block, (ad274.add ((x6_1).toNat * 11)).off + 9, none⟩ = some (.bool ((rd_T32 l0 x6_1).f4.f5)) ∧ w'.cell? ⟨(ad274.add ((x6_1).toNat * 11)).block, (ad274.add ((x6_1).toNat * 11)).off + 10, none⟩ = some (.bool ((rd_T32 l0 x6_1).f5)) ∧ w'.cell? (ad274.add ((x6_1).toNat * 11)) = some (.int .i64 ((rd_T32 l0 x6_1).f0)) ∧ w'.cell? ⟨(ad274.add ((x6_1).toNat * 11)).block, (ad274.add ((x6_1).toNat * 11)).off + 1, none⟩ = some (.int .i64 ((rd_T32 l0 x6_1).f1)) ∧ w'.cell? ⟨(ad274.add ((x6_1).toNat * 11)).block, (ad274.add ((x6_1).toNat * 11)).off + 2, none⟩ = some (.int .u64 ((rd_T32 l0 x6_1).f2)) ∧ w'.cell? ⟨(ad274.add ((x6_1).toNat * 11)).block, (ad274.add ((x6_1).toNat * 11)).off + 3, none⟩ = some (.int .u64 ((rd_T32 l0 x6_1).f3)) ∧ w'.cell? ⟨(ad274.add ((x6_1).toNat * 11)).block, (ad274.add ((x6_1).toNat * 11)).off + 4, none⟩ = some (.bool ((rd_T32 l0 x6_1).f4.f0)) ∧ w'.cell? ⟨(ad274.add ((x6_1).toNat * 11)).block, (ad274.add ((x6_1).toNat * 11)).off + 5, none⟩ = some (.bool ((rd_T32 l0 x6_1).f4.f1)) ∧ w'.cell? ⟨(ad274.add ((x6_1).toNat * 11)).block, (ad274.add ((x6_1).toNat * 11)).off + 6, none⟩ = some (.bool ((rd_T32 l0 x6_1).f4.f2)) ∧ w'.cell? ⟨(ad274.add ((x6_1).toNat * 11)).block, (ad274.add ((x6_1).toNat * 11)).off + 7, none⟩ = some (.bool ((rd_T32 l0 x6_1).f4.f3)) ∧ w'.cell? ⟨(ad274.add ((x6_1).toNat * 11)).block, (ad274.add ((x6_1).toNat * 11)).off + 8, none⟩ = some (.bool ((rd_T32 l0 x6_1).f4.f4)) ∧ w'.cell? ⟨(ad274.add ((x6_1).toNat * 11)).block, (ad274.add ((x6_1).toNat * 11)).off + 9, none⟩ = some (.bool ((rd_T32 l0 x6_1).f4.f5)) ∧ w'.cell? ⟨(ad274.add ((x6_1).toNat * 11)).block, (ad274.add ((x6_1).toNat * 11)).off + 10, none⟩ = some (.bool ((rd_T32 l0 x6_1).f5))) (ds := []) #[false, false, false, false, false, false, false, false, false, false, false, false, false] (by kernel_rfl) rfl rfl ⟨(blk_cell BK273.out 0).trans rfl, (blk_cell BK273.out 1).trans rfl, (blk_cell BK273.out 2).trans rfl, ((HB.out.cell (World.block_lt_of_cell? w _ hw274_0)).trans hw274_0), ((HB.out.cell (World.block_lt_of_cell? w _ hw274_1)).trans hw274_1), ((HB.out.cell (World.block_lt_of_cell? w _ hw274_2)).trans hw274_2), ((HB.out.cell (World.block_lt_of_cell? w _ hw274_3)).trans hw274_3), ((HB.out.cell (World.block_lt_of_cell? w _ hw274_4)).trans hw274_4), ((HB.out.cell (World.block_lt_of_cell? w _ hw274_5)).trans hw274_5), ((HB.out.cell (World.block_lt_of_cell? w _ hw274_6)).trans hw274_6), ((HB.out.cell (World.block_lt_of_cell? w _ hw274_7)).trans hw274_7), ((HB.out.cell (World.block_lt_of_cell? w _ hw274_8)).trans hw274_8), ((HB.out.cell (World.block_lt_of_cell? w _ hw274_9)).trans hw274_9), ((HB.out.cell (World.block_lt_of_cell? w _ hw274_10)).trans hw274_10), ((HB.out.cell (World.block_lt_of_cell? w _ hw275_0)).trans hw275_0), ((HB.out.cell (World.block_lt_of_cell? w _ hw275_1)).trans hw275_1), ((HB.out.cell (World.block_lt_of_cell? w _ hw275_2)).trans hw275_2), ((HB.out.cell (World.block_lt_of_cell? w _ hw275_3)).trans hw275_3), ((HB.out.cell (World.block_lt_of_cell? w _ hw275_4)).trans hw275_4), ((HB.out.cell (World.block_lt_of_cell? w _ hw275_5)).trans hw275_5), ((HB.out.cell (World.block_lt_of_cell? w _ hw275_6)).trans hw275_6), ((HB.out.cell (World.block_lt_of_cell? w _ hw275_7)).trans hw275_7), ((HB.out.cell (World.block_lt_of_cell? w _ hw275_8)).trans hw275_8), ((HB.out.cell (World.block_lt_of_cell? w _ hw275_9)).trans hw275_9), ((HB.out.cell (World.block_lt_of_cell? w _ hw275_10)).trans hw275_10)⟩ (fun hHeld => ?_); refine with_tabW lookasideref19_Reach.tab5 lookasideref19_Reach.bits5 (fun HT_ HW_ => ?_)
                generalize wr.drew = w11 at HO_5 BK273 HB hx274_0 hx274_1 hx274_10 hx274_2 hx274_3 hx274_4 hx274_5 hx274_6 hx274_7 hx274_8 hx274_9 hx275_0 hx275_1 hx275_10 hx275_2 hx275_3 hx275_4 hx275_5 hx275_6 hx275_7 hx275_8 hx275_9 hHeld ⊢
                refine pure_ (i := 0) (N := some 14) (v := ?_) (a' := ?_) #[true, false, false, false, false, false, false, false, false, false, false, false, false] rfl rfl (any_of HT_.out (by kernel_rfl)) (fun _ _ _ h => h) (Or.inl ⟨by rfl, ?_⟩) ?_ ?_
                rotate_left
                · intro w'
                  go_simp
                  with_reducible rfl
                rotate_left
                · simp only [Act.put, List.setIfInBounds_toArray, List.set_cons_zero, List.set_cons_succ, i64_w, i32_w]
                  rfl
                refine pure_ (i := 1) (N := some 15) (v := ?_) (a' := ?_) #[true, true, false, false, false, false, false, false, false, false, false, false, false] rfl rfl (any_of HT_.out (by kernel_rfl)) (fun _ _ _ h => h) (Or.inl ⟨by rfl, ?_⟩) ?_ ?_
                rotate_left
                · intro w'
                  go_simp
                  with_reducible rfl
                rotate_left
                · simp only [Act.put, List.setIfInBounds_toArray, List.set_cons_zero, List.set_cons_succ, i64_w, i32_w]
                  rfl
                refine pure_ (i := 2) (N := some 16) (v := ?_) (a' := ?_) #[true, true, true, false, false, false, false, false, false, false, false, false, false] rfl rfl (any_of HT_.out (by kernel_rfl)) (fun _ _ _ h => h) (Or.inl ⟨by rfl, ?_⟩) ?_ ?_
                rotate_left
                · intro w'
                  go_simp
                  with_reducible rfl
                rotate_left
                · simp only [Act.put, List.setIfInBounds_toArray, List.set_cons_zero, List.set_cons_succ, i64_w, i32_w]
                  rfl
                refine pure_ (i := 4) (N := some 18) (v := ?_) (a' := ?_) #[true, true, true, false, true, false, false, false, false, false, false, false, false] rfl rfl (any_of HT_.out (by kernel_rfl)) (fun _ _ _ h => h) (Or.inl ⟨by rfl, ?_⟩) ?_ ?_
                rotate_left
                · intro w'
                  go_simp
                  with_reducible rfl
                rotate_left
                · simp only [Act.put, List.setIfInBounds_toArray, List.set_cons_zero, List.set_cons_succ, i64_w, i32_w]
                  rfl
                refine pure_ (i := 6) (N := some 20) (v := ?_) (a' := ?_) #[true, true, true, false, true, false, true, false, false, false, false, false, false] rfl rfl (any_of HT_.out (by kernel_rfl)) (fun _ _ _ h => h) (Or.inl ⟨by rfl, ?_⟩) ?_ ?_
                rotate_left
                · intro w'
                  go_simp
                  with_reducible rfl
                rotate_left
                · simp only [Act.put, List.setIfInBounds_toArray, List.set_cons_zero, List.set_cons_succ, i64_w, i32_w]
                  rfl
                refine pure_ (i := 7) (N := some 21) (v := ?_) (a' := ?_) #[true, true, true, false, true, false, true, true, false, false, false, false, false] rfl rfl (any_of HT_.out (by kernel_rfl)) (fun _ _ _ h => h) (Or.inl ⟨by rfl, ?_⟩) ?_ ?_
                rotate_left
                · intro w'
                  go_simp
                  with_reducible rfl
                rotate_left
                · simp only [Act.put, List.setIfInBounds_toArray, List.set_cons_zero, List.set_cons_succ, i64_w, i32_w]
                  rfl
                refine pure_ (i := 8) (N := some 22) (v := ?_) (a' := ?_) #[true, true, true, false, true, false, true, true, true, false, false, false, false] rfl rfl (any_of HT_.out (by kernel_rfl)) (fun _ _ _ h => h) (Or.inl ⟨by rfl, ?_⟩) ?_ ?_
                rotate_left
                · intro w'
                  go_simp
                  with_reducible rfl
                rotate_left
                · simp only [Act.put, List.setIfInBounds_toArray, List.set_cons_zero, List.set_cons_succ, i64_w, i32_w]
                  rfl
                refine pure_ (i := 9) (N := some 23) (v := ?_) (a' := ?_) #[true, true, true, false, true, false, true, true, true, true, false, false, false] rfl rfl (any_of HT_.out (by kernel_rfl)) (fun _ _ _ h => h) (Or.inl ⟨by rfl, ?_⟩) ?_ ?_
                rotate_left
                · intro w'
                  go_simp
                  with_reducible rfl
                rotate_left
                · simp only [Act.put, List.setIfInBounds_toArray, List.set_cons_zero, List.set_cons_succ, i64_w, i32_w]
                  rfl
                refine take_ (i := 3) (N := some 17) (v := ?_) (a' := ?_) #[true, true, true, true, true, false, true, true, true, true, false, false, false] rfl rfl (take_ofW HT_.out HW_.out (by kernel_rfl)) (fun _ _ _ h => h) (Or.inl ⟨by rfl, ?_⟩) hHeld ?_ ?_
                rotate_left
                · rintro w' ⟨s0, s1, s2, s3, s4, s5, s6, s7, s8, s9, s10, s11, s12, s13, s14, s15, s16, s17, s18, s19, s20, s21, s22, s23, s24⟩
                  go_simp
                  with_reducible rfl
                rotate_left
                · simp only [Act.put, List.setIfInBounds_toArray, List.set_cons_zero, List.set_cons_succ, i64_w, i32_w]
                  rfl
                refine take_ (i := 5) (N := some 19) (v := ?_) (a' := ?_) #[true, true, true, true, true, true, true, true, true, true, false, false, false] rfl rfl (take_ofW HT_.out HW_.out (by kernel_rfl)) (fun _ _ _ h => h) (Or.inl ⟨by rfl, ?_⟩) hHeld ?_ ?_
                rotate_left
                · rintro w' ⟨s0, s1, s2, s3, s4, s5, s6, s7, s8, s9, s10, s11, s12, s13, s14, s15, s16, s17, s18, s19, s20, s21, s22, s23, s24⟩
                  go_simp
                  with_reducible rfl
                rotate_left
                · simp only [Act.put, List.setIfInBounds_toArray, List.set_cons_zero, List.set_cons_succ, i64_w, i32_w]
                  rfl
                refine take_ (i := 10) (N := some 24) (v := ?_) (a' := ?_) #[true, true, true, true, true, true, true, true, true, true, true, false, false] rfl rfl (take_ofW HT_.out HW_.out (by kernel_rfl)) (fun _ _ _ h => h) (Or.inl ⟨by rfl, ?_⟩) hHeld ?_ ?_
                rotate_left
                · rintro w' ⟨s0, s1, s2, s3, s4, s5, s6, s7, s8, s9, s10, s11, s12, s13, s14, s15, s16, s17, s18, s19, s20, s21, s22, s23, s24⟩
                  go_simp
                  with_reducible rfl
                rotate_left
                · simp only [Act.put, List.setIfInBounds_toArray, List.set_cons_zero, List.set_cons_succ, i64_w, i32_w]
                  rfl
                refine one_ (i := 11) (N := some 25) #[true, true, true, true, true, true, true, true, true, true, true, true, false] rfl rfl (one_of HT_.out (by kernel_rfl)) (by decide) (fun K hK => ?_)
                refine goes_ Try.func26 (by kernel_rfl) rfl #[.agg #[.int .i64 ((rd_T32 l0 x6_1).f0), .int .i64 ((rd_T32 l0 x6_1).f1), .int .u64 ((rd_T32 l0 x6_1).f2), .int .u64 ((rd_T32 l0 x6_1).f3), .bool ((rd_T32 l0 x6_1).f4.f0), .bool ((rd_T32 l0 x6_1).f4.f1), .bool ((rd_T32 l0 x6_1).f4.f2), .bool ((rd_T32 l0 x6_1).f4.f3), .bool ((rd_T32 l0 x6_1).f4.f4), .bool ((rd_T32 l0 x6_1).f4.f5), .bool ((rd_T32 l0 x6_1).f5)], .int .u64 a1_2, .int .i64 ((rd_T32 l0 x6_1).f1)] (by rfl) rfl rfl (by (try simp only [List.map_toArray, List.map_cons, List.map_nil]); first | done | rfl | (simp only [List.length_drop, List.length_take]; rfl)) ?_
                with_reducible refine (lookasideref03_Hits.calls ((rd_T32 l0 x6_1).f0) ((rd_T32 l0 x6_1).f1) ((rd_T32 l0 x6_1).f2) ((rd_T32 l0 x6_1).f3) ((rd_T32 l0 x6_1).f4.f0) ((rd_T32 l0 x6_1).f4.f1) ((rd_T32 l0 x6_1).f4.f2) ((rd_T32 l0 x6_1).f4.f3) ((rd_T32 l0 x6_1).f4.f4) ((rd_T32 l0 x6_1).f4.f5) ((rd_T32 l0 x6_1).f5) a1_2 ((rd_T32 l0 x6_1).f1) true _ A6.out).mono ?_
                rintro e w12 ⟨rfl, hb⟩
                refine ⟨_, rfl, ?_⟩
                have n0_ := Aside0.mk (Kd.R_below (by (with_reducible repeat (first | apply Kd.R_alloc | apply Kd.R_drewN | apply Kd.R_drew)); exact HO_5.out) hb)
                have n1_ := Aside0.mk (blk_below (g := gb273) (o := .cells #[.int .i64 a1_0, .bool a1_1, .int .u64 a1_2] 39 (0, 0)) (by (with_reducible repeat (first | refine blk_drewN ?_ _ | refine blk_drew ?_ | refine blk_alloc ?_ _)); exact BK273.out) hb)
                have n2_ := Aside0.mk (below_step (by repeat (first | (with_reducible first | exact HB.out | apply below_alloc | apply pw_below_drewN | apply below_drew1 | refine below_set ?_ GE273.out) | exact HB.out)) hb)
                clear HO_5
                clear BK273
                clear HB
                have HO_5 := n0_
                have BK273 := n1_
                have HB := n2_
                clear n0_ n1_ n2_
                (try clear hb)
                (try clear hb2)
                (try clear hk)
                (try clear hi)
                refine hK.out _ _ ⟨(blk_cell BK273.out 0).trans rfl, (blk_cell BK273.out 1).trans rfl, (blk_cell BK273.out 2).trans rfl, ((HB.out.cell (World.block_lt_of_cell? w _ hw274_0)).trans hw274_0), ((HB.out.cell (World.block_lt_of_cell? w _ hw274_1)).trans hw274_1), ((HB.out.cell (World.block_lt_of_cell? w _ hw274_2)).trans hw274_2), ((HB.out.cell (World.block_lt_of_cell? w _ hw274_3)).trans hw274_3), ((HB.out.cell (World.block_lt_of_cell? w _ hw274_4)).trans hw274_4), ((HB.out.cell (World.block_lt_of_cell? w _ hw274_5)).trans hw274_5), ((HB.out.cell (World.block_lt_of_cell? w _ hw274_6)).trans hw274_6), ((HB.out.cell (World.block_lt_of_cell? w _ hw274_7)).trans hw274_7), ((HB.out.cell (World.block_lt_of_cell? w _ hw274_8)).trans hw274_8), ((HB.out.cell (World.block_lt_of_cell? w _ hw274_9)).trans hw274_9), ((HB.out.cell (World.block_lt_of_cell? w _ hw274_10)).trans hw274_10), ((HB.out.cell (World.block_lt_of_cell? w _ hw275_0)).trans hw275_0), ((HB.out.cell (World.block_lt_of_cell? w _ hw275_1)).trans hw275_1), ((HB.out.cell (World.block_lt_of_cell? w _ hw275_2)).trans hw275_2), ((HB.out.cell (World.block_lt_of_cell? w _ hw275_3)).trans hw275_3), ((HB.out.cell (World.block_lt_of_cell? w _ hw275_4)).trans hw275_4), ((HB.out.cell (World.block_lt_of_cell? w _ hw275_5)).trans hw275_5), ((HB.out.cell (World.block_lt_of_cell? w _ hw275_6)).trans hw275_6), ((HB.out.cell (World.block_lt_of_cell? w _ hw275_7)).trans hw275_7), ((HB.out.cell (World.block_lt_of_cell? w _ hw275_8)).trans hw275_8), ((HB.out.cell (World.block_lt_of_cell? w _ hw275_9)).trans hw275_9), ((HB.out.cell (World.block_lt_of_cell? w _ hw275_10)).trans hw275_10)⟩ (fun hHeld => ?_)
                clear hK K
                refine norm_ (a' := ?_) ?_ ?_
                rotate_left
                · show Act.put _ (some 25) _ = _
                  simp only [Act.put, List.setIfInBounds_toArray, List.set_cons_zero, List.set_cons_succ, i64_w, i32_w]
                  rfl
                refine pure_ (i := 12) (N := some 7) (v := ?_) (a' := ?_) #[true, true, true, true, true, true, true, true, true, true, true, true, true] rfl rfl (any_of HT_.out (by kernel_rfl)) (fun _ _ _ h => h) (Or.inl ⟨by rfl, ?_⟩) ?_ ?_
                rotate_left
                · intro w'
                  go_simp
                  with_reducible rfl
                rotate_left
                · simp only [Act.put, List.setIfInBounds_toArray, List.set_cons_zero, List.set_cons_succ, i64_w, i32_w]
                  rfl
                refine done_ (done_of HT_.out (by kernel_rfl)) ?_
                try go_wp2
                have n0_ := Aside0.mk (Kd.R_drew HO_5.out)
                have n1_ := Aside0.mk (blk_drew BK273.out)
                have n2_ := Aside0.mk (below_drew1 HB.out)
                clear HO_5
                clear BK273
                clear HB
                have HO_5 := n0_
                have BK273 := n1_
                have HB := n2_
                clear n0_ n1_ n2_
                have p277 : 0 ≤ (x6_1 : Int) := of_decide_eq_true (by first | (with_reducible assumption) | assumption)
                have q277 : x6_1 < (l0.length : Int) := of_decide_eq_true (by first | (with_reducible assumption) | assumption)
                obtain ⟨ad277, e277, hx277_0, hx277_1, hx277_2, hx277_3, hx277_4, hx277_5, hx277_6, hx277_7, hx277_8, hx277_9, hx277_10⟩ := at_T32 HR0.out x6_1 p277 q277
                have hw277_10 := hx277_10
                have hw277_9 := hx277_9
                have hw277_8 := hx277_8
                have hw277_7 := hx277_7
                have hw277_6 := hx277_6
                have hw277_5 := hx277_5
                have hw277_4 := hx277_4
                have hw277_3 := hx277_3
                have hw277_2 := hx277_2
                have hw277_1 := hx277_1
                have hw277_0 := hx277_0
                obtain rfl : ad274 = ad277 := (by injection e277)
                replace hx277_0 := (HB.out.cell (World.block_lt_of_cell? w _ hx277_0)).trans hx277_0
                replace hx277_1 := (HB.out.cell (World.block_lt_of_cell? w _ hx277_1)).trans hx277_1
                replace hx277_2 := (HB.out.cell (World.block_lt_of_cell? w _ hx277_2)).trans hx277_2
                replace hx277_3 := (HB.out.cell (World.block_lt_of_cell? w _ hx277_3)).trans hx277_3
                replace hx277_4 := (HB.out.cell (World.block_lt_of_cell? w _ hx277_4)).trans hx277_4
                replace hx277_5 := (HB.out.cell (World.block_lt_of_cell? w _ hx277_5)).trans hx277_5
                replace hx277_6 := (HB.out.cell (World.block_lt_of_cell? w _ hx277_6)).trans hx277_6
                replace hx277_7 := (HB.out.cell (World.block_lt_of_cell? w _ hx277_7)).trans hx277_7
                replace hx277_8 := (HB.out.cell (World.block_lt_of_cell? w _ hx277_8)).trans hx277_8
                replace hx277_9 := (HB.out.cell (World.block_lt_of_cell? w _ hx277_9)).trans hx277_9
                replace hx277_10 := (HB.out.cell (World.block_lt_of_cell? w _ hx277_10)).trans hx277_10
                replace p277 := eq_true p277
                replace q277 := eq_true q277
                refine start_ (n := 11) (S := fun w' => w'.cell? ⟨gb273, 0, none⟩ = some (.int .i64 a1_0) ∧ w'.cell? ⟨gb273, 1, none⟩ = some (.bool a1_1) ∧ w'.cell? ⟨gb273, 2, none⟩ = some (.int .u64 a1_2) ∧ w'.cell? (ad274.add ((x6_1).toNat * 11)) = some (.int .i64 ((rd_T32 l0 x6_1).f0)) ∧ w'.cell? ⟨(ad274.add ((x6_1).toNat * 11)).block, (ad274.add ((x6_1).toNat * 11)).off + 1, none⟩ = some (.int .i64 ((rd_T32 l0 x6_1).f1)) ∧ w'.cell? ⟨(ad274.add ((x6_1).toNat * 11)).block, (ad274.add ((x6_1).toNat * 11)).off + 2, none⟩ = some (.int .u64 ((rd_T32 l0 x6_1).f2)) ∧ w'.cell? ⟨(ad274.add ((x6_1).toNat * 11)).block, (ad274.add ((x6_1).toNat * 11)).off + 3, none⟩ = some (.int .u64 ((rd_T32 l0 x6_1).f3)) ∧ w'.cell? ⟨(ad274.add ((x6_1).toNat * 11)).block, (ad274.add ((x6_1).toNat * 11)).off + 4, none⟩ = some (.bool ((rd_T32 l0 x6_1).f4.f0)) ∧ w'.cell? ⟨(ad274.add ((x6_1).toNat * 11)).block, (ad274.add ((x6_1).toNat * 11)).off + 5, none⟩ = some (.bool ((rd_T32 l0 x6_1).f4.f1)) ∧ w'.cell? ⟨(ad274.add ((x6_1).toNat * 11)).block, (ad274.add ((x6_1).toNat * 11)).off + 6, none⟩ = some (.bool ((rd_T32 l0 x6_1).f4.f2)) ∧ w'.cell? ⟨(ad274.add ((x6_1).toNat * 11)).block, (ad274.add ((x6_1).toNat * 11)).off + 7, none⟩ = some (.bool ((rd_T32 l0 x6_1).f4.f3)) ∧ w'.cell? ⟨(ad274.add ((x6_1).toNat * 11)).block, (ad274.add ((x6_1).toNat * 11)).off + 8, none⟩ = some (.bool ((rd_T32 l0 x6_1).f4.f4)) ∧ w'.cell? ⟨(ad274.add ((x6_1).toNat * 11)).block, (ad274.add ((x6_1).toNat * 11)).off + 9, none⟩ = some (.bool ((rd_T32 l0 x6_1).f4.f5)) ∧ w'.cell? ⟨(ad274.add ((x6_1).toNat * 11)).block, (ad274.add ((x6_1).toNat * 11)).off + 10, none⟩ = some (.bool ((rd_T32 l0 x6_1).f5))) (ds := []) #[false, false, false, false, false, false, false, false, false, false, false] (by kernel_rfl) rfl rfl ⟨(blk_cell BK273.out 0).trans rfl, (blk_cell BK273.out 1).trans rfl, (blk_cell BK273.out 2).trans rfl, ((HB.out.cell (World.block_lt_of_cell? w _ hw277_0)).trans hw277_0), ((HB.out.cell (World.block_lt_of_cell? w _ hw277_1)).trans hw277_1), ((HB.out.cell (World.block_lt_of_cell? w _ hw277_2)).trans hw277_2), ((HB.out.cell (World.block_lt_of_cell? w _ hw277_3)).trans hw277_3), ((HB.out.cell (World.block_lt_of_cell? w _ hw277_4)).trans hw277_4), ((HB.out.cell (World.block_lt_of_cell? w _ hw277_5)).trans hw277_5), ((HB.out.cell (World.block_lt_of_cell? w _ hw277_6)).trans hw277_6), ((HB.out.cell (World.block_lt_of_cell? w _ hw277_7)).trans hw277_7), ((HB.out.cell (World.block_lt_of_cell? w _ hw277_8)).trans hw277_8), ((HB.out.cell (World.block_lt_of_cell? w _ hw277_9)).trans hw277_9), ((HB.out.cell (World.block_lt_of_cell? w _ hw277_10)).trans hw277_10)⟩ (fun hHeld => ?_); refine with_tabW lookasideref19_Reach.tab6 lookasideref19_Reach.bits6 (fun HT_ HW_ => ?_)
                generalize w12.drew = w13 at HO_5 BK273 HB hx277_0 hx277_1 hx277_10 hx277_2 hx277_3 hx277_4 hx277_5 hx277_6 hx277_7 hx277_8 hx277_9 hHeld ⊢
                refine pure_ (i := 0) (N := some 26) (v := ?_) (a' := ?_) #[true, false, false, false, false, false, false, false, false, false, false] rfl rfl (any_of HT_.out (by kernel_rfl)) (fun _ _ _ h => h) (Or.inl ⟨by rfl, ?_⟩) ?_ ?_
                rotate_left
                · intro w'
                  go_simp
                  with_reducible rfl
                rotate_left
                · simp only [Act.put, List.setIfInBounds_toArray, List.set_cons_zero, List.set_cons_succ, i64_w, i32_w]
                  rfl
                refine pure_ (i := 1) (N := some 27) (v := ?_) (a' := ?_) #[true, true, false, false, false, false, false, false, false, false, false] rfl rfl (any_of HT_.out (by kernel_rfl)) (fun _ _ _ h => h) (Or.inl ⟨by rfl, ?_⟩) ?_ ?_
                rotate_left
                · intro w'
                  go_simp
                  with_reducible rfl
                rotate_left
                · simp only [Act.put, List.setIfInBounds_toArray, List.set_cons_zero, List.set_cons_succ, i64_w, i32_w]
                  rfl
                refine pure_ (i := 2) (N := some 28) (v := ?_) (a' := ?_) #[true, true, true, false, false, false, false, false, false, false, false] rfl rfl (any_of HT_.out (by kernel_rfl)) (fun _ _ _ h => h) (Or.inl ⟨by rfl, ?_⟩) ?_ ?_
                rotate_left
                · intro w'
                  go_simp
                  with_reducible rfl
                rotate_left
                · simp only [Act.put, List.setIfInBounds_toArray, List.set_cons_zero, List.set_cons_succ, i64_w, i32_w]
                  rfl
                refine pure_ (i := 3) (N := some 29) (v := ?_) (a' := ?_) #[true, true, true, true, false, false, false, false, false, false, false] rfl rfl (any_of HT_.out (by kernel_rfl)) (fun _ _ _ h => h) (Or.inl ⟨by rfl, ?_⟩) ?_ ?_
                rotate_left
                · intro w'
                  go_simp
                  with_reducible rfl
                rotate_left
                · simp only [Act.put, List.setIfInBounds_toArray, List.set_cons_zero, List.set_cons_succ, i64_w, i32_w]
                  rfl
                refine pure_ (i := 4) (N := some 30) (v := ?_) (a' := ?_) #[true, true, true, true, true, false, false, false, false, false, false] rfl rfl (any_of HT_.out (by kernel_rfl)) (fun _ _ _ h => h) (Or.inl ⟨by rfl, ?_⟩) ?_ ?_
                rotate_left
                · intro w'
                  go_simp
                  with_reducible rfl
                rotate_left
                · simp only [Act.put, List.setIfInBounds_toArray, List.set_cons_zero, List.set_cons_succ, i64_w, i32_w]
                  rfl
                refine pure_ (i := 5) (N := some 31) (v := ?_) (a' := ?_) #[true, true, true, true, true, true, false, false, false, false, false] rfl rfl (any_of HT_.out (by kernel_rfl)) (fun _ _ _ h => h) (Or.inl ⟨by rfl, ?_⟩) ?_ ?_
                rotate_left
                · intro w'
                  go_simp
                  with_reducible rfl
                rotate_left
                · simp only [Act.put, List.setIfInBounds_toArray, List.set_cons_zero, List.set_cons_succ, i64_w, i32_w]
                  rfl
                refine take_ (i := 6) (N := some 32) (v := ?_) (a' := ?_) #[true, true, true, true, true, true, true, false, false, false, false] rfl rfl (take_ofW HT_.out HW_.out (by kernel_rfl)) (fun _ _ _ h => h) (Or.inl ⟨by rfl, ?_⟩) hHeld ?_ ?_
                rotate_left
                · rintro w' ⟨s0, s1, s2, s3, s4, s5, s6, s7, s8, s9, s10, s11, s12, s13⟩
                  go_simp
                  with_reducible rfl
                rotate_left
                · simp only [Act.put, List.setIfInBounds_toArray, List.set_cons_zero, List.set_cons_succ, i64_w, i32_w]
                  rfl
                refine take_ (i := 7) (N := some 33) (v := ?_) (a' := ?_) #[true, true, true, true, true, true, true, true, false, false, false] rfl rfl (take_ofW HT_.out HW_.out (by kernel_rfl)) (fun _ _ _ h => h) (Or.inl ⟨by rfl, ?_⟩) hHeld ?_ ?_
                rotate_left
                · rintro w' ⟨s0, s1, s2, s3, s4, s5, s6, s7, s8, s9, s10, s11, s12, s13⟩
                  go_simp
                  with_reducible rfl
                rotate_left
                · simp only [Act.put, List.setIfInBounds_toArray, List.set_cons_zero, List.set_cons_succ, i64_w, i32_w]
                  rfl
                refine one_ (i := 8) (N := some 34) #[true, true, true, true, true, true, true, true, true, false, false] rfl rfl (one_of HT_.out (by kernel_rfl)) (by decide) (fun K hK => ?_)
                refine goes_ Try.func60 (by kernel_rfl) rfl #[.agg #[.bool ((rd_T32 l0 x6_1).f4.f0), .bool ((rd_T32 l0 x6_1).f4.f1), .bool ((rd_T32 l0 x6_1).f4.f2), .bool ((rd_T32 l0 x6_1).f4.f3), .bool ((rd_T32 l0 x6_1).f4.f4), .bool ((rd_T32 l0 x6_1).f4.f5)], .agg #[.int .i64 a1_0, .bool a1_1, .int .u64 a1_2]] (by rfl) rfl rfl (by (try simp only [List.map_toArray, List.map_cons, List.map_nil]); first | done | rfl | (simp only [List.length_drop, List.length_take]; rfl)) ?_
                with_reducible refine (lookasideref09_Judge.calls k1 ((rd_T32 l0 x6_1).f4.f0) ((rd_T32 l0 x6_1).f4.f1) ((rd_T32 l0 x6_1).f4.f2) ((rd_T32 l0 x6_1).f4.f3) ((rd_T32 l0 x6_1).f4.f4) ((rd_T32 l0 x6_1).f4.f5) a1_0 a1_1 a1_2 t278 _ A8.out).mono ?_
                rintro e w14 ⟨rfl, hb⟩
                refine ⟨_, rfl, ?_⟩
                have n0_ := Aside0.mk (Kd.R_below (by (with_reducible repeat (first | apply Kd.R_alloc | apply Kd.R_drewN | apply Kd.R_drew)); exact HO_5.out) hb)
                have n1_ := Aside0.mk (blk_below (g := gb273) (o := .cells #[.int .i64 a1_0, .bool a1_1, .int .u64 a1_2] 39 (0, 0)) (by (with_reducible repeat (first | refine blk_drewN ?_ _ | refine blk_drew ?_ | refine blk_alloc ?_ _)); exact BK273.out) hb)
                have n2_ := Aside0.mk (below_step (by repeat (first | (with_reducible first | exact HB.out | apply below_alloc | apply pw_below_drewN | apply below_drew1 | refine below_set ?_ GE273.out) | exact HB.out)) hb)
                clear HO_5
                clear BK273
                clear HB
                have HO_5 := n0_
                have BK273 := n1_
                have HB := n2_
                clear n0_ n1_ n2_
                (try clear hb)
                (try clear hb2)
                (try clear hk)
                (try clear hi)
                refine hK.out _ _ ⟨(blk_cell BK273.out 0).trans rfl, (blk_cell BK273.out 1).trans rfl, (blk_cell BK273.out 2).trans rfl, ((HB.out.cell (World.block_lt_of_cell? w _ hw277_0)).trans hw277_0), ((HB.out.cell (World.block_lt_of_cell? w _ hw277_1)).trans hw277_1), ((HB.out.cell (World.block_lt_of_cell? w _ hw277_2)).trans hw277_2), ((HB.out.cell (World.block_lt_of_cell? w _ hw277_3)).trans hw277_3), ((HB.out.cell (World.block_lt_of_cell? w _ hw277_4)).trans hw277_4), ((HB.out.cell (World.block_lt_of_cell? w _ hw277_5)).trans hw277_5), ((HB.out.cell (World.block_lt_of_cell? w _ hw277_6)).trans hw277_6), ((HB.out.cell (World.block_lt_of_cell? w _ hw277_7)).trans hw277_7), ((HB.out.cell (World.block_lt_of_cell? w _ hw277_8)).trans hw277_8), ((HB.out.cell (World.block_lt_of_cell? w _ hw277_9)).trans hw277_9), ((HB.out.cell (World.block_lt_of_cell? w _ hw277_10)).trans hw277_10)⟩ (fun hHeld => ?_)
                clear hK K
                refine norm_ (a' := ?_) ?_ ?_
                rotate_left
                · show Act.put _ (some 34) _ = _
                  simp only [Act.put, List.setIfInBounds_toArray, List.set_cons_zero, List.set_cons_succ, i64_w, i32_w]
                  rfl
                refine pure_ (i := 9) (N := some 35) (v := ?_) (a' := ?_) #[true, true, true, true, true, true, true, true, true, true, false] rfl rfl (any_of HT_.out (by kernel_rfl)) (fun _ _ _ h => h) (Or.inl ⟨by rfl, ?_⟩) ?_ ?_
                rotate_left
                · intro w'
                  go_simp
                  with_reducible rfl
                rotate_left
                · simp only [Act.put, List.setIfInBounds_toArray, List.set_cons_zero, List.set_cons_succ, i64_w, i32_w]
                  rfl
                refine pure_ (i := 10) (N := some 36) (v := ?_) (a' := ?_) #[true, true, true, true, true, true, true, true, true, true, true] rfl rfl (any_of HT_.out (by kernel_rfl)) (fun _ _ _ h => h) (Or.inl ⟨by rfl, ?_⟩) ?_ ?_
                rotate_left
                · intro w'
                  go_simp
                  with_reducible rfl
                rotate_left
                · simp only [Act.put, List.setIfInBounds_toArray, List.set_cons_zero, List.set_cons_succ, i64_w, i32_w]
                  rfl
                refine done_ (done_of HT_.out (by kernel_rfl)) ?_
                try go_wp2_with (first | ((with_reducible refine gate_builtin (b := .append) (xs := #[.tmp 37, .tmp 39]) rfl ?_); at_builtin; refine Kd.R_append (Kd.int .i64) (w0 := w) w.heap.size rfl (.tmp 37) (.tmp 39) 43 3 (.int .i64 0) 8 rfl Try.underlying43 info3 rfl (by decide) (by omega) u5 x5_1 x6_1 [.int .i64 x6_1] (fun _ => True) (fun _ => False) rfl rfl ?aP (fun _ hk => hk.elim) ?aF ?aO ?aB ?aS ?aL ?_; (case aP => exact rfl); (case aB => exact (by repeat (first | (with_reducible first | exact HB.out | apply below_alloc | apply pw_below_drewN | apply below_drew1 | refine below_set ?_ GE273.out) | exact HB.out))); (case aF => exact (fun _ _ => trivial)); (case aO => exact (by (with_reducible repeat (first | apply Kd.R_alloc | apply Kd.R_drewN | apply Kd.R_drew)); exact HO_5.out)); (case aS => exact (below_size (by repeat (first | (with_reducible first | exact HB.out | apply below_alloc | apply pw_below_drewN | apply below_drew1 | refine below_set ?_ GE273.out) | exact HB.out)))); (case aL => have := LMc10.out; omega); intro v280 w15 ho hb hg hat; rw [← Ny279.out] at ho; have n0_ := Aside0.mk (blk_grown (g := gb273) (o := .cells #[.int .i64 a1_0, .bool a1_1, .int .u64 a1_2] 39 (0, 0)) (by (with_reducible repeat (first | refine blk_drewN ?_ _ | refine blk_drew ?_ | refine blk_alloc ?_ _)); exact BK273.out) hg (Kd.R_ne HO_5.out BK273.out (by decide))); have n1_ := Aside0.mk (hb); have n2_ := Aside0.mk (ho); clear BK273; clear HB; clear HO_5; have BK273 := n0_; have HB := n1_; have HO281 := n2_; clear n0_ n1_ n2_; clear ho hb hg hat))
                go_roundg k1
                case measure => have := HK1.out; omega
                case rel => exact ⟨(y279), (wrap64 (x6_1 + 1)), (by first | rfl | (simp; done) | (simp [*]; done)), H', ⟨by have := HK1.out; omega⟩, ⟨by (with_reducible repeat (first | apply Kd.R_alloc | apply Kd.R_drewN | apply Kd.R_drew)); exact HO281.out⟩, ⟨by (with_reducible repeat (first | refine blk_drewN ?_ _ | refine blk_drew ?_ | refine blk_alloc ?_ _)); exact BK273.out⟩, ⟨by repeat (first | (with_reducible first | exact HB.out | apply below_alloc | apply pw_below_drewN | apply below_drew1 | refine below_set ?_ GE273.out) | exact HB.out)⟩⟩
              · rw [if_neg c10] at H
                exact absurd H (by simp)
            · rw [if_neg c9] at H
              have c9b0 : (t278 == 0) = false := beq_eq_false_iff_ne.mpr c9
              have c9b1 : (t278 != 0) = true := bne_iff_ne.mpr c9
              have H' := Aside0.mk H
              clear H
              try go_wp2
              have n0_ := Aside0.mk (Kd.R_drew HO_5.out)
              have n1_ := Aside0.mk (blk_drew BK273.out)
              have n2_ := Aside0.mk (below_drew1 HB.out)
              clear HO_5
              clear BK273
              clear HB
              have HO_5 := n0_
              have BK273 := n1_
              have HB := n2_
              clear n0_ n1_ n2_
              have p274 : 0 ≤ (x6_1 : Int) := of_decide_eq_true (by first | (with_reducible assumption) | assumption)
              have q274 : x6_1 < (l0.length : Int) := of_decide_eq_true (by first | (with_reducible assumption) | assumption)
              obtain ⟨ad274, e274, hx274_0, hx274_1, hx274_2, hx274_3, hx274_4, hx274_5, hx274_6, hx274_7, hx274_8, hx274_9, hx274_10⟩ := at_T32 HR0.out x6_1 p274 q274
              have hw274_10 := hx274_10
              have hw274_9 := hx274_9
              have hw274_8 := hx274_8
              have hw274_7 := hx274_7
              have hw274_6 := hx274_6
              have hw274_5 := hx274_5
              have hw274_4 := hx274_4
              have hw274_3 := hx274_3
              have hw274_2 := hx274_2
              have hw274_1 := hx274_1
              have hw274_0 := hx274_0
              cases e274
              replace hx274_0 := (HB.out.cell (World.block_lt_of_cell? w _ hx274_0)).trans hx274_0
              replace hx274_1 := (HB.out.cell (World.block_lt_of_cell? w _ hx274_1)).trans hx274_1
              replace hx274_2 := (HB.out.cell (World.block_lt_of_cell? w _ hx274_2)).trans hx274_2
              replace hx274_3 := (HB.out.cell (World.block_lt_of_cell? w _ hx274_3)).trans hx274_3
              replace hx274_4 := (HB.out.cell (World.block_lt_of_cell? w _ hx274_4)).trans hx274_4
              replace hx274_5 := (HB.out.cell (World.block_lt_of_cell? w _ hx274_5)).trans hx274_5
              replace hx274_6 := (HB.out.cell (World.block_lt_of_cell? w _ hx274_6)).trans hx274_6
              replace hx274_7 := (HB.out.cell (World.block_lt_of_cell? w _ hx274_7)).trans hx274_7
              replace hx274_8 := (HB.out.cell (World.block_lt_of_cell? w _ hx274_8)).trans hx274_8
              replace hx274_9 := (HB.out.cell (World.block_lt_of_cell? w _ hx274_9)).trans hx274_9
              replace hx274_10 := (HB.out.cell (World.block_lt_of_cell? w _ hx274_10)).trans hx274_10
              replace p274 := eq_true p274
              replace q274 := eq_true q274
              have p275 : 0 ≤ (x6_1 : Int) := of_decide_eq_true (by first | (with_reducible assumption) | assumption)
              have q275 : x6_1 < (l0.length : Int) := of_decide_eq_true (by first | (with_reducible assumption) | assumption)
              obtain ⟨ad275, e275, hx275_0, hx275_1, hx275_2, hx275_3, hx275_4, hx275_5, hx275_6, hx275_7, hx275_8, hx275_9, hx275_10⟩ := at_T32 HR0.out x6_1 p275 q275
              have hw275_10 := hx275_10
              have hw275_9 := hx275_9
              have hw275_8 := hx275_8
              have hw275_7 := hx275_7
              have hw275_6 := hx275_6
              have hw275_5 := hx275_5
              have hw275_4 := hx275_4
              have hw275_3 := hx275_3
              have hw275_2 := hx275_2
              have hw275_1 := hx275_1
              have hw275_0 := hx275_0
              obtain rfl : ad274 = ad275 := (by injection e275)
              replace hx275_0 := (HB.out.cell (World.block_lt_of_cell? w _ hx275_0)).trans hx275_0
              replace hx275_1 := (HB.out.cell (World.block_lt_of_cell? w _ hx275_1)).trans hx275_1
              replace hx275_2 := (HB.out.cell (World.block_lt_of_cell? w _ hx275_2)).trans hx275_2
              replace hx275_3 := (HB.out.cell (World.block_lt_of_cell? w _ hx275_3)).trans hx275_3
              replace hx275_4 := (HB.out.cell (World.block_lt_of_cell? w _ hx275_4)).trans hx275_4
              replace hx275_5 := (HB.out.cell (World.block_lt_of_cell? w _ hx275_5)).trans hx275_5
              replace hx275_6 := (HB.out.cell (World.block_lt_of_cell? w _ hx275_6)).trans hx275_6
              replace hx275_7 := (HB.out.cell (World.block_lt_of_cell? w _ hx275_7)).trans hx275_7
              replace hx275_8 := (HB.out.cell (World.block_lt_of_cell? w _ hx275_8)).trans hx275_8
              replace hx275_9 := (HB.out.cell (World.block_lt_of_cell? w _ hx275_9)).trans hx275_9
              replace hx275_10 := (HB.out.cell (World.block_lt_of_cell? w _ hx275_10)).trans hx275_10
              replace p275 := eq_true p275
              replace q275 := eq_true q275
              refine start_ (n := 13) (S := fun w' => w'.cell? ⟨gb273, 0, none⟩ = some (.int .i64 a1_0) ∧ w'.cell? ⟨gb273, 1, none⟩ = some (.bool a1_1) ∧ w'.cell? ⟨gb273, 2, none⟩ = some (.int .u64 a1_2) ∧ w'.cell? (ad274.add ((x6_1).toNat * 11)) = some (.int .i64 ((rd_T32 l0 x6_1).f0)) ∧ w'.cell? ⟨(ad274.add ((x6_1).toNat * 11)).block, (ad274.add ((x6_1).toNat * 11)).off + 1, none⟩ = some (.int .i64 ((rd_T32 l0 x6_1).f1)) ∧ w'.cell? ⟨(ad274.add ((x6_1).toNat * 11)).block, (ad274.add ((x6_1).toNat * 11)).off + 2, none⟩ = some (.int .u64 ((rd_T32 l0 x6_1).f2)) ∧ w'.cell? ⟨(ad274.add ((x6_1).toNat * 11)).block, (ad274.add ((x6_1).toNat * 11)).off + 3, none⟩ = some (.int .u64 ((rd_T32 l0 x6_1).f3)) ∧ w'.cell? ⟨(ad274.add ((x6_1).toNat * 11)).block, (ad274.add ((x6_1).toNat * 11)).off + 4, none⟩ = some (.bool ((rd_T32 l0 x6_1).f4.f0)) ∧ w'.cell? ⟨(ad274.add ((x6_1).toNat * 11)).block, (ad274.add ((x6_1).toNat * 11)).off + 5, none⟩ = some (.bool ((rd_T32 l0 x6_1).f4.f1)) ∧ w'.cell? ⟨(ad274.add ((x6_1).toNat * 11)).block, (ad274.add ((x6_1).toNat * 11)).off + 6, none⟩ = some (.bool ((rd_T32 l0 x6_1).f4.f2)) ∧ w'.cell? ⟨(ad274.add ((x6_1).toNat * 11)).block, (ad274.add ((x6_1).toNat * 11)).off + 7, none⟩ = some (.bool ((rd_T32 l0 x6_1).f4.f3)) ∧ w'.cell? ⟨(ad274.add ((x6_1).toNat * 11)).block, (ad274.add ((x6_1).toNat * 11)).off + 8, none⟩ = some (.bool ((rd_T32 l0 x6_1).f4.f4)) ∧ w'.cell? ⟨(ad274.add ((x6_1).toNat * 11)).block, (ad274.add ((x6_1).toNat * 11)).off + 9, none⟩ = some (.bool ((rd_T32 l0 x6_1).f4.f5)) ∧ w'.cell? ⟨(ad274.add ((x6_1).toNat * 11)).block, (ad274.add ((x6_1).toNat * 11)).off + 10, none⟩ = some (.bool ((rd_T32 l0 x6_1).f5)) ∧ w'.cell? (ad274.add ((x6_1).toNat * 11)) = some (.int .i64 ((rd_T32 l0 x6_1).f0)) ∧ w'.cell? ⟨(ad274.add ((x6_1).toNat * 11)).block, (ad274.add ((x6_1).toNat * 11)).off + 1, none⟩ = some (.int .i64 ((rd_T32 l0 x6_1).f1)) ∧ w'.cell? ⟨(ad274.add ((x6_1).toNat * 11)).block, (ad274.add ((x6_1).toNat * 11)).off + 2, none⟩ = some (.int .u64 ((rd_T32 l0 x6_1).f2)) ∧ w'.cell? ⟨(ad274.add ((x6_1).toNat * 11)).block, (ad274.add ((x6_1).toNat * 11)).off + 3, none⟩ = some (.int .u64 ((rd_T32 l0 x6_1).f3)) ∧ w'.cell? ⟨(ad274.add ((x6_1).toNat * 11)).block, (ad274.add ((x6_1).toNat * 11)).off + 4, none⟩ = some (.bool ((rd_T32 l0 x6_1).f4.f0)) ∧ w'.cell? ⟨(ad274.add ((x6_1).toNat * 11)).block, (ad274.add ((x6_1).toNat * 11)).off + 5, none⟩ = some (.bool ((rd_T32 l0 x6_1).f4.f1)) ∧ w'.cell? ⟨(ad274.add ((x6_1).toNat * 11)).block, (ad274.add ((x6_1).toNat * 11)).off + 6, none⟩ = some (.bool ((rd_T32 l0 x6_1).f4.f2)) ∧ w'.cell? ⟨(ad274.add ((x6_1).toNat * 11)).block, (ad274.add ((x6_1).toNat * 11)).off + 7, none⟩ = some (.bool ((rd_T32 l0 x6_1).f4.f3)) ∧ w'.cell? ⟨(ad274.add ((x6_1).toNat * 11)).block, (ad274.add ((x6_1).toNat * 11)).off + 8, none⟩ = some (.bool ((rd_T32 l0 x6_1).f4.f4)) ∧ w'.cell? ⟨(ad274.add ((x6_1).toNat * 11)).block, (ad274.add ((x6_1).toNat * 11)).off + 9, none⟩ = some (.bool ((rd_T32 l0 x6_1).f4.f5)) ∧ w'.cell? ⟨(ad274.add ((x6_1).toNat * 11)).block, (ad274.add ((x6_1).toNat * 11)).off + 10, none⟩ = some (.bool ((rd_T32 l0 x6_1).f5))) (ds := []) #[false, false, false, false, false, false, false, false, false, false, false, false, false] (by kernel_rfl) rfl rfl ⟨(blk_cell BK273.out 0).trans rfl, (blk_cell BK273.out 1).trans rfl, (blk_cell BK273.out 2).trans rfl, ((HB.out.cell (World.block_lt_of_cell? w _ hw274_0)).trans hw274_0), ((HB.out.cell (World.block_lt_of_cell? w _ hw274_1)).trans hw274_1), ((HB.out.cell (World.block_lt_of_cell? w _ hw274_2)).trans hw274_2), ((HB.out.cell (World.block_lt_of_cell? w _ hw274_3)).trans hw274_3), ((HB.out.cell (World.block_lt_of_cell? w _ hw274_4)).trans hw274_4), ((HB.out.cell (World.block_lt_of_cell? w _ hw274_5)).trans hw274_5), ((HB.out.cell (World.block_lt_of_cell? w _ hw274_6)).trans hw274_6), ((HB.out.cell (World.block_lt_of_cell? w _ hw274_7)).trans hw274_7), ((HB.out.cell (World.block_lt_of_cell? w _ hw274_8)).trans hw274_8), ((HB.out.cell (World.block_lt_of_cell? w _ hw274_9)).trans hw274_9), ((HB.out.cell (World.block_lt_of_cell? w _ hw274_10)).trans hw274_10), ((HB.out.cell (World.block_lt_of_cell? w _ hw275_0)).trans hw275_0), ((HB.out.cell (World.block_lt_of_cell? w _ hw275_1)).trans hw275_1), ((HB.out.cell (World.block_lt_of_cell? w _ hw275_2)).trans hw275_2), ((HB.out.cell (World.block_lt_of_cell? w _ hw275_3)).trans hw275_3), ((HB.out.cell (World.block_lt_of_cell? w _ hw275_4)).trans hw275_4), ((HB.out.cell (World.block_lt_of_cell? w _ hw275_5)).trans hw275_5), ((HB.out.cell (World.block_lt_of_cell? w _ hw275_6)).trans hw275_6), ((HB.out.cell (World.block_lt_of_cell? w _ hw275_7)).trans hw275_7), ((HB.out.cell (World.block_lt_of_cell? w _ hw275_8)).trans hw275_8), ((HB.out.cell (World.block_lt_of_cell? w _ hw275_9)).trans hw275_9), ((HB.out.cell (World.block_lt_of_cell? w _ hw275_10)).trans hw275_10)⟩ (fun hHeld => ?_); refine with_tabW lookasideref19_Reach.tab5 lookasideref19_Reach.bits5 (fun HT_ HW_ => ?_)
              generalize wr.drew = w16 at HO_5 BK273 HB hx274_0 hx274_1 hx274_10 hx274_2 hx274_3 hx274_4 hx274_5 hx274_6 hx274_7 hx274_8 hx274_9 hx275_0 hx275_1 hx275_10 hx275_2 hx275_3 hx275_4 hx275_5 hx275_6 hx275_7 hx275_8 hx275_9 hHeld ⊢
              refine pure_ (i := 0) (N := some 14) (v := ?_) (a' := ?_) #[true, false, false, false, false, false, false, false, false, false, false, false, false] rfl rfl (any_of HT_.out (by kernel_rfl)) (fun _ _ _ h => h) (Or.inl ⟨by rfl, ?_⟩) ?_ ?_
              rotate_left
              · intro w'
                go_simp
                with_reducible rfl
              rotate_left
              · simp only [Act.put, List.setIfInBounds_toArray, List.set_cons_zero, List.set_cons_succ, i64_w, i32_w]
                rfl
              refine pure_ (i := 1) (N := some 15) (v := ?_) (a' := ?_) #[true, true, false, false, false, false, false, false, false, false, false, false, false] rfl rfl (any_of HT_.out (by kernel_rfl)) (fun _ _ _ h => h) (Or.inl ⟨by rfl, ?_⟩) ?_ ?_
              rotate_left
              · intro w'
                go_simp
                with_reducible rfl
              rotate_left
              · simp only [Act.put, List.setIfInBounds_toArray, List.set_cons_zero, List.set_cons_succ, i64_w, i32_w]
                rfl
              refine pure_ (i := 2) (N := some 16) (v := ?_) (a' := ?_) #[true, true, true, false, false, false, false, false, false, false, false, false, false] rfl rfl (any_of HT_.out (by kernel_rfl)) (fun _ _ _ h => h) (Or.inl ⟨by rfl, ?_⟩) ?_ ?_
              rotate_left
              · intro w'
                go_simp
                with_reducible rfl
              rotate_left
              · simp only [Act.put, List.setIfInBounds_toArray, List.set_cons_zero, List.set_cons_succ, i64_w, i32_w]
                rfl
              refine pure_ (i := 4) (N := some 18) (v := ?_) (a' := ?_) #[true, true, true, false, true, false, false, false, false, false, false, false, false] rfl rfl (any_of HT_.out (by kernel_rfl)) (fun _ _ _ h => h) (Or.inl ⟨by rfl, ?_⟩) ?_ ?_
              rotate_left
              · intro w'
                go_simp
                with_reducible rfl
              rotate_left
              · simp only [Act.put, List.setIfInBounds_toArray, List.set_cons_zero, List.set_cons_succ, i64_w, i32_w]
                rfl
              refine pure_ (i := 6) (N := some 20) (v := ?_) (a' := ?_) #[true, true, true, false, true, false, true, false, false, false, false, false, false] rfl rfl (any_of HT_.out (by kernel_rfl)) (fun _ _ _ h => h) (Or.inl ⟨by rfl, ?_⟩) ?_ ?_
              rotate_left
              · intro w'
                go_simp
                with_reducible rfl
              rotate_left
              · simp only [Act.put, List.setIfInBounds_toArray, List.set_cons_zero, List.set_cons_succ, i64_w, i32_w]
                rfl
              refine pure_ (i := 7) (N := some 21) (v := ?_) (a' := ?_) #[true, true, true, false, true, false, true, true, false, false, false, false, false] rfl rfl (any_of HT_.out (by kernel_rfl)) (fun _ _ _ h => h) (Or.inl ⟨by rfl, ?_⟩) ?_ ?_
              rotate_left
              · intro w'
                go_simp
                with_reducible rfl
              rotate_left
              · simp only [Act.put, List.setIfInBounds_toArray, List.set_cons_zero, List.set_cons_succ, i64_w, i32_w]
                rfl
              refine pure_ (i := 8) (N := some 22) (v := ?_) (a' := ?_) #[true, true, true, false, true, false, true, true, true, false, false, false, false] rfl rfl (any_of HT_.out (by kernel_rfl)) (fun _ _ _ h => h) (Or.inl ⟨by rfl, ?_⟩) ?_ ?_
              rotate_left
              · intro w'
                go_simp
                with_reducible rfl
              rotate_left
              · simp only [Act.put, List.setIfInBounds_toArray, List.set_cons_zero, List.set_cons_succ, i64_w, i32_w]
                rfl
              refine pure_ (i := 9) (N := some 23) (v := ?_) (a' := ?_) #[true, true, true, false, true, false, true, true, true, true, false, false, false] rfl rfl (any_of HT_.out (by kernel_rfl)) (fun _ _ _ h => h) (Or.inl ⟨by rfl, ?_⟩) ?_ ?_
              rotate_left
              · intro w'
                go_simp
                with_reducible rfl
              rotate_left
              · simp only [Act.put, List.setIfInBounds_toArray, List.set_cons_zero, List.set_cons_succ, i64_w, i32_w]
                rfl
              refine take_ (i := 3) (N := some 17) (v := ?_) (a' := ?_) #[true, true, true, true, true, false, true, true, true, true, false, false, false] rfl rfl (take_ofW HT_.out HW_.out (by kernel_rfl)) (fun _ _ _ h => h) (Or.inl ⟨by rfl, ?_⟩) hHeld ?_ ?_
              rotate_left
              · rintro w' ⟨s0, s1, s2, s3, s4, s5, s6, s7, s8, s9, s10, s11, s12, s13, s14, s15, s16, s17, s18, s19, s20, s21, s22, s23, s24⟩
                go_simp
                with_reducible rfl
              rotate_left
              · simp only [Act.put, List.setIfInBounds_toArray, List.set_cons_zero, List.set_cons_succ, i64_w, i32_w]
                rfl
              refine take_ (i := 5) (N := some 19) (v := ?_) (a' := ?_) #[true, true, true, true, true, true, true, true, true, true, false, false, false] rfl rfl (take_ofW HT_.out HW_.out (by kernel_rfl)) (fun _ _ _ h => h) (Or.inl ⟨by rfl, ?_⟩) hHeld ?_ ?_
              rotate_left
              · rintro w' ⟨s0, s1, s2, s3, s4, s5, s6, s7, s8, s9, s10, s11, s12, s13, s14, s15, s16, s17, s18, s19, s20, s21, s22, s23, s24⟩
                go_simp
                with_reducible rfl
              rotate_left
              · simp only [Act.put, List.setIfInBounds_toArray, List.set_cons_zero, List.set_cons_succ, i64_w, i32_w]
                rfl
              refine take_ (i := 10) (N := some 24) (v := ?_) (a' := ?_) #[true, true, true, true, true, true, true, true, true, true, true, false, false] rfl rfl (take_ofW HT_.out HW_.out (by kernel_rfl)) (fun _ _ _ h => h) (Or.inl ⟨by rfl, ?_⟩) hHeld ?_ ?_
              rotate_left
              · rintro w' ⟨s0, s1, s2, s3, s4, s5, s6, s7, s8, s9, s10, s11, s12, s13, s14, s15, s16, s17, s18, s19, s20, s21, s22, s23, s24⟩
                go_simp
                with_reducible rfl
              rotate_left
              · simp only [Act.put, List.setIfInBounds_toArray, List.set_cons_zero, List.set_cons_succ, i64_w, i32_w]
                rfl
              refine one_ (i := 11) (N := some 25) #[true, true, true, true, true, true, true, true, true, true, true, true, false] rfl rfl (one_of HT_.out (by kernel_rfl)) (by decide) (fun K hK => ?_)
              refine goes_ Try.func26 (by kernel_rfl) rfl #[.agg #[.int .i64 ((rd_T32 l0 x6_1).f0), .int .i64 ((rd_T32 l0 x6_1).f1), .int .u64 ((rd_T32 l0 x6_1).f2), .int .u64 ((rd_T32 l0 x6_1).f3), .bool ((rd_T32 l0 x6_1).f4.f0), .bool ((rd_T32 l0 x6_1).f4.f1), .bool ((rd_T32 l0 x6_1).f4.f2), .bool ((rd_T32 l0 x6_1).f4.f3), .bool ((rd_T32 l0 x6_1).f4.f4), .bool ((rd_T32 l0 x6_1).f4.f5), .bool ((rd_T32 l0 x6_1).f5)], .int .u64 a1_2, .int .i64 ((rd_T32 l0 x6_1).f1)] (by rfl) rfl rfl (by (try simp only [List.map_toArray, List.map_cons, List.map_nil]); first | done | rfl | (simp only [List.length_drop, List.length_take]; rfl)) ?_
              with_reducible refine (lookasideref03_Hits.calls ((rd_T32 l0 x6_1).f0) ((rd_T32 l0 x6_1).f1) ((rd_T32 l0 x6_1).f2) ((rd_T32 l0 x6_1).f3) ((rd_T32 l0 x6_1).f4.f0) ((rd_T32 l0 x6_1).f4.f1) ((rd_T32 l0 x6_1).f4.f2) ((rd_T32 l0 x6_1).f4.f3) ((rd_T32 l0 x6_1).f4.f4) ((rd_T32 l0 x6_1).f4.f5) ((rd_T32 l0 x6_1).f5) a1_2 ((rd_T32 l0 x6_1).f1) true _ A6.out).mono ?_
              rintro e w17 ⟨rfl, hb⟩
              refine ⟨_, rfl, ?_⟩
              have n0_ := Aside0.mk (Kd.R_below (by (with_reducible repeat (first | apply Kd.R_alloc | apply Kd.R_drewN | apply Kd.R_drew)); exact HO_5.out) hb)
              have n1_ := Aside0.mk (blk_below (g := gb273) (o := .cells #[.int .i64 a1_0, .bool a1_1, .int .u64 a1_2] 39 (0, 0)) (by (with_reducible repeat (first | refine blk_drewN ?_ _ | refine blk_drew ?_ | refine blk_alloc ?_ _)); exact BK273.out) hb)
              have n2_ := Aside0.mk (below_step (by repeat (first | (with_reducible first | exact HB.out | apply below_alloc | apply pw_below_drewN | apply below_drew1 | refine below_set ?_ GE273.out) | exact HB.out)) hb)
              clear HO_5
              clear BK273
              clear HB
              have HO_5 := n0_
              have BK273 := n1_
              have HB := n2_
              clear n0_ n1_ n2_
              (try clear hb)
              (try clear hb2)
              (try clear hk)
              (try clear hi)
              refine hK.out _ _ ⟨(blk_cell BK273.out 0).trans rfl, (blk_cell BK273.out 1).trans rfl, (blk_cell BK273.out 2).trans rfl, ((HB.out.cell (World.block_lt_of_cell? w _ hw274_0)).trans hw274_0), ((HB.out.cell (World.block_lt_of_cell? w _ hw274_1)).trans hw274_1), ((HB.out.cell (World.block_lt_of_cell? w _ hw274_2)).trans hw274_2), ((HB.out.cell (World.block_lt_of_cell? w _ hw274_3)).trans hw274_3), ((HB.out.cell (World.block_lt_of_cell? w _ hw274_4)).trans hw274_4), ((HB.out.cell (World.block_lt_of_cell? w _ hw274_5)).trans hw274_5), ((HB.out.cell (World.block_lt_of_cell? w _ hw274_6)).trans hw274_6), ((HB.out.cell (World.block_lt_of_cell? w _ hw274_7)).trans hw274_7), ((HB.out.cell (World.block_lt_of_cell? w _ hw274_8)).trans hw274_8), ((HB.out.cell (World.block_lt_of_cell? w _ hw274_9)).trans hw274_9), ((HB.out.cell (World.block_lt_of_cell? w _ hw274_10)).trans hw274_10), ((HB.out.cell (World.block_lt_of_cell? w _ hw275_0)).trans hw275_0), ((HB.out.cell (World.block_lt_of_cell? w _ hw275_1)).trans hw275_1), ((HB.out.cell (World.block_lt_of_cell? w _ hw275_2)).trans hw275_2), ((HB.out.cell (World.block_lt_of_cell? w _ hw275_3)).trans hw275_3), ((HB.out.cell (World.block_lt_of_cell? w _ hw275_4)).trans hw275_4), ((HB.out.cell (World.block_lt_of_cell? w _ hw275_5)).trans hw275_5), ((HB.out.cell (World.block_lt_of_cell? w _ hw275_6)).trans hw275_6), ((HB.out.cell (World.block_lt_of_cell? w _ hw275_7)).trans hw275_7), ((HB.out.cell (World.block_lt_of_cell? w _ hw275_8)).trans hw275_8), ((HB.out.cell (World.block_lt_of_cell? w _ hw275_9)).trans hw275_9), ((HB.out.cell (World.block_lt_of_cell? w _ hw275_10)).trans hw275_10)⟩ (fun hHeld => ?_)
              clear hK K
              refine norm_ (a' := ?_) ?_ ?_
              rotate_left
              · show Act.put _ (some 25) _ = _
                simp only [Act.put, List.setIfInBounds_toArray, List.set_cons_zero, List.set_cons_succ, i64_w, i32_w]
                rfl
              refine pure_ (i := 12) (N := some 7) (v := ?_) (a' := ?_) #[true, true, true, true, true, true, true, true, true, true, true, true, true] rfl rfl (any_of HT_.out (by kernel_rfl)) (fun _ _ _ h => h) (Or.inl ⟨by rfl, ?_⟩) ?_ ?_
              rotate_left
              · intro w'
                go_simp
                with_reducible rfl
              rotate_left
              · simp only [Act.put, List.setIfInBounds_toArray, List.set_cons_zero, List.set_cons_succ, i64_w, i32_w]
                rfl
              refine done_ (done_of HT_.out (by kernel_rfl)) ?_
              try go_wp2
              have n0_ := Aside0.mk (Kd.R_drew HO_5.out)
              have n1_ := Aside0.mk (blk_drew BK273.out)
              have n2_ := Aside0.mk (below_drew1 HB.out)
              clear HO_5
              clear BK273
              clear HB
              have HO_5 := n0_
              have BK273 := n1_
              have HB := n2_
              clear n0_ n1_ n2_
              have p277 : 0 ≤ (x6_1 : Int) := of_decide_eq_true (by first | (with_reducible assumption) | assumption)
              have q277 : x6_1 < (l0.length : Int) := of_decide_eq_true (by first | (with_reducible assumption) | assumption)
              obtain ⟨ad277, e277, hx277_0, hx277_1, hx277_2, hx277_3, hx277_4, hx277_5, hx277_6, hx277_7, hx277_8, hx277_9, hx277_10⟩ := at_T32 HR0.out x6_1 p277 q277
              have hw277_10 := hx277_10
              have hw277_9 := hx277_9
              have hw277_8 := hx277_8
              have hw277_7 := hx277_7
              have hw277_6 := hx277_6
              have hw277_5 := hx277_5
              have hw277_4 := hx277_4
              have hw277_3 := hx277_3
              have hw277_2 := hx277_2
              have hw277_1 := hx277_1
              have hw277_0 := hx277_0
              obtain rfl : ad274 = ad277 := (by injection e277)
              replace hx277_0 := (HB.out.cell (World.block_lt_of_cell? w _ hx277_0)).trans hx277_0
              replace hx277_1 := (HB.out.cell (World.block_lt_of_cell? w _ hx277_1)).trans hx277_1
              replace hx277_2 := (HB.out.cell (World.block_lt_of_cell? w _ hx277_2)).trans hx277_2
              replace hx277_3 := (HB.out.cell (World.block_lt_of_cell? w _ hx277_3)).trans hx277_3
              replace hx277_4 := (HB.out.cell (World.block_lt_of_cell? w _ hx277_4)).trans hx277_4
              replace hx277_5 := (HB.out.cell (World.block_lt_of_cell? w _ hx277_5)).trans hx277_5
              replace hx277_6 := (HB.out.cell (World.block_lt_of_cell? w _ hx277_6)).trans hx277_6
              replace hx277_7 := (HB.out.cell (World.block_lt_of_cell? w _ hx277_7)).trans hx277_7
              replace hx277_8 := (HB.out.cell (World.block_lt_of_cell? w _ hx277_8)).trans hx277_8
              replace hx277_9 := (HB.out.cell (World.block_lt_of_cell? w _ hx277_9)).trans hx277_9
              replace hx277_10 := (HB.out.cell (World.block_lt_of_cell? w _ hx277_10)).trans hx277_10
              replace p277 := eq_true p277
              replace q277 := eq_true q277
              refine start_ (n := 11) (S := fun w' => w'.cell? ⟨gb273, 0, none⟩ = some (.int .i64 a1_0) ∧ w'.cell? ⟨gb273, 1, none⟩ = some (.bool a1_1) ∧ w'.cell? ⟨gb273, 2, none⟩ = some (.int .u64 a1_2) ∧ w'.cell? (ad274.add ((x6_1).toNat * 11)) = some (.int .i64 ((rd_T32 l0 x6_1).f0)) ∧ w'.cell? ⟨(ad274.add ((x6_1).toNat * 11)).block, (ad274.add ((x6_1).toNat * 11)).off + 1, none⟩ = some (.int .i64 ((rd_T32 l0 x6_1).f1)) ∧ w'.cell? ⟨(ad274.add ((x6_1).toNat * 11)).block, (ad274.add ((x6_1).toNat * 11)).off + 2, none⟩ = some (.int .u64 ((rd_T32 l0 x6_1).f2)) ∧ w'.cell? ⟨(ad274.add ((x6_1).toNat * 11)).block, (ad274.add ((x6_1).toNat * 11)).off + 3, none⟩ = some (.int .u64 ((rd_T32 l0 x6_1).f3)) ∧ w'.cell? ⟨(ad274.add ((x6_1).toNat * 11)).block, (ad274.add ((x6_1).toNat * 11)).off + 4, none⟩ = some (.bool ((rd_T32 l0 x6_1).f4.f0)) ∧ w'.cell? ⟨(ad274.add ((x6_1).toNat * 11)).block, (ad274.add ((x6_1).toNat * 11)).off + 5, none⟩ = some (.bool ((rd_T32 l0 x6_1).f4.f1)) ∧ w'.cell? ⟨(ad274.add ((x6_1).toNat * 11)).block, (ad274.add ((x6_1).toNat * 11)).off + 6, none⟩ = some (.bool ((rd_T32 l0 x6_1).f4.f2)) ∧ w'.cell? ⟨(ad274.add ((x6_1).toNat * 11)).block, (ad274.add ((x6_1).toNat * 11)).off + 7, none⟩ = some (.bool ((rd_T32 l0 x6_1).f4.f3)) ∧ w'.cell? ⟨(ad274.add ((x6_1).toNat * 11)).block, (ad274.add ((x6_1).toNat * 11)).off + 8, none⟩ = some (.bool ((rd_T32 l0 x6_1).f4.f4)) ∧ w'.cell? ⟨(ad274.add ((x6_1).toNat * 11)).block, (ad274.add ((x6_1).toNat * 11)).off + 9, none⟩ = some (.bool ((rd_T32 l0 x6_1).f4.f5)) ∧ w'.cell? ⟨(ad274.add ((x6_1).toNat * 11)).block, (ad274.add ((x6_1).toNat * 11)).off + 10, none⟩ = some (.bool ((rd_T32 l0 x6_1).f5))) (ds := []) #[false, false, false, false, false, false, false, false, false, false, false] (by kernel_rfl) rfl rfl ⟨(blk_cell BK273.out 0).trans rfl, (blk_cell BK273.out 1).trans rfl, (blk_cell BK273.out 2).trans rfl, ((HB.out.cell (World.block_lt_of_cell? w _ hw277_0)).trans hw277_0), ((HB.out.cell (World.block_lt_of_cell? w _ hw277_1)).trans hw277_1), ((HB.out.cell (World.block_lt_of_cell? w _ hw277_2)).trans hw277_2), ((HB.out.cell (World.block_lt_of_cell? w _ hw277_3)).trans hw277_3), ((HB.out.cell (World.block_lt_of_cell? w _ hw277_4)).trans hw277_4), ((HB.out.cell (World.block_lt_of_cell? w _ hw277_5)).trans hw277_5), ((HB.out.cell (World.block_lt_of_cell? w _ hw277_6)).trans hw277_6), ((HB.out.cell (World.block_lt_of_cell? w _ hw277_7)).trans hw277_7), ((HB.out.cell (World.block_lt_of_cell? w _ hw277_8)).trans hw277_8), ((HB.out.cell (World.block_lt_of_cell? w _ hw277_9)).trans hw277_9), ((HB.out.cell (World.block_lt_of_cell? w _ hw277_10)).trans hw277_10)⟩ (fun hHeld => ?_); refine with_tabW lookasideref19_Reach.tab6 lookasideref19_Reach.bits6 (fun HT_ HW_ => ?_)
              generalize w17.drew = w18 at HO_5 BK273 HB hx277_0 hx277_1 hx277_10 hx277_2 hx277_3 hx277_4 hx277_5 hx277_6 hx277_7 hx277_8 hx277_9 hHeld ⊢
              refine pure_ (i := 0) (N := some 26) (v := ?_) (a' := ?_) #[true, false, false, false, false, false, false, false, false, false, false] rfl rfl (any_of HT_.out (by kernel_rfl)) (fun _ _ _ h => h) (Or.inl ⟨by rfl, ?_⟩) ?_ ?_
              rotate_left
              · intro w'
                go_simp
                with_reducible rfl
              rotate_left
              · simp only [Act.put, List.setIfInBounds_toArray, List.set_cons_zero, List.set_cons_succ, i64_w, i32_w]
                rfl
              refine pure_ (i := 1) (N := some 27) (v := ?_) (a' := ?_) #[true, true, false, false, false, false, false, false, false, false, false] rfl rfl (any_of HT_.out (by kernel_rfl)) (fun _ _ _ h => h) (Or.inl ⟨by rfl, ?_⟩) ?_ ?_
              rotate_left
              · intro w'
                go_simp
                with_reducible rfl
              rotate_left
              · simp only [Act.put, List.setIfInBounds_toArray, List.set_cons_zero, List.set_cons_succ, i64_w, i32_w]
                rfl
              refine pure_ (i := 2) (N := some 28) (v := ?_) (a' := ?_) #[true, true, true, false, false, false, false, false, false, false, false] rfl rfl (any_of HT_.out (by kernel_rfl)) (fun _ _ _ h => h) (Or.inl ⟨by rfl, ?_⟩) ?_ ?_
              rotate_left
              · intro w'
                go_simp
                with_reducible rfl
              rotate_left
              · simp only [Act.put, List.setIfInBounds_toArray, List.set_cons_zero, List.set_cons_succ, i64_w, i32_w]
                rfl
              refine pure_ (i := 3) (N := some 29) (v := ?_) (a' := ?_) #[true, true, true, true, false, false, false, false, false, false, false] rfl rfl (any_of HT_.out (by kernel_rfl)) (fun _ _ _ h => h) (Or.inl ⟨by rfl, ?_⟩) ?_ ?_
              rotate_left
              · intro w'
                go_simp
                with_reducible rfl
              rotate_left
              · simp only [Act.put, List.setIfInBounds_toArray, List.set_cons_zero, List.set_cons_succ, i64_w, i32_w]
                rfl
              refine pure_ (i := 4) (N := some 30) (v := ?_) (a' := ?_) #[true, true, true, true, true, false, false, false, false, false, false] rfl rfl (any_of HT_.out (by kernel_rfl)) (fun _ _ _ h => h) (Or.inl ⟨by rfl, ?_⟩) ?_ ?_
              rotate_left
              · intro w'
                go_simp
                with_reducible rfl
              rotate_left
              · simp only [Act.put, List.setIfInBounds_toArray, List.set_cons_zero, List.set_cons_succ, i64_w, i32_w]
                rfl
              refine pure_ (i := 5) (N := some 31) (v := ?_) (a' := ?_) #[true, true, true, true, true, true, false, false, false, false, false] rfl rfl (any_of HT_.out (by kernel_rfl)) (fun _ _ _ h => h) (Or.inl ⟨by rfl, ?_⟩) ?_ ?_
              rotate_left
              · intro w'
                go_simp
                with_reducible rfl
              rotate_left
              · simp only [Act.put, List.setIfInBounds_toArray, List.set_cons_zero, List.set_cons_succ, i64_w, i32_w]
                rfl
              refine take_ (i := 6) (N := some 32) (v := ?_) (a' := ?_) #[true, true, true, true, true, true, true, false, false, false, false] rfl rfl (take_ofW HT_.out HW_.out (by kernel_rfl)) (fun _ _ _ h => h) (Or.inl ⟨by rfl, ?_⟩) hHeld ?_ ?_
              rotate_left
              · rintro w' ⟨s0, s1, s2, s3, s4, s5, s6, s7, s8, s9, s10, s11, s12, s13⟩
                go_simp
                with_reducible rfl
              rotate_left
              · simp only [Act.put, List.setIfInBounds_toArray, List.set_cons_zero, List.set_cons_succ, i64_w, i32_w]
                rfl
              refine take_ (i := 7) (N := some 33) (v := ?_) (a' := ?_) #[true, true, true, true, true, true, true, true, false, false, false] rfl rfl (take_ofW HT_.out HW_.out (by kernel_rfl)) (fun _ _ _ h => h) (Or.inl ⟨by rfl, ?_⟩) hHeld ?_ ?_
              rotate_left
              · rintro w' ⟨s0, s1, s2, s3, s4, s5, s6, s7, s8, s9, s10, s11, s12, s13⟩
                go_simp
                with_reducible rfl
              rotate_left
              · simp only [Act.put, List.setIfInBounds_toArray, List.set_cons_zero, List.set_cons_succ, i64_w, i32_w]
                rfl
              refine one_ (i := 8) (N := some 34) #[true, true, true, true, true, true, true, true, true, false, false] rfl rfl (one_of HT_.out (by kernel_rfl)) (by decide) (fun K hK => ?_)
              refine goes_ Try.func60 (by kernel_rfl) rfl #[.agg #[.bool ((rd_T32 l0 x6_1).f4.f0), .bool ((rd_T32 l0 x6_1).f4.f1), .bool ((rd_T32 l0 x6_1).f4.f2), .bool ((rd_T32 l0 x6_1).f4.f3), .bool ((rd_T32 l0 x6_1).f4.f4), .bool ((rd_T32 l0 x6_1).f4.f5)], .agg #[.int .i64 a1_0, .bool a1_1, .int .u64 a1_2]] (by rfl) rfl rfl (by (try simp only [List.map_toArray, List.map_cons, List.map_nil]); first | done | rfl | (simp only [List.length_drop, List.length_take]; rfl)) ?_
              with_reducible refine (lookasideref09_Judge.calls k1 ((rd_T32 l0 x6_1).f4.f0) ((rd_T32 l0 x6_1).f4.f1) ((rd_T32 l0 x6_1).f4.f2) ((rd_T32 l0 x6_1).f4.f3) ((rd_T32 l0 x6_1).f4.f4) ((rd_T32 l0 x6_1).f4.f5) a1_0 a1_1 a1_2 t278 _ A8.out).mono ?_
              rintro e w19 ⟨rfl, hb⟩
              refine ⟨_, rfl, ?_⟩
              have n0_ := Aside0.mk (Kd.R_below (by (with_reducible repeat (first | apply Kd.R_alloc | apply Kd.R_drewN | apply Kd.R_drew)); exact HO_5.out) hb)
              have n1_ := Aside0.mk (blk_below (g := gb273) (o := .cells #[.int .i64 a1_0, .bool a1_1, .int .u64 a1_2] 39 (0, 0)) (by (with_reducible repeat (first | refine blk_drewN ?_ _ | refine blk_drew ?_ | refine blk_alloc ?_ _)); exact BK273.out) hb)
              have n2_ := Aside0.mk (below_step (by repeat (first | (with_reducible first | exact HB.out | apply below_alloc | apply pw_below_drewN | apply below_drew1 | refine below_set ?_ GE273.out) | exact HB.out)) hb)
              clear HO_5
              clear BK273
              clear HB
              have HO_5 := n0_
              have BK273 := n1_
              have HB := n2_
              clear n0_ n1_ n2_
              (try clear hb)
              (try clear hb2)
              (try clear hk)
              (try clear hi)
              refine hK.out _ _ ⟨(blk_cell BK273.out 0).trans rfl, (blk_cell BK273.out 1).trans rfl, (blk_cell BK273.out 2).trans rfl, ((HB.out.cell (World.block_lt_of_cell? w _ hw277_0)).trans hw277_0), ((HB.out.cell (World.block_lt_of_cell? w _ hw277_1)).trans hw277_1), ((HB.out.cell (World.block_lt_of_cell? w _ hw277_2)).trans hw277_2), ((HB.out.cell (World.block_lt_of_cell? w _ hw277_3)).trans hw277_3), ((HB.out.cell (World.block_lt_of_cell? w _ hw277_4)).trans hw277_4), ((HB.out.cell (World.block_lt_of_cell? w _ hw277_5)).trans hw277_5), ((HB.out.cell (World.block_lt_of_cell? w _ hw277_6)).trans hw277_6), ((HB.out.cell (World.block_lt_of_cell? w _ hw277_7)).trans hw277_7), ((HB.out.cell (World.block_lt_of_cell? w _ hw277_8)).trans hw277_8), ((HB.out.cell (World.block_lt_of_cell? w _ hw277_9)).trans hw277_9), ((HB.out.cell (World.block_lt_of_cell? w _ hw277_10)).trans hw277_10)⟩ (fun hHeld => ?_)
              clear hK K
              refine norm_ (a' := ?_) ?_ ?_
              rotate_left
              · show Act.put _ (some 34) _ = _
                simp only [Act.put, List.setIfInBounds_toArray, List.set_cons_zero, List.set_cons_succ, i64_w, i32_w]
                rfl
              refine pure_ (i := 9) (N := some 35) (v := ?_) (a' := ?_) #[true, true, true, true, true, true, true, true, true, true, false] rfl rfl (any_of HT_.out (by kernel_rfl)) (fun _ _ _ h => h) (Or.inl ⟨by rfl, ?_⟩) ?_ ?_
              rotate_left
              · intro w'
                go_simp
                with_reducible rfl
              rotate_left
              · simp only [Act.put, List.setIfInBounds_toArray, List.set_cons_zero, List.set_cons_succ, i64_w, i32_w]
                rfl
              refine pure_ (i := 10) (N := some 36) (v := ?_) (a' := ?_) #[true, true, true, true, true, true, true, true, true, true, true] rfl rfl (any_of HT_.out (by kernel_rfl)) (fun _ _ _ h => h) (Or.inl ⟨by rfl, ?_⟩) ?_ ?_
              rotate_left
              · intro w'
                go_simp
                with_reducible rfl
              rotate_left
              · simp only [Act.put, List.setIfInBounds_toArray, List.set_cons_zero, List.set_cons_succ, i64_w, i32_w]
                rfl
              refine done_ (done_of HT_.out (by kernel_rfl)) ?_
              try go_wp2
              go_roundg k1
              case measure => have := HK1.out; omega
              case rel => exact ⟨(x5_1), (wrap64 (x6_1 + 1)), (by first | rfl | (simp; done) | (simp [*]; done)), H', ⟨by have := HK1.out; omega⟩, ⟨by (with_reducible repeat (first | apply Kd.R_alloc | apply Kd.R_drewN | apply Kd.R_drew)); exact HO_5.out⟩, ⟨by (with_reducible repeat (first | refine blk_drewN ?_ _ | refine blk_drew ?_ | refine blk_alloc ?_ _)); exact BK273.out⟩, ⟨by repeat (first | (with_reducible first | exact HB.out | apply below_alloc | apply pw_below_drewN | apply below_drew1 | refine below_set ?_ GE273.out) | exact HB.out)⟩⟩
          · replace c7 := Bool.eq_false_iff.mpr c7
            subst c7
            have H1 : (lookasideref19_Reach.l0 k1 l0 x5_1 (wrap64 (x6_1 + 1)) a1_0 a1_1 a1_2) = some r := by rw [if_neg (show ¬ (false = true) by decide)] at H; exact H
            clear H
            have H := H1
            clear H1
            have H' := Aside0.mk H
            clear H
            try go_wp2
            have n0_ := Aside0.mk (Kd.R_drew HO_5.out)
            have n1_ := Aside0.mk (blk_drew BK273.out)
            have n2_ := Aside0.mk (below_drew1 HB.out)
            clear HO_5
            clear BK273
            clear HB
            have HO_5 := n0_
            have BK273 := n1_
            have HB := n2_
            clear n0_ n1_ n2_
            have p274 : 0 ≤ (x6_1 : Int) := of_decide_eq_true (by first | (with_reducible assumption) | assumption)
            have q274 : x6_1 < (l0.length : Int) := of_decide_eq_true (by first | (with_reducible assumption) | assumption)
            obtain ⟨ad274, e274, hx274_0, hx274_1, hx274_2, hx274_3, hx274_4, hx274_5, hx274_6, hx274_7, hx274_8, hx274_9, hx274_10⟩ := at_T32 HR0.out x6_1 p274 q274
            have hw274_10 := hx274_10
            have hw274_9 := hx274_9
            have hw274_8 := hx274_8
            have hw274_7 := hx274_7
            have hw274_6 := hx274_6
            have hw274_5 := hx274_5
            have hw274_4 := hx274_4
            have hw274_3 := hx274_3
            have hw274_2 := hx274_2
            have hw274_1 := hx274_1
            have hw274_0 := hx274_0
            cases e274
            replace hx274_0 := (HB.out.cell (World.block_lt_of_cell? w _ hx274_0)).trans hx274_0
            replace hx274_1 := (HB.out.cell (World.block_lt_of_cell? w _ hx274_1)).trans hx274_1
            replace hx274_2 := (HB.out.cell (World.block_lt_of_cell? w _ hx274_2)).trans hx274_2
            replace hx274_3 := (HB.out.cell (World.block_lt_of_cell? w _ hx274_3)).trans hx274_3
            replace hx274_4 := (HB.out.cell (World.block_lt_of_cell? w _ hx274_4)).trans hx274_4
            replace hx274_5 := (HB.out.cell (World.block_lt_of_cell? w _ hx274_5)).trans hx274_5
            replace hx274_6 := (HB.out.cell (World.block_lt_of_cell? w _ hx274_6)).trans hx274_6
            replace hx274_7 := (HB.out.cell (World.block_lt_of_cell? w _ hx274_7)).trans hx274_7
            replace hx274_8 := (HB.out.cell (World.block_lt_of_cell? w _ hx274_8)).trans hx274_8
            replace hx274_9 := (HB.out.cell (World.block_lt_of_cell? w _ hx274_9)).trans hx274_9
            replace hx274_10 := (HB.out.cell (World.block_lt_of_cell? w _ hx274_10)).trans hx274_10
            replace p274 := eq_true p274
            replace q274 := eq_true q274
            have p275 : 0 ≤ (x6_1 : Int) := of_decide_eq_true (by first | (with_reducible assumption) | assumption)
            have q275 : x6_1 < (l0.length : Int) := of_decide_eq_true (by first | (with_reducible assumption) | assumption)
            obtain ⟨ad275, e275, hx275_0, hx275_1, hx275_2, hx275_3, hx275_4, hx275_5, hx275_6, hx275_7, hx275_8, hx275_9, hx275_10⟩ := at_T32 HR0.out x6_1 p275 q275
            have hw275_10 := hx275_10
            have hw275_9 := hx275_9
            have hw275_8 := hx275_8
            have hw275_7 := hx275_7
            have hw275_6 := hx275_6
            have hw275_5 := hx275_5
            have hw275_4 := hx275_4
            have hw275_3 := hx275_3
            have hw275_2 := hx275_2
            have hw275_1 := hx275_1
            have hw275_0 := hx275_0
            obtain rfl : ad274 = ad275 := (by injection e275)
            replace hx275_0 := (HB.out.cell (World.block_lt_of_cell? w _ hx275_0)).trans hx275_0
            replace hx275_1 := (HB.out.cell (World.block_lt_of_cell? w _ hx275_1)).trans hx275_1
            replace hx275_2 := (HB.out.cell (World.block_lt_of_cell? w _ hx275_2)).trans hx275_2
            replace hx275_3 := (HB.out.cell (World.block_lt_of_cell? w _ hx275_3)).trans hx275_3
            replace hx275_4 := (HB.out.cell (World.block_lt_of_cell? w _ hx275_4)).trans hx275_4
            replace hx275_5 := (HB.out.cell (World.block_lt_of_cell? w _ hx275_5)).trans hx275_5
            replace hx275_6 := (HB.out.cell (World.block_lt_of_cell? w _ hx275_6)).trans hx275_6
            replace hx275_7 := (HB.out.cell (World.block_lt_of_cell? w _ hx275_7)).trans hx275_7
            replace hx275_8 := (HB.out.cell (World.block_lt_of_cell? w _ hx275_8)).trans hx275_8
            replace hx275_9 := (HB.out.cell (World.block_lt_of_cell? w _ hx275_9)).trans hx275_9
            replace hx275_10 := (HB.out.cell (World.block_lt_of_cell? w _ hx275_10)).trans hx275_10
            replace p275 := eq_true p275
            replace q275 := eq_true q275
            refine start_ (n := 13) (S := fun w' => w'.cell? ⟨gb273, 0, none⟩ = some (.int .i64 a1_0) ∧ w'.cell? ⟨gb273, 1, none⟩ = some (.bool a1_1) ∧ w'.cell? ⟨gb273, 2, none⟩ = some (.int .u64 a1_2) ∧ w'.cell? (ad274.add ((x6_1).toNat * 11)) = some (.int .i64 ((rd_T32 l0 x6_1).f0)) ∧ w'.cell? ⟨(ad274.add ((x6_1).toNat * 11)).block, (ad274.add ((x6_1).toNat * 11)).off + 1, none⟩ = some (.int .i64 ((rd_T32 l0 x6_1).f1)) ∧ w'.cell? ⟨(ad274.add ((x6_1).toNat * 11)).block, (ad274.add ((x6_1).toNat * 11)).off + 2, none⟩ = some (.int .u64 ((rd_T32 l0 x6_1).f2)) ∧ w'.cell? ⟨(ad274.add ((x6_1).toNat * 11)).block, (ad274.add ((x6_1).toNat * 11)).off + 3, none⟩ = some (.int .u64 ((rd_T32 l0 x6_1).f3)) ∧ w'.cell? ⟨(ad274.add ((x6_1).toNat * 11)).block, (ad274.add ((x6_1).toNat * 11)).off + 4, none⟩ = some (.bool ((rd_T32 l0 x6_1).f4.f0)) ∧ w'.cell? ⟨(ad274.add ((x6_1).toNat * 11)).block, (ad274.add ((x6_1).toNat * 11)).off + 5, none⟩ = some (.bool ((rd_T32 l0 x6_1).f4.f1)) ∧ w'.cell? ⟨(ad274.add ((x6_1).toNat * 11)).block, (ad274.add ((x6_1).toNat * 11)).off + 6, none⟩ = some (.bool ((rd_T32 l0 x6_1).f4.f2)) ∧ w'.cell? ⟨(ad274.add ((x6_1).toNat * 11)).block, (ad274.add ((x6_1).toNat * 11)).off + 7, none⟩ = some (.bool ((rd_T32 l0 x6_1).f4.f3)) ∧ w'.cell? ⟨(ad274.add ((x6_1).toNat * 11)).block, (ad274.add ((x6_1).toNat * 11)).off + 8, none⟩ = some (.bool ((rd_T32 l0 x6_1).f4.f4)) ∧ w'.cell? ⟨(ad274.add ((x6_1).toNat * 11)).block, (ad274.add ((x6_1).toNat * 11)).off + 9, none⟩ = some (.bool ((rd_T32 l0 x6_1).f4.f5)) ∧ w'.cell? ⟨(ad274.add ((x6_1).toNat * 11)).block, (ad274.add ((x6_1).toNat * 11)).off + 10, none⟩ = some (.bool ((rd_T32 l0 x6_1).f5)) ∧ w'.cell? (ad274.add ((x6_1).toNat * 11)) = some (.int .i64 ((rd_T32 l0 x6_1).f0)) ∧ w'.cell? ⟨(ad274.add ((x6_1).toNat * 11)).block, (ad274.add ((x6_1).toNat * 11)).off + 1, none⟩ = some (.int .i64 ((rd_T32 l0 x6_1).f1)) ∧ w'.cell? ⟨(ad274.add ((x6_1).toNat * 11)).block, (ad274.add ((x6_1).toNat * 11)).off + 2, none⟩ = some (.int .u64 ((rd_T32 l0 x6_1).f2)) ∧ w'.cell? ⟨(ad274.add ((x6_1).toNat * 11)).block, (ad274.add ((x6_1).toNat * 11)).off + 3, none⟩ = some (.int .u64 ((rd_T32 l0 x6_1).f3)) ∧ w'.cell? ⟨(ad274.add ((x6_1).toNat * 11)).block, (ad274.add ((x6_1).toNat * 11)).off + 4, none⟩ = some (.bool ((rd_T32 l0 x6_1).f4.f0)) ∧ w'.cell? ⟨(ad274.add ((x6_1).toNat * 11)).block, (ad274.add ((x6_1).toNat * 11)).off + 5, none⟩ = some (.bool ((rd_T32 l0 x6_1).f4.f1)) ∧ w'.cell? ⟨(ad274.add ((x6_1).toNat * 11)).block, (ad274.add ((x6_1).toNat * 11)).off + 6, none⟩ = some (.bool ((rd_T32 l0 x6_1).f4.f2)) ∧ w'.cell? ⟨(ad274.add ((x6_1).toNat * 11)).block, (ad274.add ((x6_1).toNat * 11)).off + 7, none⟩ = some (.bool ((rd_T32 l0 x6_1).f4.f3)) ∧ w'.cell? ⟨(ad274.add ((x6_1).toNat * 11)).block, (ad274.add ((x6_1).toNat * 11)).off + 8, none⟩ = some (.bool ((rd_T32 l0 x6_1).f4.f4)) ∧ w'.cell? ⟨(ad274.add ((x6_1).toNat * 11)).block, (ad274.add ((x6_1).toNat * 11)).off + 9, none⟩ = some (.bool ((rd_T32 l0 x6_1).f4.f5)) ∧ w'.cell? ⟨(ad274.add ((x6_1).toNat * 11)).block, (ad274.add ((x6_1).toNat * 11)).off + 10, none⟩ = some (.bool ((rd_T32 l0 x6_1).f5))) (ds := []) #[false, false, false, false, false, false, false, false, false, false, false, false, false] (by kernel_rfl) rfl rfl ⟨(blk_cell BK273.out 0).trans rfl, (blk_cell BK273.out 1).trans rfl, (blk_cell BK273.out 2).trans rfl, ((HB.out.cell (World.block_lt_of_cell? w _ hw274_0)).trans hw274_0), ((HB.out.cell (World.block_lt_of_cell? w _ hw274_1)).trans hw274_1), ((HB.out.cell (World.block_lt_of_cell? w _ hw274_2)).trans hw274_2), ((HB.out.cell (World.block_lt_of_cell? w _ hw274_3)).trans hw274_3), ((HB.out.cell (World.block_lt_of_cell? w _ hw274_4)).trans hw274_4), ((HB.out.cell (World.block_lt_of_cell? w _ hw274_5)).trans hw274_5), ((HB.out.cell (World.block_lt_of_cell? w _ hw274_6)).trans hw274_6), ((HB.out.cell (World.block_lt_of_cell? w _ hw274_7)).trans hw274_7), ((HB.out.cell (World.block_lt_of_cell? w _ hw274_8)).trans hw274_8), ((HB.out.cell (World.block_lt_of_cell? w _ hw274_9)).trans hw274_9), ((HB.out.cell (World.block_lt_of_cell? w _ hw274_10)).trans hw274_10), ((HB.out.cell (World.block_lt_of_cell? w _ hw275_0)).trans hw275_0), ((HB.out.cell (World.block_lt_of_cell? w _ hw275_1)).trans hw275_1), ((HB.out.cell (World.block_lt_of_cell? w _ hw275_2)).trans hw275_2), ((HB.out.cell (World.block_lt_of_cell? w _ hw275_3)).trans hw275_3), ((HB.out.cell (World.block_lt_of_cell? w _ hw275_4)).trans hw275_4), ((HB.out.cell (World.block_lt_of_cell? w _ hw275_5)).trans hw275_5), ((HB.out.cell (World.block_lt_of_cell? w _ hw275_6)).trans hw275_6), ((HB.out.cell (World.block_lt_of_cell? w _ hw275_7)).trans hw275_7), ((HB.out.cell (World.block_lt_of_cell? w _ hw275_8)).trans hw275_8), ((HB.out.cell (World.block_lt_of_cell? w _ hw275_9)).trans hw275_9), ((HB.out.cell (World.block_lt_of_cell? w _ hw275_10)).trans hw275_10)⟩ (fun hHeld => ?_); refine with_tabW lookasideref19_Reach.tab5 lookasideref19_Reach.bits5 (fun HT_ HW_ => ?_)
            generalize wr.drew = w20 at HO_5 BK273 HB hx274_0 hx274_1 hx274_10 hx274_2 hx274_3 hx274_4 hx274_5 hx274_6 hx274_7 hx274_8 hx274_9 hx275_0 hx275_1 hx275_10 hx275_2 hx275_3 hx275_4 hx275_5 hx275_6 hx275_7 hx275_8 hx275_9 hHeld ⊢
            refine pure_ (i := 0) (N := some 14) (v := ?_) (a' := ?_) #[true, false, false, false, false, false, false, false, false, false, false, false, false] rfl rfl (any_of HT_.out (by kernel_rfl)) (fun _ _ _ h => h) (Or.inl ⟨by rfl, ?_⟩) ?_ ?_
            rotate_left
            · intro w'
              go_simp
              with_reducible rfl
            rotate_left
            · simp only [Act.put, List.setIfInBounds_toArray, List.set_cons_zero, List.set_cons_succ, i64_w, i32_w]
              rfl
            refine pure_ (i := 1) (N := some 15) (v := ?_) (a' := ?_) #[true, true, false, false, false, false, false, false, false, false, false, false, false] rfl rfl (any_of HT_.out (by kernel_rfl)) (fun _ _ _ h => h) (Or.inl ⟨by rfl, ?_⟩) ?_ ?_
            rotate_left
            · intro w'
              go_simp
              with_reducible rfl
            rotate_left
            · simp only [Act.put, List.setIfInBounds_toArray, List.set_cons_zero, List.set_cons_succ, i64_w, i32_w]
              rfl
            refine pure_ (i := 2) (N := some 16) (v := ?_) (a' := ?_) #[true, true, true, false, false, false, false, false, false, false, false, false, false] rfl rfl (any_of HT_.out (by kernel_rfl)) (fun _ _ _ h => h) (Or.inl ⟨by rfl, ?_⟩) ?_ ?_
            rotate_left
            · intro w'
              go_simp
              with_reducible rfl
            rotate_left
            · simp only [Act.put, List.setIfInBounds_toArray, List.set_cons_zero, List.set_cons_succ, i64_w, i32_w]
              rfl
            refine pure_ (i := 4) (N := some 18) (v := ?_) (a' := ?_) #[true, true, true, false, true, false, false, false, false, false, false, false, false] rfl rfl (any_of HT_.out (by kernel_rfl)) (fun _ _ _ h => h) (Or.inl ⟨by rfl, ?_⟩) ?_ ?_
            rotate_left
            · intro w'
              go_simp
              with_reducible rfl
            rotate_left
            · simp only [Act.put, List.setIfInBounds_toArray, List.set_cons_zero, List.set_cons_succ, i64_w, i32_w]
              rfl
            refine pure_ (i := 6) (N := some 20) (v := ?_) (a' := ?_) #[true, true, true, false, true, false, true, false, false, false, false, false, false] rfl rfl (any_of HT_.out (by kernel_rfl)) (fun _ _ _ h => h) (Or.inl ⟨by rfl, ?_⟩) ?_ ?_
            rotate_left
            · intro w'
              go_simp
              with_reducible rfl
            rotate_left
            · simp only [Act.put, List.setIfInBounds_toArray, List.set_cons_zero, List.set_cons_succ, i64_w, i32_w]
              rfl
            refine pure_ (i := 7) (N := some 21) (v := ?_) (a' := ?_) #[true, true, true, false, true, false, true, true, false, false, false, false, false] rfl rfl (any_of HT_.out (by kernel_rfl)) (fun _ _ _ h => h) (Or.inl ⟨by rfl, ?_⟩) ?_ ?_
            rotate_left
            · intro w'
              go_simp
              with_reducible rfl
            rotate_left
            · simp only [Act.put, List.setIfInBounds_toArray, List.set_cons_zero, List.set_cons_succ, i64_w, i32_w]
              rfl
            refine pure_ (i := 8) (N := some 22) (v := ?_) (a' := ?_) #[true, true, true, false, true, false, true, true, true, false, false, false, false] rfl rfl (any_of HT_.out (by kernel_rfl)) (fun _ _ _ h => h) (Or.inl ⟨by rfl, ?_⟩) ?_ ?_
            rotate_left
            · intro w'
              go_simp
              with_reducible rfl
            rotate_left
            · simp only [Act.put, List.setIfInBounds_toArray, List.set_cons_zero, List.set_cons_succ, i64_w, i32_w]
              rfl
            refine pure_ (i := 9) (N := some 23) (v := ?_) (a' := ?_) #[true, true, true, false, true, false, true, true, true, true, false, false, false] rfl rfl (any_of HT_.out (by kernel_rfl)) (fun _ _ _ h => h) (Or.inl ⟨by rfl, ?_⟩) ?_ ?_
            rotate_left
            · intro w'
              go_simp
              with_reducible rfl
            rotate_left
            · simp only [Act.put, List.setIfInBounds_toArray, List.set_cons_zero, List.set_cons_succ, i64_w, i32_w]
              rfl
            refine take_ (i := 3) (N := some 17) (v := ?_) (a' := ?_) #[true, true, true, true, true, false, true, true, true, true, false, false, false] rfl rfl (take_ofW HT_.out HW_.out (by kernel_rfl)) (fun _ _ _ h => h) (Or.inl ⟨by rfl, ?_⟩) hHeld ?_ ?_
            rotate_left
            · rintro w' ⟨s0, s1, s2, s3, s4, s5, s6, s7, s8, s9, s10, s11, s12, s13, s14, s15, s16, s17, s18, s19, s20, s21, s22, s23, s24⟩
              go_simp
              with_reducible rfl
            rotate_left
            · simp only [Act.put, List.setIfInBounds_toArray, List.set_cons_zero, List.set_cons_succ, i64_w, i32_w]
              rfl
            refine take_ (i := 5) (N := some 19) (v := ?_) (a' := ?_) #[true, true, true, true, true, true, true, true, true, true, false, false, false] rfl rfl (take_ofW HT_.out HW_.out (by kernel_rfl)) (fun _ _ _ h => h) (Or.inl ⟨by rfl, ?_⟩) hHeld ?_ ?_
            rotate_left
            · rintro w' ⟨s0, s1, s2, s3, s4, s5, s6, s7, s8, s9, s10, s11, s12, s13, s14, s15, s16, s17, s18, s19, s20, s21, s22, s23, s24⟩
              go_simp
              with_reducible rfl
            rotate_left
            · simp only [Act.put, List.setIfInBounds_toArray, List.set_cons_zero, List.set_cons_succ, i64_w, i32_w]
              rfl
            refine take_ (i := 10) (N := some 24) (v := ?_) (a' := ?_) #[true, true, true, true, true, true, true, true, true, true, true, false, false] rfl rfl (take_ofW HT_.out HW_.out (by kernel_rfl)) (fun _ _ _ h => h) (Or.inl ⟨by rfl, ?_⟩) hHeld ?_ ?_
            rotate_left
            · rintro w' ⟨s0, s1, s2, s3, s4, s5, s6, s7, s8, s9, s10, s11, s12, s13, s14, s15, s16, s17, s18, s19, s20, s21, s22, s23, s24⟩
              go_simp
              with_reducible rfl
            rotate_left
            · simp only [Act.put, List.setIfInBounds_toArray, List.set_cons_zero, List.set_cons_succ, i64_w, i32_w]
              rfl
            refine one_ (i := 11) (N := some 25) #[true, true, true, true, true, true, true, true, true, true, true, true, false] rfl rfl (one_of HT_.out (by kernel_rfl)) (by decide) (fun K hK => ?_)
            refine goes_ Try.func26 (by kernel_rfl) rfl #[.agg #[.int .i64 ((rd_T32 l0 x6_1).f0), .int .i64 ((rd_T32 l0 x6_1).f1), .int .u64 ((rd_T32 l0 x6_1).f2), .int .u64 ((rd_T32 l0 x6_1).f3), .bool ((rd_T32 l0 x6_1).f4.f0), .bool ((rd_T32 l0 x6_1).f4.f1), .bool ((rd_T32 l0 x6_1).f4.f2), .bool ((rd_T32 l0 x6_1).f4.f3), .bool ((rd_T32 l0 x6_1).f4.f4), .bool ((rd_T32 l0 x6_1).f4.f5), .bool ((rd_T32 l0 x6_1).f5)], .int .u64 a1_2, .int .i64 ((rd_T32 l0 x6_1).f1)] (by rfl) rfl rfl (by (try simp only [List.map_toArray, List.map_cons, List.map_nil]); first | done | rfl | (simp only [List.length_drop, List.length_take]; rfl)) ?_
            with_reducible refine (lookasideref03_Hits.calls ((rd_T32 l0 x6_1).f0) ((rd_T32 l0 x6_1).f1) ((rd_T32 l0 x6_1).f2) ((rd_T32 l0 x6_1).f3) ((rd_T32 l0 x6_1).f4.f0) ((rd_T32 l0 x6_1).f4.f1) ((rd_T32 l0 x6_1).f4.f2) ((rd_T32 l0 x6_1).f4.f3) ((rd_T32 l0 x6_1).f4.f4) ((rd_T32 l0 x6_1).f4.f5) ((rd_T32 l0 x6_1).f5) a1_2 ((rd_T32 l0 x6_1).f1) false _ A6.out).mono ?_
            rintro e w21 ⟨rfl, hb⟩
            refine ⟨_, rfl, ?_⟩
            have n0_ := Aside0.mk (Kd.R_below (by (with_reducible repeat (first | apply Kd.R_alloc | apply Kd.R_drewN | apply Kd.R_drew)); exact HO_5.out) hb)
            have n1_ := Aside0.mk (blk_below (g := gb273) (o := .cells #[.int .i64 a1_0, .bool a1_1, .int .u64 a1_2] 39 (0, 0)) (by (with_reducible repeat (first | refine blk_drewN ?_ _ | refine blk_drew ?_ | refine blk_alloc ?_ _)); exact BK273.out) hb)
            have n2_ := Aside0.mk (below_step (by repeat (first | (with_reducible first | exact HB.out | apply below_alloc | apply pw_below_drewN | apply below_drew1 | refine below_set ?_ GE273.out) | exact HB.out)) hb)
            clear HO_5
            clear BK273
            clear HB
            have HO_5 := n0_
            have BK273 := n1_
            have HB := n2_
            clear n0_ n1_ n2_
            (try clear hb)
            (try clear hb2)
            (try clear hk)
            (try clear hi)
            refine hK.out _ _ ⟨(blk_cell BK273.out 0).trans rfl, (blk_cell BK273.out 1).trans rfl, (blk_cell BK273.out 2).trans rfl, ((HB.out.cell (World.block_lt_of_cell? w _ hw274_0)).trans hw274_0), ((HB.out.cell (World.block_lt_of_cell? w _ hw274_1)).trans hw274_1), ((HB.out.cell (World.block_lt_of_cell? w _ hw274_2)).trans hw274_2), ((HB.out.cell (World.block_lt_of_cell? w _ hw274_3)).trans hw274_3), ((HB.out.cell (World.block_lt_of_cell? w _ hw274_4)).trans hw274_4), ((HB.out.cell (World.block_lt_of_cell? w _ hw274_5)).trans hw274_5), ((HB.out.cell (World.block_lt_of_cell? w _ hw274_6)).trans hw274_6), ((HB.out.cell (World.block_lt_of_cell? w _ hw274_7)).trans hw274_7), ((HB.out.cell (World.block_lt_of_cell? w _ hw274_8)).trans hw274_8), ((HB.out.cell (World.block_lt_of_cell? w _ hw274_9)).trans hw274_9), ((HB.out.cell (World.block_lt_of_cell? w _ hw274_10)).trans hw274_10), ((HB.out.cell (World.block_lt_of_cell? w _ hw275_0)).trans hw275_0), ((HB.out.cell (World.block_lt_of_cell? w _ hw275_1)).trans hw275_1), ((HB.out.cell (World.block_lt_of_cell? w _ hw275_2)).trans hw275_2), ((HB.out.cell (World.block_lt_of_cell? w _ hw275_3)).trans hw275_3), ((HB.out.cell (World.block_lt_of_cell? w _ hw275_4)).trans hw275_4), ((HB.out.cell (World.block_lt_of_cell? w _ hw275_5)).trans hw275_5), ((HB.out.cell (World.block_lt_of_cell? w _ hw275_6)).trans hw275_6), ((HB.out.cell (World.block_lt_of_cell? w _ hw275_7)).trans hw275_7), ((HB.out.cell (World.block_lt_of_cell? w _ hw275_8)).trans hw275_8), ((HB.out.cell (World.block_lt_of_cell? w _ hw275_9)).trans hw275_9), ((HB.out.cell (World.block_lt_of_cell? w _ hw275_10)).trans hw275_10)⟩ (fun hHeld => ?_)
            clear hK K
            refine norm_ (a' := ?_) ?_ ?_
            rotate_left
            · show Act.put _ (some 25) _ = _
              simp only [Act.put, List.setIfInBounds_toArray, List.set_cons_zero, List.set_cons_succ, i64_w, i32_w]
              rfl
            refine pure_ (i := 12) (N := some 7) (v := ?_) (a' := ?_) #[true, true, true, true, true, true, true, true, true, true, true, true, true] rfl rfl (any_of HT_.out (by kernel_rfl)) (fun _ _ _ h => h) (Or.inl ⟨by rfl, ?_⟩) ?_ ?_
            rotate_left
            · intro w'
              go_simp
              with_reducible rfl
            rotate_left
            · simp only [Act.put, List.setIfInBounds_toArray, List.set_cons_zero, List.set_cons_succ, i64_w, i32_w]
              rfl
            refine done_ (done_of HT_.out (by kernel_rfl)) ?_
            try go_wp2
            have n0_ := Aside0.mk (Kd.R_drew HO_5.out)
            have n1_ := Aside0.mk (blk_drew BK273.out)
            have n2_ := Aside0.mk (below_drew1 HB.out)
            clear HO_5
            clear BK273
            clear HB
            have HO_5 := n0_
            have BK273 := n1_
            have HB := n2_
            clear n0_ n1_ n2_
            refine start_ (n := 11) (S := fun w' => True) (ds := []) #[false, false, false, false, false, false, false, false, false, false, false] (by kernel_rfl) rfl rfl trivial (fun hHeld => ?_); refine with_tabW lookasideref19_Reach.tab6 lookasideref19_Reach.bits6 (fun HT_ HW_ => ?_)
            generalize w21.drew = w22 at HO_5 BK273 HB hHeld ⊢
            refine pure_ (i := 0) (N := some 26) (v := ?_) (a' := ?_) #[true, false, false, false, false, false, false, false, false, false, false] rfl rfl (any_of HT_.out (by kernel_rfl)) (fun _ _ _ h => h) (Or.inl ⟨by rfl, ?_⟩) ?_ ?_
            rotate_left
            · intro w'
              go_simp
              with_reducible rfl
            rotate_left
            · simp only [Act.put, List.setIfInBounds_toArray, List.set_cons_zero, List.set_cons_succ, i64_w, i32_w]
              rfl
            refine pure_ (i := 1) (N := some 27) (v := ?_) (a' := ?_) #[true, true, false, false, false, false, false, false, false, false, false] rfl rfl (any_of HT_.out (by kernel_rfl)) (fun _ _ _ h => h) (Or.inl ⟨by rfl, ?_⟩) ?_ ?_
            rotate_left
            · intro w'
              go_simp
              with_reducible rfl
            rotate_left
            · simp only [Act.put, List.setIfInBounds_toArray, List.set_cons_zero, List.set_cons_succ, i64_w, i32_w]
              rfl
            refine pure_ (i := 2) (N := some 28) (v := undef) (a' := ?_) #[true, true, true, false, false, false, false, false, false, false, false] rfl rfl (any_of HT_.out (by kernel_rfl)) (fun _ _ _ h => h) (Or.inr ⟨by rfl, rfl⟩) ?_ ?_
            rotate_left
            · simp only [Act.put, List.setIfInBounds_toArray, List.set_cons_zero, List.set_cons_succ, i64_w, i32_w]
              rfl
            refine pure_ (i := 3) (N := some 29) (v := undef) (a' := ?_) #[true, true, true, true, false, false, false, false, false, false, false] rfl rfl (any_of HT_.out (by kernel_rfl)) (fun _ _ _ h => h) (Or.inr ⟨by rfl, rfl⟩) ?_ ?_
            rotate_left
            · simp only [Act.put, List.setIfInBounds_toArray, List.set_cons_zero, List.set_cons_succ, i64_w, i32_w]
              rfl
            refine pure_ (i := 4) (N := some 30) (v := undef) (a' := ?_) #[true, true, true, true, true, false, false, false, false, false, false] rfl rfl (any_of HT_.out (by kernel_rfl)) (fun _ _ _ h => h) (Or.inr ⟨by rfl, rfl⟩) ?_ ?_
            rotate_left
            · simp only [Act.put, List.setIfInBounds_toArray, List.set_cons_zero, List.set_cons_succ, i64_w, i32_w]
              rfl
            refine pure_ (i := 5) (N := some 31) (v := undef) (a' := ?_) #[true, true, true, true, true, true, false, false, false, false, false] rfl rfl (any_of HT_.out (by kernel_rfl)) (fun _ _ _ h => h) (Or.inr ⟨by rfl, rfl⟩) ?_ ?_
            rotate_left
            · simp only [Act.put, List.setIfInBounds_toArray, List.set_cons_zero, List.set_cons_succ, i64_w, i32_w]
              rfl
            refine pure_ (i := 6) (N := some 32) (v := undef) (a' := ?_) #[true, true, true, true, true, true, true, false, false, false, false] rfl rfl (any_of HT_.out (by kernel_rfl)) (fun _ _ _ h => h) (Or.inr ⟨by rfl, rfl⟩) ?_ ?_
            rotate_left
            · simp only [Act.put, List.setIfInBounds_toArray, List.set_cons_zero, List.set_cons_succ, i64_w, i32_w]
              rfl
            refine pure_ (i := 7) (N := some 33) (v := undef) (a' := ?_) #[true, true, true, true, true, true, true, true, false, false, false] rfl rfl (any_of HT_.out (by kernel_rfl)) (fun _ _ _ h => h) (Or.inr ⟨by rfl, rfl⟩) ?_ ?_
            rotate_left
            · simp only [Act.put, List.setIfInBounds_toArray, List.set_cons_zero, List.set_cons_succ, i64_w, i32_w]
              rfl
            refine pure_ (i := 8) (N := some 34) (v := undef) (a' := ?_) #[true, true, true, true, true, true, true, true, true, false, false] rfl rfl (any_of HT_.out (by kernel_rfl)) (fun _ _ _ h => h) (Or.inr ⟨by rfl, rfl⟩) ?_ ?_
            rotate_left
            · simp only [Act.put, List.setIfInBounds_toArray, List.set_cons_zero, List.set_cons_succ, i64_w, i32_w]
              rfl
            refine pure_ (i := 9) (N := some 35) (v := undef) (a' := ?_) #[true, true, true, true, true, true, true, true, true, true, false] rfl rfl (any_of HT_.out (by kernel_rfl)) (fun _ _ _ h => h) (Or.inr ⟨by rfl, rfl⟩) ?_ ?_
            rotate_left
            · simp only [Act.put, List.setIfInBounds_toArray, List.set_cons_zero, List.set_cons_succ, i64_w, i32_w]
              rfl
            refine pure_ (i := 10) (N := some 36) (v := ?_) (a' := ?_) #[true, true, true, true, true, true, true, true, true, true, true] rfl rfl (any_of HT_.out (by kernel_rfl)) (fun _ _ _ h => h) (Or.inl ⟨by rfl, ?_⟩) ?_ ?_
            rotate_left
            · intro w'
              go_simp
              with_reducible rfl
            rotate_left
            · simp only [Act.put, List.setIfInBounds_toArray, List.set_cons_zero, List.set_cons_succ, i64_w, i32_w]
              rfl
            refine done_ (done_of HT_.out (by kernel_rfl)) ?_
            try go_wp2
            go_roundg k1
            case measure => have := HK1.out; omega
            case rel => exact ⟨(x5_1), (wrap64 (x6_1 + 1)), (by first | rfl | (simp; done) | (simp [*]; done)), H', ⟨by have := HK1.out; omega⟩, ⟨by (with_reducible repeat (first | apply Kd.R_alloc | apply Kd.R_drewN | apply Kd.R_drew)); exact HO_5.out⟩, ⟨by (with_reducible repeat (first | refine blk_drewN ?_ _ | refine blk_drew ?_ | refine blk_alloc ?_ _)); exact BK273.out⟩, ⟨by repeat (first | (with_reducible first | exact HB.out | apply below_alloc | apply pw_below_drewN | apply below_drew1 | refine below_set ?_ GE273.out) | exact HB.out)⟩⟩
        · rw [if_neg c5] at H
          exact absurd H (by simp)
      · rw [if_neg c4] at H
        have c4b0 : decide (x6_1 < (l0.length : Int)) = false := decide_eq_false c4
        clear c4
        obtain rfl := Option.some.inj H
        go_wp2
        go_ret
        exact ⟨_, by first | rfl | (simp [errW_none, errW_some] <;> rfl) | (simp [*, errW_none, errW_some] <;> rfl), by (with_reducible repeat (first | apply Kd.R_alloc | apply Kd.R_drewN | apply Kd.R_drew)); exact HO_5.out, by repeat (first | (with_reducible first | exact HB.out | apply below_alloc | apply pw_below_drewN | apply below_drew1 | refine below_set ?_ GE273.out) | exact HB.out)⟩

end Go.Proofs.Ytcbnmmkmgpbfiaa.PS


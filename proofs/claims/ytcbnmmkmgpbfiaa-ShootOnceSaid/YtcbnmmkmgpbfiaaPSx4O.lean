-- written by xprint.py, a program of this session, over the kit's print (functions told by hand: see the texts)
import Derived.Test.YtcbnmmkmgpbfiaaPSx0O
import Derived.Test.YtcbnmmkmgpbfiaaPSx2O
import Derived.Test.YtcbnmmkmgpbfiaaPSx3O
namespace Go.Proofs.Ytcbnmmkmgpbfiaa.PS
open Go.RowKit Go.Proofs.YtcbnmmkmgpbfiaaW.PrintWords Go.Proofs.YtcbnmmkmgpbfiaaW.PrintLast Go.Proofs.YtcbnmmkmgpbfiaaW.PrintMore
attribute [local go_sem] max2_int min2_int max_two min_two max_three min_three max_four min_four   -- for this text's walks alone
set_option linter.unusedVariables false
set_option linter.unusedSimpArgs false

/-! ### lookasidelaw19_entries: function 12 -/
def lookasidelaw19_entries.l0 : Nat → List (S32) → List (S32) → Int → Option ((List (S32)))
  | 0, _, _, _ => none
  | k + 1, x0, x3, x4 => if x4 < (x0.length : Int) then (if x4 < 12 then (if 0 ≤ x4 then ((lookasideref03_Good.f k ((rd_T32 x0 x4).f0) ((rd_T32 x0 x4).f1) ((rd_T32 x0 x4).f2) ((rd_T32 x0 x4).f3) ((rd_T32 x0 x4).f4.f0) ((rd_T32 x0 x4).f4.f1) ((rd_T32 x0 x4).f4.f2) ((rd_T32 x0 x4).f4.f3) ((rd_T32 x0 x4).f4.f4) ((rd_T32 x0 x4).f4.f5) ((rd_T32 x0 x4).f5)).bind fun bt115 => (if x3.length < 3518437208883 then (lookasidelaw19_entries.l0 k x0 (x3 ++ [(⟨bt115.1, bt115.2.1, bt115.2.2.1, bt115.2.2.2.1, (⟨bt115.2.2.2.2.1, bt115.2.2.2.2.2.1, bt115.2.2.2.2.2.2.1, bt115.2.2.2.2.2.2.2.1, bt115.2.2.2.2.2.2.2.2.1, bt115.2.2.2.2.2.2.2.2.2.1⟩ : S28), bt115.2.2.2.2.2.2.2.2.2.2⟩ : S32)]) (wrap64 (x4 + 1))) else (none))) else (none)) else (some x3)) else (some x3)
def lookasidelaw19_entries.f (k : Nat) (l0 : List (S32)) : Option ((List (S32))) := lookasidelaw19_entries.l0 k l0 ([] : List (S32)) 0
set_option maxHeartbeats 8000000 in
set_option maxRecDepth 100000 in
theorem lookasidelaw19_entries.calls (k : Nat) (A0 : Option Addr) (c0 : Nat) (l0 : List (S32)) (r : List (S32)) (w : World) (hr0 : Kd.C k32 w A0 l0.length l0) (hc0 : l0.length ≤ c0) (h : lookasidelaw19_entries.f k l0 = some r) :
    Calls Try.prog 12 #[.slice A0 l0.length c0] w fun e w' => ∃ v0_ : Value, e = .returned (v0_) ∧ Kd.R k32 32 w' w.heap.size (fun _ => True) v0_ r ∧ Below w.heap.size w w' := by
  have hu32 := Try.underlying32
  have HR0 := Aside0.mk hr0
  have HC0 := Aside0.mk hc0
  clear hr0 hc0
  have HB := Aside0.mk (Below.refl w.heap.size w)
  have H : (lookasidelaw19_entries.l0 k l0 ([] : List (S32)) 0) = some r := h
  clear h
  have H' := Aside0.mk H
  clear H
  go_enter Try.func12, Try.ntmps12
  go_wp2
  go_loopg [3, 4] k (fun kq v3 v4 w' => ∃ (x3_1 : List (S32)) (x4_1 : Int), v4 = .int .i64 x4_1 ∧ Aside0 (lookasidelaw19_entries.l0 kq l0 x3_1 x4_1 = some r) ∧ Aside0 (kq ≤ k) ∧ Aside0 (Kd.R k32 32 w' w.heap.size (fun _ => True) v3 x3_1) ∧ Aside0 (Below w.heap.size w w'))
  case atStart => exact ⟨(([] : List (S32))), (0), (by first | rfl | (simp; done) | (simp [*]; done)), H', ⟨Nat.le_refl _⟩, ⟨by first | exact Kd.R_nil _ _ _ _ _ | exact Kd.N_nil _ _ _ _ _ | exact Kd.V_nil _ _ _ _ _ | exact Kd.Q_nil _ _ _ _ _ | exact Kd.S_nil _ _ _ _ _⟩, ⟨by repeat (first | (with_reducible first | exact HB.out | apply below_alloc | apply pw_below_drewN | apply below_drew1) | exact HB.out)⟩⟩
  case round =>
    clear H'
    try clear c1
    obtain ⟨x3_1, x4_1, rfl, HA, HK1, HO_3, HB⟩ := hrel
    cases gk with
    | zero => exact absurd HA.out (by simp [lookasidelaw19_entries.l0])
    | succ k1 =>
      have H := HA.out
      clear HA
      simp only [lookasidelaw19_entries.l0] at H
      by_cases c2 : x4_1 < (l0.length : Int)
      · rw [if_pos c2] at H
        have c2b0 : decide (x4_1 < (l0.length : Int)) = true := decide_eq_true c2
        clear c2
        by_cases c3 : x4_1 < 12
        · rw [if_pos c3] at H
          have c3b0 : decide (x4_1 < 12) = true := decide_eq_true c3
          clear c3
          by_cases c4 : 0 ≤ x4_1
          · rw [if_pos c4] at H
            have c4b0 : decide (0 ≤ x4_1) = true := decide_eq_true c4
            clear c4
            replace H := Option.bind_eq_some_iff.mp H
            obtain ⟨⟨t115, t116, t117, t118, t119, t120, t121, t122, t123, t124, t125⟩, A50, H⟩ := H
            replace H : (if x3_1.length < 3518437208883 then (lookasidelaw19_entries.l0 k1 l0 (x3_1 ++ [(⟨t115, t116, t117, t118, (⟨t119, t120, t121, t122, t123, t124⟩ : S28), t125⟩ : S32)]) (wrap64 (x4_1 + 1))) else (none)) = some r := H
            have A5 := Aside0.mk A50
            clear A50
            by_cases c6 : x3_1.length < 3518437208883
            · rw [if_pos c6] at H
              have LMc6 := Aside0.mk c6
              clear c6
              obtain ⟨y126, hy126⟩ : ∃ y_ : List (S32), y_ = (x3_1 ++ [(⟨t115, t116, t117, t118, (⟨t119, t120, t121, t122, t123, t124⟩ : S28), t125⟩ : S32)]) := ⟨_, rfl⟩
              replace H : (lookasidelaw19_entries.l0 k1 l0 y126 (wrap64 (x4_1 + 1))) = some r := by first | (rw [hy126]; with_reducible exact H) | (have H2_ := (Option.bind_some _ _).symm.trans H; rw [hy126]; with_reducible exact H2_) | (have H2_ := (Option.bind_some _ _).symm.trans H; with_reducible exact H2_) | with_reducible exact H | (rw [hy126]; exact H) | exact H
              have Ny126 := Aside0.mk hy126
              clear hy126
              have H' := Aside0.mk H
              clear H
              have p114 : 0 ≤ (x4_1 : Int) := of_decide_eq_true (by first | (with_reducible assumption) | assumption)
              have q114 : x4_1 < (l0.length : Int) := of_decide_eq_true (by first | (with_reducible assumption) | assumption)
              obtain ⟨ad114, e114, hx114_0, hx114_1, hx114_2, hx114_3, hx114_4, hx114_5, hx114_6, hx114_7, hx114_8, hx114_9, hx114_10⟩ := at_T32 HR0.out x4_1 p114 q114
              cases e114
              replace hx114_0 := (HB.out.cell (World.block_lt_of_cell? w _ hx114_0)).trans hx114_0
              replace hx114_1 := (HB.out.cell (World.block_lt_of_cell? w _ hx114_1)).trans hx114_1
              replace hx114_2 := (HB.out.cell (World.block_lt_of_cell? w _ hx114_2)).trans hx114_2
              replace hx114_3 := (HB.out.cell (World.block_lt_of_cell? w _ hx114_3)).trans hx114_3
              replace hx114_4 := (HB.out.cell (World.block_lt_of_cell? w _ hx114_4)).trans hx114_4
              replace hx114_5 := (HB.out.cell (World.block_lt_of_cell? w _ hx114_5)).trans hx114_5
              replace hx114_6 := (HB.out.cell (World.block_lt_of_cell? w _ hx114_6)).trans hx114_6
              replace hx114_7 := (HB.out.cell (World.block_lt_of_cell? w _ hx114_7)).trans hx114_7
              replace hx114_8 := (HB.out.cell (World.block_lt_of_cell? w _ hx114_8)).trans hx114_8
              replace hx114_9 := (HB.out.cell (World.block_lt_of_cell? w _ hx114_9)).trans hx114_9
              replace hx114_10 := (HB.out.cell (World.block_lt_of_cell? w _ hx114_10)).trans hx114_10
              replace p114 := eq_true p114
              replace q114 := eq_true q114
              go_wp2_with (first | ((with_reducible refine gate_callee (f := 46) rfl ?_); refine goesL_ (some 20) rfl rfl Try.func46 (by kernel_rfl) rfl #[.agg #[.int .i64 ((rd_T32 l0 x4_1).f0), .int .i64 ((rd_T32 l0 x4_1).f1), .int .u64 ((rd_T32 l0 x4_1).f2), .int .u64 ((rd_T32 l0 x4_1).f3), .bool ((rd_T32 l0 x4_1).f4.f0), .bool ((rd_T32 l0 x4_1).f4.f1), .bool ((rd_T32 l0 x4_1).f4.f2), .bool ((rd_T32 l0 x4_1).f4.f3), .bool ((rd_T32 l0 x4_1).f4.f4), .bool ((rd_T32 l0 x4_1).f4.f5), .bool ((rd_T32 l0 x4_1).f5)]] rfl (by (try simp only [List.map_toArray, List.map_cons, List.map_nil]); first | done | rfl | (simp only [List.length_drop, List.length_take]; rfl)) ?_; (with_reducible refine (lookasideref03_Good.calls k1 ((rd_T32 l0 x4_1).f0) ((rd_T32 l0 x4_1).f1) ((rd_T32 l0 x4_1).f2) ((rd_T32 l0 x4_1).f3) ((rd_T32 l0 x4_1).f4.f0) ((rd_T32 l0 x4_1).f4.f1) ((rd_T32 l0 x4_1).f4.f2) ((rd_T32 l0 x4_1).f4.f3) ((rd_T32 l0 x4_1).f4.f4) ((rd_T32 l0 x4_1).f4.f5) ((rd_T32 l0 x4_1).f5) t115 t116 t117 t118 t119 t120 t121 t122 t123 t124 t125 _ A5.out).mono ?_); rintro e w7 ⟨rfl, hb⟩; refine ⟨_, rfl, ?_⟩; have n0_ := Aside0.mk (Kd.R_below (by (with_reducible repeat (first | apply Kd.R_alloc | apply Kd.R_drewN | apply Kd.R_drew)); exact HO_3.out) hb); have n1_ := Aside0.mk (below_step (by repeat (first | (with_reducible first | exact HB.out | apply below_alloc | apply pw_below_drewN | apply below_drew1) | exact HB.out)) hb); clear HO_3; clear HB; have HO_3 := n0_; have HB := n1_; clear n0_ n1_; (try clear hb); (try clear hb2); (try clear hk); (try clear hi)) | ((with_reducible refine gate_builtin (b := .append) (xs := #[.tmp 15, .tmp 21]) rfl ?_); at_builtin; refine Kd.R_append k32 (w0 := w) w.heap.size rfl (.tmp 15) (.tmp 21) 22 32 (.agg #[(.int .i64 0), (.int .i64 0), (.int .u64 0), (.int .u64 0), (.bool false), (.bool false), (.bool false), (.bool false), (.bool false), (.bool false), (.bool false)]) 40 rfl Try.underlying22 info32 rfl (by decide) (by omega) u3 x3_1 (⟨t115, t116, t117, t118, (⟨t119, t120, t121, t122, t123, t124⟩ : S28), t125⟩ : S32) [.int .i64 t115, .int .i64 t116, .int .u64 t117, .int .u64 t118, .bool t119, .bool t120, .bool t121, .bool t122, .bool t123, .bool t124, .bool t125] (fun _ => True) (fun _ => False) rfl rfl ?aP (fun _ hk => hk.elim) ?aF ?aO ?aB ?aS ?aL ?_; (case aP => exact k32_mkM _ _ _ (⟨t115, t116, t117, t118, (⟨t119, t120, t121, t122, t123, t124⟩ : S28), t125⟩ : S32)); (case aB => exact (by repeat (first | (with_reducible first | exact HB.out | apply below_alloc | apply pw_below_drewN | apply below_drew1) | exact HB.out))); (case aF => exact (fun _ _ => trivial)); (case aO => exact (by (with_reducible repeat (first | apply Kd.R_alloc | apply Kd.R_drewN | apply Kd.R_drew)); exact HO_3.out)); (case aS => exact (below_size (by repeat (first | (with_reducible first | exact HB.out | apply below_alloc | apply pw_below_drewN | apply below_drew1) | exact HB.out)))); (case aL => have := LMc6.out; omega); intro v127 w8 ho hb hg hat; rw [← Ny126.out] at ho; have n0_ := Aside0.mk (hb); have n1_ := Aside0.mk (ho); clear HB; clear HO_3; have HB := n0_; have HO128 := n1_; clear n0_ n1_; clear ho hb hg hat))
              go_roundg k1
              case measure => have := HK1.out; omega
              case rel => exact ⟨(y126), (wrap64 (x4_1 + 1)), (by first | rfl | (simp; done) | (simp [*]; done)), H', ⟨by have := HK1.out; omega⟩, ⟨by (with_reducible repeat (first | apply Kd.R_alloc | apply Kd.R_drewN | apply Kd.R_drew)); exact HO128.out⟩, ⟨by repeat (first | (with_reducible first | exact HB.out | apply below_alloc | apply pw_below_drewN | apply below_drew1) | exact HB.out)⟩⟩
            · rw [if_neg c6] at H
              exact absurd H (by simp)
          · rw [if_neg c4] at H
            exact absurd H (by simp)
        · rw [if_neg c3] at H
          have c3b0 : decide (x4_1 < 12) = false := decide_eq_false c3
          clear c3
          obtain rfl := Option.some.inj H
          go_wp2
          go_ret
          exact ⟨_, by first | rfl | (simp [errW_none, errW_some] <;> rfl) | (simp [*, errW_none, errW_some] <;> rfl), by (with_reducible repeat (first | apply Kd.R_alloc | apply Kd.R_drewN | apply Kd.R_drew)); exact HO_3.out, by repeat (first | (with_reducible first | exact HB.out | apply below_alloc | apply pw_below_drewN | apply below_drew1) | exact HB.out)⟩
      · rw [if_neg c2] at H
        have c2b0 : decide (x4_1 < (l0.length : Int)) = false := decide_eq_false c2
        clear c2
        obtain rfl := Option.some.inj H
        go_wp2
        go_ret
        exact ⟨_, by first | rfl | (simp [errW_none, errW_some] <;> rfl) | (simp [*, errW_none, errW_some] <;> rfl), by (with_reducible repeat (first | apply Kd.R_alloc | apply Kd.R_drewN | apply Kd.R_drew)); exact HO_3.out, by repeat (first | (with_reducible first | exact HB.out | apply below_alloc | apply pw_below_drewN | apply below_drew1) | exact HB.out)⟩

/-! ### lookasideref12_Good: function 47 -/
def lookasideref12_Good.f (k : Nat) (a0_0 : Int) (a0_1 : Int) (a0_2 : Int) (a0_3 : Bool) (a0_4 : Bool) (a0_5 : Bool) (a0_6 : Bool) (a0_7 : Bool) (a0_8 : Bool) (a0_9 : Bool) (a0_10 : Bool) : Option (Int × Int × Int × Bool × Bool × Bool × Bool × Bool × Bool × Bool × Bool) := if a0_1 < 0 then ((lookasideref02_Va.f k a0_0).bind fun t131 => ((lookasideref02_Base.f t131 (Int.tmod (wrap64 (-(wrap64 (a0_1 + 1)))) 4)).bind fun t132 => ((lookasideref02_Base.f (Int.tmod a0_2 2199023255552) (Int.tmod (wrap64 (-(wrap64 (a0_1 + 1)))) 4)).bind fun t133 => (some (t132, Int.tmod (wrap64 (-(wrap64 (a0_1 + 1)))) 4, t133, a0_3, a0_4, a0_5, a0_6, a0_7, a0_8, a0_9, a0_10))))) else ((lookasideref02_Va.f k a0_0).bind fun t134 => ((lookasideref02_Base.f t134 (Int.tmod a0_1 4)).bind fun t135 => ((lookasideref02_Base.f (Int.tmod a0_2 2199023255552) (Int.tmod a0_1 4)).bind fun t136 => (some (t135, Int.tmod a0_1 4, t136, a0_3, a0_4, a0_5, a0_6, a0_7, a0_8, a0_9, a0_10)))))
def lookasideref12_Good.T5 : Bool × List (List Nat × List Nat) := (true, [([], []), ([0], [0]), ([1], [1]), ([], []), ([3], [3]), ([2, 4, 2], [2, 4]), ([0, 1, 2, 3, 4, 5], []), ([6, 5, 5, 0, 1, 2, 3, 4, 5], [5, 6])])
def lookasideref12_Good.B5 : List Nat := [0, 1, 3, 0, 8, 31, 63, 127]
theorem lookasideref12_Good.tab5 : rtab .any (opsOf Try.f47 5) = lookasideref12_Good.T5 := by kernel_rfl
theorem lookasideref12_Good.bits5 : waitsOk lookasideref12_Good.T5.2 lookasideref12_Good.B5 = true := by kernel_rfl
set_option maxHeartbeats 8000000 in
set_option maxRecDepth 100000 in
theorem lookasideref12_Good.calls (k : Nat) (a0_0 : Int) (a0_1 : Int) (a0_2 : Int) (a0_3 : Bool) (a0_4 : Bool) (a0_5 : Bool) (a0_6 : Bool) (a0_7 : Bool) (a0_8 : Bool) (a0_9 : Bool) (a0_10 : Bool) (r1 : Int) (r2 : Int) (r3 : Int) (r4 : Bool) (r5 : Bool) (r6 : Bool) (r7 : Bool) (r8 : Bool) (r9 : Bool) (r10 : Bool) (r11 : Bool) (w : World) (h : lookasideref12_Good.f k a0_0 a0_1 a0_2 a0_3 a0_4 a0_5 a0_6 a0_7 a0_8 a0_9 a0_10 = some (r1, r2, r3, r4, r5, r6, r7, r8, r9, r10, r11)) :
    Calls Try.prog 47 #[.agg #[.int .u64 a0_0, .int .i64 a0_1, .int .u64 a0_2, .bool a0_3, .bool a0_4, .bool a0_5, .bool a0_6, .bool a0_7, .bool a0_8, .bool a0_9, .bool a0_10]] w fun e w' => e = .returned (.agg #[.int .u64 r1, .int .i64 r2, .int .u64 r3, .bool r4, .bool r5, .bool r6, .bool r7, .bool r8, .bool r9, .bool r10, .bool r11]) ∧ Below w.heap.size w w' := by
  have hu30 := Try.underlying30
  have HB := Aside0.mk (Below.refl w.heap.size w)
  have H : (if a0_1 < 0 then ((lookasideref02_Va.f k a0_0).bind fun t131 => ((lookasideref02_Base.f t131 (Int.tmod (wrap64 (-(wrap64 (a0_1 + 1)))) 4)).bind fun t132 => ((lookasideref02_Base.f (Int.tmod a0_2 2199023255552) (Int.tmod (wrap64 (-(wrap64 (a0_1 + 1)))) 4)).bind fun t133 => (some (t132, Int.tmod (wrap64 (-(wrap64 (a0_1 + 1)))) 4, t133, a0_3, a0_4, a0_5, a0_6, a0_7, a0_8, a0_9, a0_10))))) else ((lookasideref02_Va.f k a0_0).bind fun t134 => ((lookasideref02_Base.f t134 (Int.tmod a0_1 4)).bind fun t135 => ((lookasideref02_Base.f (Int.tmod a0_2 2199023255552) (Int.tmod a0_1 4)).bind fun t136 => (some (t135, Int.tmod a0_1 4, t136, a0_3, a0_4, a0_5, a0_6, a0_7, a0_8, a0_9, a0_10)))))) = some (r1, r2, r3, r4, r5, r6, r7, r8, r9, r10, r11) := h
  clear h
  by_cases c2 : a0_1 < 0
  · rw [if_pos c2] at H
    have c2b0 : decide (a0_1 < 0) = true := decide_eq_true c2
    clear c2
    replace H := Option.bind_eq_some_iff.mp H
    obtain ⟨t131, A30, H⟩ := H
    replace H : ((lookasideref02_Base.f t131 (Int.tmod (wrap64 (-(wrap64 (a0_1 + 1)))) 4)).bind fun t132 => ((lookasideref02_Base.f (Int.tmod a0_2 2199023255552) (Int.tmod (wrap64 (-(wrap64 (a0_1 + 1)))) 4)).bind fun t133 => (some (t132, Int.tmod (wrap64 (-(wrap64 (a0_1 + 1)))) 4, t133, a0_3, a0_4, a0_5, a0_6, a0_7, a0_8, a0_9, a0_10)))) = some (r1, r2, r3, r4, r5, r6, r7, r8, r9, r10, r11) := H
    have A3 := Aside0.mk A30
    clear A30
    replace H := Option.bind_eq_some_iff.mp H
    obtain ⟨t132, A40, H⟩ := H
    replace H : ((lookasideref02_Base.f (Int.tmod a0_2 2199023255552) (Int.tmod (wrap64 (-(wrap64 (a0_1 + 1)))) 4)).bind fun t133 => (some (t132, Int.tmod (wrap64 (-(wrap64 (a0_1 + 1)))) 4, t133, a0_3, a0_4, a0_5, a0_6, a0_7, a0_8, a0_9, a0_10))) = some (r1, r2, r3, r4, r5, r6, r7, r8, r9, r10, r11) := H
    have A4 := Aside0.mk A40
    clear A40
    replace H := Option.bind_eq_some_iff.mp H
    obtain ⟨t133, A50, H⟩ := H
    replace H : (some (t132, Int.tmod (wrap64 (-(wrap64 (a0_1 + 1)))) 4, t133, a0_3, a0_4, a0_5, a0_6, a0_7, a0_8, a0_9, a0_10)) = some (r1, r2, r3, r4, r5, r6, r7, r8, r9, r10, r11) := H
    have A5 := Aside0.mk A50
    clear A50
    simp only [Option.some.injEq, Prod.mk.injEq] at H
    obtain ⟨rfl, rfl, rfl, rfl, rfl, rfl, rfl, rfl, rfl, rfl, rfl⟩ := H
    go_enter Try.func47, Try.ntmps47
    try go_wp2_with (first | ((with_reducible refine gate_dst (N := 1) rfl ?_); refine box_event ?hg (N := 1) ?hd (cs := #[.int .u64 a0_0, .int .i64 a0_1, .int .u64 a0_2, .bool a0_3, .bool a0_4, .bool a0_5, .bool a0_6, .bool a0_7, .bool a0_8, .bool a0_9, .bool a0_10]) (t := 30) ?hr ?_; (case hd => rfl); (case hg => rfl); (case hr => first | (go_simp; done) | (go_simp; rfl)); intro gb129 hg w6 hbox hb; have n0_ := Aside0.mk (below_step (by repeat (first | (with_reducible first | exact HB.out | apply below_alloc | apply pw_below_drewN | apply below_drew1) | exact HB.out)) hb); have n1_ := Aside0.mk (hbox); have n2_ := Aside0.mk ((by rw [hg]; exact (below_size (by repeat (first | (with_reducible first | exact HB.out | apply below_alloc | apply pw_below_drewN | apply below_drew1) | exact HB.out))) : w.heap.size ≤ gb129)); have n3_ := Aside0.mk ((by rw [hg]; exact (below_size (by repeat (first | (with_reducible first | exact HB.out | apply below_alloc | apply pw_below_drewN | apply below_drew1) | exact HB.out))) : w.heap.size ≤ gb129)); clear HB; have HB := n0_; have BK129 := n1_; have GW129 := n2_; have GE129 := n3_; clear n0_ n1_ n2_ n3_; clear hb hbox hg) | ((with_reducible refine gate_dst (N := 2) rfl ?_); refine box_event ?hg (N := 2) ?hd (cs := #[.int .u64 0, .int .i64 0, .int .u64 0, .bool false, .bool false, .bool false, .bool false, .bool false, .bool false, .bool false, .bool false]) (t := 30) ?hr ?_; (case hd => rfl); (case hg => rfl); (case hr => first | (go_simp; done) | (go_simp; rfl)); intro gb130 hg w7 hbox hb; have n0_ := Aside0.mk (blk_below (g := gb129) (o := .cells #[.int .u64 a0_0, .int .i64 a0_1, .int .u64 a0_2, .bool a0_3, .bool a0_4, .bool a0_5, .bool a0_6, .bool a0_7, .bool a0_8, .bool a0_9, .bool a0_10] 30 (0, 0)) (by (with_reducible repeat (first | refine blk_drewN ?_ _ | refine blk_drew ?_ | refine blk_alloc ?_ _)); exact BK129.out) hb); have n1_ := Aside0.mk (below_step (by repeat (first | (with_reducible first | exact HB.out | apply below_alloc | apply pw_below_drewN | apply below_drew1 | refine below_set ?_ GE129.out) | exact HB.out)) hb); have n2_ := Aside0.mk (hbox); have n3_ := Aside0.mk ((by rw [hg]; exact (below_size (by repeat (first | (with_reducible first | exact HB.out | apply below_alloc | apply pw_below_drewN | apply below_drew1 | refine below_set ?_ GE129.out) | exact HB.out))) : w.heap.size ≤ gb130)); have n4_ := Aside0.mk ((by rw [hg]; exact (below_size (by repeat (first | (with_reducible first | exact HB.out | apply below_alloc | apply pw_below_drewN | apply below_drew1 | refine below_set ?_ GE129.out) | exact HB.out))) : w.heap.size ≤ gb130)); have n5_ := Aside0.mk ((by rw [hg]; exact Nat.ne_of_lt (blk_lt (g := gb129) (o := .cells #[.int .u64 a0_0, .int .i64 a0_1, .int .u64 a0_2, .bool a0_3, .bool a0_4, .bool a0_5, .bool a0_6, .bool a0_7, .bool a0_8, .bool a0_9, .bool a0_10] 30 (0, 0)) (by (with_reducible repeat (first | refine blk_drewN ?_ _ | refine blk_drew ?_ | refine blk_alloc ?_ _)); exact BK129.out)) : gb129 ≠ gb130)); have n6_ := Aside0.mk ((by rw [hg]; exact Nat.ne_of_gt (blk_lt (g := gb129) (o := .cells #[.int .u64 a0_0, .int .i64 a0_1, .int .u64 a0_2, .bool a0_3, .bool a0_4, .bool a0_5, .bool a0_6, .bool a0_7, .bool a0_8, .bool a0_9, .bool a0_10] 30 (0, 0)) (by (with_reducible repeat (first | refine blk_drewN ?_ _ | refine blk_drew ?_ | refine blk_alloc ?_ _)); exact BK129.out)) : gb130 ≠ gb129)); clear BK129; clear HB; have BK129 := n0_; have HB := n1_; have BK130 := n2_; have GW130 := n3_; have GE130 := n4_; have NB129_130 := n5_; have NB130_129 := n6_; clear n0_ n1_ n2_ n3_ n4_ n5_ n6_; clear hb hbox hg; have hnb8 := NB129_130.out; have hnc8 := NB130_129.out; have hcz9_0 : w7.cell? ⟨gb129, 0, none⟩ = some (.int .u64 a0_0) := (blk_cell BK129.out 0).trans rfl; have hcz9_1 : w7.cell? ⟨gb129, 1, none⟩ = some (.int .i64 a0_1) := (blk_cell BK129.out 1).trans rfl; have hcz9_2 : w7.cell? ⟨gb129, 2, none⟩ = some (.int .u64 a0_2) := (blk_cell BK129.out 2).trans rfl; have hcz9_3 : w7.cell? ⟨gb129, 3, none⟩ = some (.bool a0_3) := (blk_cell BK129.out 3).trans rfl; have hcz9_4 : w7.cell? ⟨gb129, 4, none⟩ = some (.bool a0_4) := (blk_cell BK129.out 4).trans rfl; have hcz9_5 : w7.cell? ⟨gb129, 5, none⟩ = some (.bool a0_5) := (blk_cell BK129.out 5).trans rfl; have hcz9_6 : w7.cell? ⟨gb129, 6, none⟩ = some (.bool a0_6) := (blk_cell BK129.out 6).trans rfl; have hcz9_7 : w7.cell? ⟨gb129, 7, none⟩ = some (.bool a0_7) := (blk_cell BK129.out 7).trans rfl; have hcz9_8 : w7.cell? ⟨gb129, 8, none⟩ = some (.bool a0_8) := (blk_cell BK129.out 8).trans rfl; have hcz9_9 : w7.cell? ⟨gb129, 9, none⟩ = some (.bool a0_9) := (blk_cell BK129.out 9).trans rfl; have hcz9_10 : w7.cell? ⟨gb129, 10, none⟩ = some (.bool a0_10) := (blk_cell BK129.out 10).trans rfl; have hfz9_0 := blk_frozen BK129.out 0; have hfz9_1 := blk_frozen BK129.out 1; have hfz9_2 := blk_frozen BK129.out 2; have hfz9_3 := blk_frozen BK129.out 3; have hfz9_4 := blk_frozen BK129.out 4; have hfz9_5 := blk_frozen BK129.out 5; have hfz9_6 := blk_frozen BK129.out 6; have hfz9_7 := blk_frozen BK129.out 7; have hfz9_8 := blk_frozen BK129.out 8; have hfz9_9 := blk_frozen BK129.out 9; have hfz9_10 := blk_frozen BK129.out 10))
    have n0_ : Aside0 ((w7.setCell ⟨gb129, 1, none⟩ (.int .i64 (Int.tmod (wrap64 (-(wrap64 (a0_1 + 1)))) 4))).heap[gb129]? = some (.cells #[.int .u64 a0_0, .int .i64 (Int.tmod (wrap64 (-(wrap64 (a0_1 + 1)))) 4), .int .u64 a0_2, .bool a0_3, .bool a0_4, .bool a0_5, .bool a0_6, .bool a0_7, .bool a0_8, .bool a0_9, .bool a0_10] 30 (0, 0))) := ⟨by (with_reducible repeat (first | refine blk_drewN ?_ _ | refine blk_drew ?_ | refine blk_alloc ?_ _)); refine blk_put (cs := #[.int .u64 a0_0, .int .i64 a0_1, .int .u64 a0_2, .bool a0_3, .bool a0_4, .bool a0_5, .bool a0_6, .bool a0_7, .bool a0_8, .bool a0_9, .bool a0_10]) ?_ 1 _ rfl; (with_reducible repeat (first | refine blk_drewN ?_ _ | refine blk_drew ?_ | refine blk_alloc ?_ _)); exact BK129.out⟩
    have n1_ : Aside0 ((w7.setCell ⟨gb129, 1, none⟩ (.int .i64 (Int.tmod (wrap64 (-(wrap64 (a0_1 + 1)))) 4))).heap[gb130]? = some (.cells #[.int .u64 0, .int .i64 0, .int .u64 0, .bool false, .bool false, .bool false, .bool false, .bool false, .bool false, .bool false, .bool false] 30 (0, 0))) := ⟨by (with_reducible repeat (first | refine blk_drewN ?_ _ | refine blk_drew ?_ | refine blk_alloc ?_ _)); refine blk_far ?_ NB130_129.out _; (with_reducible repeat (first | refine blk_drewN ?_ _ | refine blk_drew ?_ | refine blk_alloc ?_ _)); exact BK130.out⟩
    have n2_ : Aside0 (Below w.heap.size w (w7.setCell ⟨gb129, 1, none⟩ (.int .i64 (Int.tmod (wrap64 (-(wrap64 (a0_1 + 1)))) 4)))) := ⟨by repeat (first | (with_reducible first | exact HB.out | apply below_alloc | apply pw_below_drewN | apply below_drew1 | refine below_set ?_ GE129.out | refine below_set ?_ GE130.out) | exact HB.out)⟩
    (try clear BK129)
    (try clear BK130)
    (try clear HB)
    generalize (w7.setCell ⟨gb129, 1, none⟩ (.int .i64 (Int.tmod (wrap64 (-(wrap64 (a0_1 + 1)))) 4))) = w10 at n0_ n1_ n2_ ⊢
    have BK129 := n0_
    have BK130 := n1_
    have HB := n2_
    clear n0_ n1_ n2_
    have n0_ := Aside0.mk (blk_drew BK129.out)
    have n1_ := Aside0.mk (blk_drew BK130.out)
    have n2_ := Aside0.mk (below_drew1 HB.out)
    clear BK129
    clear BK130
    clear HB
    have BK129 := n0_
    have BK130 := n1_
    have HB := n2_
    clear n0_ n1_ n2_
    refine start_ (n := 8) (S := fun w' => w'.cell? ⟨gb129, 0, none⟩ = some (.int .u64 a0_0) ∧ w'.cell? ⟨gb129, 1, none⟩ = some (.int .i64 (Int.tmod (wrap64 (-(wrap64 (a0_1 + 1)))) 4)) ∧ w'.cell? ⟨gb129, 2, none⟩ = some (.int .u64 a0_2) ∧ w'.cell? ⟨gb129, 3, none⟩ = some (.bool a0_3) ∧ w'.cell? ⟨gb129, 4, none⟩ = some (.bool a0_4) ∧ w'.cell? ⟨gb129, 5, none⟩ = some (.bool a0_5) ∧ w'.cell? ⟨gb129, 6, none⟩ = some (.bool a0_6) ∧ w'.cell? ⟨gb129, 7, none⟩ = some (.bool a0_7) ∧ w'.cell? ⟨gb129, 8, none⟩ = some (.bool a0_8) ∧ w'.cell? ⟨gb129, 9, none⟩ = some (.bool a0_9) ∧ w'.cell? ⟨gb129, 10, none⟩ = some (.bool a0_10)) (ds := [7]) #[false, false, false, false, false, false, false, false] (by kernel_rfl) rfl rfl ⟨(blk_cell BK129.out 0).trans rfl, (blk_cell BK129.out 1).trans rfl, (blk_cell BK129.out 2).trans rfl, (blk_cell BK129.out 3).trans rfl, (blk_cell BK129.out 4).trans rfl, (blk_cell BK129.out 5).trans rfl, (blk_cell BK129.out 6).trans rfl, (blk_cell BK129.out 7).trans rfl, (blk_cell BK129.out 8).trans rfl, (blk_cell BK129.out 9).trans rfl, (blk_cell BK129.out 10).trans rfl⟩ (fun hHeld => ?_); refine with_tabW lookasideref12_Good.tab5 lookasideref12_Good.bits5 (fun HT_ HW_ => ?_)
    generalize w10.drew = w11 at BK129 BK130 HB hHeld ⊢
    refine pure_ (i := 0) (N := some 14) (v := ?_) (a' := ?_) #[true, false, false, false, false, false, false, false] rfl rfl (any_of HT_.out (by kernel_rfl)) (fun _ _ _ h => h) (Or.inl ⟨by rfl, ?_⟩) ?_ ?_
    rotate_left
    · intro w'
      go_simp
      with_reducible rfl
    rotate_left
    · simp only [Act.put, List.setIfInBounds_toArray, List.set_cons_zero, List.set_cons_succ, i64_w, i32_w]
      rfl
    refine pure_ (i := 3) (N := some 17) (v := ?_) (a' := ?_) #[true, false, false, true, false, false, false, false] rfl rfl (any_of HT_.out (by kernel_rfl)) (fun _ _ _ h => h) (Or.inl ⟨by rfl, ?_⟩) ?_ ?_
    rotate_left
    · intro w'
      go_simp
      with_reducible rfl
    rotate_left
    · simp only [Act.put, List.setIfInBounds_toArray, List.set_cons_zero, List.set_cons_succ, i64_w, i32_w]
      rfl
    refine take_ (i := 1) (N := some 15) (v := ?_) (a' := ?_) #[true, true, false, true, false, false, false, false] rfl rfl (take_ofW HT_.out HW_.out (by kernel_rfl)) (fun _ _ _ h => h) (Or.inl ⟨by rfl, ?_⟩) hHeld ?_ ?_
    rotate_left
    · rintro w' ⟨s0, s1, s2, s3, s4, s5, s6, s7, s8, s9, s10⟩
      go_simp
      with_reducible rfl
    rotate_left
    · simp only [Act.put, List.setIfInBounds_toArray, List.set_cons_zero, List.set_cons_succ, i64_w, i32_w]
      rfl
    refine take_ (i := 4) (N := some 18) (v := ?_) (a' := ?_) #[true, true, false, true, true, false, false, false] rfl rfl (take_ofW HT_.out HW_.out (by kernel_rfl)) (fun _ _ _ h => h) (Or.inl ⟨by rfl, ?_⟩) hHeld ?_ ?_
    rotate_left
    · rintro w' ⟨s0, s1, s2, s3, s4, s5, s6, s7, s8, s9, s10⟩
      go_simp
      with_reducible rfl
    rotate_left
    · simp only [Act.put, List.setIfInBounds_toArray, List.set_cons_zero, List.set_cons_succ, i64_w, i32_w]
      rfl
    refine one_ (i := 2) (N := some 16) #[true, true, true, true, true, false, false, false] rfl rfl (one_of HT_.out (by kernel_rfl)) (by decide) (fun K hK => ?_)
    refine goes_ Try.func54 (by kernel_rfl) rfl #[.int .u64 a0_0] (by rfl) rfl rfl (by (try simp only [List.map_toArray, List.map_cons, List.map_nil]); first | done | rfl | (simp only [List.length_drop, List.length_take]; rfl)) ?_
    with_reducible refine (lookasideref02_Va.calls k a0_0 t131 _ A3.out).mono ?_
    rintro e w' ⟨rfl, ⟨nd, rfl⟩⟩
    refine ⟨_, rfl, ?_⟩
    refine hK.out _ _ ⟨(blk_cell BK129.out 0).trans rfl, (blk_cell BK129.out 1).trans rfl, (blk_cell BK129.out 2).trans rfl, (blk_cell BK129.out 3).trans rfl, (blk_cell BK129.out 4).trans rfl, (blk_cell BK129.out 5).trans rfl, (blk_cell BK129.out 6).trans rfl, (blk_cell BK129.out 7).trans rfl, (blk_cell BK129.out 8).trans rfl, (blk_cell BK129.out 9).trans rfl, (blk_cell BK129.out 10).trans rfl⟩ (fun hHeld => ?_)
    clear hK K
    refine norm_ (a' := ?_) ?_ ?_
    rotate_left
    · show Act.put _ (some 16) _ = _
      simp only [Act.put, List.setIfInBounds_toArray, List.set_cons_zero, List.set_cons_succ, i64_w, i32_w]
      rfl
    refine one_ (i := 5) (N := some 19) #[true, true, true, true, true, true, false, false] rfl rfl (one_of HT_.out (by kernel_rfl)) (by decide) (fun K hK => ?_)
    refine goes_ Try.func27 (by kernel_rfl) rfl #[.int .u64 t131, .int .i64 (Int.tmod (wrap64 (-(wrap64 (a0_1 + 1)))) 4)] (by rfl) rfl rfl (by (try simp only [List.map_toArray, List.map_cons, List.map_nil]); first | done | rfl | (simp only [List.length_drop, List.length_take]; rfl)) ?_
    with_reducible refine (lookasideref02_Base.calls t131 (Int.tmod (wrap64 (-(wrap64 (a0_1 + 1)))) 4) t132 _ A4.out).mono ?_
    rintro e w' ⟨rfl, ⟨nd, rfl⟩⟩
    refine ⟨_, rfl, ?_⟩
    refine hK.out _ _ ⟨(blk_cell BK129.out 0).trans rfl, (blk_cell BK129.out 1).trans rfl, (blk_cell BK129.out 2).trans rfl, (blk_cell BK129.out 3).trans rfl, (blk_cell BK129.out 4).trans rfl, (blk_cell BK129.out 5).trans rfl, (blk_cell BK129.out 6).trans rfl, (blk_cell BK129.out 7).trans rfl, (blk_cell BK129.out 8).trans rfl, (blk_cell BK129.out 9).trans rfl, (blk_cell BK129.out 10).trans rfl⟩ (fun hHeld => ?_)
    clear hK K
    refine norm_ (a' := ?_) ?_ ?_
    rotate_left
    · show Act.put _ (some 19) _ = _
      simp only [Act.put, List.setIfInBounds_toArray, List.set_cons_zero, List.set_cons_succ, i64_w, i32_w]
      rfl
    refine pure_ (i := 6) (N := some 20) (v := ?_) (a' := ?_) #[true, true, true, true, true, true, true, false] rfl rfl (any_of HT_.out (by kernel_rfl)) (fun _ _ _ h => h) (Or.inl ⟨by rfl, ?_⟩) ?_ ?_
    rotate_left
    · intro w'
      go_simp
      with_reducible rfl
    rotate_left
    · simp only [Act.put, List.setIfInBounds_toArray, List.set_cons_zero, List.set_cons_succ, i64_w, i32_w]
      rfl
    refine last_ (i := 7) (N := none) #[true, true, true, true, true, true, true, true] rfl rfl (one_of HT_.out (by kernel_rfl)) (by decide) (fun K hK => ?_)
    have hs12 : w11.cell? ⟨gb129, 0, none⟩ = some (.int .u64 a0_0) := (blk_cell BK129.out 0).trans rfl
    have hfs12 := blk_frozen BK129.out 0
    have hns12_1 := NB130_129.out
    have hms12_1 := NB129_130.out
    refine skip_ (w1 := ?_) (by rfl) rfl ?_ ?_
    rotate_left
    · go_simp
      rfl
    refine hK.out _ _ ?_
    clear hK K
    refine done_ (done_of HT_.out (by kernel_rfl)) ?_
    have hcz13_0 : w11.cell? ⟨gb129, 0, none⟩ = some (.int .u64 a0_0) := (blk_cell BK129.out 0).trans rfl
    have hcz13_1 : w11.cell? ⟨gb129, 1, none⟩ = some (.int .i64 (Int.tmod (wrap64 (-(wrap64 (a0_1 + 1)))) 4)) := (blk_cell BK129.out 1).trans rfl
    have hcz13_2 : w11.cell? ⟨gb129, 2, none⟩ = some (.int .u64 a0_2) := (blk_cell BK129.out 2).trans rfl
    have hcz13_3 : w11.cell? ⟨gb129, 3, none⟩ = some (.bool a0_3) := (blk_cell BK129.out 3).trans rfl
    have hcz13_4 : w11.cell? ⟨gb129, 4, none⟩ = some (.bool a0_4) := (blk_cell BK129.out 4).trans rfl
    have hcz13_5 : w11.cell? ⟨gb129, 5, none⟩ = some (.bool a0_5) := (blk_cell BK129.out 5).trans rfl
    have hcz13_6 : w11.cell? ⟨gb129, 6, none⟩ = some (.bool a0_6) := (blk_cell BK129.out 6).trans rfl
    have hcz13_7 : w11.cell? ⟨gb129, 7, none⟩ = some (.bool a0_7) := (blk_cell BK129.out 7).trans rfl
    have hcz13_8 : w11.cell? ⟨gb129, 8, none⟩ = some (.bool a0_8) := (blk_cell BK129.out 8).trans rfl
    have hcz13_9 : w11.cell? ⟨gb129, 9, none⟩ = some (.bool a0_9) := (blk_cell BK129.out 9).trans rfl
    have hcz13_10 : w11.cell? ⟨gb129, 10, none⟩ = some (.bool a0_10) := (blk_cell BK129.out 10).trans rfl
    have hfz13_0 := blk_frozen BK129.out 0
    have hfz13_1 := blk_frozen BK129.out 1
    have hfz13_2 := blk_frozen BK129.out 2
    have hfz13_3 := blk_frozen BK129.out 3
    have hfz13_4 := blk_frozen BK129.out 4
    have hfz13_5 := blk_frozen BK129.out 5
    have hfz13_6 := blk_frozen BK129.out 6
    have hfz13_7 := blk_frozen BK129.out 7
    have hfz13_8 := blk_frozen BK129.out 8
    have hfz13_9 := blk_frozen BK129.out 9
    have hfz13_10 := blk_frozen BK129.out 10
    try go_wp2_with (first | ((with_reducible refine gate_callee (f := 27) rfl ?_); refine goesL_ (some 26) rfl rfl Try.func27 (by kernel_rfl) rfl #[.int .u64 (Int.tmod a0_2 2199023255552), .int .i64 (Int.tmod (wrap64 (-(wrap64 (a0_1 + 1)))) 4)] rfl (by (try simp only [List.map_toArray, List.map_cons, List.map_nil]); first | done | rfl | (simp only [List.length_drop, List.length_take]; rfl)) ?_; (with_reducible refine (lookasideref02_Base.calls (Int.tmod a0_2 2199023255552) (Int.tmod (wrap64 (-(wrap64 (a0_1 + 1)))) 4) t133 _ A5.out).mono ?_); rintro e w' ⟨rfl, ⟨nd, rfl⟩⟩; refine ⟨_, rfl, ?_⟩; have hcz14_0 : w11.cell? ⟨gb130, 0, none⟩ = some (.int .u64 0) := (blk_cell BK130.out 0).trans rfl; have hcz14_1 : w11.cell? ⟨gb130, 1, none⟩ = some (.int .i64 0) := (blk_cell BK130.out 1).trans rfl; have hcz14_2 : w11.cell? ⟨gb130, 2, none⟩ = some (.int .u64 0) := (blk_cell BK130.out 2).trans rfl; have hcz14_3 : w11.cell? ⟨gb130, 3, none⟩ = some (.bool false) := (blk_cell BK130.out 3).trans rfl; have hcz14_4 : w11.cell? ⟨gb130, 4, none⟩ = some (.bool false) := (blk_cell BK130.out 4).trans rfl; have hcz14_5 : w11.cell? ⟨gb130, 5, none⟩ = some (.bool false) := (blk_cell BK130.out 5).trans rfl; have hcz14_6 : w11.cell? ⟨gb130, 6, none⟩ = some (.bool false) := (blk_cell BK130.out 6).trans rfl; have hcz14_7 : w11.cell? ⟨gb130, 7, none⟩ = some (.bool false) := (blk_cell BK130.out 7).trans rfl; have hcz14_8 : w11.cell? ⟨gb130, 8, none⟩ = some (.bool false) := (blk_cell BK130.out 8).trans rfl; have hcz14_9 : w11.cell? ⟨gb130, 9, none⟩ = some (.bool false) := (blk_cell BK130.out 9).trans rfl; have hcz14_10 : w11.cell? ⟨gb130, 10, none⟩ = some (.bool false) := (blk_cell BK130.out 10).trans rfl; have hfz14_0 := blk_frozen BK130.out 0; have hfz14_1 := blk_frozen BK130.out 1; have hfz14_2 := blk_frozen BK130.out 2; have hfz14_3 := blk_frozen BK130.out 3; have hfz14_4 := blk_frozen BK130.out 4; have hfz14_5 := blk_frozen BK130.out 5; have hfz14_6 := blk_frozen BK130.out 6; have hfz14_7 := blk_frozen BK130.out 7; have hfz14_8 := blk_frozen BK130.out 8; have hfz14_9 := blk_frozen BK130.out 9; have hfz14_10 := blk_frozen BK130.out 10))
    refine bodyPost_ret (results_cell_row rfl _ _ gb130 30 #[.int .u64 t132, .int .i64 (Int.tmod (wrap64 (-(wrap64 (a0_1 + 1)))) 4), .int .u64 t133, .bool a0_3, .bool a0_4, .bool a0_5, .bool a0_6, .bool a0_7, .bool a0_8, .bool a0_9, .bool a0_10] (0, 0) _ rfl (by (with_reducible repeat (first | refine blk_drewN ?_ _ | refine blk_drew ?_ | refine blk_alloc ?_ _)); refine blk_put (cs := #[.int .u64 t132, .int .i64 (Int.tmod (wrap64 (-(wrap64 (a0_1 + 1)))) 4), .int .u64 t133, .bool a0_3, .bool a0_4, .bool a0_5, .bool a0_6, .bool a0_7, .bool a0_8, .bool a0_9, .bool false]) ?_ 10 _ rfl; (with_reducible repeat (first | refine blk_drewN ?_ _ | refine blk_drew ?_ | refine blk_alloc ?_ _)); refine blk_put (cs := #[.int .u64 t132, .int .i64 (Int.tmod (wrap64 (-(wrap64 (a0_1 + 1)))) 4), .int .u64 t133, .bool a0_3, .bool a0_4, .bool a0_5, .bool a0_6, .bool a0_7, .bool a0_8, .bool false, .bool false]) ?_ 9 _ rfl; (with_reducible repeat (first | refine blk_drewN ?_ _ | refine blk_drew ?_ | refine blk_alloc ?_ _)); refine blk_put (cs := #[.int .u64 t132, .int .i64 (Int.tmod (wrap64 (-(wrap64 (a0_1 + 1)))) 4), .int .u64 t133, .bool a0_3, .bool a0_4, .bool a0_5, .bool a0_6, .bool a0_7, .bool false, .bool false, .bool false]) ?_ 8 _ rfl; (with_reducible repeat (first | refine blk_drewN ?_ _ | refine blk_drew ?_ | refine blk_alloc ?_ _)); refine blk_put (cs := #[.int .u64 t132, .int .i64 (Int.tmod (wrap64 (-(wrap64 (a0_1 + 1)))) 4), .int .u64 t133, .bool a0_3, .bool a0_4, .bool a0_5, .bool a0_6, .bool false, .bool false, .bool false, .bool false]) ?_ 7 _ rfl; (with_reducible repeat (first | refine blk_drewN ?_ _ | refine blk_drew ?_ | refine blk_alloc ?_ _)); refine blk_put (cs := #[.int .u64 t132, .int .i64 (Int.tmod (wrap64 (-(wrap64 (a0_1 + 1)))) 4), .int .u64 t133, .bool a0_3, .bool a0_4, .bool a0_5, .bool false, .bool false, .bool false, .bool false, .bool false]) ?_ 6 _ rfl; (with_reducible repeat (first | refine blk_drewN ?_ _ | refine blk_drew ?_ | refine blk_alloc ?_ _)); refine blk_put (cs := #[.int .u64 t132, .int .i64 (Int.tmod (wrap64 (-(wrap64 (a0_1 + 1)))) 4), .int .u64 t133, .bool a0_3, .bool a0_4, .bool false, .bool false, .bool false, .bool false, .bool false, .bool false]) ?_ 5 _ rfl; (with_reducible repeat (first | refine blk_drewN ?_ _ | refine blk_drew ?_ | refine blk_alloc ?_ _)); refine blk_put (cs := #[.int .u64 t132, .int .i64 (Int.tmod (wrap64 (-(wrap64 (a0_1 + 1)))) 4), .int .u64 t133, .bool a0_3, .bool false, .bool false, .bool false, .bool false, .bool false, .bool false, .bool false]) ?_ 4 _ rfl; (with_reducible repeat (first | refine blk_drewN ?_ _ | refine blk_drew ?_ | refine blk_alloc ?_ _)); refine blk_put (cs := #[.int .u64 t132, .int .i64 (Int.tmod (wrap64 (-(wrap64 (a0_1 + 1)))) 4), .int .u64 t133, .bool false, .bool false, .bool false, .bool false, .bool false, .bool false, .bool false, .bool false]) ?_ 3 _ rfl; (with_reducible repeat (first | refine blk_drewN ?_ _ | refine blk_drew ?_ | refine blk_alloc ?_ _)); refine blk_put (cs := #[.int .u64 t132, .int .i64 (Int.tmod (wrap64 (-(wrap64 (a0_1 + 1)))) 4), .int .u64 0, .bool false, .bool false, .bool false, .bool false, .bool false, .bool false, .bool false, .bool false]) ?_ 2 _ rfl; (with_reducible repeat (first | refine blk_drewN ?_ _ | refine blk_drew ?_ | refine blk_alloc ?_ _)); refine blk_put (cs := #[.int .u64 t132, .int .i64 0, .int .u64 0, .bool false, .bool false, .bool false, .bool false, .bool false, .bool false, .bool false, .bool false]) ?_ 1 _ rfl; (with_reducible repeat (first | refine blk_drewN ?_ _ | refine blk_drew ?_ | refine blk_alloc ?_ _)); refine blk_put (cs := #[.int .u64 0, .int .i64 0, .int .u64 0, .bool false, .bool false, .bool false, .bool false, .bool false, .bool false, .bool false, .bool false]) ?_ 0 _ rfl; (with_reducible repeat (first | refine blk_drewN ?_ _ | refine blk_drew ?_ | refine blk_alloc ?_ _)); refine blk_far ?_ NB130_129.out _; (with_reducible repeat (first | refine blk_drewN ?_ _ | refine blk_drew ?_ | refine blk_alloc ?_ _)); refine blk_far ?_ NB130_129.out _; (with_reducible repeat (first | refine blk_drewN ?_ _ | refine blk_drew ?_ | refine blk_alloc ?_ _)); exact BK130.out) Try.underlying30 rfl (by kernel_rfl)) rfl ?_
    exact ⟨by first | rfl | (simp [errW_none, errW_some] <;> rfl) | (simp [*, errW_none, errW_some] <;> rfl), by repeat (first | (with_reducible first | exact HB.out | apply below_alloc | apply pw_below_drewN | apply below_drew1 | refine below_set ?_ GE129.out | refine below_set ?_ GE130.out) | exact HB.out)⟩
  · rw [if_neg c2] at H
    have c2b0 : decide (a0_1 < 0) = false := decide_eq_false c2
    clear c2
    replace H := Option.bind_eq_some_iff.mp H
    obtain ⟨t134, A150, H⟩ := H
    replace H : ((lookasideref02_Base.f t134 (Int.tmod a0_1 4)).bind fun t135 => ((lookasideref02_Base.f (Int.tmod a0_2 2199023255552) (Int.tmod a0_1 4)).bind fun t136 => (some (t135, Int.tmod a0_1 4, t136, a0_3, a0_4, a0_5, a0_6, a0_7, a0_8, a0_9, a0_10)))) = some (r1, r2, r3, r4, r5, r6, r7, r8, r9, r10, r11) := H
    have A15 := Aside0.mk A150
    clear A150
    replace H := Option.bind_eq_some_iff.mp H
    obtain ⟨t135, A160, H⟩ := H
    replace H : ((lookasideref02_Base.f (Int.tmod a0_2 2199023255552) (Int.tmod a0_1 4)).bind fun t136 => (some (t135, Int.tmod a0_1 4, t136, a0_3, a0_4, a0_5, a0_6, a0_7, a0_8, a0_9, a0_10))) = some (r1, r2, r3, r4, r5, r6, r7, r8, r9, r10, r11) := H
    have A16 := Aside0.mk A160
    clear A160
    replace H := Option.bind_eq_some_iff.mp H
    obtain ⟨t136, A170, H⟩ := H
    replace H : (some (t135, Int.tmod a0_1 4, t136, a0_3, a0_4, a0_5, a0_6, a0_7, a0_8, a0_9, a0_10)) = some (r1, r2, r3, r4, r5, r6, r7, r8, r9, r10, r11) := H
    have A17 := Aside0.mk A170
    clear A170
    simp only [Option.some.injEq, Prod.mk.injEq] at H
    obtain ⟨rfl, rfl, rfl, rfl, rfl, rfl, rfl, rfl, rfl, rfl, rfl⟩ := H
    go_enter Try.func47, Try.ntmps47
    try go_wp2_with (first | ((with_reducible refine gate_dst (N := 1) rfl ?_); refine box_event ?hg (N := 1) ?hd (cs := #[.int .u64 a0_0, .int .i64 a0_1, .int .u64 a0_2, .bool a0_3, .bool a0_4, .bool a0_5, .bool a0_6, .bool a0_7, .bool a0_8, .bool a0_9, .bool a0_10]) (t := 30) ?hr ?_; (case hd => rfl); (case hg => rfl); (case hr => first | (go_simp; done) | (go_simp; rfl)); intro gb129 hg w18 hbox hb; have n0_ := Aside0.mk (below_step (by repeat (first | (with_reducible first | exact HB.out | apply below_alloc | apply pw_below_drewN | apply below_drew1) | exact HB.out)) hb); have n1_ := Aside0.mk (hbox); have n2_ := Aside0.mk ((by rw [hg]; exact (below_size (by repeat (first | (with_reducible first | exact HB.out | apply below_alloc | apply pw_below_drewN | apply below_drew1) | exact HB.out))) : w.heap.size ≤ gb129)); have n3_ := Aside0.mk ((by rw [hg]; exact (below_size (by repeat (first | (with_reducible first | exact HB.out | apply below_alloc | apply pw_below_drewN | apply below_drew1) | exact HB.out))) : w.heap.size ≤ gb129)); clear HB; have HB := n0_; have BK129 := n1_; have GW129 := n2_; have GE129 := n3_; clear n0_ n1_ n2_ n3_; clear hb hbox hg) | ((with_reducible refine gate_dst (N := 2) rfl ?_); refine box_event ?hg (N := 2) ?hd (cs := #[.int .u64 0, .int .i64 0, .int .u64 0, .bool false, .bool false, .bool false, .bool false, .bool false, .bool false, .bool false, .bool false]) (t := 30) ?hr ?_; (case hd => rfl); (case hg => rfl); (case hr => first | (go_simp; done) | (go_simp; rfl)); intro gb130 hg w19 hbox hb; have n0_ := Aside0.mk (blk_below (g := gb129) (o := .cells #[.int .u64 a0_0, .int .i64 a0_1, .int .u64 a0_2, .bool a0_3, .bool a0_4, .bool a0_5, .bool a0_6, .bool a0_7, .bool a0_8, .bool a0_9, .bool a0_10] 30 (0, 0)) (by (with_reducible repeat (first | refine blk_drewN ?_ _ | refine blk_drew ?_ | refine blk_alloc ?_ _)); exact BK129.out) hb); have n1_ := Aside0.mk (below_step (by repeat (first | (with_reducible first | exact HB.out | apply below_alloc | apply pw_below_drewN | apply below_drew1 | refine below_set ?_ GE129.out) | exact HB.out)) hb); have n2_ := Aside0.mk (hbox); have n3_ := Aside0.mk ((by rw [hg]; exact (below_size (by repeat (first | (with_reducible first | exact HB.out | apply below_alloc | apply pw_below_drewN | apply below_drew1 | refine below_set ?_ GE129.out) | exact HB.out))) : w.heap.size ≤ gb130)); have n4_ := Aside0.mk ((by rw [hg]; exact (below_size (by repeat (first | (with_reducible first | exact HB.out | apply below_alloc | apply pw_below_drewN | apply below_drew1 | refine below_set ?_ GE129.out) | exact HB.out))) : w.heap.size ≤ gb130)); have n5_ := Aside0.mk ((by rw [hg]; exact Nat.ne_of_lt (blk_lt (g := gb129) (o := .cells #[.int .u64 a0_0, .int .i64 a0_1, .int .u64 a0_2, .bool a0_3, .bool a0_4, .bool a0_5, .bool a0_6, .bool a0_7, .bool a0_8, .bool a0_9, .bool a0_10] 30 (0, 0)) (by (with_reducible repeat (first | refine blk_drewN ?_ _ | refine blk_drew ?_ | refine blk_alloc ?_ _)); exact BK129.out)) : gb129 ≠ gb130)); have n6_ := Aside0.mk ((by rw [hg]; exact Nat.ne_of_gt (blk_lt (g := gb129) (o := .cells #[.int .u64 a0_0, .int .i64 a0_1, .int .u64 a0_2, .bool a0_3, .bool a0_4, .bool a0_5, .bool a0_6, .bool a0_7, .bool a0_8, .bool a0_9, .bool a0_10] 30 (0, 0)) (by (with_reducible repeat (first | refine blk_drewN ?_ _ | refine blk_drew ?_ | refine blk_alloc ?_ _)); exact BK129.out)) : gb130 ≠ gb129)); clear BK129; clear HB; have BK129 := n0_; have HB := n1_; have BK130 := n2_; have GW130 := n3_; have GE130 := n4_; have NB129_130 := n5_; have NB130_129 := n6_; clear n0_ n1_ n2_ n3_ n4_ n5_ n6_; clear hb hbox hg; have hnb20 := NB129_130.out; have hnc20 := NB130_129.out; have hcz21_0 : w19.cell? ⟨gb129, 0, none⟩ = some (.int .u64 a0_0) := (blk_cell BK129.out 0).trans rfl; have hcz21_1 : w19.cell? ⟨gb129, 1, none⟩ = some (.int .i64 a0_1) := (blk_cell BK129.out 1).trans rfl; have hcz21_2 : w19.cell? ⟨gb129, 2, none⟩ = some (.int .u64 a0_2) := (blk_cell BK129.out 2).trans rfl; have hcz21_3 : w19.cell? ⟨gb129, 3, none⟩ = some (.bool a0_3) := (blk_cell BK129.out 3).trans rfl; have hcz21_4 : w19.cell? ⟨gb129, 4, none⟩ = some (.bool a0_4) := (blk_cell BK129.out 4).trans rfl; have hcz21_5 : w19.cell? ⟨gb129, 5, none⟩ = some (.bool a0_5) := (blk_cell BK129.out 5).trans rfl; have hcz21_6 : w19.cell? ⟨gb129, 6, none⟩ = some (.bool a0_6) := (blk_cell BK129.out 6).trans rfl; have hcz21_7 : w19.cell? ⟨gb129, 7, none⟩ = some (.bool a0_7) := (blk_cell BK129.out 7).trans rfl; have hcz21_8 : w19.cell? ⟨gb129, 8, none⟩ = some (.bool a0_8) := (blk_cell BK129.out 8).trans rfl; have hcz21_9 : w19.cell? ⟨gb129, 9, none⟩ = some (.bool a0_9) := (blk_cell BK129.out 9).trans rfl; have hcz21_10 : w19.cell? ⟨gb129, 10, none⟩ = some (.bool a0_10) := (blk_cell BK129.out 10).trans rfl; have hfz21_0 := blk_frozen BK129.out 0; have hfz21_1 := blk_frozen BK129.out 1; have hfz21_2 := blk_frozen BK129.out 2; have hfz21_3 := blk_frozen BK129.out 3; have hfz21_4 := blk_frozen BK129.out 4; have hfz21_5 := blk_frozen BK129.out 5; have hfz21_6 := blk_frozen BK129.out 6; have hfz21_7 := blk_frozen BK129.out 7; have hfz21_8 := blk_frozen BK129.out 8; have hfz21_9 := blk_frozen BK129.out 9; have hfz21_10 := blk_frozen BK129.out 10))
    have n0_ : Aside0 ((w19.setCell ⟨gb129, 1, none⟩ (.int .i64 (Int.tmod a0_1 4))).heap[gb129]? = some (.cells #[.int .u64 a0_0, .int .i64 (Int.tmod a0_1 4), .int .u64 a0_2, .bool a0_3, .bool a0_4, .bool a0_5, .bool a0_6, .bool a0_7, .bool a0_8, .bool a0_9, .bool a0_10] 30 (0, 0))) := ⟨by (with_reducible repeat (first | refine blk_drewN ?_ _ | refine blk_drew ?_ | refine blk_alloc ?_ _)); refine blk_put (cs := #[.int .u64 a0_0, .int .i64 a0_1, .int .u64 a0_2, .bool a0_3, .bool a0_4, .bool a0_5, .bool a0_6, .bool a0_7, .bool a0_8, .bool a0_9, .bool a0_10]) ?_ 1 _ rfl; (with_reducible repeat (first | refine blk_drewN ?_ _ | refine blk_drew ?_ | refine blk_alloc ?_ _)); exact BK129.out⟩
    have n1_ : Aside0 ((w19.setCell ⟨gb129, 1, none⟩ (.int .i64 (Int.tmod a0_1 4))).heap[gb130]? = some (.cells #[.int .u64 0, .int .i64 0, .int .u64 0, .bool false, .bool false, .bool false, .bool false, .bool false, .bool false, .bool false, .bool false] 30 (0, 0))) := ⟨by (with_reducible repeat (first | refine blk_drewN ?_ _ | refine blk_drew ?_ | refine blk_alloc ?_ _)); refine blk_far ?_ NB130_129.out _; (with_reducible repeat (first | refine blk_drewN ?_ _ | refine blk_drew ?_ | refine blk_alloc ?_ _)); exact BK130.out⟩
    have n2_ : Aside0 (Below w.heap.size w (w19.setCell ⟨gb129, 1, none⟩ (.int .i64 (Int.tmod a0_1 4)))) := ⟨by repeat (first | (with_reducible first | exact HB.out | apply below_alloc | apply pw_below_drewN | apply below_drew1 | refine below_set ?_ GE129.out | refine below_set ?_ GE130.out) | exact HB.out)⟩
    (try clear BK129)
    (try clear BK130)
    (try clear HB)
    generalize (w19.setCell ⟨gb129, 1, none⟩ (.int .i64 (Int.tmod a0_1 4))) = w22 at n0_ n1_ n2_ ⊢
    have BK129 := n0_
    have BK130 := n1_
    have HB := n2_
    clear n0_ n1_ n2_
    have n0_ := Aside0.mk (blk_drew BK129.out)
    have n1_ := Aside0.mk (blk_drew BK130.out)
    have n2_ := Aside0.mk (below_drew1 HB.out)
    clear BK129
    clear BK130
    clear HB
    have BK129 := n0_
    have BK130 := n1_
    have HB := n2_
    clear n0_ n1_ n2_
    refine start_ (n := 8) (S := fun w' => w'.cell? ⟨gb129, 0, none⟩ = some (.int .u64 a0_0) ∧ w'.cell? ⟨gb129, 1, none⟩ = some (.int .i64 (Int.tmod a0_1 4)) ∧ w'.cell? ⟨gb129, 2, none⟩ = some (.int .u64 a0_2) ∧ w'.cell? ⟨gb129, 3, none⟩ = some (.bool a0_3) ∧ w'.cell? ⟨gb129, 4, none⟩ = some (.bool a0_4) ∧ w'.cell? ⟨gb129, 5, none⟩ = some (.bool a0_5) ∧ w'.cell? ⟨gb129, 6, none⟩ = some (.bool a0_6) ∧ w'.cell? ⟨gb129, 7, none⟩ = some (.bool a0_7) ∧ w'.cell? ⟨gb129, 8, none⟩ = some (.bool a0_8) ∧ w'.cell? ⟨gb129, 9, none⟩ = some (.bool a0_9) ∧ w'.cell? ⟨gb129, 10, none⟩ = some (.bool a0_10)) (ds := [7]) #[false, false, false, false, false, false, false, false] (by kernel_rfl) rfl rfl ⟨(blk_cell BK129.out 0).trans rfl, (blk_cell BK129.out 1).trans rfl, (blk_cell BK129.out 2).trans rfl, (blk_cell BK129.out 3).trans rfl, (blk_cell BK129.out 4).trans rfl, (blk_cell BK129.out 5).trans rfl, (blk_cell BK129.out 6).trans rfl, (blk_cell BK129.out 7).trans rfl, (blk_cell BK129.out 8).trans rfl, (blk_cell BK129.out 9).trans rfl, (blk_cell BK129.out 10).trans rfl⟩ (fun hHeld => ?_); refine with_tabW lookasideref12_Good.tab5 lookasideref12_Good.bits5 (fun HT_ HW_ => ?_)
    generalize w22.drew = w23 at BK129 BK130 HB hHeld ⊢
    refine pure_ (i := 0) (N := some 14) (v := ?_) (a' := ?_) #[true, false, false, false, false, false, false, false] rfl rfl (any_of HT_.out (by kernel_rfl)) (fun _ _ _ h => h) (Or.inl ⟨by rfl, ?_⟩) ?_ ?_
    rotate_left
    · intro w'
      go_simp
      with_reducible rfl
    rotate_left
    · simp only [Act.put, List.setIfInBounds_toArray, List.set_cons_zero, List.set_cons_succ, i64_w, i32_w]
      rfl
    refine pure_ (i := 3) (N := some 17) (v := ?_) (a' := ?_) #[true, false, false, true, false, false, false, false] rfl rfl (any_of HT_.out (by kernel_rfl)) (fun _ _ _ h => h) (Or.inl ⟨by rfl, ?_⟩) ?_ ?_
    rotate_left
    · intro w'
      go_simp
      with_reducible rfl
    rotate_left
    · simp only [Act.put, List.setIfInBounds_toArray, List.set_cons_zero, List.set_cons_succ, i64_w, i32_w]
      rfl
    refine take_ (i := 1) (N := some 15) (v := ?_) (a' := ?_) #[true, true, false, true, false, false, false, false] rfl rfl (take_ofW HT_.out HW_.out (by kernel_rfl)) (fun _ _ _ h => h) (Or.inl ⟨by rfl, ?_⟩) hHeld ?_ ?_
    rotate_left
    · rintro w' ⟨s0, s1, s2, s3, s4, s5, s6, s7, s8, s9, s10⟩
      go_simp
      with_reducible rfl
    rotate_left
    · simp only [Act.put, List.setIfInBounds_toArray, List.set_cons_zero, List.set_cons_succ, i64_w, i32_w]
      rfl
    refine take_ (i := 4) (N := some 18) (v := ?_) (a' := ?_) #[true, true, false, true, true, false, false, false] rfl rfl (take_ofW HT_.out HW_.out (by kernel_rfl)) (fun _ _ _ h => h) (Or.inl ⟨by rfl, ?_⟩) hHeld ?_ ?_
    rotate_left
    · rintro w' ⟨s0, s1, s2, s3, s4, s5, s6, s7, s8, s9, s10⟩
      go_simp
      with_reducible rfl
    rotate_left
    · simp only [Act.put, List.setIfInBounds_toArray, List.set_cons_zero, List.set_cons_succ, i64_w, i32_w]
      rfl
    refine one_ (i := 2) (N := some 16) #[true, true, true, true, true, false, false, false] rfl rfl (one_of HT_.out (by kernel_rfl)) (by decide) (fun K hK => ?_)
    refine goes_ Try.func54 (by kernel_rfl) rfl #[.int .u64 a0_0] (by rfl) rfl rfl (by (try simp only [List.map_toArray, List.map_cons, List.map_nil]); first | done | rfl | (simp only [List.length_drop, List.length_take]; rfl)) ?_
    with_reducible refine (lookasideref02_Va.calls k a0_0 t134 _ A15.out).mono ?_
    rintro e w' ⟨rfl, ⟨nd, rfl⟩⟩
    refine ⟨_, rfl, ?_⟩
    refine hK.out _ _ ⟨(blk_cell BK129.out 0).trans rfl, (blk_cell BK129.out 1).trans rfl, (blk_cell BK129.out 2).trans rfl, (blk_cell BK129.out 3).trans rfl, (blk_cell BK129.out 4).trans rfl, (blk_cell BK129.out 5).trans rfl, (blk_cell BK129.out 6).trans rfl, (blk_cell BK129.out 7).trans rfl, (blk_cell BK129.out 8).trans rfl, (blk_cell BK129.out 9).trans rfl, (blk_cell BK129.out 10).trans rfl⟩ (fun hHeld => ?_)
    clear hK K
    refine norm_ (a' := ?_) ?_ ?_
    rotate_left
    · show Act.put _ (some 16) _ = _
      simp only [Act.put, List.setIfInBounds_toArray, List.set_cons_zero, List.set_cons_succ, i64_w, i32_w]
      rfl
    refine one_ (i := 5) (N := some 19) #[true, true, true, true, true, true, false, false] rfl rfl (one_of HT_.out (by kernel_rfl)) (by decide) (fun K hK => ?_)
    refine goes_ Try.func27 (by kernel_rfl) rfl #[.int .u64 t134, .int .i64 (Int.tmod a0_1 4)] (by rfl) rfl rfl (by (try simp only [List.map_toArray, List.map_cons, List.map_nil]); first | done | rfl | (simp only [List.length_drop, List.length_take]; rfl)) ?_
    with_reducible refine (lookasideref02_Base.calls t134 (Int.tmod a0_1 4) t135 _ A16.out).mono ?_
    rintro e w' ⟨rfl, ⟨nd, rfl⟩⟩
    refine ⟨_, rfl, ?_⟩
    refine hK.out _ _ ⟨(blk_cell BK129.out 0).trans rfl, (blk_cell BK129.out 1).trans rfl, (blk_cell BK129.out 2).trans rfl, (blk_cell BK129.out 3).trans rfl, (blk_cell BK129.out 4).trans rfl, (blk_cell BK129.out 5).trans rfl, (blk_cell BK129.out 6).trans rfl, (blk_cell BK129.out 7).trans rfl, (blk_cell BK129.out 8).trans rfl, (blk_cell BK129.out 9).trans rfl, (blk_cell BK129.out 10).trans rfl⟩ (fun hHeld => ?_)
    clear hK K
    refine norm_ (a' := ?_) ?_ ?_
    rotate_left
    · show Act.put _ (some 19) _ = _
      simp only [Act.put, List.setIfInBounds_toArray, List.set_cons_zero, List.set_cons_succ, i64_w, i32_w]
      rfl
    refine pure_ (i := 6) (N := some 20) (v := ?_) (a' := ?_) #[true, true, true, true, true, true, true, false] rfl rfl (any_of HT_.out (by kernel_rfl)) (fun _ _ _ h => h) (Or.inl ⟨by rfl, ?_⟩) ?_ ?_
    rotate_left
    · intro w'
      go_simp
      with_reducible rfl
    rotate_left
    · simp only [Act.put, List.setIfInBounds_toArray, List.set_cons_zero, List.set_cons_succ, i64_w, i32_w]
      rfl
    refine last_ (i := 7) (N := none) #[true, true, true, true, true, true, true, true] rfl rfl (one_of HT_.out (by kernel_rfl)) (by decide) (fun K hK => ?_)
    have hs24 : w23.cell? ⟨gb129, 0, none⟩ = some (.int .u64 a0_0) := (blk_cell BK129.out 0).trans rfl
    have hfs24 := blk_frozen BK129.out 0
    have hns24_1 := NB130_129.out
    have hms24_1 := NB129_130.out
    refine skip_ (w1 := ?_) (by rfl) rfl ?_ ?_
    rotate_left
    · go_simp
      rfl
    refine hK.out _ _ ?_
    clear hK K
    refine done_ (done_of HT_.out (by kernel_rfl)) ?_
    have hcz25_0 : w23.cell? ⟨gb129, 0, none⟩ = some (.int .u64 a0_0) := (blk_cell BK129.out 0).trans rfl
    have hcz25_1 : w23.cell? ⟨gb129, 1, none⟩ = some (.int .i64 (Int.tmod a0_1 4)) := (blk_cell BK129.out 1).trans rfl
    have hcz25_2 : w23.cell? ⟨gb129, 2, none⟩ = some (.int .u64 a0_2) := (blk_cell BK129.out 2).trans rfl
    have hcz25_3 : w23.cell? ⟨gb129, 3, none⟩ = some (.bool a0_3) := (blk_cell BK129.out 3).trans rfl
    have hcz25_4 : w23.cell? ⟨gb129, 4, none⟩ = some (.bool a0_4) := (blk_cell BK129.out 4).trans rfl
    have hcz25_5 : w23.cell? ⟨gb129, 5, none⟩ = some (.bool a0_5) := (blk_cell BK129.out 5).trans rfl
    have hcz25_6 : w23.cell? ⟨gb129, 6, none⟩ = some (.bool a0_6) := (blk_cell BK129.out 6).trans rfl
    have hcz25_7 : w23.cell? ⟨gb129, 7, none⟩ = some (.bool a0_7) := (blk_cell BK129.out 7).trans rfl
    have hcz25_8 : w23.cell? ⟨gb129, 8, none⟩ = some (.bool a0_8) := (blk_cell BK129.out 8).trans rfl
    have hcz25_9 : w23.cell? ⟨gb129, 9, none⟩ = some (.bool a0_9) := (blk_cell BK129.out 9).trans rfl
    have hcz25_10 : w23.cell? ⟨gb129, 10, none⟩ = some (.bool a0_10) := (blk_cell BK129.out 10).trans rfl
    have hfz25_0 := blk_frozen BK129.out 0
    have hfz25_1 := blk_frozen BK129.out 1
    have hfz25_2 := blk_frozen BK129.out 2
    have hfz25_3 := blk_frozen BK129.out 3
    have hfz25_4 := blk_frozen BK129.out 4
    have hfz25_5 := blk_frozen BK129.out 5
    have hfz25_6 := blk_frozen BK129.out 6
    have hfz25_7 := blk_frozen BK129.out 7
    have hfz25_8 := blk_frozen BK129.out 8
    have hfz25_9 := blk_frozen BK129.out 9
    have hfz25_10 := blk_frozen BK129.out 10
    try go_wp2_with (first | ((with_reducible refine gate_callee (f := 27) rfl ?_); refine goesL_ (some 26) rfl rfl Try.func27 (by kernel_rfl) rfl #[.int .u64 (Int.tmod a0_2 2199023255552), .int .i64 (Int.tmod a0_1 4)] rfl (by (try simp only [List.map_toArray, List.map_cons, List.map_nil]); first | done | rfl | (simp only [List.length_drop, List.length_take]; rfl)) ?_; (with_reducible refine (lookasideref02_Base.calls (Int.tmod a0_2 2199023255552) (Int.tmod a0_1 4) t136 _ A17.out).mono ?_); rintro e w' ⟨rfl, ⟨nd, rfl⟩⟩; refine ⟨_, rfl, ?_⟩; have hcz26_0 : w23.cell? ⟨gb130, 0, none⟩ = some (.int .u64 0) := (blk_cell BK130.out 0).trans rfl; have hcz26_1 : w23.cell? ⟨gb130, 1, none⟩ = some (.int .i64 0) := (blk_cell BK130.out 1).trans rfl; have hcz26_2 : w23.cell? ⟨gb130, 2, none⟩ = some (.int .u64 0) := (blk_cell BK130.out 2).trans rfl; have hcz26_3 : w23.cell? ⟨gb130, 3, none⟩ = some (.bool false) := (blk_cell BK130.out 3).trans rfl; have hcz26_4 : w23.cell? ⟨gb130, 4, none⟩ = some (.bool false) := (blk_cell BK130.out 4).trans rfl; have hcz26_5 : w23.cell? ⟨gb130, 5, none⟩ = some (.bool false) := (blk_cell BK130.out 5).trans rfl; have hcz26_6 : w23.cell? ⟨gb130, 6, none⟩ = some (.bool false) := (blk_cell BK130.out 6).trans rfl; have hcz26_7 : w23.cell? ⟨gb130, 7, none⟩ = some (.bool false) := (blk_cell BK130.out 7).trans rfl; have hcz26_8 : w23.cell? ⟨gb130, 8, none⟩ = some (.bool false) := (blk_cell BK130.out 8).trans rfl; have hcz26_9 : w23.cell? ⟨gb130, 9, none⟩ = some (.bool false) := (blk_cell BK130.out 9).trans rfl; have hcz26_10 : w23.cell? ⟨gb130, 10, none⟩ = some (.bool false) := (blk_cell BK130.out 10).trans rfl; have hfz26_0 := blk_frozen BK130.out 0; have hfz26_1 := blk_frozen BK130.out 1; have hfz26_2 := blk_frozen BK130.out 2; have hfz26_3 := blk_frozen BK130.out 3; have hfz26_4 := blk_frozen BK130.out 4; have hfz26_5 := blk_frozen BK130.out 5; have hfz26_6 := blk_frozen BK130.out 6; have hfz26_7 := blk_frozen BK130.out 7; have hfz26_8 := blk_frozen BK130.out 8; have hfz26_9 := blk_frozen BK130.out 9; have hfz26_10 := blk_frozen BK130.out 10))
    refine bodyPost_ret (results_cell_row rfl _ _ gb130 30 #[.int .u64 t135, .int .i64 (Int.tmod a0_1 4), .int .u64 t136, .bool a0_3, .bool a0_4, .bool a0_5, .bool a0_6, .bool a0_7, .bool a0_8, .bool a0_9, .bool a0_10] (0, 0) _ rfl (by (with_reducible repeat (first | refine blk_drewN ?_ _ | refine blk_drew ?_ | refine blk_alloc ?_ _)); refine blk_put (cs := #[.int .u64 t135, .int .i64 (Int.tmod a0_1 4), .int .u64 t136, .bool a0_3, .bool a0_4, .bool a0_5, .bool a0_6, .bool a0_7, .bool a0_8, .bool a0_9, .bool false]) ?_ 10 _ rfl; (with_reducible repeat (first | refine blk_drewN ?_ _ | refine blk_drew ?_ | refine blk_alloc ?_ _)); refine blk_put (cs := #[.int .u64 t135, .int .i64 (Int.tmod a0_1 4), .int .u64 t136, .bool a0_3, .bool a0_4, .bool a0_5, .bool a0_6, .bool a0_7, .bool a0_8, .bool false, .bool false]) ?_ 9 _ rfl; (with_reducible repeat (first | refine blk_drewN ?_ _ | refine blk_drew ?_ | refine blk_alloc ?_ _)); refine blk_put (cs := #[.int .u64 t135, .int .i64 (Int.tmod a0_1 4), .int .u64 t136, .bool a0_3, .bool a0_4, .bool a0_5, .bool a0_6, .bool a0_7, .bool false, .bool false, .bool false]) ?_ 8 _ rfl; (with_reducible repeat (first | refine blk_drewN ?_ _ | refine blk_drew ?_ | refine blk_alloc ?_ _)); refine blk_put (cs := #[.int .u64 t135, .int .i64 (Int.tmod a0_1 4), .int .u64 t136, .bool a0_3, .bool a0_4, .bool a0_5, .bool a0_6, .bool false, .bool false, .bool false, .bool false]) ?_ 7 _ rfl; (with_reducible repeat (first | refine blk_drewN ?_ _ | refine blk_drew ?_ | refine blk_alloc ?_ _)); refine blk_put (cs := #[.int .u64 t135, .int .i64 (Int.tmod a0_1 4), .int .u64 t136, .bool a0_3, .bool a0_4, .bool a0_5, .bool false, .bool false, .bool false, .bool false, .bool false]) ?_ 6 _ rfl; (with_reducible repeat (first | refine blk_drewN ?_ _ | refine blk_drew ?_ | refine blk_alloc ?_ _)); refine blk_put (cs := #[.int .u64 t135, .int .i64 (Int.tmod a0_1 4), .int .u64 t136, .bool a0_3, .bool a0_4, .bool false, .bool false, .bool false, .bool false, .bool false, .bool false]) ?_ 5 _ rfl; (with_reducible repeat (first | refine blk_drewN ?_ _ | refine blk_drew ?_ | refine blk_alloc ?_ _)); refine blk_put (cs := #[.int .u64 t135, .int .i64 (Int.tmod a0_1 4), .int .u64 t136, .bool a0_3, .bool false, .bool false, .bool false, .bool false, .bool false, .bool false, .bool false]) ?_ 4 _ rfl; (with_reducible repeat (first | refine blk_drewN ?_ _ | refine blk_drew ?_ | refine blk_alloc ?_ _)); refine blk_put (cs := #[.int .u64 t135, .int .i64 (Int.tmod a0_1 4), .int .u64 t136, .bool false, .bool false, .bool false, .bool false, .bool false, .bool false, .bool false, .bool false]) ?_ 3 _ rfl; (with_reducible repeat (first | refine blk_drewN ?_ _ | refine blk_drew ?_ | refine blk_alloc ?_ _)); refine blk_put (cs := #[.int .u64 t135, .int .i64 (Int.tmod a0_1 4), .int .u64 0, .bool false, .bool false, .bool false, .bool false, .bool false, .bool false, .bool false, .bool false]) ?_ 2 _ rfl; (with_reducible repeat (first | refine blk_drewN ?_ _ | refine blk_drew ?_ | refine blk_alloc ?_ _)); refine blk_put (cs := #[.int .u64 t135, .int .i64 0, .int .u64 0, .bool false, .bool false, .bool false, .bool false, .bool false, .bool false, .bool false, .bool false]) ?_ 1 _ rfl; (with_reducible repeat (first | refine blk_drewN ?_ _ | refine blk_drew ?_ | refine blk_alloc ?_ _)); refine blk_put (cs := #[.int .u64 0, .int .i64 0, .int .u64 0, .bool false, .bool false, .bool false, .bool false, .bool false, .bool false, .bool false, .bool false]) ?_ 0 _ rfl; (with_reducible repeat (first | refine blk_drewN ?_ _ | refine blk_drew ?_ | refine blk_alloc ?_ _)); refine blk_far ?_ NB130_129.out _; (with_reducible repeat (first | refine blk_drewN ?_ _ | refine blk_drew ?_ | refine blk_alloc ?_ _)); refine blk_far ?_ NB130_129.out _; (with_reducible repeat (first | refine blk_drewN ?_ _ | refine blk_drew ?_ | refine blk_alloc ?_ _)); exact BK130.out) Try.underlying30 rfl (by kernel_rfl)) rfl ?_
    exact ⟨by first | rfl | (simp [errW_none, errW_some] <;> rfl) | (simp [*, errW_none, errW_some] <;> rfl), by repeat (first | (with_reducible first | exact HB.out | apply below_alloc | apply pw_below_drewN | apply below_drew1 | refine below_set ?_ GE129.out | refine below_set ?_ GE130.out) | exact HB.out)⟩

/-! ### lookasidelaw19_pages: function 13 -/
def lookasidelaw19_pages.l0 : Nat → List (S30) → List (S30) → Int → Option ((List (S30)))
  | 0, _, _, _ => none
  | k + 1, x0, x3, x4 => if x4 < (x0.length : Int) then (if x4 < 12 then (if 0 ≤ x4 then ((lookasideref12_Good.f k ((rd_T30 x0 x4).f0) ((rd_T30 x0 x4).f1) ((rd_T30 x0 x4).f2) ((rd_T30 x0 x4).f3.f0) ((rd_T30 x0 x4).f3.f1) ((rd_T30 x0 x4).f3.f2) ((rd_T30 x0 x4).f3.f3) ((rd_T30 x0 x4).f3.f4) ((rd_T30 x0 x4).f3.f5) ((rd_T30 x0 x4).f4) ((rd_T30 x0 x4).f5)).bind fun bt138 => (if x3.length < 4398046511104 then (lookasidelaw19_pages.l0 k x0 (x3 ++ [(⟨bt138.1, bt138.2.1, bt138.2.2.1, (⟨bt138.2.2.2.1, bt138.2.2.2.2.1, bt138.2.2.2.2.2.1, bt138.2.2.2.2.2.2.1, bt138.2.2.2.2.2.2.2.1, bt138.2.2.2.2.2.2.2.2.1⟩ : S28), bt138.2.2.2.2.2.2.2.2.2.1, bt138.2.2.2.2.2.2.2.2.2.2⟩ : S30)]) (wrap64 (x4 + 1))) else (none))) else (none)) else (some x3)) else (some x3)
def lookasidelaw19_pages.f (k : Nat) (l0 : List (S30)) : Option ((List (S30))) := lookasidelaw19_pages.l0 k l0 ([] : List (S30)) 0
set_option maxHeartbeats 8000000 in
set_option maxRecDepth 100000 in
theorem lookasidelaw19_pages.calls (k : Nat) (A0 : Option Addr) (c0 : Nat) (l0 : List (S30)) (r : List (S30)) (w : World) (hr0 : Kd.C k30 w A0 l0.length l0) (hc0 : l0.length ≤ c0) (h : lookasidelaw19_pages.f k l0 = some r) :
    Calls Try.prog 13 #[.slice A0 l0.length c0] w fun e w' => ∃ v0_ : Value, e = .returned (v0_) ∧ Kd.R k30 30 w' w.heap.size (fun _ => True) v0_ r ∧ Below w.heap.size w w' := by
  have hu30 := Try.underlying30
  have HR0 := Aside0.mk hr0
  have HC0 := Aside0.mk hc0
  clear hr0 hc0
  have HB := Aside0.mk (Below.refl w.heap.size w)
  have H : (lookasidelaw19_pages.l0 k l0 ([] : List (S30)) 0) = some r := h
  clear h
  have H' := Aside0.mk H
  clear H
  go_enter Try.func13, Try.ntmps13
  go_wp2
  go_loopg [3, 4] k (fun kq v3 v4 w' => ∃ (x3_1 : List (S30)) (x4_1 : Int), v4 = .int .i64 x4_1 ∧ Aside0 (lookasidelaw19_pages.l0 kq l0 x3_1 x4_1 = some r) ∧ Aside0 (kq ≤ k) ∧ Aside0 (Kd.R k30 30 w' w.heap.size (fun _ => True) v3 x3_1) ∧ Aside0 (Below w.heap.size w w'))
  case atStart => exact ⟨(([] : List (S30))), (0), (by first | rfl | (simp; done) | (simp [*]; done)), H', ⟨Nat.le_refl _⟩, ⟨by first | exact Kd.R_nil _ _ _ _ _ | exact Kd.N_nil _ _ _ _ _ | exact Kd.V_nil _ _ _ _ _ | exact Kd.Q_nil _ _ _ _ _ | exact Kd.S_nil _ _ _ _ _⟩, ⟨by repeat (first | (with_reducible first | exact HB.out | apply below_alloc | apply pw_below_drewN | apply below_drew1) | exact HB.out)⟩⟩
  case round =>
    clear H'
    try clear c1
    obtain ⟨x3_1, x4_1, rfl, HA, HK1, HO_3, HB⟩ := hrel
    cases gk with
    | zero => exact absurd HA.out (by simp [lookasidelaw19_pages.l0])
    | succ k1 =>
      have H := HA.out
      clear HA
      simp only [lookasidelaw19_pages.l0] at H
      by_cases c2 : x4_1 < (l0.length : Int)
      · rw [if_pos c2] at H
        have c2b0 : decide (x4_1 < (l0.length : Int)) = true := decide_eq_true c2
        clear c2
        by_cases c3 : x4_1 < 12
        · rw [if_pos c3] at H
          have c3b0 : decide (x4_1 < 12) = true := decide_eq_true c3
          clear c3
          by_cases c4 : 0 ≤ x4_1
          · rw [if_pos c4] at H
            have c4b0 : decide (0 ≤ x4_1) = true := decide_eq_true c4
            clear c4
            replace H := Option.bind_eq_some_iff.mp H
            obtain ⟨⟨t138, t139, t140, t141, t142, t143, t144, t145, t146, t147, t148⟩, A50, H⟩ := H
            replace H : (if x3_1.length < 4398046511104 then (lookasidelaw19_pages.l0 k1 l0 (x3_1 ++ [(⟨t138, t139, t140, (⟨t141, t142, t143, t144, t145, t146⟩ : S28), t147, t148⟩ : S30)]) (wrap64 (x4_1 + 1))) else (none)) = some r := H
            have A5 := Aside0.mk A50
            clear A50
            by_cases c6 : x3_1.length < 4398046511104
            · rw [if_pos c6] at H
              have LMc6 := Aside0.mk c6
              clear c6
              obtain ⟨y149, hy149⟩ : ∃ y_ : List (S30), y_ = (x3_1 ++ [(⟨t138, t139, t140, (⟨t141, t142, t143, t144, t145, t146⟩ : S28), t147, t148⟩ : S30)]) := ⟨_, rfl⟩
              replace H : (lookasidelaw19_pages.l0 k1 l0 y149 (wrap64 (x4_1 + 1))) = some r := by first | (rw [hy149]; with_reducible exact H) | (have H2_ := (Option.bind_some _ _).symm.trans H; rw [hy149]; with_reducible exact H2_) | (have H2_ := (Option.bind_some _ _).symm.trans H; with_reducible exact H2_) | with_reducible exact H | (rw [hy149]; exact H) | exact H
              have Ny149 := Aside0.mk hy149
              clear hy149
              have H' := Aside0.mk H
              clear H
              have p137 : 0 ≤ (x4_1 : Int) := of_decide_eq_true (by first | (with_reducible assumption) | assumption)
              have q137 : x4_1 < (l0.length : Int) := of_decide_eq_true (by first | (with_reducible assumption) | assumption)
              obtain ⟨ad137, e137, hx137_0, hx137_1, hx137_2, hx137_3, hx137_4, hx137_5, hx137_6, hx137_7, hx137_8, hx137_9, hx137_10⟩ := at_T30 HR0.out x4_1 p137 q137
              cases e137
              replace hx137_0 := (HB.out.cell (World.block_lt_of_cell? w _ hx137_0)).trans hx137_0
              replace hx137_1 := (HB.out.cell (World.block_lt_of_cell? w _ hx137_1)).trans hx137_1
              replace hx137_2 := (HB.out.cell (World.block_lt_of_cell? w _ hx137_2)).trans hx137_2
              replace hx137_3 := (HB.out.cell (World.block_lt_of_cell? w _ hx137_3)).trans hx137_3
              replace hx137_4 := (HB.out.cell (World.block_lt_of_cell? w _ hx137_4)).trans hx137_4
              replace hx137_5 := (HB.out.cell (World.block_lt_of_cell? w _ hx137_5)).trans hx137_5
              replace hx137_6 := (HB.out.cell (World.block_lt_of_cell? w _ hx137_6)).trans hx137_6
              replace hx137_7 := (HB.out.cell (World.block_lt_of_cell? w _ hx137_7)).trans hx137_7
              replace hx137_8 := (HB.out.cell (World.block_lt_of_cell? w _ hx137_8)).trans hx137_8
              replace hx137_9 := (HB.out.cell (World.block_lt_of_cell? w _ hx137_9)).trans hx137_9
              replace hx137_10 := (HB.out.cell (World.block_lt_of_cell? w _ hx137_10)).trans hx137_10
              replace p137 := eq_true p137
              replace q137 := eq_true q137
              go_wp2_with (first | ((with_reducible refine gate_callee (f := 47) rfl ?_); refine goesL_ (some 20) rfl rfl Try.func47 (by kernel_rfl) rfl #[.agg #[.int .u64 ((rd_T30 l0 x4_1).f0), .int .i64 ((rd_T30 l0 x4_1).f1), .int .u64 ((rd_T30 l0 x4_1).f2), .bool ((rd_T30 l0 x4_1).f3.f0), .bool ((rd_T30 l0 x4_1).f3.f1), .bool ((rd_T30 l0 x4_1).f3.f2), .bool ((rd_T30 l0 x4_1).f3.f3), .bool ((rd_T30 l0 x4_1).f3.f4), .bool ((rd_T30 l0 x4_1).f3.f5), .bool ((rd_T30 l0 x4_1).f4), .bool ((rd_T30 l0 x4_1).f5)]] rfl (by (try simp only [List.map_toArray, List.map_cons, List.map_nil]); first | done | rfl | (simp only [List.length_drop, List.length_take]; rfl)) ?_; (with_reducible refine (lookasideref12_Good.calls k1 ((rd_T30 l0 x4_1).f0) ((rd_T30 l0 x4_1).f1) ((rd_T30 l0 x4_1).f2) ((rd_T30 l0 x4_1).f3.f0) ((rd_T30 l0 x4_1).f3.f1) ((rd_T30 l0 x4_1).f3.f2) ((rd_T30 l0 x4_1).f3.f3) ((rd_T30 l0 x4_1).f3.f4) ((rd_T30 l0 x4_1).f3.f5) ((rd_T30 l0 x4_1).f4) ((rd_T30 l0 x4_1).f5) t138 t139 t140 t141 t142 t143 t144 t145 t146 t147 t148 _ A5.out).mono ?_); rintro e w7 ⟨rfl, hb⟩; refine ⟨_, rfl, ?_⟩; have n0_ := Aside0.mk (Kd.R_below (by (with_reducible repeat (first | apply Kd.R_alloc | apply Kd.R_drewN | apply Kd.R_drew)); exact HO_3.out) hb); have n1_ := Aside0.mk (below_step (by repeat (first | (with_reducible first | exact HB.out | apply below_alloc | apply pw_below_drewN | apply below_drew1) | exact HB.out)) hb); clear HO_3; clear HB; have HO_3 := n0_; have HB := n1_; clear n0_ n1_; (try clear hb); (try clear hb2); (try clear hk); (try clear hi)) | ((with_reducible refine gate_builtin (b := .append) (xs := #[.tmp 15, .tmp 21]) rfl ?_); at_builtin; refine Kd.R_append k30 (w0 := w) w.heap.size rfl (.tmp 15) (.tmp 21) 23 30 (.agg #[(.int .u64 0), (.int .i64 0), (.int .u64 0), (.bool false), (.bool false), (.bool false), (.bool false), (.bool false), (.bool false), (.bool false), (.bool false)]) 32 rfl Try.underlying23 info30 rfl (by decide) (by omega) u3 x3_1 (⟨t138, t139, t140, (⟨t141, t142, t143, t144, t145, t146⟩ : S28), t147, t148⟩ : S30) [.int .u64 t138, .int .i64 t139, .int .u64 t140, .bool t141, .bool t142, .bool t143, .bool t144, .bool t145, .bool t146, .bool t147, .bool t148] (fun _ => True) (fun _ => False) rfl rfl ?aP (fun _ hk => hk.elim) ?aF ?aO ?aB ?aS ?aL ?_; (case aP => exact k30_mkM _ _ _ (⟨t138, t139, t140, (⟨t141, t142, t143, t144, t145, t146⟩ : S28), t147, t148⟩ : S30)); (case aB => exact (by repeat (first | (with_reducible first | exact HB.out | apply below_alloc | apply pw_below_drewN | apply below_drew1) | exact HB.out))); (case aF => exact (fun _ _ => trivial)); (case aO => exact (by (with_reducible repeat (first | apply Kd.R_alloc | apply Kd.R_drewN | apply Kd.R_drew)); exact HO_3.out)); (case aS => exact (below_size (by repeat (first | (with_reducible first | exact HB.out | apply below_alloc | apply pw_below_drewN | apply below_drew1) | exact HB.out)))); (case aL => have := LMc6.out; omega); intro v150 w8 ho hb hg hat; rw [← Ny149.out] at ho; have n0_ := Aside0.mk (hb); have n1_ := Aside0.mk (ho); clear HB; clear HO_3; have HB := n0_; have HO151 := n1_; clear n0_ n1_; clear ho hb hg hat))
              go_roundg k1
              case measure => have := HK1.out; omega
              case rel => exact ⟨(y149), (wrap64 (x4_1 + 1)), (by first | rfl | (simp; done) | (simp [*]; done)), H', ⟨by have := HK1.out; omega⟩, ⟨by (with_reducible repeat (first | apply Kd.R_alloc | apply Kd.R_drewN | apply Kd.R_drew)); exact HO151.out⟩, ⟨by repeat (first | (with_reducible first | exact HB.out | apply below_alloc | apply pw_below_drewN | apply below_drew1) | exact HB.out)⟩⟩
            · rw [if_neg c6] at H
              exact absurd H (by simp)
          · rw [if_neg c4] at H
            exact absurd H (by simp)
        · rw [if_neg c3] at H
          have c3b0 : decide (x4_1 < 12) = false := decide_eq_false c3
          clear c3
          obtain rfl := Option.some.inj H
          go_wp2
          go_ret
          exact ⟨_, by first | rfl | (simp [errW_none, errW_some] <;> rfl) | (simp [*, errW_none, errW_some] <;> rfl), by (with_reducible repeat (first | apply Kd.R_alloc | apply Kd.R_drewN | apply Kd.R_drew)); exact HO_3.out, by repeat (first | (with_reducible first | exact HB.out | apply below_alloc | apply pw_below_drewN | apply below_drew1) | exact HB.out)⟩
      · rw [if_neg c2] at H
        have c2b0 : decide (x4_1 < (l0.length : Int)) = false := decide_eq_false c2
        clear c2
        obtain rfl := Option.some.inj H
        go_wp2
        go_ret
        exact ⟨_, by first | rfl | (simp [errW_none, errW_some] <;> rfl) | (simp [*, errW_none, errW_some] <;> rfl), by (with_reducible repeat (first | apply Kd.R_alloc | apply Kd.R_drewN | apply Kd.R_drew)); exact HO_3.out, by repeat (first | (with_reducible first | exact HB.out | apply below_alloc | apply pw_below_drewN | apply below_drew1) | exact HB.out)⟩

-- NOT PRINTED: function 48 (api_Page_48)

end Go.Proofs.Ytcbnmmkmgpbfiaa.PS


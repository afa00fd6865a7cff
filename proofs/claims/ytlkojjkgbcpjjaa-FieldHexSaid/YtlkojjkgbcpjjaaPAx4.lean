-- written by xprint.py, a program of this session, over the kit's print (functions told by hand: see the texts)
import Derived.Test.YtlkojjkgbcpjjaaPAx0
import Derived.Test.YtlkojjkgbcpjjaaPAx1
import Derived.Test.YtlkojjkgbcpjjaaPAx2
import Derived.Test.YtlkojjkgbcpjjaaPAx3
namespace Go.Proofs.Ytlkojjkgbcpjjaa.PA
open Go.RowKit Go.Proofs.YtlkojjkgbcpjjaaW.PrintWords Go.Proofs.YtlkojjkgbcpjjaaW.PrintLast Go.Proofs.YtlkojjkgbcpjjaaW.PrintMore
attribute [local go_sem] max2_int min2_int max_two min_two max_three min_three max_four min_four   -- for this text's walks alone
set_option linter.unusedVariables false
set_option linter.unusedSimpArgs false

/-! ### lookasidelaw08_PointNext: function 6 -/
def lookasidelaw08_PointNext.f (a0 : Int) (a1 : Int) (a2 : Int) : Option (Bool) := (lookasidelaw08_small.f a2).bind fun t146 => ((lookasideref08_Around.f a1 4).bind fun t147 => ((point_Index.f (Int.tmod a0 1099511627776) t147 t146).bind fun t148 => ((lookasideref02_Bytes.f t147).bind fun t149 => ((point_Index.f (IntKind.u64.wrap ((Int.tmod a0 1099511627776) + t149)) t147 t146).bind fun t150 => ((point_Around.f (wrap64 (t148 + 1)) t146).bind fun t151 => (if t150 = t151 then ((lookasidelaw08_lives.f).bind fun t152 => (some t152)) else (some false)))))))
set_option maxHeartbeats 8000000 in
set_option maxRecDepth 100000 in
theorem lookasidelaw08_PointNext.calls (a0 : Int) (a1 : Int) (a2 : Int) (r : Bool) (w : World) (h : lookasidelaw08_PointNext.f a0 a1 a2 = some r) :
    Calls Try.prog 6 #[.int .u64 a0, .int .i64 a1, .int .i64 a2] w fun e w' => e = .returned (.bool r) ∧ Below w.heap.size w w' := by
  have HB := Aside0.mk (Below.refl w.heap.size w)
  have H : ((lookasidelaw08_small.f a2).bind fun t146 => ((lookasideref08_Around.f a1 4).bind fun t147 => ((point_Index.f (Int.tmod a0 1099511627776) t147 t146).bind fun t148 => ((lookasideref02_Bytes.f t147).bind fun t149 => ((point_Index.f (IntKind.u64.wrap ((Int.tmod a0 1099511627776) + t149)) t147 t146).bind fun t150 => ((point_Around.f (wrap64 (t148 + 1)) t146).bind fun t151 => (if t150 = t151 then ((lookasidelaw08_lives.f).bind fun t152 => (some t152)) else (some false)))))))) = some r := h
  clear h
  replace H := Option.bind_eq_some_iff.mp H
  obtain ⟨t146, A40, H⟩ := H
  replace H : ((lookasideref08_Around.f a1 4).bind fun t147 => ((point_Index.f (Int.tmod a0 1099511627776) t147 t146).bind fun t148 => ((lookasideref02_Bytes.f t147).bind fun t149 => ((point_Index.f (IntKind.u64.wrap ((Int.tmod a0 1099511627776) + t149)) t147 t146).bind fun t150 => ((point_Around.f (wrap64 (t148 + 1)) t146).bind fun t151 => (if t150 = t151 then ((lookasidelaw08_lives.f).bind fun t152 => (some t152)) else (some false))))))) = some r := H
  have A4 := Aside0.mk A40
  clear A40
  replace H := Option.bind_eq_some_iff.mp H
  obtain ⟨t147, A50, H⟩ := H
  replace H : ((point_Index.f (Int.tmod a0 1099511627776) t147 t146).bind fun t148 => ((lookasideref02_Bytes.f t147).bind fun t149 => ((point_Index.f (IntKind.u64.wrap ((Int.tmod a0 1099511627776) + t149)) t147 t146).bind fun t150 => ((point_Around.f (wrap64 (t148 + 1)) t146).bind fun t151 => (if t150 = t151 then ((lookasidelaw08_lives.f).bind fun t152 => (some t152)) else (some false)))))) = some r := H
  have A5 := Aside0.mk A50
  clear A50
  replace H := Option.bind_eq_some_iff.mp H
  obtain ⟨t148, A60, H⟩ := H
  replace H : ((lookasideref02_Bytes.f t147).bind fun t149 => ((point_Index.f (IntKind.u64.wrap ((Int.tmod a0 1099511627776) + t149)) t147 t146).bind fun t150 => ((point_Around.f (wrap64 (t148 + 1)) t146).bind fun t151 => (if t150 = t151 then ((lookasidelaw08_lives.f).bind fun t152 => (some t152)) else (some false))))) = some r := H
  have A6 := Aside0.mk A60
  clear A60
  replace H := Option.bind_eq_some_iff.mp H
  obtain ⟨t149, A70, H⟩ := H
  replace H : ((point_Index.f (IntKind.u64.wrap ((Int.tmod a0 1099511627776) + t149)) t147 t146).bind fun t150 => ((point_Around.f (wrap64 (t148 + 1)) t146).bind fun t151 => (if t150 = t151 then ((lookasidelaw08_lives.f).bind fun t152 => (some t152)) else (some false)))) = some r := H
  have A7 := Aside0.mk A70
  clear A70
  replace H := Option.bind_eq_some_iff.mp H
  obtain ⟨t150, A80, H⟩ := H
  replace H : ((point_Around.f (wrap64 (t148 + 1)) t146).bind fun t151 => (if t150 = t151 then ((lookasidelaw08_lives.f).bind fun t152 => (some t152)) else (some false))) = some r := H
  have A8 := Aside0.mk A80
  clear A80
  replace H := Option.bind_eq_some_iff.mp H
  obtain ⟨t151, A90, H⟩ := H
  replace H : (if t150 = t151 then ((lookasidelaw08_lives.f).bind fun t152 => (some t152)) else (some false)) = some r := H
  have A9 := Aside0.mk A90
  clear A90
  by_cases c10 : t150 = t151
  · rw [if_pos c10] at H
    have c10b0 : (t150 == t151) = true := beq_iff_eq.mpr c10
    have c10b1 : (t150 != t151) = false := bne_eq_false_iff_eq.mpr c10
    clear c10
    replace H := Option.bind_eq_some_iff.mp H
    obtain ⟨t152, A110, H⟩ := H
    replace H : (some t152) = some r := H
    have A11 := Aside0.mk A110
    clear A110
    obtain rfl := Option.some.inj H
    go_enter Try.func6, Try.ntmps6
    go_wp2_with (first | ((with_reducible refine gate_callee (f := 24) rfl ?_); refine goesL_ (some 10) rfl rfl Try.func24 (by kernel_rfl) rfl #[.int .i64 a2] rfl (by (try simp only [List.map_toArray, List.map_cons, List.map_nil]); first | done | rfl | (simp only [List.length_drop, List.length_take]; rfl)) ?_; (with_reducible refine (lookasidelaw08_small.calls a2 t146 _ A4.out).mono ?_); rintro e w' ⟨rfl, ⟨nd, rfl⟩⟩; refine ⟨_, rfl, ?_⟩) | ((with_reducible refine gate_callee (f := 25) rfl ?_); refine goesL_ (some 12) rfl rfl Try.func25 (by kernel_rfl) rfl #[.int .i64 a1, .int .i64 4] rfl (by (try simp only [List.map_toArray, List.map_cons, List.map_nil]); first | done | rfl | (simp only [List.length_drop, List.length_take]; rfl)) ?_; (with_reducible refine (lookasideref08_Around.calls a1 4 t147 _ A5.out).mono ?_); rintro e w' ⟨rfl, ⟨nd, rfl⟩⟩; refine ⟨_, rfl, ?_⟩) | ((with_reducible refine gate_callee (f := 26) rfl ?_); refine goesL_ (some 18) rfl rfl Try.func26 (by kernel_rfl) rfl #[.int .u64 (Int.tmod a0 1099511627776), .int .i64 t147, .int .i64 t146] rfl (by (try simp only [List.map_toArray, List.map_cons, List.map_nil]); first | done | rfl | (simp only [List.length_drop, List.length_take]; rfl)) ?_; (with_reducible refine (point_Index.calls (Int.tmod a0 1099511627776) t147 t146 t148 _ A6.out).mono ?_); rintro e w' ⟨rfl, ⟨nd, rfl⟩⟩; refine ⟨_, rfl, ?_⟩) | ((with_reducible refine gate_callee (f := 27) rfl ?_); refine goesL_ (some 21) rfl rfl Try.func27 (by kernel_rfl) rfl #[.int .i64 t147] rfl (by (try simp only [List.map_toArray, List.map_cons, List.map_nil]); first | done | rfl | (simp only [List.length_drop, List.length_take]; rfl)) ?_; (with_reducible refine (lookasideref02_Bytes.calls t147 t149 _ A7.out).mono ?_); rintro e w' ⟨rfl, ⟨nd, rfl⟩⟩; refine ⟨_, rfl, ?_⟩) | ((with_reducible refine gate_callee (f := 26) rfl ?_); refine goesL_ (some 25) rfl rfl Try.func26 (by kernel_rfl) rfl #[.int .u64 (IntKind.u64.wrap ((Int.tmod a0 1099511627776) + t149)), .int .i64 t147, .int .i64 t146] rfl (by (try simp only [List.map_toArray, List.map_cons, List.map_nil]); first | done | rfl | (simp only [List.length_drop, List.length_take]; rfl)) ?_; (with_reducible refine (point_Index.calls (IntKind.u64.wrap ((Int.tmod a0 1099511627776) + t149)) t147 t146 t150 _ A8.out).mono ?_); rintro e w' ⟨rfl, ⟨nd, rfl⟩⟩; refine ⟨_, rfl, ?_⟩) | ((with_reducible refine gate_callee (f := 28) rfl ?_); refine goesL_ (some 30) rfl rfl Try.func28 (by kernel_rfl) rfl #[.int .i64 (wrap64 (t148 + 1)), .int .i64 t146] rfl (by (try simp only [List.map_toArray, List.map_cons, List.map_nil]); first | done | rfl | (simp only [List.length_drop, List.length_take]; rfl)) ?_; (with_reducible refine (point_Around.calls (wrap64 (t148 + 1)) t146 t151 _ A9.out).mono ?_); rintro e w' ⟨rfl, ⟨nd, rfl⟩⟩; refine ⟨_, rfl, ?_⟩) | (go_at_call 21; (with_reducible refine (lookasidelaw08_lives.calls  t152 _ A11.out).mono ?_); rintro e w12 ⟨rfl, hb⟩; have n0_ := Aside0.mk (below_step (by repeat (first | (with_reducible first | exact HB.out | apply below_alloc | apply pw_below_drewN | apply below_drew1) | exact HB.out)) hb); clear HB; have HB := n0_; clear n0_; (try clear hb); (try clear hb2); (try clear hk); (try clear hi)))
    go_ret
    exact ⟨by first | rfl | (simp [errW_none, errW_some] <;> rfl) | (simp [*, errW_none, errW_some] <;> rfl), by repeat (first | (with_reducible first | exact HB.out | apply below_alloc | apply pw_below_drewN | apply below_drew1) | exact HB.out)⟩
  · rw [if_neg c10] at H
    have c10b0 : (t150 == t151) = false := beq_eq_false_iff_ne.mpr c10
    have c10b1 : (t150 != t151) = true := bne_iff_ne.mpr c10
    obtain rfl := Option.some.inj H
    go_enter Try.func6, Try.ntmps6
    go_wp2_with (first | ((with_reducible refine gate_callee (f := 24) rfl ?_); refine goesL_ (some 10) rfl rfl Try.func24 (by kernel_rfl) rfl #[.int .i64 a2] rfl (by (try simp only [List.map_toArray, List.map_cons, List.map_nil]); first | done | rfl | (simp only [List.length_drop, List.length_take]; rfl)) ?_; (with_reducible refine (lookasidelaw08_small.calls a2 t146 _ A4.out).mono ?_); rintro e w' ⟨rfl, ⟨nd, rfl⟩⟩; refine ⟨_, rfl, ?_⟩) | ((with_reducible refine gate_callee (f := 25) rfl ?_); refine goesL_ (some 12) rfl rfl Try.func25 (by kernel_rfl) rfl #[.int .i64 a1, .int .i64 4] rfl (by (try simp only [List.map_toArray, List.map_cons, List.map_nil]); first | done | rfl | (simp only [List.length_drop, List.length_take]; rfl)) ?_; (with_reducible refine (lookasideref08_Around.calls a1 4 t147 _ A5.out).mono ?_); rintro e w' ⟨rfl, ⟨nd, rfl⟩⟩; refine ⟨_, rfl, ?_⟩) | ((with_reducible refine gate_callee (f := 26) rfl ?_); refine goesL_ (some 18) rfl rfl Try.func26 (by kernel_rfl) rfl #[.int .u64 (Int.tmod a0 1099511627776), .int .i64 t147, .int .i64 t146] rfl (by (try simp only [List.map_toArray, List.map_cons, List.map_nil]); first | done | rfl | (simp only [List.length_drop, List.length_take]; rfl)) ?_; (with_reducible refine (point_Index.calls (Int.tmod a0 1099511627776) t147 t146 t148 _ A6.out).mono ?_); rintro e w' ⟨rfl, ⟨nd, rfl⟩⟩; refine ⟨_, rfl, ?_⟩) | ((with_reducible refine gate_callee (f := 27) rfl ?_); refine goesL_ (some 21) rfl rfl Try.func27 (by kernel_rfl) rfl #[.int .i64 t147] rfl (by (try simp only [List.map_toArray, List.map_cons, List.map_nil]); first | done | rfl | (simp only [List.length_drop, List.length_take]; rfl)) ?_; (with_reducible refine (lookasideref02_Bytes.calls t147 t149 _ A7.out).mono ?_); rintro e w' ⟨rfl, ⟨nd, rfl⟩⟩; refine ⟨_, rfl, ?_⟩) | ((with_reducible refine gate_callee (f := 26) rfl ?_); refine goesL_ (some 25) rfl rfl Try.func26 (by kernel_rfl) rfl #[.int .u64 (IntKind.u64.wrap ((Int.tmod a0 1099511627776) + t149)), .int .i64 t147, .int .i64 t146] rfl (by (try simp only [List.map_toArray, List.map_cons, List.map_nil]); first | done | rfl | (simp only [List.length_drop, List.length_take]; rfl)) ?_; (with_reducible refine (point_Index.calls (IntKind.u64.wrap ((Int.tmod a0 1099511627776) + t149)) t147 t146 t150 _ A8.out).mono ?_); rintro e w' ⟨rfl, ⟨nd, rfl⟩⟩; refine ⟨_, rfl, ?_⟩) | ((with_reducible refine gate_callee (f := 28) rfl ?_); refine goesL_ (some 30) rfl rfl Try.func28 (by kernel_rfl) rfl #[.int .i64 (wrap64 (t148 + 1)), .int .i64 t146] rfl (by (try simp only [List.map_toArray, List.map_cons, List.map_nil]); first | done | rfl | (simp only [List.length_drop, List.length_take]; rfl)) ?_; (with_reducible refine (point_Around.calls (wrap64 (t148 + 1)) t146 t151 _ A9.out).mono ?_); rintro e w' ⟨rfl, ⟨nd, rfl⟩⟩; refine ⟨_, rfl, ?_⟩))
    go_ret
    exact ⟨by first | rfl | (simp [errW_none, errW_some] <;> rfl) | (simp [*, errW_none, errW_some] <;> rfl), by repeat (first | (with_reducible first | exact HB.out | apply below_alloc | apply pw_below_drewN | apply below_drew1) | exact HB.out)⟩

/-- THE ONE PURE STATEMENT of lookasidelaw08_PointNext: yours. -/
def lookasidelaw08_PointNext.Pure : Prop := ∀ (a0 : Int) (a1 : Int) (a2 : Int), (Lit.int .u64 a0).wf = true → (Lit.int .i64 a1).wf = true → (Lit.int .i64 a2).wf = true → lookasidelaw08_PointNext.f a0 a1 a2 = some true
theorem lookasidelaw08_PointNext.walk (P : lookasidelaw08_PointNext.Pure) (a0 : Int) (a1 : Int) (a2 : Int) (w : World) (w0 : (Lit.int .u64 a0).wf = true) (w1 : (Lit.int .i64 a1).wf = true) (w2 : (Lit.int .i64 a2).wf = true) :
    Calls Try.prog 6 #[.int .u64 a0, .int .i64 a1, .int .i64 a2] w fun e w' => e = .returned (.bool true) ∧ Below w.heap.size w w' := by
  have h := P a0 a1 a2 w0 w1 w2
  refine (lookasidelaw08_PointNext.calls a0 a1 a2 true w h).mono ?_
  rintro e w' ⟨rfl, hd⟩
  exact ⟨rfl, hd⟩

/-! ### lookasideref08_Index: function 29 -/
def lookasideref08_Index.f (a0 : Int) (a1 : Int) (a2 : Int) : Option (Int) := (lookasideref02_Bytes.f a1).bind fun t153 => (if t153 = 0 then (none) else (if (IntKind.u64.wrap (a2)) = 0 then (none) else (some (wrap64 (Int.tmod (IntKind.u64.wrap (Int.tdiv a0 t153)) (IntKind.u64.wrap (a2)))))))
set_option maxHeartbeats 8000000 in
set_option maxRecDepth 100000 in
theorem lookasideref08_Index.calls (a0 : Int) (a1 : Int) (a2 : Int) (r : Int) (w : World) (h : lookasideref08_Index.f a0 a1 a2 = some r) :
    Calls Try.prog 29 #[.int .u64 a0, .int .i64 a1, .int .i64 a2] w fun e w' => e = .returned (.int .i64 r) ∧ Drawn0 w w' := by
  have H : ((lookasideref02_Bytes.f a1).bind fun t153 => (if t153 = 0 then (none) else (if (IntKind.u64.wrap (a2)) = 0 then (none) else (some (wrap64 (Int.tmod (IntKind.u64.wrap (Int.tdiv a0 t153)) (IntKind.u64.wrap (a2)))))))) = some r := h
  clear h
  replace H := Option.bind_eq_some_iff.mp H
  obtain ⟨t153, A40, H⟩ := H
  replace H : (if t153 = 0 then (none) else (if (IntKind.u64.wrap (a2)) = 0 then (none) else (some (wrap64 (Int.tmod (IntKind.u64.wrap (Int.tdiv a0 t153)) (IntKind.u64.wrap (a2))))))) = some r := H
  have A4 := Aside0.mk A40
  clear A40
  by_cases c5 : t153 = 0
  · rw [if_pos c5] at H
    exact absurd H (by simp)
  · rw [if_neg c5] at H
    have c5b0 : (t153 == 0) = false := beq_eq_false_iff_ne.mpr c5
    have c5b1 : (t153 != 0) = true := bne_iff_ne.mpr c5
    by_cases c6 : (IntKind.u64.wrap (a2)) = 0
    · rw [if_pos c6] at H
      exact absurd H (by simp)
    · rw [if_neg c6] at H
      have c6b0 : ((IntKind.u64.wrap (a2)) == 0) = false := beq_eq_false_iff_ne.mpr c6
      have c6b1 : ((IntKind.u64.wrap (a2)) != 0) = true := bne_iff_ne.mpr c6
      obtain rfl := Option.some.inj H
      go_enter Try.func29, Try.ntmps29
      go_wp2_with (first | ((with_reducible refine gate_callee (f := 27) rfl ?_); refine goesL_ (some 9) rfl rfl Try.func27 (by kernel_rfl) rfl #[.int .i64 a1] rfl (by (try simp only [List.map_toArray, List.map_cons, List.map_nil]); first | done | rfl | (simp only [List.length_drop, List.length_take]; rfl)) ?_; (with_reducible refine (lookasideref02_Bytes.calls a1 t153 _ A4.out).mono ?_); rintro e w' ⟨rfl, ⟨nd, rfl⟩⟩; refine ⟨_, rfl, ?_⟩))
      go_ret
      exact ⟨by first | rfl | (simp; done) | (simp [*]; done), by repeat (first | exact Drawn0.refl _ | apply Drawn0.step)⟩

/-! ### lookasideref08_Slot: function 31 -/
def lookasideref08_Slot.f (a0 : Int) (a1 : Int) (a2 : Int) (a3 : Int) : Option (Int) := (lookasideref08_Index.f a2 a3 a1).bind fun t154 => (some (IntKind.u64.wrap (a0 + (IntKind.u64.wrap (16 * (IntKind.u64.wrap (t154)))))))
set_option maxHeartbeats 8000000 in
set_option maxRecDepth 100000 in
theorem lookasideref08_Slot.calls (a0 : Int) (a1 : Int) (a2 : Int) (a3 : Int) (r : Int) (w : World) (h : lookasideref08_Slot.f a0 a1 a2 a3 = some r) :
    Calls Try.prog 31 #[.int .u64 a0, .int .i64 a1, .int .u64 a2, .int .i64 a3] w fun e w' => e = .returned (.int .u64 r) ∧ Drawn0 w w' := by
  have H : ((lookasideref08_Index.f a2 a3 a1).bind fun t154 => (some (IntKind.u64.wrap (a0 + (IntKind.u64.wrap (16 * (IntKind.u64.wrap (t154)))))))) = some r := h
  clear h
  replace H := Option.bind_eq_some_iff.mp H
  obtain ⟨t154, A50, H⟩ := H
  replace H : (some (IntKind.u64.wrap (a0 + (IntKind.u64.wrap (16 * (IntKind.u64.wrap (t154))))))) = some r := H
  have A5 := Aside0.mk A50
  clear A50
  obtain rfl := Option.some.inj H
  go_enter Try.func31, Try.ntmps31
  go_wp2_with (first | ((with_reducible refine gate_callee (f := 29) rfl ?_); refine goesL_ (some 13) rfl rfl Try.func29 (by kernel_rfl) rfl #[.int .u64 a2, .int .i64 a3, .int .i64 a1] rfl (by (try simp only [List.map_toArray, List.map_cons, List.map_nil]); first | done | rfl | (simp only [List.length_drop, List.length_take]; rfl)) ?_; (with_reducible refine (lookasideref08_Index.calls a2 a3 a1 t154 _ A5.out).mono ?_); rintro e w' ⟨rfl, ⟨nd, rfl⟩⟩; refine ⟨_, rfl, ?_⟩))
  go_ret
  exact ⟨by first | rfl | (simp; done) | (simp [*]; done), by repeat (first | exact Drawn0.refl _ | apply Drawn0.step)⟩

/-! ### point_Last: function 32 -/
def point_Last.f (a0 : Int) (a1 : Int) : Option (Int) := some (IntKind.u64.wrap ((IntKind.u64.wrap (a0 + (IntKind.u64.wrap (16 * (IntKind.u64.wrap (a1)))))) - 16))
set_option maxHeartbeats 8000000 in
set_option maxRecDepth 100000 in
theorem point_Last.calls (a0 : Int) (a1 : Int) (r : Int) (w : World) (h : point_Last.f a0 a1 = some r) :
    Calls Try.prog 32 #[.int .u64 a0, .int .i64 a1] w fun e w' => e = .returned (.int .u64 r) ∧ Drawn0 w w' := by
  have H : (some (IntKind.u64.wrap ((IntKind.u64.wrap (a0 + (IntKind.u64.wrap (16 * (IntKind.u64.wrap (a1)))))) - 16))) = some r := h
  clear h
  obtain rfl := Option.some.inj H
  go_enter Try.func32, Try.ntmps32
  go_wp2
  go_ret
  exact ⟨by first | rfl | (simp; done) | (simp [*]; done), by repeat (first | exact Drawn0.refl _ | apply Drawn0.step)⟩

/-! ### lookasidelaw08_PointSlots: function 7 -/
def lookasidelaw08_PointSlots.f (a0 : Int) (a1 : Int) (a2 : Int) (a3 : Int) (a4 : Int) : Option (Bool) := (lookasidelaw08_small.f a2).bind fun t155 => ((lookasideref08_Around.f a1 4).bind fun t156 => ((point_Index.f a0 t156 t155).bind fun t157 => ((lookasideref08_Index.f a0 t156 t155).bind fun t158 => (if t157 = t158 then (if t157 ≥ 0 then (if t157 < t155 then ((point_Slot.f a3 t155 a0 t156).bind fun t159 => ((lookasideref08_Slot.f a3 t155 a0 t156).bind fun t160 => (if t159 = t160 then ((point_Last.f a3 t155).bind fun t161 => (if t161 = (IntKind.u64.wrap (a3 + (IntKind.u64.wrap (16 * (IntKind.u64.wrap (wrap64 (t155 - 1))))))) then ((point_Around.f a4 t155).bind fun t162 => ((lookasideref08_Around.f a4 t155).bind fun t163 => (if t162 = t163 then ((lookasidelaw08_lives.f).bind fun t164 => (some t164)) else (some false)))) else (some false))) else (some false)))) else (some false)) else (some false)) else (some false)))))
set_option maxHeartbeats 8000000 in
set_option maxRecDepth 100000 in
theorem lookasidelaw08_PointSlots.calls (a0 : Int) (a1 : Int) (a2 : Int) (a3 : Int) (a4 : Int) (r : Bool) (w : World) (h : lookasidelaw08_PointSlots.f a0 a1 a2 a3 a4 = some r) :
    Calls Try.prog 7 #[.int .u64 a0, .int .i64 a1, .int .i64 a2, .int .u64 a3, .int .i64 a4] w fun e w' => e = .returned (.bool r) ∧ Below w.heap.size w w' := by
  have HB := Aside0.mk (Below.refl w.heap.size w)
  have H : ((lookasidelaw08_small.f a2).bind fun t155 => ((lookasideref08_Around.f a1 4).bind fun t156 => ((point_Index.f a0 t156 t155).bind fun t157 => ((lookasideref08_Index.f a0 t156 t155).bind fun t158 => (if t157 = t158 then (if t157 ≥ 0 then (if t157 < t155 then ((point_Slot.f a3 t155 a0 t156).bind fun t159 => ((lookasideref08_Slot.f a3 t155 a0 t156).bind fun t160 => (if t159 = t160 then ((point_Last.f a3 t155).bind fun t161 => (if t161 = (IntKind.u64.wrap (a3 + (IntKind.u64.wrap (16 * (IntKind.u64.wrap (wrap64 (t155 - 1))))))) then ((point_Around.f a4 t155).bind fun t162 => ((lookasideref08_Around.f a4 t155).bind fun t163 => (if t162 = t163 then ((lookasidelaw08_lives.f).bind fun t164 => (some t164)) else (some false)))) else (some false))) else (some false)))) else (some false)) else (some false)) else (some false)))))) = some r := h
  clear h
  replace H := Option.bind_eq_some_iff.mp H
  obtain ⟨t155, A60, H⟩ := H
  replace H : ((lookasideref08_Around.f a1 4).bind fun t156 => ((point_Index.f a0 t156 t155).bind fun t157 => ((lookasideref08_Index.f a0 t156 t155).bind fun t158 => (if t157 = t158 then (if t157 ≥ 0 then (if t157 < t155 then ((point_Slot.f a3 t155 a0 t156).bind fun t159 => ((lookasideref08_Slot.f a3 t155 a0 t156).bind fun t160 => (if t159 = t160 then ((point_Last.f a3 t155).bind fun t161 => (if t161 = (IntKind.u64.wrap (a3 + (IntKind.u64.wrap (16 * (IntKind.u64.wrap (wrap64 (t155 - 1))))))) then ((point_Around.f a4 t155).bind fun t162 => ((lookasideref08_Around.f a4 t155).bind fun t163 => (if t162 = t163 then ((lookasidelaw08_lives.f).bind fun t164 => (some t164)) else (some false)))) else (some false))) else (some false)))) else (some false)) else (some false)) else (some false))))) = some r := H
  have A6 := Aside0.mk A60
  clear A60
  replace H := Option.bind_eq_some_iff.mp H
  obtain ⟨t156, A70, H⟩ := H
  replace H : ((point_Index.f a0 t156 t155).bind fun t157 => ((lookasideref08_Index.f a0 t156 t155).bind fun t158 => (if t157 = t158 then (if t157 ≥ 0 then (if t157 < t155 then ((point_Slot.f a3 t155 a0 t156).bind fun t159 => ((lookasideref08_Slot.f a3 t155 a0 t156).bind fun t160 => (if t159 = t160 then ((point_Last.f a3 t155).bind fun t161 => (if t161 = (IntKind.u64.wrap (a3 + (IntKind.u64.wrap (16 * (IntKind.u64.wrap (wrap64 (t155 - 1))))))) then ((point_Around.f a4 t155).bind fun t162 => ((lookasideref08_Around.f a4 t155).bind fun t163 => (if t162 = t163 then ((lookasidelaw08_lives.f).bind fun t164 => (some t164)) else (some false)))) else (some false))) else (some false)))) else (some false)) else (some false)) else (some false)))) = some r := H
  have A7 := Aside0.mk A70
  clear A70
  replace H := Option.bind_eq_some_iff.mp H
  obtain ⟨t157, A80, H⟩ := H
  replace H : ((lookasideref08_Index.f a0 t156 t155).bind fun t158 => (if t157 = t158 then (if t157 ≥ 0 then (if t157 < t155 then ((point_Slot.f a3 t155 a0 t156).bind fun t159 => ((lookasideref08_Slot.f a3 t155 a0 t156).bind fun t160 => (if t159 = t160 then ((point_Last.f a3 t155).bind fun t161 => (if t161 = (IntKind.u64.wrap (a3 + (IntKind.u64.wrap (16 * (IntKind.u64.wrap (wrap64 (t155 - 1))))))) then ((point_Around.f a4 t155).bind fun t162 => ((lookasideref08_Around.f a4 t155).bind fun t163 => (if t162 = t163 then ((lookasidelaw08_lives.f).bind fun t164 => (some t164)) else (some false)))) else (some false))) else (some false)))) else (some false)) else (some false)) else (some false))) = some r := H
  have A8 := Aside0.mk A80
  clear A80
  replace H := Option.bind_eq_some_iff.mp H
  obtain ⟨t158, A90, H⟩ := H
  replace H : (if t157 = t158 then (if t157 ≥ 0 then (if t157 < t155 then ((point_Slot.f a3 t155 a0 t156).bind fun t159 => ((lookasideref08_Slot.f a3 t155 a0 t156).bind fun t160 => (if t159 = t160 then ((point_Last.f a3 t155).bind fun t161 => (if t161 = (IntKind.u64.wrap (a3 + (IntKind.u64.wrap (16 * (IntKind.u64.wrap (wrap64 (t155 - 1))))))) then ((point_Around.f a4 t155).bind fun t162 => ((lookasideref08_Around.f a4 t155).bind fun t163 => (if t162 = t163 then ((lookasidelaw08_lives.f).bind fun t164 => (some t164)) else (some false)))) else (some false))) else (some false)))) else (some false)) else (some false)) else (some false)) = some r := H
  have A9 := Aside0.mk A90
  clear A90
  by_cases c10 : t157 = t158
  · rw [if_pos c10] at H
    have c10b0 : (t157 == t158) = true := beq_iff_eq.mpr c10
    have c10b1 : (t157 != t158) = false := bne_eq_false_iff_eq.mpr c10
    clear c10
    by_cases c11 : t157 ≥ 0
    · rw [if_pos c11] at H
      have c11b0 : decide (0 ≤ t157) = true := decide_eq_true c11
      clear c11
      by_cases c12 : t157 < t155
      · rw [if_pos c12] at H
        have c12b0 : decide (t157 < t155) = true := decide_eq_true c12
        clear c12
        replace H := Option.bind_eq_some_iff.mp H
        obtain ⟨t159, A130, H⟩ := H
        replace H : ((lookasideref08_Slot.f a3 t155 a0 t156).bind fun t160 => (if t159 = t160 then ((point_Last.f a3 t155).bind fun t161 => (if t161 = (IntKind.u64.wrap (a3 + (IntKind.u64.wrap (16 * (IntKind.u64.wrap (wrap64 (t155 - 1))))))) then ((point_Around.f a4 t155).bind fun t162 => ((lookasideref08_Around.f a4 t155).bind fun t163 => (if t162 = t163 then ((lookasidelaw08_lives.f).bind fun t164 => (some t164)) else (some false)))) else (some false))) else (some false))) = some r := H
        have A13 := Aside0.mk A130
        clear A130
        replace H := Option.bind_eq_some_iff.mp H
        obtain ⟨t160, A140, H⟩ := H
        replace H : (if t159 = t160 then ((point_Last.f a3 t155).bind fun t161 => (if t161 = (IntKind.u64.wrap (a3 + (IntKind.u64.wrap (16 * (IntKind.u64.wrap (wrap64 (t155 - 1))))))) then ((point_Around.f a4 t155).bind fun t162 => ((lookasideref08_Around.f a4 t155).bind fun t163 => (if t162 = t163 then ((lookasidelaw08_lives.f).bind fun t164 => (some t164)) else (some false)))) else (some false))) else (some false)) = some r := H
        have A14 := Aside0.mk A140
        clear A140
        by_cases c15 : t159 = t160
        · rw [if_pos c15] at H
          have c15b0 : (t159 == t160) = true := beq_iff_eq.mpr c15
          have c15b1 : (t159 != t160) = false := bne_eq_false_iff_eq.mpr c15
          clear c15
          replace H := Option.bind_eq_some_iff.mp H
          obtain ⟨t161, A160, H⟩ := H
          replace H : (if t161 = (IntKind.u64.wrap (a3 + (IntKind.u64.wrap (16 * (IntKind.u64.wrap (wrap64 (t155 - 1))))))) then ((point_Around.f a4 t155).bind fun t162 => ((lookasideref08_Around.f a4 t155).bind fun t163 => (if t162 = t163 then ((lookasidelaw08_lives.f).bind fun t164 => (some t164)) else (some false)))) else (some false)) = some r := H
          have A16 := Aside0.mk A160
          clear A160
          by_cases c17 : t161 = (IntKind.u64.wrap (a3 + (IntKind.u64.wrap (16 * (IntKind.u64.wrap (wrap64 (t155 - 1)))))))
          · rw [if_pos c17] at H
            have c17b0 : (t161 == (IntKind.u64.wrap (a3 + (IntKind.u64.wrap (16 * (IntKind.u64.wrap (wrap64 (t155 - 1)))))))) = true := beq_iff_eq.mpr c17
            have c17b1 : (t161 != (IntKind.u64.wrap (a3 + (IntKind.u64.wrap (16 * (IntKind.u64.wrap (wrap64 (t155 - 1)))))))) = false := bne_eq_false_iff_eq.mpr c17
            clear c17
            replace H := Option.bind_eq_some_iff.mp H
            obtain ⟨t162, A180, H⟩ := H
            replace H : ((lookasideref08_Around.f a4 t155).bind fun t163 => (if t162 = t163 then ((lookasidelaw08_lives.f).bind fun t164 => (some t164)) else (some false))) = some r := H
            have A18 := Aside0.mk A180
            clear A180
            replace H := Option.bind_eq_some_iff.mp H
            obtain ⟨t163, A190, H⟩ := H
            replace H : (if t162 = t163 then ((lookasidelaw08_lives.f).bind fun t164 => (some t164)) else (some false)) = some r := H
            have A19 := Aside0.mk A190
            clear A190
            by_cases c20 : t162 = t163
            · rw [if_pos c20] at H
              have c20b0 : (t162 == t163) = true := beq_iff_eq.mpr c20
              have c20b1 : (t162 != t163) = false := bne_eq_false_iff_eq.mpr c20
              clear c20
              replace H := Option.bind_eq_some_iff.mp H
              obtain ⟨t164, A210, H⟩ := H
              replace H : (some t164) = some r := H
              have A21 := Aside0.mk A210
              clear A210
              obtain rfl := Option.some.inj H
              go_enter Try.func7, Try.ntmps7
              go_wp2_with (first | ((with_reducible refine gate_callee (f := 24) rfl ?_); refine goesL_ (some 13) rfl rfl Try.func24 (by kernel_rfl) rfl #[.int .i64 a2] rfl (by (try simp only [List.map_toArray, List.map_cons, List.map_nil]); first | done | rfl | (simp only [List.length_drop, List.length_take]; rfl)) ?_; (with_reducible refine (lookasidelaw08_small.calls a2 t155 _ A6.out).mono ?_); rintro e w' ⟨rfl, ⟨nd, rfl⟩⟩; refine ⟨_, rfl, ?_⟩) | ((with_reducible refine gate_callee (f := 25) rfl ?_); refine goesL_ (some 15) rfl rfl Try.func25 (by kernel_rfl) rfl #[.int .i64 a1, .int .i64 4] rfl (by (try simp only [List.map_toArray, List.map_cons, List.map_nil]); first | done | rfl | (simp only [List.length_drop, List.length_take]; rfl)) ?_; (with_reducible refine (lookasideref08_Around.calls a1 4 t156 _ A7.out).mono ?_); rintro e w' ⟨rfl, ⟨nd, rfl⟩⟩; refine ⟨_, rfl, ?_⟩) | ((with_reducible refine gate_callee (f := 26) rfl ?_); refine goesL_ (some 19) rfl rfl Try.func26 (by kernel_rfl) rfl #[.int .u64 a0, .int .i64 t156, .int .i64 t155] rfl (by (try simp only [List.map_toArray, List.map_cons, List.map_nil]); first | done | rfl | (simp only [List.length_drop, List.length_take]; rfl)) ?_; (with_reducible refine (point_Index.calls a0 t156 t155 t157 _ A8.out).mono ?_); rintro e w' ⟨rfl, ⟨nd, rfl⟩⟩; refine ⟨_, rfl, ?_⟩) | ((with_reducible refine gate_callee (f := 29) rfl ?_); refine goesL_ (some 24) rfl rfl Try.func29 (by kernel_rfl) rfl #[.int .u64 a0, .int .i64 t156, .int .i64 t155] rfl (by (try simp only [List.map_toArray, List.map_cons, List.map_nil]); first | done | rfl | (simp only [List.length_drop, List.length_take]; rfl)) ?_; (with_reducible refine (lookasideref08_Index.calls a0 t156 t155 t158 _ A9.out).mono ?_); rintro e w' ⟨rfl, ⟨nd, rfl⟩⟩; refine ⟨_, rfl, ?_⟩) | (go_at_call 30; (with_reducible refine (point_Slot.calls a3 t155 a0 t156 t159 _ A13.out).mono ?_); rintro e w' ⟨rfl, ⟨nd, rfl⟩⟩) | (go_at_call 31; (with_reducible refine (lookasideref08_Slot.calls a3 t155 a0 t156 t160 _ A14.out).mono ?_); rintro e w' ⟨rfl, ⟨nd, rfl⟩⟩) | (go_at_call 32; (with_reducible refine (point_Last.calls a3 t155 t161 _ A16.out).mono ?_); rintro e w' ⟨rfl, ⟨nd, rfl⟩⟩) | (go_at_call 28; (with_reducible refine (point_Around.calls a4 t155 t162 _ A18.out).mono ?_); rintro e w' ⟨rfl, ⟨nd, rfl⟩⟩) | (go_at_call 25; (with_reducible refine (lookasideref08_Around.calls a4 t155 t163 _ A19.out).mono ?_); rintro e w' ⟨rfl, ⟨nd, rfl⟩⟩) | (go_at_call 21; (with_reducible refine (lookasidelaw08_lives.calls  t164 _ A21.out).mono ?_); rintro e w22 ⟨rfl, hb⟩; have n0_ := Aside0.mk (below_step (by repeat (first | (with_reducible first | exact HB.out | apply below_alloc | apply pw_below_drewN | apply below_drew1) | exact HB.out)) hb); clear HB; have HB := n0_; clear n0_; (try clear hb); (try clear hb2); (try clear hk); (try clear hi)))
              go_ret
              exact ⟨by first | rfl | (simp [errW_none, errW_some] <;> rfl) | (simp [*, errW_none, errW_some] <;> rfl), by repeat (first | (with_reducible first | exact HB.out | apply below_alloc | apply pw_below_drewN | apply below_drew1) | exact HB.out)⟩
            · rw [if_neg c20] at H
              have c20b0 : (t162 == t163) = false := beq_eq_false_iff_ne.mpr c20
              have c20b1 : (t162 != t163) = true := bne_iff_ne.mpr c20
              obtain rfl := Option.some.inj H
              go_enter Try.func7, Try.ntmps7
              go_wp2_with (first | ((with_reducible refine gate_callee (f := 24) rfl ?_); refine goesL_ (some 13) rfl rfl Try.func24 (by kernel_rfl) rfl #[.int .i64 a2] rfl (by (try simp only [List.map_toArray, List.map_cons, List.map_nil]); first | done | rfl | (simp only [List.length_drop, List.length_take]; rfl)) ?_; (with_reducible refine (lookasidelaw08_small.calls a2 t155 _ A6.out).mono ?_); rintro e w' ⟨rfl, ⟨nd, rfl⟩⟩; refine ⟨_, rfl, ?_⟩) | ((with_reducible refine gate_callee (f := 25) rfl ?_); refine goesL_ (some 15) rfl rfl Try.func25 (by kernel_rfl) rfl #[.int .i64 a1, .int .i64 4] rfl (by (try simp only [List.map_toArray, List.map_cons, List.map_nil]); first | done | rfl | (simp only [List.length_drop, List.length_take]; rfl)) ?_; (with_reducible refine (lookasideref08_Around.calls a1 4 t156 _ A7.out).mono ?_); rintro e w' ⟨rfl, ⟨nd, rfl⟩⟩; refine ⟨_, rfl, ?_⟩) | ((with_reducible refine gate_callee (f := 26) rfl ?_); refine goesL_ (some 19) rfl rfl Try.func26 (by kernel_rfl) rfl #[.int .u64 a0, .int .i64 t156, .int .i64 t155] rfl (by (try simp only [List.map_toArray, List.map_cons, List.map_nil]); first | done | rfl | (simp only [List.length_drop, List.length_take]; rfl)) ?_; (with_reducible refine (point_Index.calls a0 t156 t155 t157 _ A8.out).mono ?_); rintro e w' ⟨rfl, ⟨nd, rfl⟩⟩; refine ⟨_, rfl, ?_⟩) | ((with_reducible refine gate_callee (f := 29) rfl ?_); refine goesL_ (some 24) rfl rfl Try.func29 (by kernel_rfl) rfl #[.int .u64 a0, .int .i64 t156, .int .i64 t155] rfl (by (try simp only [List.map_toArray, List.map_cons, List.map_nil]); first | done | rfl | (simp only [List.length_drop, List.length_take]; rfl)) ?_; (with_reducible refine (lookasideref08_Index.calls a0 t156 t155 t158 _ A9.out).mono ?_); rintro e w' ⟨rfl, ⟨nd, rfl⟩⟩; refine ⟨_, rfl, ?_⟩) | (go_at_call 30; (with_reducible refine (point_Slot.calls a3 t155 a0 t156 t159 _ A13.out).mono ?_); rintro e w' ⟨rfl, ⟨nd, rfl⟩⟩) | (go_at_call 31; (with_reducible refine (lookasideref08_Slot.calls a3 t155 a0 t156 t160 _ A14.out).mono ?_); rintro e w' ⟨rfl, ⟨nd, rfl⟩⟩) | (go_at_call 32; (with_reducible refine (point_Last.calls a3 t155 t161 _ A16.out).mono ?_); rintro e w' ⟨rfl, ⟨nd, rfl⟩⟩) | (go_at_call 28; (with_reducible refine (point_Around.calls a4 t155 t162 _ A18.out).mono ?_); rintro e w' ⟨rfl, ⟨nd, rfl⟩⟩) | (go_at_call 25; (with_reducible refine (lookasideref08_Around.calls a4 t155 t163 _ A19.out).mono ?_); rintro e w' ⟨rfl, ⟨nd, rfl⟩⟩))
              go_ret
              exact ⟨by first | rfl | (simp [errW_none, errW_some] <;> rfl) | (simp [*, errW_none, errW_some] <;> rfl), by repeat (first | (with_reducible first | exact HB.out | apply below_alloc | apply pw_below_drewN | apply below_drew1) | exact HB.out)⟩
          · rw [if_neg c17] at H
            have c17b0 : (t161 == (IntKind.u64.wrap (a3 + (IntKind.u64.wrap (16 * (IntKind.u64.wrap (wrap64 (t155 - 1)))))))) = false := beq_eq_false_iff_ne.mpr c17
            have c17b1 : (t161 != (IntKind.u64.wrap (a3 + (IntKind.u64.wrap (16 * (IntKind.u64.wrap (wrap64 (t155 - 1)))))))) = true := bne_iff_ne.mpr c17
            obtain rfl := Option.some.inj H
            go_enter Try.func7, Try.ntmps7
            go_wp2_with (first | ((with_reducible refine gate_callee (f := 24) rfl ?_); refine goesL_ (some 13) rfl rfl Try.func24 (by kernel_rfl) rfl #[.int .i64 a2] rfl (by (try simp only [List.map_toArray, List.map_cons, List.map_nil]); first | done | rfl | (simp only [List.length_drop, List.length_take]; rfl)) ?_; (with_reducible refine (lookasidelaw08_small.calls a2 t155 _ A6.out).mono ?_); rintro e w' ⟨rfl, ⟨nd, rfl⟩⟩; refine ⟨_, rfl, ?_⟩) | ((with_reducible refine gate_callee (f := 25) rfl ?_); refine goesL_ (some 15) rfl rfl Try.func25 (by kernel_rfl) rfl #[.int .i64 a1, .int .i64 4] rfl (by (try simp only [List.map_toArray, List.map_cons, List.map_nil]); first | done | rfl | (simp only [List.length_drop, List.length_take]; rfl)) ?_; (with_reducible refine (lookasideref08_Around.calls a1 4 t156 _ A7.out).mono ?_); rintro e w' ⟨rfl, ⟨nd, rfl⟩⟩; refine ⟨_, rfl, ?_⟩) | ((with_reducible refine gate_callee (f := 26) rfl ?_); refine goesL_ (some 19) rfl rfl Try.func26 (by kernel_rfl) rfl #[.int .u64 a0, .int .i64 t156, .int .i64 t155] rfl (by (try simp only [List.map_toArray, List.map_cons, List.map_nil]); first | done | rfl | (simp only [List.length_drop, List.length_take]; rfl)) ?_; (with_reducible refine (point_Index.calls a0 t156 t155 t157 _ A8.out).mono ?_); rintro e w' ⟨rfl, ⟨nd, rfl⟩⟩; refine ⟨_, rfl, ?_⟩) | ((with_reducible refine gate_callee (f := 29) rfl ?_); refine goesL_ (some 24) rfl rfl Try.func29 (by kernel_rfl) rfl #[.int .u64 a0, .int .i64 t156, .int .i64 t155] rfl (by (try simp only [List.map_toArray, List.map_cons, List.map_nil]); first | done | rfl | (simp only [List.length_drop, List.length_take]; rfl)) ?_; (with_reducible refine (lookasideref08_Index.calls a0 t156 t155 t158 _ A9.out).mono ?_); rintro e w' ⟨rfl, ⟨nd, rfl⟩⟩; refine ⟨_, rfl, ?_⟩) | (go_at_call 30; (with_reducible refine (point_Slot.calls a3 t155 a0 t156 t159 _ A13.out).mono ?_); rintro e w' ⟨rfl, ⟨nd, rfl⟩⟩) | (go_at_call 31; (with_reducible refine (lookasideref08_Slot.calls a3 t155 a0 t156 t160 _ A14.out).mono ?_); rintro e w' ⟨rfl, ⟨nd, rfl⟩⟩) | (go_at_call 32; (with_reducible refine (point_Last.calls a3 t155 t161 _ A16.out).mono ?_); rintro e w' ⟨rfl, ⟨nd, rfl⟩⟩))
            go_ret
            exact ⟨by first | rfl | (simp [errW_none, errW_some] <;> rfl) | (simp [*, errW_none, errW_some] <;> rfl), by repeat (first | (with_reducible first | exact HB.out | apply below_alloc | apply pw_below_drewN | apply below_drew1) | exact HB.out)⟩
        · rw [if_neg c15] at H
          have c15b0 : (t159 == t160) = false := beq_eq_false_iff_ne.mpr c15
          have c15b1 : (t159 != t160) = true := bne_iff_ne.mpr c15
          obtain rfl := Option.some.inj H
          go_enter Try.func7, Try.ntmps7
          go_wp2_with (first | ((with_reducible refine gate_callee (f := 24) rfl ?_); refine goesL_ (some 13) rfl rfl Try.func24 (by kernel_rfl) rfl #[.int .i64 a2] rfl (by (try simp only [List.map_toArray, List.map_cons, List.map_nil]); first | done | rfl | (simp only [List.length_drop, List.length_take]; rfl)) ?_; (with_reducible refine (lookasidelaw08_small.calls a2 t155 _ A6.out).mono ?_); rintro e w' ⟨rfl, ⟨nd, rfl⟩⟩; refine ⟨_, rfl, ?_⟩) | ((with_reducible refine gate_callee (f := 25) rfl ?_); refine goesL_ (some 15) rfl rfl Try.func25 (by kernel_rfl) rfl #[.int .i64 a1, .int .i64 4] rfl (by (try simp only [List.map_toArray, List.map_cons, List.map_nil]); first | done | rfl | (simp only [List.length_drop, List.length_take]; rfl)) ?_; (with_reducible refine (lookasideref08_Around.calls a1 4 t156 _ A7.out).mono ?_); rintro e w' ⟨rfl, ⟨nd, rfl⟩⟩; refine ⟨_, rfl, ?_⟩) | ((with_reducible refine gate_callee (f := 26) rfl ?_); refine goesL_ (some 19) rfl rfl Try.func26 (by kernel_rfl) rfl #[.int .u64 a0, .int .i64 t156, .int .i64 t155] rfl (by (try simp only [List.map_toArray, List.map_cons, List.map_nil]); first | done | rfl | (simp only [List.length_drop, List.length_take]; rfl)) ?_; (with_reducible refine (point_Index.calls a0 t156 t155 t157 _ A8.out).mono ?_); rintro e w' ⟨rfl, ⟨nd, rfl⟩⟩; refine ⟨_, rfl, ?_⟩) | ((with_reducible refine gate_callee (f := 29) rfl ?_); refine goesL_ (some 24) rfl rfl Try.func29 (by kernel_rfl) rfl #[.int .u64 a0, .int .i64 t156, .int .i64 t155] rfl (by (try simp only [List.map_toArray, List.map_cons, List.map_nil]); first | done | rfl | (simp only [List.length_drop, List.length_take]; rfl)) ?_; (with_reducible refine (lookasideref08_Index.calls a0 t156 t155 t158 _ A9.out).mono ?_); rintro e w' ⟨rfl, ⟨nd, rfl⟩⟩; refine ⟨_, rfl, ?_⟩) | (go_at_call 30; (with_reducible refine (point_Slot.calls a3 t155 a0 t156 t159 _ A13.out).mono ?_); rintro e w' ⟨rfl, ⟨nd, rfl⟩⟩) | (go_at_call 31; (with_reducible refine (lookasideref08_Slot.calls a3 t155 a0 t156 t160 _ A14.out).mono ?_); rintro e w' ⟨rfl, ⟨nd, rfl⟩⟩))
          go_ret
          exact ⟨by first | rfl | (simp [errW_none, errW_some] <;> rfl) | (simp [*, errW_none, errW_some] <;> rfl), by repeat (first | (with_reducible first | exact HB.out | apply below_alloc | apply pw_below_drewN | apply below_drew1) | exact HB.out)⟩
      · rw [if_neg c12] at H
        have c12b0 : decide (t157 < t155) = false := decide_eq_false c12
        clear c12
        obtain rfl := Option.some.inj H
        go_enter Try.func7, Try.ntmps7
        go_wp2_with (first | ((with_reducible refine gate_callee (f := 24) rfl ?_); refine goesL_ (some 13) rfl rfl Try.func24 (by kernel_rfl) rfl #[.int .i64 a2] rfl (by (try simp only [List.map_toArray, List.map_cons, List.map_nil]); first | done | rfl | (simp only [List.length_drop, List.length_take]; rfl)) ?_; (with_reducible refine (lookasidelaw08_small.calls a2 t155 _ A6.out).mono ?_); rintro e w' ⟨rfl, ⟨nd, rfl⟩⟩; refine ⟨_, rfl, ?_⟩) | ((with_reducible refine gate_callee (f := 25) rfl ?_); refine goesL_ (some 15) rfl rfl Try.func25 (by kernel_rfl) rfl #[.int .i64 a1, .int .i64 4] rfl (by (try simp only [List.map_toArray, List.map_cons, List.map_nil]); first | done | rfl | (simp only [List.length_drop, List.length_take]; rfl)) ?_; (with_reducible refine (lookasideref08_Around.calls a1 4 t156 _ A7.out).mono ?_); rintro e w' ⟨rfl, ⟨nd, rfl⟩⟩; refine ⟨_, rfl, ?_⟩) | ((with_reducible refine gate_callee (f := 26) rfl ?_); refine goesL_ (some 19) rfl rfl Try.func26 (by kernel_rfl) rfl #[.int .u64 a0, .int .i64 t156, .int .i64 t155] rfl (by (try simp only [List.map_toArray, List.map_cons, List.map_nil]); first | done | rfl | (simp only [List.length_drop, List.length_take]; rfl)) ?_; (with_reducible refine (point_Index.calls a0 t156 t155 t157 _ A8.out).mono ?_); rintro e w' ⟨rfl, ⟨nd, rfl⟩⟩; refine ⟨_, rfl, ?_⟩) | ((with_reducible refine gate_callee (f := 29) rfl ?_); refine goesL_ (some 24) rfl rfl Try.func29 (by kernel_rfl) rfl #[.int .u64 a0, .int .i64 t156, .int .i64 t155] rfl (by (try simp only [List.map_toArray, List.map_cons, List.map_nil]); first | done | rfl | (simp only [List.length_drop, List.length_take]; rfl)) ?_; (with_reducible refine (lookasideref08_Index.calls a0 t156 t155 t158 _ A9.out).mono ?_); rintro e w' ⟨rfl, ⟨nd, rfl⟩⟩; refine ⟨_, rfl, ?_⟩))
        go_ret
        exact ⟨by first | rfl | (simp [errW_none, errW_some] <;> rfl) | (simp [*, errW_none, errW_some] <;> rfl), by repeat (first | (with_reducible first | exact HB.out | apply below_alloc | apply pw_below_drewN | apply below_drew1) | exact HB.out)⟩
    · rw [if_neg c11] at H
      have c11b0 : decide (0 ≤ t157) = false := decide_eq_false c11
      clear c11
      obtain rfl := Option.some.inj H
      go_enter Try.func7, Try.ntmps7
      go_wp2_with (first | ((with_reducible refine gate_callee (f := 24) rfl ?_); refine goesL_ (some 13) rfl rfl Try.func24 (by kernel_rfl) rfl #[.int .i64 a2] rfl (by (try simp only [List.map_toArray, List.map_cons, List.map_nil]); first | done | rfl | (simp only [List.length_drop, List.length_take]; rfl)) ?_; (with_reducible refine (lookasidelaw08_small.calls a2 t155 _ A6.out).mono ?_); rintro e w' ⟨rfl, ⟨nd, rfl⟩⟩; refine ⟨_, rfl, ?_⟩) | ((with_reducible refine gate_callee (f := 25) rfl ?_); refine goesL_ (some 15) rfl rfl Try.func25 (by kernel_rfl) rfl #[.int .i64 a1, .int .i64 4] rfl (by (try simp only [List.map_toArray, List.map_cons, List.map_nil]); first | done | rfl | (simp only [List.length_drop, List.length_take]; rfl)) ?_; (with_reducible refine (lookasideref08_Around.calls a1 4 t156 _ A7.out).mono ?_); rintro e w' ⟨rfl, ⟨nd, rfl⟩⟩; refine ⟨_, rfl, ?_⟩) | ((with_reducible refine gate_callee (f := 26) rfl ?_); refine goesL_ (some 19) rfl rfl Try.func26 (by kernel_rfl) rfl #[.int .u64 a0, .int .i64 t156, .int .i64 t155] rfl (by (try simp only [List.map_toArray, List.map_cons, List.map_nil]); first | done | rfl | (simp only [List.length_drop, List.length_take]; rfl)) ?_; (with_reducible refine (point_Index.calls a0 t156 t155 t157 _ A8.out).mono ?_); rintro e w' ⟨rfl, ⟨nd, rfl⟩⟩; refine ⟨_, rfl, ?_⟩) | ((with_reducible refine gate_callee (f := 29) rfl ?_); refine goesL_ (some 24) rfl rfl Try.func29 (by kernel_rfl) rfl #[.int .u64 a0, .int .i64 t156, .int .i64 t155] rfl (by (try simp only [List.map_toArray, List.map_cons, List.map_nil]); first | done | rfl | (simp only [List.length_drop, List.length_take]; rfl)) ?_; (with_reducible refine (lookasideref08_Index.calls a0 t156 t155 t158 _ A9.out).mono ?_); rintro e w' ⟨rfl, ⟨nd, rfl⟩⟩; refine ⟨_, rfl, ?_⟩))
      go_ret
      exact ⟨by first | rfl | (simp [errW_none, errW_some] <;> rfl) | (simp [*, errW_none, errW_some] <;> rfl), by repeat (first | (with_reducible first | exact HB.out | apply below_alloc | apply pw_below_drewN | apply below_drew1) | exact HB.out)⟩
  · rw [if_neg c10] at H
    have c10b0 : (t157 == t158) = false := beq_eq_false_iff_ne.mpr c10
    have c10b1 : (t157 != t158) = true := bne_iff_ne.mpr c10
    obtain rfl := Option.some.inj H
    go_enter Try.func7, Try.ntmps7
    go_wp2_with (first | ((with_reducible refine gate_callee (f := 24) rfl ?_); refine goesL_ (some 13) rfl rfl Try.func24 (by kernel_rfl) rfl #[.int .i64 a2] rfl (by (try simp only [List.map_toArray, List.map_cons, List.map_nil]); first | done | rfl | (simp only [List.length_drop, List.length_take]; rfl)) ?_; (with_reducible refine (lookasidelaw08_small.calls a2 t155 _ A6.out).mono ?_); rintro e w' ⟨rfl, ⟨nd, rfl⟩⟩; refine ⟨_, rfl, ?_⟩) | ((with_reducible refine gate_callee (f := 25) rfl ?_); refine goesL_ (some 15) rfl rfl Try.func25 (by kernel_rfl) rfl #[.int .i64 a1, .int .i64 4] rfl (by (try simp only [List.map_toArray, List.map_cons, List.map_nil]); first | done | rfl | (simp only [List.length_drop, List.length_take]; rfl)) ?_; (with_reducible refine (lookasideref08_Around.calls a1 4 t156 _ A7.out).mono ?_); rintro e w' ⟨rfl, ⟨nd, rfl⟩⟩; refine ⟨_, rfl, ?_⟩) | ((with_reducible refine gate_callee (f := 26) rfl ?_); refine goesL_ (some 19) rfl rfl Try.func26 (by kernel_rfl) rfl #[.int .u64 a0, .int .i64 t156, .int .i64 t155] rfl (by (try simp only [List.map_toArray, List.map_cons, List.map_nil]); first | done | rfl | (simp only [List.length_drop, List.length_take]; rfl)) ?_; (with_reducible refine (point_Index.calls a0 t156 t155 t157 _ A8.out).mono ?_); rintro e w' ⟨rfl, ⟨nd, rfl⟩⟩; refine ⟨_, rfl, ?_⟩) | ((with_reducible refine gate_callee (f := 29) rfl ?_); refine goesL_ (some 24) rfl rfl Try.func29 (by kernel_rfl) rfl #[.int .u64 a0, .int .i64 t156, .int .i64 t155] rfl (by (try simp only [List.map_toArray, List.map_cons, List.map_nil]); first | done | rfl | (simp only [List.length_drop, List.length_take]; rfl)) ?_; (with_reducible refine (lookasideref08_Index.calls a0 t156 t155 t158 _ A9.out).mono ?_); rintro e w' ⟨rfl, ⟨nd, rfl⟩⟩; refine ⟨_, rfl, ?_⟩))
    go_ret
    exact ⟨by first | rfl | (simp [errW_none, errW_some] <;> rfl) | (simp [*, errW_none, errW_some] <;> rfl), by repeat (first | (with_reducible first | exact HB.out | apply below_alloc | apply pw_below_drewN | apply below_drew1) | exact HB.out)⟩

/-- THE ONE PURE STATEMENT of lookasidelaw08_PointSlots: yours. -/
def lookasidelaw08_PointSlots.Pure : Prop := ∀ (a0 : Int) (a1 : Int) (a2 : Int) (a3 : Int) (a4 : Int), (Lit.int .u64 a0).wf = true → (Lit.int .i64 a1).wf = true → (Lit.int .i64 a2).wf = true → (Lit.int .u64 a3).wf = true → (Lit.int .i64 a4).wf = true → lookasidelaw08_PointSlots.f a0 a1 a2 a3 a4 = some true
theorem lookasidelaw08_PointSlots.walk (P : lookasidelaw08_PointSlots.Pure) (a0 : Int) (a1 : Int) (a2 : Int) (a3 : Int) (a4 : Int) (w : World) (w0 : (Lit.int .u64 a0).wf = true) (w1 : (Lit.int .i64 a1).wf = true) (w2 : (Lit.int .i64 a2).wf = true) (w3 : (Lit.int .u64 a3).wf = true) (w4 : (Lit.int .i64 a4).wf = true) :
    Calls Try.prog 7 #[.int .u64 a0, .int .i64 a1, .int .i64 a2, .int .u64 a3, .int .i64 a4] w fun e w' => e = .returned (.bool true) ∧ Below w.heap.size w w' := by
  have h := P a0 a1 a2 a3 a4 w0 w1 w2 w3 w4
  refine (lookasidelaw08_PointSlots.calls a0 a1 a2 a3 a4 true w h).mono ?_
  rintro e w' ⟨rfl, hd⟩
  exact ⟨rfl, hd⟩

/-! ### lookasideref01_May: function 35 -/
def lookasideref01_May.f (a0 : Int) (a1 : Int) : Option (Bool) := if a0 ≥ 0 then (if a0 < 64 then (if a1 ≥ 1 then (if a1 ≤ 64 then (some (decide ((wrap64 (a0 + a1)) ≤ 64))) else (some false)) else (some false)) else (some false)) else (some false)
set_option maxHeartbeats 8000000 in
set_option maxRecDepth 100000 in
theorem lookasideref01_May.calls (a0 : Int) (a1 : Int) (r : Bool) (w : World) (h : lookasideref01_May.f a0 a1 = some r) :
    Calls Try.prog 35 #[.int .i64 a0, .int .i64 a1] w fun e w' => e = .returned (.bool r) ∧ Drawn0 w w' := by
  have H : (if a0 ≥ 0 then (if a0 < 64 then (if a1 ≥ 1 then (if a1 ≤ 64 then (some (decide ((wrap64 (a0 + a1)) ≤ 64))) else (some false)) else (some false)) else (some false)) else (some false)) = some r := h
  clear h
  by_cases c3 : a0 ≥ 0
  · rw [if_pos c3] at H
    have c3b0 : decide (0 ≤ a0) = true := decide_eq_true c3
    clear c3
    by_cases c4 : a0 < 64
    · rw [if_pos c4] at H
      have c4b0 : decide (a0 < 64) = true := decide_eq_true c4
      clear c4
      by_cases c5 : a1 ≥ 1
      · rw [if_pos c5] at H
        have c5b0 : decide (1 ≤ a1) = true := decide_eq_true c5
        clear c5
        by_cases c6 : a1 ≤ 64
        · rw [if_pos c6] at H
          have c6b0 : decide (a1 ≤ 64) = true := decide_eq_true c6
          clear c6
          obtain rfl := Option.some.inj H
          go_enter Try.func35, Try.ntmps35
          go_wp2
          go_ret
          exact ⟨by first | rfl | (simp; done) | (simp [*]; done), by repeat (first | exact Drawn0.refl _ | apply Drawn0.step)⟩
        · rw [if_neg c6] at H
          have c6b0 : decide (a1 ≤ 64) = false := decide_eq_false c6
          clear c6
          obtain rfl := Option.some.inj H
          go_enter Try.func35, Try.ntmps35
          go_wp2
          go_ret
          exact ⟨by first | rfl | (simp; done) | (simp [*]; done), by repeat (first | exact Drawn0.refl _ | apply Drawn0.step)⟩
      · rw [if_neg c5] at H
        have c5b0 : decide (1 ≤ a1) = false := decide_eq_false c5
        clear c5
        obtain rfl := Option.some.inj H
        go_enter Try.func35, Try.ntmps35
        go_wp2
        go_ret
        exact ⟨by first | rfl | (simp; done) | (simp [*]; done), by repeat (first | exact Drawn0.refl _ | apply Drawn0.step)⟩
    · rw [if_neg c4] at H
      have c4b0 : decide (a0 < 64) = false := decide_eq_false c4
      clear c4
      obtain rfl := Option.some.inj H
      go_enter Try.func35, Try.ntmps35
      go_wp2
      go_ret
      exact ⟨by first | rfl | (simp; done) | (simp [*]; done), by repeat (first | exact Drawn0.refl _ | apply Drawn0.step)⟩
  · rw [if_neg c3] at H
    have c3b0 : decide (0 ≤ a0) = false := decide_eq_false c3
    clear c3
    obtain rfl := Option.some.inj H
    go_enter Try.func35, Try.ntmps35
    go_wp2
    go_ret
    exact ⟨by first | rfl | (simp; done) | (simp [*]; done), by repeat (first | exact Drawn0.refl _ | apply Drawn0.step)⟩

/-! ### lookasideref01_Bit: function 52 -/
def lookasideref01_Bit.l0 : Nat → Int → Int → Int → Option (Int)
  | 0, _, _, _ => none
  | k + 1, x0, x1, x5 => if x5 < x1 then (lookasideref01_Bit.l0 k (IntKind.u64.wrap (Int.tdiv x0 2)) x1 (wrap64 (x5 + 1))) else (some (Int.tmod x0 2))
def lookasideref01_Bit.f (k : Nat) (a0 : Int) (a1 : Int) : Option (Int) := lookasideref01_Bit.l0 k a0 a1 0
theorem lookasideref01_Bit.mono_l : ∀ k, (∀ y0 y1 y2, LeO (lookasideref01_Bit.l0 k y0 y1 y2) (lookasideref01_Bit.l0 (k + 1) y0 y1 y2))
  | 0 => fun _ _ _ r h => by simp [lookasideref01_Bit.l0] at h
  | k + 1 => by
    have ih0 := lookasideref01_Bit.mono_l k
    · intro y0 y1 y2
      unfold lookasideref01_Bit.l0
      repeat' first
      | (with_reducible exact ih0 _ _ _)
      | (with_reducible exact LeO.refl _)
      | (with_reducible exact LeO.none _)
      | (with_reducible refine LeO.ite ?_ ?_)
      | (with_reducible refine LeO.bind ?_ (fun _ => ?_))
      | exact ih0 _ _ _
      | exact LeO.none _
      | refine LeO.ite ?_ ?_
      | refine LeO.bind ?_ (fun _ => ?_)
theorem lookasideref01_Bit.mono : ∀ a0 a1 k, LeO (lookasideref01_Bit.f k a0 a1) (lookasideref01_Bit.f (k + 1) a0 a1) := by
  intro a0 a1 k
  have ih0 := lookasideref01_Bit.mono_l k
  unfold lookasideref01_Bit.f
  repeat' first
      | (with_reducible exact ih0 _ _ _)
      | (with_reducible exact LeO.refl _)
      | (with_reducible exact LeO.none _)
      | (with_reducible refine LeO.ite ?_ ?_)
      | (with_reducible refine LeO.bind ?_ (fun _ => ?_))
      | exact ih0 _ _ _
      | exact LeO.none _
      | refine LeO.ite ?_ ?_
      | refine LeO.bind ?_ (fun _ => ?_)
set_option maxHeartbeats 8000000 in
set_option maxRecDepth 100000 in
theorem lookasideref01_Bit.calls (k : Nat) (a0 : Int) (a1 : Int) (r : Int) (w : World) (h : lookasideref01_Bit.f k a0 a1 = some r) :
    Calls Try.prog 52 #[.int .u64 a0, .int .i64 a1] w fun e w' => e = .returned (.int .u64 r) ∧ Drawn0 w w' := by
  have H : (lookasideref01_Bit.l0 k a0 a1 0) = some r := h
  clear h
  have H' := Aside0.mk H
  clear H
  go_enter Try.func52, Try.ntmps52
  go_wp2
  go_loopg [0, 5] k (fun kq v0 v5 w' => ∃ (x0_1 : Int) (x5_1 : Int), v0 = .int .u64 x0_1 ∧ v5 = .int .i64 x5_1 ∧ Aside0 (lookasideref01_Bit.l0 kq x0_1 a1 x5_1 = some r) ∧ Aside0 (kq ≤ k) ∧ Drawn0 w w')
  case atStart => exact ⟨(a0), (0), (by first | rfl | (simp; done) | (simp [*]; done)), (by first | rfl | (simp; done) | (simp [*]; done)), H', ⟨Nat.le_refl _⟩, by repeat (first | exact Drawn0.refl _ | apply Drawn0.step)⟩
  case round =>
    clear H'
    try clear p2
    obtain ⟨x0_1, x5_1, rfl, rfl, HA, HK1, ⟨m1, rfl⟩⟩ := hrel
    cases gk with
    | zero => exact absurd HA.out (by simp [lookasideref01_Bit.l0])
    | succ k1 =>
      have H := HA.out
      clear HA
      simp only [lookasideref01_Bit.l0] at H
      by_cases c3 : x5_1 < a1
      · rw [if_pos c3] at H
        have c3b0 : decide (x5_1 < a1) = true := decide_eq_true c3
        clear c3
        have H' := Aside0.mk H
        clear H
        go_wp2
        go_roundg k1
        case measure => have := HK1.out; omega
        case rel => exact ⟨(IntKind.u64.wrap (Int.tdiv x0_1 2)), (wrap64 (x5_1 + 1)), (by first | rfl | (simp; done) | (simp [*]; done)), (by first | rfl | (simp; done) | (simp [*]; done)), H', ⟨by have := HK1.out; omega⟩, by repeat (first | exact Drawn0.refl _ | apply Drawn0.step)⟩
      · rw [if_neg c3] at H
        have c3b0 : decide (x5_1 < a1) = false := decide_eq_false c3
        clear c3
        obtain rfl := Option.some.inj H
        go_wp2
        go_ret
        exact ⟨by first | rfl | (simp; done) | (simp [*]; done), by repeat (first | exact Drawn0.refl _ | apply Drawn0.step)⟩

/-! ### lookasideref01_Put: function 33 -/
def lookasideref01_Put.l0 : Nat → Int → Int → Int → Int → Int → Int → Option (Int)
  | 0, _, _, _, _, _, _ => none
  | k + 1, x0, x1, x2, x3, x10, x11 => if x11 ≥ 0 then ((lookasideref01_Bit.f k x0 x11).bind fun t166 => (if x11 ≥ x1 then (if x11 < (wrap64 (x1 + x2)) then ((lookasideref01_Bit.f k x3 (wrap64 (x11 - x1))).bind fun t167 => (lookasideref01_Put.l0 k x0 x1 x2 x3 (IntKind.u64.wrap ((IntKind.u64.wrap (2 * x10)) + t167)) (wrap64 (x11 - 1)))) else (lookasideref01_Put.l0 k x0 x1 x2 x3 (IntKind.u64.wrap ((IntKind.u64.wrap (2 * x10)) + t166)) (wrap64 (x11 - 1)))) else (lookasideref01_Put.l0 k x0 x1 x2 x3 (IntKind.u64.wrap ((IntKind.u64.wrap (2 * x10)) + t166)) (wrap64 (x11 - 1))))) else (some x10)
def lookasideref01_Put.f (k : Nat) (a0 : Int) (a1 : Int) (a2 : Int) (a3 : Int) : Option (Int) := (lookasideref01_May.f a1 a2).bind fun t165 => (if t165 = true then (lookasideref01_Put.l0 k a0 a1 a2 a3 0 63) else (some a0))
theorem lookasideref01_Put.mono_l : ∀ k, (∀ y0 y1 y2 y3 y4 y5, LeO (lookasideref01_Put.l0 k y0 y1 y2 y3 y4 y5) (lookasideref01_Put.l0 (k + 1) y0 y1 y2 y3 y4 y5))
  | 0 => fun _ _ _ _ _ _ r h => by simp [lookasideref01_Put.l0] at h
  | k + 1 => by
    have ih0 := lookasideref01_Put.mono_l k
    · intro y0 y1 y2 y3 y4 y5
      unfold lookasideref01_Put.l0
      repeat' first
      | (with_reducible exact ih0 _ _ _ _ _ _)
      | (with_reducible exact lookasideref01_Bit.mono _ _ _)
      | (with_reducible exact LeO.refl _)
      | (with_reducible exact LeO.none _)
      | (with_reducible refine LeO.ite ?_ ?_)
      | (with_reducible refine LeO.bind ?_ (fun _ => ?_))
      | exact ih0 _ _ _ _ _ _
      | exact lookasideref01_Bit.mono _ _ _
      | exact LeO.none _
      | refine LeO.ite ?_ ?_
      | refine LeO.bind ?_ (fun _ => ?_)
theorem lookasideref01_Put.mono : ∀ a0 a1 a2 a3 k, LeO (lookasideref01_Put.f k a0 a1 a2 a3) (lookasideref01_Put.f (k + 1) a0 a1 a2 a3) := by
  intro a0 a1 a2 a3 k
  have ih0 := lookasideref01_Put.mono_l k
  unfold lookasideref01_Put.f
  repeat' first
      | (with_reducible exact ih0 _ _ _ _ _ _)
      | (with_reducible exact lookasideref01_Bit.mono _ _ _)
      | (with_reducible exact LeO.refl _)
      | (with_reducible exact LeO.none _)
      | (with_reducible refine LeO.ite ?_ ?_)
      | (with_reducible refine LeO.bind ?_ (fun _ => ?_))
      | exact ih0 _ _ _ _ _ _
      | exact lookasideref01_Bit.mono _ _ _
      | exact LeO.none _
      | refine LeO.ite ?_ ?_
      | refine LeO.bind ?_ (fun _ => ?_)
set_option maxHeartbeats 8000000 in
set_option maxRecDepth 100000 in
theorem lookasideref01_Put.calls (k : Nat) (a0 : Int) (a1 : Int) (a2 : Int) (a3 : Int) (r : Int) (w : World) (h : lookasideref01_Put.f k a0 a1 a2 a3 = some r) :
    Calls Try.prog 33 #[.int .u64 a0, .int .i64 a1, .int .i64 a2, .int .u64 a3] w fun e w' => e = .returned (.int .u64 r) ∧ Drawn0 w w' := by
  have H : ((lookasideref01_May.f a1 a2).bind fun t165 => (if t165 = true then (lookasideref01_Put.l0 k a0 a1 a2 a3 0 63) else (some a0))) = some r := h
  clear h
  replace H := Option.bind_eq_some_iff.mp H
  obtain ⟨t165, A50, H⟩ := H
  replace H : (if t165 = true then (lookasideref01_Put.l0 k a0 a1 a2 a3 0 63) else (some a0)) = some r := H
  have A5 := Aside0.mk A50
  clear A50
  by_cases c6 : t165 = true
  · subst c6
    have H1 : (lookasideref01_Put.l0 k a0 a1 a2 a3 0 63) = some r := by rw [if_pos rfl] at H; exact H
    clear H
    have H := H1
    clear H1
    have H' := Aside0.mk H
    clear H
    go_enter Try.func33, Try.ntmps33
    go_wp2_with (first | ((with_reducible refine gate_callee (f := 35) rfl ?_); refine goesL_ (some 15) rfl rfl Try.func35 (by kernel_rfl) rfl #[.int .i64 a1, .int .i64 a2] rfl (by (try simp only [List.map_toArray, List.map_cons, List.map_nil]); first | done | rfl | (simp only [List.length_drop, List.length_take]; rfl)) ?_; (with_reducible refine (lookasideref01_May.calls a1 a2 true _ A5.out).mono ?_); rintro e w' ⟨rfl, ⟨nd, rfl⟩⟩; refine ⟨_, rfl, ?_⟩))
    go_loopg [10, 11] k (fun kq v10 v11 w' => ∃ (x10_1 : Int) (x11_1 : Int), v10 = .int .u64 x10_1 ∧ v11 = .int .i64 x11_1 ∧ Aside0 (lookasideref01_Put.l0 kq a0 a1 a2 a3 x10_1 x11_1 = some r) ∧ Aside0 (kq ≤ k) ∧ Drawn0 w w')
    case atStart => exact ⟨(0), (63), (by first | rfl | (simp; done) | (simp [*]; done)), (by first | rfl | (simp; done) | (simp [*]; done)), H', ⟨Nat.le_refl _⟩, by repeat (first | exact Drawn0.refl _ | apply Drawn0.step)⟩
    case round =>
      clear H'
      try clear p2
      try clear c3
      try clear c6
      obtain ⟨x10_1, x11_1, rfl, rfl, HA, HK1, ⟨m1, rfl⟩⟩ := hrel
      cases gk with
      | zero => exact absurd HA.out (by simp [lookasideref01_Put.l0])
      | succ k1 =>
        have H := HA.out
        clear HA
        simp only [lookasideref01_Put.l0] at H
        by_cases c7 : x11_1 ≥ 0
        · rw [if_pos c7] at H
          have c7b0 : decide (0 ≤ x11_1) = true := decide_eq_true c7
          clear c7
          replace H := Option.bind_eq_some_iff.mp H
          obtain ⟨t166, A80, H⟩ := H
          replace H : (if x11_1 ≥ a1 then (if x11_1 < (wrap64 (a1 + a2)) then ((lookasideref01_Bit.f k1 a3 (wrap64 (x11_1 - a1))).bind fun t167 => (lookasideref01_Put.l0 k1 a0 a1 a2 a3 (IntKind.u64.wrap ((IntKind.u64.wrap (2 * x10_1)) + t167)) (wrap64 (x11_1 - 1)))) else (lookasideref01_Put.l0 k1 a0 a1 a2 a3 (IntKind.u64.wrap ((IntKind.u64.wrap (2 * x10_1)) + t166)) (wrap64 (x11_1 - 1)))) else (lookasideref01_Put.l0 k1 a0 a1 a2 a3 (IntKind.u64.wrap ((IntKind.u64.wrap (2 * x10_1)) + t166)) (wrap64 (x11_1 - 1)))) = some r := H
          have A8 := Aside0.mk A80
          clear A80
          by_cases c9 : x11_1 ≥ a1
          · rw [if_pos c9] at H
            have c9b0 : decide (a1 ≤ x11_1) = true := decide_eq_true c9
            clear c9
            by_cases c10 : x11_1 < (wrap64 (a1 + a2))
            · rw [if_pos c10] at H
              have c10b0 : decide (x11_1 < (wrap64 (a1 + a2))) = true := decide_eq_true c10
              clear c10
              replace H := Option.bind_eq_some_iff.mp H
              obtain ⟨t167, A110, H⟩ := H
              replace H : (lookasideref01_Put.l0 k1 a0 a1 a2 a3 (IntKind.u64.wrap ((IntKind.u64.wrap (2 * x10_1)) + t167)) (wrap64 (x11_1 - 1))) = some r := H
              have A11 := Aside0.mk A110
              clear A110
              have H' := Aside0.mk H
              clear H
              go_wp2_with (first | ((with_reducible refine gate_callee (f := 52) rfl ?_); refine goesL_ (some 25) rfl rfl Try.func52 (by kernel_rfl) rfl #[.int .u64 a0, .int .i64 x11_1] rfl (by (try simp only [List.map_toArray, List.map_cons, List.map_nil]); first | done | rfl | (simp only [List.length_drop, List.length_take]; rfl)) ?_; (with_reducible refine (lookasideref01_Bit.calls k1 a0 x11_1 t166 _ A8.out).mono ?_); rintro e w' ⟨rfl, ⟨nd, rfl⟩⟩; refine ⟨_, rfl, ?_⟩) | ((with_reducible refine gate_callee (f := 52) rfl ?_); refine goesL_ (some 40) rfl rfl Try.func52 (by kernel_rfl) rfl #[.int .u64 a3, .int .i64 (wrap64 (x11_1 - a1))] rfl (by (try simp only [List.map_toArray, List.map_cons, List.map_nil]); first | done | rfl | (simp only [List.length_drop, List.length_take]; rfl)) ?_; (with_reducible refine (lookasideref01_Bit.calls k1 a3 (wrap64 (x11_1 - a1)) t167 _ A11.out).mono ?_); rintro e w' ⟨rfl, ⟨nd, rfl⟩⟩; refine ⟨_, rfl, ?_⟩))
              go_roundg k1
              case measure => have := HK1.out; omega
              case rel => exact ⟨(IntKind.u64.wrap ((IntKind.u64.wrap (2 * x10_1)) + t167)), (wrap64 (x11_1 - 1)), (by first | rfl | (simp; done) | (simp [*]; done)), (by first | rfl | (simp; done) | (simp [*]; done)), H', ⟨by have := HK1.out; omega⟩, by repeat (first | exact Drawn0.refl _ | apply Drawn0.step)⟩
            · rw [if_neg c10] at H
              have c10b0 : decide (x11_1 < (wrap64 (a1 + a2))) = false := decide_eq_false c10
              clear c10
              have H' := Aside0.mk H
              clear H
              go_wp2_with (first | ((with_reducible refine gate_callee (f := 52) rfl ?_); refine goesL_ (some 25) rfl rfl Try.func52 (by kernel_rfl) rfl #[.int .u64 a0, .int .i64 x11_1] rfl (by (try simp only [List.map_toArray, List.map_cons, List.map_nil]); first | done | rfl | (simp only [List.length_drop, List.length_take]; rfl)) ?_; (with_reducible refine (lookasideref01_Bit.calls k1 a0 x11_1 t166 _ A8.out).mono ?_); rintro e w' ⟨rfl, ⟨nd, rfl⟩⟩; refine ⟨_, rfl, ?_⟩))
              go_roundg k1
              case measure => have := HK1.out; omega
              case rel => exact ⟨(IntKind.u64.wrap ((IntKind.u64.wrap (2 * x10_1)) + t166)), (wrap64 (x11_1 - 1)), (by first | rfl | (simp; done) | (simp [*]; done)), (by first | rfl | (simp; done) | (simp [*]; done)), H', ⟨by have := HK1.out; omega⟩, by repeat (first | exact Drawn0.refl _ | apply Drawn0.step)⟩
          · rw [if_neg c9] at H
            have c9b0 : decide (a1 ≤ x11_1) = false := decide_eq_false c9
            clear c9
            have H' := Aside0.mk H
            clear H
            go_wp2_with (first | ((with_reducible refine gate_callee (f := 52) rfl ?_); refine goesL_ (some 25) rfl rfl Try.func52 (by kernel_rfl) rfl #[.int .u64 a0, .int .i64 x11_1] rfl (by (try simp only [List.map_toArray, List.map_cons, List.map_nil]); first | done | rfl | (simp only [List.length_drop, List.length_take]; rfl)) ?_; (with_reducible refine (lookasideref01_Bit.calls k1 a0 x11_1 t166 _ A8.out).mono ?_); rintro e w' ⟨rfl, ⟨nd, rfl⟩⟩; refine ⟨_, rfl, ?_⟩))
            go_roundg k1
            case measure => have := HK1.out; omega
            case rel => exact ⟨(IntKind.u64.wrap ((IntKind.u64.wrap (2 * x10_1)) + t166)), (wrap64 (x11_1 - 1)), (by first | rfl | (simp; done) | (simp [*]; done)), (by first | rfl | (simp; done) | (simp [*]; done)), H', ⟨by have := HK1.out; omega⟩, by repeat (first | exact Drawn0.refl _ | apply Drawn0.step)⟩
        · rw [if_neg c7] at H
          have c7b0 : decide (0 ≤ x11_1) = false := decide_eq_false c7
          clear c7
          obtain rfl := Option.some.inj H
          go_wp2
          go_ret
          exact ⟨by first | rfl | (simp; done) | (simp [*]; done), by repeat (first | exact Drawn0.refl _ | apply Drawn0.step)⟩
  · replace c6 := Bool.eq_false_iff.mpr c6
    subst c6
    have H1 : (some a0) = some r := by rw [if_neg (show ¬ (false = true) by decide)] at H; exact H
    clear H
    have H := H1
    clear H1
    obtain rfl := Option.some.inj H
    go_enter Try.func33, Try.ntmps33
    go_wp2_with (first | ((with_reducible refine gate_callee (f := 35) rfl ?_); refine goesL_ (some 15) rfl rfl Try.func35 (by kernel_rfl) rfl #[.int .i64 a1, .int .i64 a2] rfl (by (try simp only [List.map_toArray, List.map_cons, List.map_nil]); first | done | rfl | (simp only [List.length_drop, List.length_take]; rfl)) ?_; (with_reducible refine (lookasideref01_May.calls a1 a2 false _ A5.out).mono ?_); rintro e w' ⟨rfl, ⟨nd, rfl⟩⟩; refine ⟨_, rfl, ?_⟩))
    go_ret
    exact ⟨by first | rfl | (simp; done) | (simp [*]; done), by repeat (first | exact Drawn0.refl _ | apply Drawn0.step)⟩

/-! ### lookasideref01_Get: function 37 -/
def lookasideref01_Get.l0 : Nat → Int → Int → Bool → Int → Int → Option (Int)
  | 0, _, _, _, _, _ => none
  | k + 1, x0, x1, x7, x8, x9 => if x7 = true then (if x9 ≥ 0 then ((lookasideref01_Bit.f k x0 (wrap64 (x1 + x9))).bind fun t169 => (lookasideref01_Get.l0 k x0 x1 x7 (IntKind.u64.wrap ((IntKind.u64.wrap (2 * x8)) + t169)) (wrap64 (x9 - 1)))) else (some x8)) else (some x8)
def lookasideref01_Get.f (k : Nat) (a0 : Int) (a1 : Int) (a2 : Int) : Option (Int) := (lookasideref01_May.f a1 a2).bind fun t168 => (lookasideref01_Get.l0 k a0 a1 t168 0 (wrap64 (a2 - 1)))
theorem lookasideref01_Get.mono_l : ∀ k, (∀ y0 y1 y2 y3 y4, LeO (lookasideref01_Get.l0 k y0 y1 y2 y3 y4) (lookasideref01_Get.l0 (k + 1) y0 y1 y2 y3 y4))
  | 0 => fun _ _ _ _ _ r h => by simp [lookasideref01_Get.l0] at h
  | k + 1 => by
    have ih0 := lookasideref01_Get.mono_l k
    · intro y0 y1 y2 y3 y4
      unfold lookasideref01_Get.l0
      repeat' first
      | (with_reducible exact ih0 _ _ _ _ _)
      | (with_reducible exact lookasideref01_Bit.mono _ _ _)
      | (with_reducible exact LeO.refl _)
      | (with_reducible exact LeO.none _)
      | (with_reducible refine LeO.ite ?_ ?_)
      | (with_reducible refine LeO.bind ?_ (fun _ => ?_))
      | exact ih0 _ _ _ _ _
      | exact lookasideref01_Bit.mono _ _ _
      | exact LeO.none _
      | refine LeO.ite ?_ ?_
      | refine LeO.bind ?_ (fun _ => ?_)
theorem lookasideref01_Get.mono : ∀ a0 a1 a2 k, LeO (lookasideref01_Get.f k a0 a1 a2) (lookasideref01_Get.f (k + 1) a0 a1 a2) := by
  intro a0 a1 a2 k
  have ih0 := lookasideref01_Get.mono_l k
  unfold lookasideref01_Get.f
  repeat' first
      | (with_reducible exact ih0 _ _ _ _ _)
      | (with_reducible exact lookasideref01_Bit.mono _ _ _)
      | (with_reducible exact LeO.refl _)
      | (with_reducible exact LeO.none _)
      | (with_reducible refine LeO.ite ?_ ?_)
      | (with_reducible refine LeO.bind ?_ (fun _ => ?_))
      | exact ih0 _ _ _ _ _
      | exact lookasideref01_Bit.mono _ _ _
      | exact LeO.none _
      | refine LeO.ite ?_ ?_
      | refine LeO.bind ?_ (fun _ => ?_)
set_option maxHeartbeats 8000000 in
set_option maxRecDepth 100000 in
theorem lookasideref01_Get.calls (k : Nat) (a0 : Int) (a1 : Int) (a2 : Int) (r : Int) (w : World) (h : lookasideref01_Get.f k a0 a1 a2 = some r) :
    Calls Try.prog 37 #[.int .u64 a0, .int .i64 a1, .int .i64 a2] w fun e w' => e = .returned (.int .u64 r) ∧ Drawn0 w w' := by
  have H : ((lookasideref01_May.f a1 a2).bind fun t168 => (lookasideref01_Get.l0 k a0 a1 t168 0 (wrap64 (a2 - 1)))) = some r := h
  clear h
  replace H := Option.bind_eq_some_iff.mp H
  obtain ⟨t168, A40, H⟩ := H
  replace H : (lookasideref01_Get.l0 k a0 a1 t168 0 (wrap64 (a2 - 1))) = some r := H
  have A4 := Aside0.mk A40
  clear A40
  have H' := Aside0.mk H
  clear H
  go_enter Try.func37, Try.ntmps37
  go_wp2_with (first | ((with_reducible refine gate_callee (f := 35) rfl ?_); refine goesL_ (some 12) rfl rfl Try.func35 (by kernel_rfl) rfl #[.int .i64 a1, .int .i64 a2] rfl (by (try simp only [List.map_toArray, List.map_cons, List.map_nil]); first | done | rfl | (simp only [List.length_drop, List.length_take]; rfl)) ?_; (with_reducible refine (lookasideref01_May.calls a1 a2 t168 _ A4.out).mono ?_); rintro e w' ⟨rfl, ⟨nd, rfl⟩⟩; refine ⟨_, rfl, ?_⟩))
  go_loopg [8, 9] k (fun kq v8 v9 w' => ∃ (x8_1 : Int) (x9_1 : Int), v8 = .int .u64 x8_1 ∧ v9 = .int .i64 x9_1 ∧ Aside0 (lookasideref01_Get.l0 kq a0 a1 t168 x8_1 x9_1 = some r) ∧ Aside0 (kq ≤ k) ∧ Drawn0 w w')
  case atStart => exact ⟨(0), (wrap64 (a2 - 1)), (by first | rfl | (simp; done) | (simp [*]; done)), (by first | rfl | (simp; done) | (simp [*]; done)), H', ⟨Nat.le_refl _⟩, by repeat (first | exact Drawn0.refl _ | apply Drawn0.step)⟩
  case round =>
    clear H'
    try clear p2
    try clear c3
    obtain ⟨x8_1, x9_1, rfl, rfl, HA, HK1, ⟨m1, rfl⟩⟩ := hrel
    cases gk with
    | zero => exact absurd HA.out (by simp [lookasideref01_Get.l0])
    | succ k1 =>
      have H := HA.out
      clear HA
      simp only [lookasideref01_Get.l0] at H
      by_cases c5 : t168 = true
      · subst c5
        have H1 : (if x9_1 ≥ 0 then ((lookasideref01_Bit.f k1 a0 (wrap64 (a1 + x9_1))).bind fun t169 => (lookasideref01_Get.l0 k1 a0 a1 true (IntKind.u64.wrap ((IntKind.u64.wrap (2 * x8_1)) + t169)) (wrap64 (x9_1 - 1)))) else (some x8_1)) = some r := by rw [if_pos rfl] at H; exact H
        clear H
        have H := H1
        clear H1
        by_cases c6 : x9_1 ≥ 0
        · rw [if_pos c6] at H
          have c6b0 : decide (0 ≤ x9_1) = true := decide_eq_true c6
          clear c6
          replace H := Option.bind_eq_some_iff.mp H
          obtain ⟨t169, A70, H⟩ := H
          replace H : (lookasideref01_Get.l0 k1 a0 a1 true (IntKind.u64.wrap ((IntKind.u64.wrap (2 * x8_1)) + t169)) (wrap64 (x9_1 - 1))) = some r := H
          have A7 := Aside0.mk A70
          clear A70
          have H' := Aside0.mk H
          clear H
          go_wp2_with (first | ((with_reducible refine gate_callee (f := 52) rfl ?_); refine goesL_ (some 28) rfl rfl Try.func52 (by kernel_rfl) rfl #[.int .u64 a0, .int .i64 (wrap64 (a1 + x9_1))] rfl (by (try simp only [List.map_toArray, List.map_cons, List.map_nil]); first | done | rfl | (simp only [List.length_drop, List.length_take]; rfl)) ?_; (with_reducible refine (lookasideref01_Bit.calls k1 a0 (wrap64 (a1 + x9_1)) t169 _ A7.out).mono ?_); rintro e w' ⟨rfl, ⟨nd, rfl⟩⟩; refine ⟨_, rfl, ?_⟩))
          go_roundg k1
          case measure => have := HK1.out; omega
          case rel => exact ⟨(IntKind.u64.wrap ((IntKind.u64.wrap (2 * x8_1)) + t169)), (wrap64 (x9_1 - 1)), (by first | rfl | (simp; done) | (simp [*]; done)), (by first | rfl | (simp; done) | (simp [*]; done)), H', ⟨by have := HK1.out; omega⟩, by repeat (first | exact Drawn0.refl _ | apply Drawn0.step)⟩
        · rw [if_neg c6] at H
          have c6b0 : decide (0 ≤ x9_1) = false := decide_eq_false c6
          clear c6
          obtain rfl := Option.some.inj H
          go_wp2
          go_ret
          exact ⟨by first | rfl | (simp; done) | (simp [*]; done), by repeat (first | exact Drawn0.refl _ | apply Drawn0.step)⟩
      · replace c5 := Bool.eq_false_iff.mpr c5
        subst c5
        have H1 : (some x8_1) = some r := by rw [if_neg (show ¬ (false = true) by decide)] at H; exact H
        clear H
        have H := H1
        clear H1
        obtain rfl := Option.some.inj H
        go_wp2
        go_ret
        exact ⟨by first | rfl | (simp; done) | (simp [*]; done), by repeat (first | exact Drawn0.refl _ | apply Drawn0.step)⟩

end Go.Proofs.Ytlkojjkgbcpjjaa.PA

-- written by xprint.py, a program of this session, over the kit's print (functions told by hand: see the texts)
import Derived.Test.YtlkojjkgbcpjjaaPAx0
import Derived.Test.YtlkojjkgbcpjjaaPAx1
import Derived.Test.YtlkojjkgbcpjjaaPAx4
import Derived.Test.YtlkojjkgbcpjjaaPAx5
namespace Go.Proofs.Ytlkojjkgbcpjjaa.PA
open Go.RowKit Go.Proofs.YtlkojjkgbcpjjaaW.PrintWords Go.Proofs.YtlkojjkgbcpjjaaW.PrintLast Go.Proofs.YtlkojjkgbcpjjaaW.PrintMore
attribute [local go_sem] max2_int min2_int max_two min_two max_three min_three max_four min_four   -- for this text's walks alone
set_option linter.unusedVariables false
set_option linter.unusedSimpArgs false

/-! ### lookasidelaw01_FieldMasks: function 10 -/
def lookasidelaw01_FieldMasks.f (k : Nat) (a0 : Int) (a1 : Int) (a2 : Int) : Option (Bool) := (field_Mask.f a1 a2).bind fun t196 => ((lookasideref01_May.f a1 a2).bind fun t197 => ((field_Put.f a0 a1 a2 18446744073709551615).bind fun t198 => ((field_Put.f a0 a1 a2 0).bind fun t199 => (if t197 = true then (if t198 = (Go.bits .or .u64 a0 t196) then (if t199 = (IntKind.u64.wrap (a0 - (Go.bits .and .u64 a0 t196))) then ((field_Get.f t196 a1 a2).bind fun t200 => ((lookasideref01_Get.f k 18446744073709551615 0 a2).bind fun t201 => (if t200 = t201 then ((lookasidelaw01_lives.f).bind fun t202 => (some t202)) else (some false)))) else (some false)) else (some false)) else (if t196 = 0 then (if t198 = a0 then (if t199 = a0 then ((lookasidelaw01_lives.f).bind fun t203 => (some t203)) else (some false)) else (some false)) else (some false))))))
theorem lookasidelaw01_FieldMasks.mono : ∀ a0 a1 a2 k, LeO (lookasidelaw01_FieldMasks.f k a0 a1 a2) (lookasidelaw01_FieldMasks.f (k + 1) a0 a1 a2) := by
  intro a0 a1 a2 k
  unfold lookasidelaw01_FieldMasks.f
  repeat' first
      | (with_reducible exact lookasideref01_Get.mono _ _ _ _)
      | (with_reducible exact LeO.refl _)
      | (with_reducible exact LeO.none _)
      | (with_reducible refine LeO.ite ?_ ?_)
      | (with_reducible refine LeO.bind ?_ (fun _ => ?_))
      | exact lookasideref01_Get.mono _ _ _ _
      | exact LeO.none _
      | refine LeO.ite ?_ ?_
      | refine LeO.bind ?_ (fun _ => ?_)
set_option maxHeartbeats 8000000 in
set_option maxRecDepth 100000 in
theorem lookasidelaw01_FieldMasks.calls (k : Nat) (a0 : Int) (a1 : Int) (a2 : Int) (r : Bool) (w : World) (h : lookasidelaw01_FieldMasks.f k a0 a1 a2 = some r) :
    Calls Try.prog 10 #[.int .u64 a0, .int .i64 a1, .int .i64 a2] w fun e w' => e = .returned (.bool r) ∧ Below w.heap.size w w' := by
  have HB := Aside0.mk (Below.refl w.heap.size w)
  have H : ((field_Mask.f a1 a2).bind fun t196 => ((lookasideref01_May.f a1 a2).bind fun t197 => ((field_Put.f a0 a1 a2 18446744073709551615).bind fun t198 => ((field_Put.f a0 a1 a2 0).bind fun t199 => (if t197 = true then (if t198 = (Go.bits .or .u64 a0 t196) then (if t199 = (IntKind.u64.wrap (a0 - (Go.bits .and .u64 a0 t196))) then ((field_Get.f t196 a1 a2).bind fun t200 => ((lookasideref01_Get.f k 18446744073709551615 0 a2).bind fun t201 => (if t200 = t201 then ((lookasidelaw01_lives.f).bind fun t202 => (some t202)) else (some false)))) else (some false)) else (some false)) else (if t196 = 0 then (if t198 = a0 then (if t199 = a0 then ((lookasidelaw01_lives.f).bind fun t203 => (some t203)) else (some false)) else (some false)) else (some false))))))) = some r := h
  clear h
  replace H := Option.bind_eq_some_iff.mp H
  obtain ⟨t196, A40, H⟩ := H
  replace H : ((lookasideref01_May.f a1 a2).bind fun t197 => ((field_Put.f a0 a1 a2 18446744073709551615).bind fun t198 => ((field_Put.f a0 a1 a2 0).bind fun t199 => (if t197 = true then (if t198 = (Go.bits .or .u64 a0 t196) then (if t199 = (IntKind.u64.wrap (a0 - (Go.bits .and .u64 a0 t196))) then ((field_Get.f t196 a1 a2).bind fun t200 => ((lookasideref01_Get.f k 18446744073709551615 0 a2).bind fun t201 => (if t200 = t201 then ((lookasidelaw01_lives.f).bind fun t202 => (some t202)) else (some false)))) else (some false)) else (some false)) else (if t196 = 0 then (if t198 = a0 then (if t199 = a0 then ((lookasidelaw01_lives.f).bind fun t203 => (some t203)) else (some false)) else (some false)) else (some false)))))) = some r := H
  have A4 := Aside0.mk A40
  clear A40
  replace H := Option.bind_eq_some_iff.mp H
  obtain ⟨t197, A50, H⟩ := H
  replace H : ((field_Put.f a0 a1 a2 18446744073709551615).bind fun t198 => ((field_Put.f a0 a1 a2 0).bind fun t199 => (if t197 = true then (if t198 = (Go.bits .or .u64 a0 t196) then (if t199 = (IntKind.u64.wrap (a0 - (Go.bits .and .u64 a0 t196))) then ((field_Get.f t196 a1 a2).bind fun t200 => ((lookasideref01_Get.f k 18446744073709551615 0 a2).bind fun t201 => (if t200 = t201 then ((lookasidelaw01_lives.f).bind fun t202 => (some t202)) else (some false)))) else (some false)) else (some false)) else (if t196 = 0 then (if t198 = a0 then (if t199 = a0 then ((lookasidelaw01_lives.f).bind fun t203 => (some t203)) else (some false)) else (some false)) else (some false))))) = some r := H
  have A5 := Aside0.mk A50
  clear A50
  replace H := Option.bind_eq_some_iff.mp H
  obtain ⟨t198, A60, H⟩ := H
  replace H : ((field_Put.f a0 a1 a2 0).bind fun t199 => (if t197 = true then (if t198 = (Go.bits .or .u64 a0 t196) then (if t199 = (IntKind.u64.wrap (a0 - (Go.bits .and .u64 a0 t196))) then ((field_Get.f t196 a1 a2).bind fun t200 => ((lookasideref01_Get.f k 18446744073709551615 0 a2).bind fun t201 => (if t200 = t201 then ((lookasidelaw01_lives.f).bind fun t202 => (some t202)) else (some false)))) else (some false)) else (some false)) else (if t196 = 0 then (if t198 = a0 then (if t199 = a0 then ((lookasidelaw01_lives.f).bind fun t203 => (some t203)) else (some false)) else (some false)) else (some false)))) = some r := H
  have A6 := Aside0.mk A60
  clear A60
  replace H := Option.bind_eq_some_iff.mp H
  obtain ⟨t199, A70, H⟩ := H
  replace H : (if t197 = true then (if t198 = (Go.bits .or .u64 a0 t196) then (if t199 = (IntKind.u64.wrap (a0 - (Go.bits .and .u64 a0 t196))) then ((field_Get.f t196 a1 a2).bind fun t200 => ((lookasideref01_Get.f k 18446744073709551615 0 a2).bind fun t201 => (if t200 = t201 then ((lookasidelaw01_lives.f).bind fun t202 => (some t202)) else (some false)))) else (some false)) else (some false)) else (if t196 = 0 then (if t198 = a0 then (if t199 = a0 then ((lookasidelaw01_lives.f).bind fun t203 => (some t203)) else (some false)) else (some false)) else (some false))) = some r := H
  have A7 := Aside0.mk A70
  clear A70
  by_cases c8 : t197 = true
  · subst c8
    have H1 : (if t198 = (Go.bits .or .u64 a0 t196) then (if t199 = (IntKind.u64.wrap (a0 - (Go.bits .and .u64 a0 t196))) then ((field_Get.f t196 a1 a2).bind fun t200 => ((lookasideref01_Get.f k 18446744073709551615 0 a2).bind fun t201 => (if t200 = t201 then ((lookasidelaw01_lives.f).bind fun t202 => (some t202)) else (some false)))) else (some false)) else (some false)) = some r := by rw [if_pos rfl] at H; exact H
    clear H
    have H := H1
    clear H1
    by_cases c9 : t198 = (Go.bits .or .u64 a0 t196)
    · rw [if_pos c9] at H
      have c9b0 : (t198 == (Go.bits .or .u64 a0 t196)) = true := beq_iff_eq.mpr c9
      have c9b1 : (t198 != (Go.bits .or .u64 a0 t196)) = false := bne_eq_false_iff_eq.mpr c9
      clear c9
      by_cases c10 : t199 = (IntKind.u64.wrap (a0 - (Go.bits .and .u64 a0 t196)))
      · rw [if_pos c10] at H
        have c10b0 : (t199 == (IntKind.u64.wrap (a0 - (Go.bits .and .u64 a0 t196)))) = true := beq_iff_eq.mpr c10
        have c10b1 : (t199 != (IntKind.u64.wrap (a0 - (Go.bits .and .u64 a0 t196)))) = false := bne_eq_false_iff_eq.mpr c10
        clear c10
        replace H := Option.bind_eq_some_iff.mp H
        obtain ⟨t200, A110, H⟩ := H
        replace H : ((lookasideref01_Get.f k 18446744073709551615 0 a2).bind fun t201 => (if t200 = t201 then ((lookasidelaw01_lives.f).bind fun t202 => (some t202)) else (some false))) = some r := H
        have A11 := Aside0.mk A110
        clear A110
        replace H := Option.bind_eq_some_iff.mp H
        obtain ⟨t201, A120, H⟩ := H
        replace H : (if t200 = t201 then ((lookasidelaw01_lives.f).bind fun t202 => (some t202)) else (some false)) = some r := H
        have A12 := Aside0.mk A120
        clear A120
        by_cases c13 : t200 = t201
        · rw [if_pos c13] at H
          have c13b0 : (t200 == t201) = true := beq_iff_eq.mpr c13
          have c13b1 : (t200 != t201) = false := bne_eq_false_iff_eq.mpr c13
          clear c13
          replace H := Option.bind_eq_some_iff.mp H
          obtain ⟨t202, A140, H⟩ := H
          replace H : (some t202) = some r := H
          have A14 := Aside0.mk A140
          clear A140
          obtain rfl := Option.some.inj H
          go_enter Try.func10, Try.ntmps10
          go_wp2_with (first | ((with_reducible refine gate_callee (f := 39) rfl ?_); refine goesL_ (some 13) rfl rfl Try.func39 (by kernel_rfl) rfl #[.int .i64 a1, .int .i64 a2] rfl (by (try simp only [List.map_toArray, List.map_cons, List.map_nil]); first | done | rfl | (simp only [List.length_drop, List.length_take]; rfl)) ?_; (with_reducible refine (field_Mask.calls a1 a2 t196 _ A4.out).mono ?_); rintro e w' ⟨rfl, ⟨nd, rfl⟩⟩; refine ⟨_, rfl, ?_⟩) | ((with_reducible refine gate_callee (f := 35) rfl ?_); refine goesL_ (some 16) rfl rfl Try.func35 (by kernel_rfl) rfl #[.int .i64 a1, .int .i64 a2] rfl (by (try simp only [List.map_toArray, List.map_cons, List.map_nil]); first | done | rfl | (simp only [List.length_drop, List.length_take]; rfl)) ?_; (with_reducible refine (lookasideref01_May.calls a1 a2 true _ A5.out).mono ?_); rintro e w' ⟨rfl, ⟨nd, rfl⟩⟩; refine ⟨_, rfl, ?_⟩) | ((with_reducible refine gate_callee (f := 38) rfl ?_); refine goesL_ (some 20) rfl rfl Try.func38 (by kernel_rfl) rfl #[.int .u64 a0, .int .i64 a1, .int .i64 a2, .int .u64 18446744073709551615] rfl (by (try simp only [List.map_toArray, List.map_cons, List.map_nil]); first | done | rfl | (simp only [List.length_drop, List.length_take]; rfl)) ?_; (with_reducible refine (field_Put.calls a0 a1 a2 18446744073709551615 t198 _ A6.out).mono ?_); rintro e w' ⟨rfl, ⟨nd, rfl⟩⟩; refine ⟨_, rfl, ?_⟩) | ((with_reducible refine gate_callee (f := 38) rfl ?_); refine goesL_ (some 24) rfl rfl Try.func38 (by kernel_rfl) rfl #[.int .u64 a0, .int .i64 a1, .int .i64 a2, .int .u64 0] rfl (by (try simp only [List.map_toArray, List.map_cons, List.map_nil]); first | done | rfl | (simp only [List.length_drop, List.length_take]; rfl)) ?_; (with_reducible refine (field_Put.calls a0 a1 a2 0 t199 _ A7.out).mono ?_); rintro e w' ⟨rfl, ⟨nd, rfl⟩⟩; refine ⟨_, rfl, ?_⟩) | (go_at_call 36; (with_reducible refine (field_Get.calls t196 a1 a2 t200 _ A11.out).mono ?_); rintro e w' ⟨rfl, ⟨nd, rfl⟩⟩) | (go_at_call 37; (with_reducible refine (lookasideref01_Get.calls k 18446744073709551615 0 a2 t201 _ A12.out).mono ?_); rintro e w' ⟨rfl, ⟨nd, rfl⟩⟩) | (go_at_call 40; (with_reducible refine (lookasidelaw01_lives.calls  t202 _ A14.out).mono ?_); rintro e w15 ⟨rfl, hb⟩; have n0_ := Aside0.mk (below_step (by repeat (first | (with_reducible first | exact HB.out | apply below_alloc | apply pw_below_drewN | apply below_drew1) | exact HB.out)) hb); clear HB; have HB := n0_; clear n0_; (try clear hb); (try clear hb2); (try clear hk); (try clear hi)))
          go_ret
          exact ⟨by first | rfl | (simp [errW_none, errW_some] <;> rfl) | (simp [*, errW_none, errW_some] <;> rfl), by repeat (first | (with_reducible first | exact HB.out | apply below_alloc | apply pw_below_drewN | apply below_drew1) | exact HB.out)⟩
        · rw [if_neg c13] at H
          have c13b0 : (t200 == t201) = false := beq_eq_false_iff_ne.mpr c13
          have c13b1 : (t200 != t201) = true := bne_iff_ne.mpr c13
          obtain rfl := Option.some.inj H
          go_enter Try.func10, Try.ntmps10
          go_wp2_with (first | ((with_reducible refine gate_callee (f := 39) rfl ?_); refine goesL_ (some 13) rfl rfl Try.func39 (by kernel_rfl) rfl #[.int .i64 a1, .int .i64 a2] rfl (by (try simp only [List.map_toArray, List.map_cons, List.map_nil]); first | done | rfl | (simp only [List.length_drop, List.length_take]; rfl)) ?_; (with_reducible refine (field_Mask.calls a1 a2 t196 _ A4.out).mono ?_); rintro e w' ⟨rfl, ⟨nd, rfl⟩⟩; refine ⟨_, rfl, ?_⟩) | ((with_reducible refine gate_callee (f := 35) rfl ?_); refine goesL_ (some 16) rfl rfl Try.func35 (by kernel_rfl) rfl #[.int .i64 a1, .int .i64 a2] rfl (by (try simp only [List.map_toArray, List.map_cons, List.map_nil]); first | done | rfl | (simp only [List.length_drop, List.length_take]; rfl)) ?_; (with_reducible refine (lookasideref01_May.calls a1 a2 true _ A5.out).mono ?_); rintro e w' ⟨rfl, ⟨nd, rfl⟩⟩; refine ⟨_, rfl, ?_⟩) | ((with_reducible refine gate_callee (f := 38) rfl ?_); refine goesL_ (some 20) rfl rfl Try.func38 (by kernel_rfl) rfl #[.int .u64 a0, .int .i64 a1, .int .i64 a2, .int .u64 18446744073709551615] rfl (by (try simp only [List.map_toArray, List.map_cons, List.map_nil]); first | done | rfl | (simp only [List.length_drop, List.length_take]; rfl)) ?_; (with_reducible refine (field_Put.calls a0 a1 a2 18446744073709551615 t198 _ A6.out).mono ?_); rintro e w' ⟨rfl, ⟨nd, rfl⟩⟩; refine ⟨_, rfl, ?_⟩) | ((with_reducible refine gate_callee (f := 38) rfl ?_); refine goesL_ (some 24) rfl rfl Try.func38 (by kernel_rfl) rfl #[.int .u64 a0, .int .i64 a1, .int .i64 a2, .int .u64 0] rfl (by (try simp only [List.map_toArray, List.map_cons, List.map_nil]); first | done | rfl | (simp only [List.length_drop, List.length_take]; rfl)) ?_; (with_reducible refine (field_Put.calls a0 a1 a2 0 t199 _ A7.out).mono ?_); rintro e w' ⟨rfl, ⟨nd, rfl⟩⟩; refine ⟨_, rfl, ?_⟩) | (go_at_call 36; (with_reducible refine (field_Get.calls t196 a1 a2 t200 _ A11.out).mono ?_); rintro e w' ⟨rfl, ⟨nd, rfl⟩⟩) | (go_at_call 37; (with_reducible refine (lookasideref01_Get.calls k 18446744073709551615 0 a2 t201 _ A12.out).mono ?_); rintro e w' ⟨rfl, ⟨nd, rfl⟩⟩))
          go_ret
          exact ⟨by first | rfl | (simp [errW_none, errW_some] <;> rfl) | (simp [*, errW_none, errW_some] <;> rfl), by repeat (first | (with_reducible first | exact HB.out | apply below_alloc | apply pw_below_drewN | apply below_drew1) | exact HB.out)⟩
      · rw [if_neg c10] at H
        have c10b0 : (t199 == (IntKind.u64.wrap (a0 - (Go.bits .and .u64 a0 t196)))) = false := beq_eq_false_iff_ne.mpr c10
        have c10b1 : (t199 != (IntKind.u64.wrap (a0 - (Go.bits .and .u64 a0 t196)))) = true := bne_iff_ne.mpr c10
        obtain rfl := Option.some.inj H
        go_enter Try.func10, Try.ntmps10
        go_wp2_with (first | ((with_reducible refine gate_callee (f := 39) rfl ?_); refine goesL_ (some 13) rfl rfl Try.func39 (by kernel_rfl) rfl #[.int .i64 a1, .int .i64 a2] rfl (by (try simp only [List.map_toArray, List.map_cons, List.map_nil]); first | done | rfl | (simp only [List.length_drop, List.length_take]; rfl)) ?_; (with_reducible refine (field_Mask.calls a1 a2 t196 _ A4.out).mono ?_); rintro e w' ⟨rfl, ⟨nd, rfl⟩⟩; refine ⟨_, rfl, ?_⟩) | ((with_reducible refine gate_callee (f := 35) rfl ?_); refine goesL_ (some 16) rfl rfl Try.func35 (by kernel_rfl) rfl #[.int .i64 a1, .int .i64 a2] rfl (by (try simp only [List.map_toArray, List.map_cons, List.map_nil]); first | done | rfl | (simp only [List.length_drop, List.length_take]; rfl)) ?_; (with_reducible refine (lookasideref01_May.calls a1 a2 true _ A5.out).mono ?_); rintro e w' ⟨rfl, ⟨nd, rfl⟩⟩; refine ⟨_, rfl, ?_⟩) | ((with_reducible refine gate_callee (f := 38) rfl ?_); refine goesL_ (some 20) rfl rfl Try.func38 (by kernel_rfl) rfl #[.int .u64 a0, .int .i64 a1, .int .i64 a2, .int .u64 18446744073709551615] rfl (by (try simp only [List.map_toArray, List.map_cons, List.map_nil]); first | done | rfl | (simp only [List.length_drop, List.length_take]; rfl)) ?_; (with_reducible refine (field_Put.calls a0 a1 a2 18446744073709551615 t198 _ A6.out).mono ?_); rintro e w' ⟨rfl, ⟨nd, rfl⟩⟩; refine ⟨_, rfl, ?_⟩) | ((with_reducible refine gate_callee (f := 38) rfl ?_); refine goesL_ (some 24) rfl rfl Try.func38 (by kernel_rfl) rfl #[.int .u64 a0, .int .i64 a1, .int .i64 a2, .int .u64 0] rfl (by (try simp only [List.map_toArray, List.map_cons, List.map_nil]); first | done | rfl | (simp only [List.length_drop, List.length_take]; rfl)) ?_; (with_reducible refine (field_Put.calls a0 a1 a2 0 t199 _ A7.out).mono ?_); rintro e w' ⟨rfl, ⟨nd, rfl⟩⟩; refine ⟨_, rfl, ?_⟩))
        go_ret
        exact ⟨by first | rfl | (simp [errW_none, errW_some] <;> rfl) | (simp [*, errW_none, errW_some] <;> rfl), by repeat (first | (with_reducible first | exact HB.out | apply below_alloc | apply pw_below_drewN | apply below_drew1) | exact HB.out)⟩
    · rw [if_neg c9] at H
      have c9b0 : (t198 == (Go.bits .or .u64 a0 t196)) = false := beq_eq_false_iff_ne.mpr c9
      have c9b1 : (t198 != (Go.bits .or .u64 a0 t196)) = true := bne_iff_ne.mpr c9
      obtain rfl := Option.some.inj H
      go_enter Try.func10, Try.ntmps10
      go_wp2_with (first | ((with_reducible refine gate_callee (f := 39) rfl ?_); refine goesL_ (some 13) rfl rfl Try.func39 (by kernel_rfl) rfl #[.int .i64 a1, .int .i64 a2] rfl (by (try simp only [List.map_toArray, List.map_cons, List.map_nil]); first | done | rfl | (simp only [List.length_drop, List.length_take]; rfl)) ?_; (with_reducible refine (field_Mask.calls a1 a2 t196 _ A4.out).mono ?_); rintro e w' ⟨rfl, ⟨nd, rfl⟩⟩; refine ⟨_, rfl, ?_⟩) | ((with_reducible refine gate_callee (f := 35) rfl ?_); refine goesL_ (some 16) rfl rfl Try.func35 (by kernel_rfl) rfl #[.int .i64 a1, .int .i64 a2] rfl (by (try simp only [List.map_toArray, List.map_cons, List.map_nil]); first | done | rfl | (simp only [List.length_drop, List.length_take]; rfl)) ?_; (with_reducible refine (lookasideref01_May.calls a1 a2 true _ A5.out).mono ?_); rintro e w' ⟨rfl, ⟨nd, rfl⟩⟩; refine ⟨_, rfl, ?_⟩) | ((with_reducible refine gate_callee (f := 38) rfl ?_); refine goesL_ (some 20) rfl rfl Try.func38 (by kernel_rfl) rfl #[.int .u64 a0, .int .i64 a1, .int .i64 a2, .int .u64 18446744073709551615] rfl (by (try simp only [List.map_toArray, List.map_cons, List.map_nil]); first | done | rfl | (simp only [List.length_drop, List.length_take]; rfl)) ?_; (with_reducible refine (field_Put.calls a0 a1 a2 18446744073709551615 t198 _ A6.out).mono ?_); rintro e w' ⟨rfl, ⟨nd, rfl⟩⟩; refine ⟨_, rfl, ?_⟩) | ((with_reducible refine gate_callee (f := 38) rfl ?_); refine goesL_ (some 24) rfl rfl Try.func38 (by kernel_rfl) rfl #[.int .u64 a0, .int .i64 a1, .int .i64 a2, .int .u64 0] rfl (by (try simp only [List.map_toArray, List.map_cons, List.map_nil]); first | done | rfl | (simp only [List.length_drop, List.length_take]; rfl)) ?_; (with_reducible refine (field_Put.calls a0 a1 a2 0 t199 _ A7.out).mono ?_); rintro e w' ⟨rfl, ⟨nd, rfl⟩⟩; refine ⟨_, rfl, ?_⟩))
      go_ret
      exact ⟨by first | rfl | (simp [errW_none, errW_some] <;> rfl) | (simp [*, errW_none, errW_some] <;> rfl), by repeat (first | (with_reducible first | exact HB.out | apply below_alloc | apply pw_below_drewN | apply below_drew1) | exact HB.out)⟩
  · replace c8 := Bool.eq_false_iff.mpr c8
    subst c8
    have H1 : (if t196 = 0 then (if t198 = a0 then (if t199 = a0 then ((lookasidelaw01_lives.f).bind fun t203 => (some t203)) else (some false)) else (some false)) else (some false)) = some r := by rw [if_neg (show ¬ (false = true) by decide)] at H; exact H
    clear H
    have H := H1
    clear H1
    by_cases c16 : t196 = 0
    · rw [if_pos c16] at H
      have c16b0 : (t196 == 0) = true := beq_iff_eq.mpr c16
      have c16b1 : (t196 != 0) = false := bne_eq_false_iff_eq.mpr c16
      clear c16
      by_cases c17 : t198 = a0
      · rw [if_pos c17] at H
        have c17b0 : (t198 == a0) = true := beq_iff_eq.mpr c17
        have c17b1 : (t198 != a0) = false := bne_eq_false_iff_eq.mpr c17
        clear c17
        by_cases c18 : t199 = a0
        · rw [if_pos c18] at H
          have c18b0 : (t199 == a0) = true := beq_iff_eq.mpr c18
          have c18b1 : (t199 != a0) = false := bne_eq_false_iff_eq.mpr c18
          clear c18
          replace H := Option.bind_eq_some_iff.mp H
          obtain ⟨t203, A190, H⟩ := H
          replace H : (some t203) = some r := H
          have A19 := Aside0.mk A190
          clear A190
          obtain rfl := Option.some.inj H
          go_enter Try.func10, Try.ntmps10
          go_wp2_with (first | ((with_reducible refine gate_callee (f := 39) rfl ?_); refine goesL_ (some 13) rfl rfl Try.func39 (by kernel_rfl) rfl #[.int .i64 a1, .int .i64 a2] rfl (by (try simp only [List.map_toArray, List.map_cons, List.map_nil]); first | done | rfl | (simp only [List.length_drop, List.length_take]; rfl)) ?_; (with_reducible refine (field_Mask.calls a1 a2 t196 _ A4.out).mono ?_); rintro e w' ⟨rfl, ⟨nd, rfl⟩⟩; refine ⟨_, rfl, ?_⟩) | ((with_reducible refine gate_callee (f := 35) rfl ?_); refine goesL_ (some 16) rfl rfl Try.func35 (by kernel_rfl) rfl #[.int .i64 a1, .int .i64 a2] rfl (by (try simp only [List.map_toArray, List.map_cons, List.map_nil]); first | done | rfl | (simp only [List.length_drop, List.length_take]; rfl)) ?_; (with_reducible refine (lookasideref01_May.calls a1 a2 false _ A5.out).mono ?_); rintro e w' ⟨rfl, ⟨nd, rfl⟩⟩; refine ⟨_, rfl, ?_⟩) | ((with_reducible refine gate_callee (f := 38) rfl ?_); refine goesL_ (some 20) rfl rfl Try.func38 (by kernel_rfl) rfl #[.int .u64 a0, .int .i64 a1, .int .i64 a2, .int .u64 18446744073709551615] rfl (by (try simp only [List.map_toArray, List.map_cons, List.map_nil]); first | done | rfl | (simp only [List.length_drop, List.length_take]; rfl)) ?_; (with_reducible refine (field_Put.calls a0 a1 a2 18446744073709551615 t198 _ A6.out).mono ?_); rintro e w' ⟨rfl, ⟨nd, rfl⟩⟩; refine ⟨_, rfl, ?_⟩) | ((with_reducible refine gate_callee (f := 38) rfl ?_); refine goesL_ (some 24) rfl rfl Try.func38 (by kernel_rfl) rfl #[.int .u64 a0, .int .i64 a1, .int .i64 a2, .int .u64 0] rfl (by (try simp only [List.map_toArray, List.map_cons, List.map_nil]); first | done | rfl | (simp only [List.length_drop, List.length_take]; rfl)) ?_; (with_reducible refine (field_Put.calls a0 a1 a2 0 t199 _ A7.out).mono ?_); rintro e w' ⟨rfl, ⟨nd, rfl⟩⟩; refine ⟨_, rfl, ?_⟩) | (go_at_call 40; (with_reducible refine (lookasidelaw01_lives.calls  t203 _ A19.out).mono ?_); rintro e w20 ⟨rfl, hb⟩; have n0_ := Aside0.mk (below_step (by repeat (first | (with_reducible first | exact HB.out | apply below_alloc | apply pw_below_drewN | apply below_drew1) | exact HB.out)) hb); clear HB; have HB := n0_; clear n0_; (try clear hb); (try clear hb2); (try clear hk); (try clear hi)))
          go_ret
          exact ⟨by first | rfl | (simp [errW_none, errW_some] <;> rfl) | (simp [*, errW_none, errW_some] <;> rfl), by repeat (first | (with_reducible first | exact HB.out | apply below_alloc | apply pw_below_drewN | apply below_drew1) | exact HB.out)⟩
        · rw [if_neg c18] at H
          have c18b0 : (t199 == a0) = false := beq_eq_false_iff_ne.mpr c18
          have c18b1 : (t199 != a0) = true := bne_iff_ne.mpr c18
          obtain rfl := Option.some.inj H
          go_enter Try.func10, Try.ntmps10
          go_wp2_with (first | ((with_reducible refine gate_callee (f := 39) rfl ?_); refine goesL_ (some 13) rfl rfl Try.func39 (by kernel_rfl) rfl #[.int .i64 a1, .int .i64 a2] rfl (by (try simp only [List.map_toArray, List.map_cons, List.map_nil]); first | done | rfl | (simp only [List.length_drop, List.length_take]; rfl)) ?_; (with_reducible refine (field_Mask.calls a1 a2 t196 _ A4.out).mono ?_); rintro e w' ⟨rfl, ⟨nd, rfl⟩⟩; refine ⟨_, rfl, ?_⟩) | ((with_reducible refine gate_callee (f := 35) rfl ?_); refine goesL_ (some 16) rfl rfl Try.func35 (by kernel_rfl) rfl #[.int .i64 a1, .int .i64 a2] rfl (by (try simp only [List.map_toArray, List.map_cons, List.map_nil]); first | done | rfl | (simp only [List.length_drop, List.length_take]; rfl)) ?_; (with_reducible refine (lookasideref01_May.calls a1 a2 false _ A5.out).mono ?_); rintro e w' ⟨rfl, ⟨nd, rfl⟩⟩; refine ⟨_, rfl, ?_⟩) | ((with_reducible refine gate_callee (f := 38) rfl ?_); refine goesL_ (some 20) rfl rfl Try.func38 (by kernel_rfl) rfl #[.int .u64 a0, .int .i64 a1, .int .i64 a2, .int .u64 18446744073709551615] rfl (by (try simp only [List.map_toArray, List.map_cons, List.map_nil]); first | done | rfl | (simp only [List.length_drop, List.length_take]; rfl)) ?_; (with_reducible refine (field_Put.calls a0 a1 a2 18446744073709551615 t198 _ A6.out).mono ?_); rintro e w' ⟨rfl, ⟨nd, rfl⟩⟩; refine ⟨_, rfl, ?_⟩) | ((with_reducible refine gate_callee (f := 38) rfl ?_); refine goesL_ (some 24) rfl rfl Try.func38 (by kernel_rfl) rfl #[.int .u64 a0, .int .i64 a1, .int .i64 a2, .int .u64 0] rfl (by (try simp only [List.map_toArray, List.map_cons, List.map_nil]); first | done | rfl | (simp only [List.length_drop, List.length_take]; rfl)) ?_; (with_reducible refine (field_Put.calls a0 a1 a2 0 t199 _ A7.out).mono ?_); rintro e w' ⟨rfl, ⟨nd, rfl⟩⟩; refine ⟨_, rfl, ?_⟩))
          go_ret
          exact ⟨by first | rfl | (simp [errW_none, errW_some] <;> rfl) | (simp [*, errW_none, errW_some] <;> rfl), by repeat (first | (with_reducible first | exact HB.out | apply below_alloc | apply pw_below_drewN | apply below_drew1) | exact HB.out)⟩
      · rw [if_neg c17] at H
        have c17b0 : (t198 == a0) = false := beq_eq_false_iff_ne.mpr c17
        have c17b1 : (t198 != a0) = true := bne_iff_ne.mpr c17
        obtain rfl := Option.some.inj H
        go_enter Try.func10, Try.ntmps10
        go_wp2_with (first | ((with_reducible refine gate_callee (f := 39) rfl ?_); refine goesL_ (some 13) rfl rfl Try.func39 (by kernel_rfl) rfl #[.int .i64 a1, .int .i64 a2] rfl (by (try simp only [List.map_toArray, List.map_cons, List.map_nil]); first | done | rfl | (simp only [List.length_drop, List.length_take]; rfl)) ?_; (with_reducible refine (field_Mask.calls a1 a2 t196 _ A4.out).mono ?_); rintro e w' ⟨rfl, ⟨nd, rfl⟩⟩; refine ⟨_, rfl, ?_⟩) | ((with_reducible refine gate_callee (f := 35) rfl ?_); refine goesL_ (some 16) rfl rfl Try.func35 (by kernel_rfl) rfl #[.int .i64 a1, .int .i64 a2] rfl (by (try simp only [List.map_toArray, List.map_cons, List.map_nil]); first | done | rfl | (simp only [List.length_drop, List.length_take]; rfl)) ?_; (with_reducible refine (lookasideref01_May.calls a1 a2 false _ A5.out).mono ?_); rintro e w' ⟨rfl, ⟨nd, rfl⟩⟩; refine ⟨_, rfl, ?_⟩) | ((with_reducible refine gate_callee (f := 38) rfl ?_); refine goesL_ (some 20) rfl rfl Try.func38 (by kernel_rfl) rfl #[.int .u64 a0, .int .i64 a1, .int .i64 a2, .int .u64 18446744073709551615] rfl (by (try simp only [List.map_toArray, List.map_cons, List.map_nil]); first | done | rfl | (simp only [List.length_drop, List.length_take]; rfl)) ?_; (with_reducible refine (field_Put.calls a0 a1 a2 18446744073709551615 t198 _ A6.out).mono ?_); rintro e w' ⟨rfl, ⟨nd, rfl⟩⟩; refine ⟨_, rfl, ?_⟩) | ((with_reducible refine gate_callee (f := 38) rfl ?_); refine goesL_ (some 24) rfl rfl Try.func38 (by kernel_rfl) rfl #[.int .u64 a0, .int .i64 a1, .int .i64 a2, .int .u64 0] rfl (by (try simp only [List.map_toArray, List.map_cons, List.map_nil]); first | done | rfl | (simp only [List.length_drop, List.length_take]; rfl)) ?_; (with_reducible refine (field_Put.calls a0 a1 a2 0 t199 _ A7.out).mono ?_); rintro e w' ⟨rfl, ⟨nd, rfl⟩⟩; refine ⟨_, rfl, ?_⟩))
        go_ret
        exact ⟨by first | rfl | (simp [errW_none, errW_some] <;> rfl) | (simp [*, errW_none, errW_some] <;> rfl), by repeat (first | (with_reducible first | exact HB.out | apply below_alloc | apply pw_below_drewN | apply below_drew1) | exact HB.out)⟩
    · rw [if_neg c16] at H
      have c16b0 : (t196 == 0) = false := beq_eq_false_iff_ne.mpr c16
      have c16b1 : (t196 != 0) = true := bne_iff_ne.mpr c16
      obtain rfl := Option.some.inj H
      go_enter Try.func10, Try.ntmps10
      go_wp2_with (first | ((with_reducible refine gate_callee (f := 39) rfl ?_); refine goesL_ (some 13) rfl rfl Try.func39 (by kernel_rfl) rfl #[.int .i64 a1, .int .i64 a2] rfl (by (try simp only [List.map_toArray, List.map_cons, List.map_nil]); first | done | rfl | (simp only [List.length_drop, List.length_take]; rfl)) ?_; (with_reducible refine (field_Mask.calls a1 a2 t196 _ A4.out).mono ?_); rintro e w' ⟨rfl, ⟨nd, rfl⟩⟩; refine ⟨_, rfl, ?_⟩) | ((with_reducible refine gate_callee (f := 35) rfl ?_); refine goesL_ (some 16) rfl rfl Try.func35 (by kernel_rfl) rfl #[.int .i64 a1, .int .i64 a2] rfl (by (try simp only [List.map_toArray, List.map_cons, List.map_nil]); first | done | rfl | (simp only [List.length_drop, List.length_take]; rfl)) ?_; (with_reducible refine (lookasideref01_May.calls a1 a2 false _ A5.out).mono ?_); rintro e w' ⟨rfl, ⟨nd, rfl⟩⟩; refine ⟨_, rfl, ?_⟩) | ((with_reducible refine gate_callee (f := 38) rfl ?_); refine goesL_ (some 20) rfl rfl Try.func38 (by kernel_rfl) rfl #[.int .u64 a0, .int .i64 a1, .int .i64 a2, .int .u64 18446744073709551615] rfl (by (try simp only [List.map_toArray, List.map_cons, List.map_nil]); first | done | rfl | (simp only [List.length_drop, List.length_take]; rfl)) ?_; (with_reducible refine (field_Put.calls a0 a1 a2 18446744073709551615 t198 _ A6.out).mono ?_); rintro e w' ⟨rfl, ⟨nd, rfl⟩⟩; refine ⟨_, rfl, ?_⟩) | ((with_reducible refine gate_callee (f := 38) rfl ?_); refine goesL_ (some 24) rfl rfl Try.func38 (by kernel_rfl) rfl #[.int .u64 a0, .int .i64 a1, .int .i64 a2, .int .u64 0] rfl (by (try simp only [List.map_toArray, List.map_cons, List.map_nil]); first | done | rfl | (simp only [List.length_drop, List.length_take]; rfl)) ?_; (with_reducible refine (field_Put.calls a0 a1 a2 0 t199 _ A7.out).mono ?_); rintro e w' ⟨rfl, ⟨nd, rfl⟩⟩; refine ⟨_, rfl, ?_⟩))
      go_ret
      exact ⟨by first | rfl | (simp [errW_none, errW_some] <;> rfl) | (simp [*, errW_none, errW_some] <;> rfl), by repeat (first | (with_reducible first | exact HB.out | apply below_alloc | apply pw_below_drewN | apply below_drew1) | exact HB.out)⟩

/-- THE ONE PURE STATEMENT of lookasidelaw01_FieldMasks: yours. -/
def lookasidelaw01_FieldMasks.Pure : Prop := ∀ (a0 : Int) (a1 : Int) (a2 : Int), (Lit.int .u64 a0).wf = true → (Lit.int .i64 a1).wf = true → (Lit.int .i64 a2).wf = true → ∃ k, lookasidelaw01_FieldMasks.f k a0 a1 a2 = some true
theorem lookasidelaw01_FieldMasks.walk (P : lookasidelaw01_FieldMasks.Pure) (a0 : Int) (a1 : Int) (a2 : Int) (w : World) (w0 : (Lit.int .u64 a0).wf = true) (w1 : (Lit.int .i64 a1).wf = true) (w2 : (Lit.int .i64 a2).wf = true) :
    Calls Try.prog 10 #[.int .u64 a0, .int .i64 a1, .int .i64 a2] w fun e w' => e = .returned (.bool true) ∧ Below w.heap.size w w' := by
  obtain ⟨k, h⟩ := P a0 a1 a2 w0 w1 w2
  refine (lookasidelaw01_FieldMasks.calls k a0 a1 a2 true w h).mono ?_
  rintro e w' ⟨rfl, hd⟩
  exact ⟨rfl, hd⟩

/-! ### field_Fits: function 41 -/
def field_Fits.f (a0 : Int) (a1 : Int) : Option (Bool) := if a1 ≥ 64 then (some true) else (if a1 ≥ 1 then (if 0 ≤ a1 then (some ((shr .u64 a0 a1) == 0)) else (none)) else (some false))
set_option maxHeartbeats 8000000 in
set_option maxRecDepth 100000 in
theorem field_Fits.calls (a0 : Int) (a1 : Int) (r : Bool) (w : World) (h : field_Fits.f a0 a1 = some r) :
    Calls Try.prog 41 #[.int .u64 a0, .int .i64 a1] w fun e w' => e = .returned (.bool r) ∧ Drawn0 w w' := by
  have H : (if a1 ≥ 64 then (some true) else (if a1 ≥ 1 then (if 0 ≤ a1 then (some ((shr .u64 a0 a1) == 0)) else (none)) else (some false))) = some r := h
  clear h
  by_cases c3 : a1 ≥ 64
  · rw [if_pos c3] at H
    have c3b0 : decide (64 ≤ a1) = true := decide_eq_true c3
    clear c3
    obtain rfl := Option.some.inj H
    go_enter Try.func41, Try.ntmps41
    go_wp2
    go_ret
    exact ⟨by first | rfl | (simp; done) | (simp [*]; done), by repeat (first | exact Drawn0.refl _ | apply Drawn0.step)⟩
  · rw [if_neg c3] at H
    have c3b0 : decide (64 ≤ a1) = false := decide_eq_false c3
    clear c3
    by_cases c4 : a1 ≥ 1
    · rw [if_pos c4] at H
      have c4b0 : decide (1 ≤ a1) = true := decide_eq_true c4
      clear c4
      by_cases c5 : 0 ≤ a1
      · rw [if_pos c5] at H
        have c5b0 := eq_true c5
        have c5b1 : decide (0 ≤ a1) = true := decide_eq_true c5
        clear c5
        obtain ⟨ji6, hji6⟩ : ∃ j_ : Int, (shr .u64 a0 a1) = j_ := ⟨_, rfl⟩
        replace H : (some ((ji6) == 0)) = some r := by first | (rw [hji6] at H; exact H) | (simp only [hji6] at H ⊢; exact H)
        have hji6_ : (a0 / 2 ^ min a1.toNat 64) = ji6 := hji6
        have hji6z : a1 ≤ 64 → (a0 / 2 ^ a1.toNat) = ji6 := shr_small hji6
        obtain rfl := Option.some.inj H
        go_enter Try.func41, Try.ntmps41
        go_wp2
        go_ret
        exact ⟨by first | rfl | (simp; done) | (simp only [← hji6] <;> (first | rfl | simp)) | (simp [*]; done), by repeat (first | exact Drawn0.refl _ | apply Drawn0.step)⟩
      · rw [if_neg c5] at H
        exact absurd H (by simp)
    · rw [if_neg c4] at H
      have c4b0 : decide (1 ≤ a1) = false := decide_eq_false c4
      clear c4
      obtain rfl := Option.some.inj H
      go_enter Try.func41, Try.ntmps41
      go_wp2
      go_ret
      exact ⟨by first | rfl | (simp; done) | (simp [*]; done), by repeat (first | exact Drawn0.refl _ | apply Drawn0.step)⟩

/-! ### lookasidelaw01_FieldRound: function 11 -/
mutual
def lookasidelaw01_FieldRound.j0 : Nat → Int → Int → Int → Int → Option (Bool)
  | 0, _, _, _, _ => none
  | k + 1, x0, x1, x2, x3 => if x2 < 0 then (lookasidelaw01_FieldRound.j1 k x0 x1 (wrap64 (-(wrap64 (x2 + 1)))) x3) else (lookasidelaw01_FieldRound.j1 k x0 x1 x2 x3)
def lookasidelaw01_FieldRound.j1 : Nat → Int → Int → Int → Int → Option (Bool)
  | 0, _, _, _, _ => none
  | k + 1, x0, x1, x2, x3 => if (wrap64 (64 - (Int.tmod x1 64))) = 0 then (none) else ((field_Put.f x0 (Int.tmod x1 64) (wrap64 (1 + (Int.tmod x2 (wrap64 (64 - (Int.tmod x1 64)))))) x3).bind fun t204 => ((field_Mask.f (Int.tmod x1 64) (wrap64 (1 + (Int.tmod x2 (wrap64 (64 - (Int.tmod x1 64))))))).bind fun t205 => ((field_Get.f t204 (Int.tmod x1 64) (wrap64 (1 + (Int.tmod x2 (wrap64 (64 - (Int.tmod x1 64))))))).bind fun t206 => ((field_Fits.f t206 (wrap64 (1 + (Int.tmod x2 (wrap64 (64 - (Int.tmod x1 64))))))).bind fun t207 => (if t207 = true then (lookasidelaw01_FieldRound.j2 k (Int.tmod x1 64) (wrap64 (1 + (Int.tmod x2 (wrap64 (64 - (Int.tmod x1 64)))))) x3 t204 t206 ((IntKind.u64.wrap (t204 - (Go.bits .and .u64 t204 t205))) != (IntKind.u64.wrap (x0 - (Go.bits .and .u64 x0 t205))))) else (lookasidelaw01_FieldRound.j2 k (Int.tmod x1 64) (wrap64 (1 + (Int.tmod x2 (wrap64 (64 - (Int.tmod x1 64)))))) x3 t204 t206 true))))))
def lookasidelaw01_FieldRound.j2 : Nat → Int → Int → Int → Int → Int → Bool → Option (Bool)
  | 0, _, _, _, _, _, _ => none
  | k + 1, x1, x2, x3, x9, x11, x57 => if x57 = true then (some false) else ((field_Fits.f x3 x2).bind fun t208 => (if t208 = true then (if x11 = x3 then ((field_Put.f x9 x1 x2 x11).bind fun t209 => (if t209 = x9 then ((lookasidelaw01_lives.f).bind fun t210 => (some t210)) else (some false))) else (some false)) else ((field_Put.f x9 x1 x2 x11).bind fun t211 => (if t211 = x9 then ((lookasidelaw01_lives.f).bind fun t212 => (some t212)) else (some false)))))
end
def lookasidelaw01_FieldRound.f (k : Nat) (a0 : Int) (a1 : Int) (a2 : Int) (a3 : Int) : Option (Bool) := if a1 < 0 then (lookasidelaw01_FieldRound.j0 k a0 (wrap64 (-(wrap64 (a1 + 1)))) a2 a3) else (lookasidelaw01_FieldRound.j0 k a0 a1 a2 a3)
theorem lookasidelaw01_FieldRound.mono_l : ∀ k, (∀ y0 y1 y2 y3, LeO (lookasidelaw01_FieldRound.j0 k y0 y1 y2 y3) (lookasidelaw01_FieldRound.j0 (k + 1) y0 y1 y2 y3)) ∧ (∀ y0 y1 y2 y3, LeO (lookasidelaw01_FieldRound.j1 k y0 y1 y2 y3) (lookasidelaw01_FieldRound.j1 (k + 1) y0 y1 y2 y3)) ∧ (∀ y0 y1 y2 y3 y4 y5, LeO (lookasidelaw01_FieldRound.j2 k y0 y1 y2 y3 y4 y5) (lookasidelaw01_FieldRound.j2 (k + 1) y0 y1 y2 y3 y4 y5))
  | 0 => ⟨fun _ _ _ _ r h => by simp [lookasidelaw01_FieldRound.j0] at h, fun _ _ _ _ r h => by simp [lookasidelaw01_FieldRound.j1] at h, fun _ _ _ _ _ _ r h => by simp [lookasidelaw01_FieldRound.j2] at h⟩
  | k + 1 => by
    obtain ⟨ih0, ih1, ih2⟩ := lookasidelaw01_FieldRound.mono_l k
    refine ⟨?_, ?_, ?_⟩
    · intro y0 y1 y2 y3
      unfold lookasidelaw01_FieldRound.j0
      repeat' first
      | (with_reducible exact ih0 _ _ _ _)
      | (with_reducible exact ih1 _ _ _ _)
      | (with_reducible exact ih2 _ _ _ _ _ _)
      | (with_reducible exact LeO.refl _)
      | (with_reducible exact LeO.none _)
      | (with_reducible refine LeO.ite ?_ ?_)
      | (with_reducible refine LeO.bind ?_ (fun _ => ?_))
      | exact ih0 _ _ _ _
      | exact ih1 _ _ _ _
      | exact ih2 _ _ _ _ _ _
      | exact LeO.none _
      | refine LeO.ite ?_ ?_
      | refine LeO.bind ?_ (fun _ => ?_)
    · intro y0 y1 y2 y3
      unfold lookasidelaw01_FieldRound.j1
      repeat' first
      | (with_reducible exact ih0 _ _ _ _)
      | (with_reducible exact ih1 _ _ _ _)
      | (with_reducible exact ih2 _ _ _ _ _ _)
      | (with_reducible exact LeO.refl _)
      | (with_reducible exact LeO.none _)
      | (with_reducible refine LeO.ite ?_ ?_)
      | (with_reducible refine LeO.bind ?_ (fun _ => ?_))
      | exact ih0 _ _ _ _
      | exact ih1 _ _ _ _
      | exact ih2 _ _ _ _ _ _
      | exact LeO.none _
      | refine LeO.ite ?_ ?_
      | refine LeO.bind ?_ (fun _ => ?_)
    · intro y0 y1 y2 y3 y4 y5
      unfold lookasidelaw01_FieldRound.j2
      repeat' first
      | (with_reducible exact ih0 _ _ _ _)
      | (with_reducible exact ih1 _ _ _ _)
      | (with_reducible exact ih2 _ _ _ _ _ _)
      | (with_reducible exact LeO.refl _)
      | (with_reducible exact LeO.none _)
      | (with_reducible refine LeO.ite ?_ ?_)
      | (with_reducible refine LeO.bind ?_ (fun _ => ?_))
      | exact ih0 _ _ _ _
      | exact ih1 _ _ _ _
      | exact ih2 _ _ _ _ _ _
      | exact LeO.none _
      | refine LeO.ite ?_ ?_
      | refine LeO.bind ?_ (fun _ => ?_)
theorem lookasidelaw01_FieldRound.mono : ∀ a0 a1 a2 a3 k, LeO (lookasidelaw01_FieldRound.f k a0 a1 a2 a3) (lookasidelaw01_FieldRound.f (k + 1) a0 a1 a2 a3) := by
  intro a0 a1 a2 a3 k
  obtain ⟨ih0, ih1, ih2⟩ := lookasidelaw01_FieldRound.mono_l k
  unfold lookasidelaw01_FieldRound.f
  repeat' first
      | (with_reducible exact ih0 _ _ _ _)
      | (with_reducible exact ih1 _ _ _ _)
      | (with_reducible exact ih2 _ _ _ _ _ _)
      | (with_reducible exact LeO.refl _)
      | (with_reducible exact LeO.none _)
      | (with_reducible refine LeO.ite ?_ ?_)
      | (with_reducible refine LeO.bind ?_ (fun _ => ?_))
      | exact ih0 _ _ _ _
      | exact ih1 _ _ _ _
      | exact ih2 _ _ _ _ _ _
      | exact LeO.none _
      | refine LeO.ite ?_ ?_
      | refine LeO.bind ?_ (fun _ => ?_)
set_option maxHeartbeats 8000000 in
set_option maxRecDepth 100000 in
theorem lookasidelaw01_FieldRound.calls (k : Nat) (a0 : Int) (a1 : Int) (a2 : Int) (a3 : Int) (r : Bool) (w : World) (h : lookasidelaw01_FieldRound.f k a0 a1 a2 a3 = some r) :
    Calls Try.prog 11 #[.int .u64 a0, .int .i64 a1, .int .i64 a2, .int .u64 a3] w fun e w' => e = .returned (.bool r) ∧ Below w.heap.size w w' := by
  have HB := Aside0.mk (Below.refl w.heap.size w)
  have H : (if a1 < 0 then (lookasidelaw01_FieldRound.j0 k a0 (wrap64 (-(wrap64 (a1 + 1)))) a2 a3) else (lookasidelaw01_FieldRound.j0 k a0 a1 a2 a3)) = some r := h
  clear h
  have HC5 := Aside0.mk H
  clear H
  go_enter Try.func11, Try.ntmps11
  go_upto_if 13 with (fail)
  go_cut [1] (fun v1 wc => ∃ (kq : Nat) (x1_4 : Int), v1 = .int .i64 x1_4 ∧ Aside0 (lookasidelaw01_FieldRound.j0 kq a0 x1_4 a2 a3 = some r) ∧ Aside0 (kq ≤ k) ∧ Aside0 (Below w.heap.size w wc))
  case first =>
    have H := HC5.out
    clear HC5
    by_cases c6 : a1 < 0
    · rw [if_pos c6] at H
      have c6b0 : decide (a1 < 0) = true := decide_eq_true c6
      clear c6
      (first | rw [c6b0] | (simp only [i64_w, i32_w]; rw [c6b0]) | skip)
      have H' := Aside0.mk H
      clear H
      go_wp2
      go_meet
      case rel => exact ⟨_, (wrap64 (-(wrap64 (a1 + 1)))), (by first | rfl | (simp; done) | (simp [*]; done)), H', ⟨by first | omega | exact Nat.le_refl _⟩, ⟨by repeat (first | (with_reducible first | exact HB.out | apply below_alloc | apply pw_below_drewN | apply below_drew1) | exact HB.out)⟩⟩
    · rw [if_neg c6] at H
      have c6b0 : decide (a1 < 0) = false := decide_eq_false c6
      clear c6
      (first | rw [c6b0] | (simp only [i64_w, i32_w]; rw [c6b0]) | skip)
      have H' := Aside0.mk H
      clear H
      go_wp2
      go_meet
      case rel => exact ⟨_, (a1), (by first | rfl | (simp; done) | (simp [*]; done)), H', ⟨by first | omega | exact Nat.le_refl _⟩, ⟨by repeat (first | (with_reducible first | exact HB.out | apply below_alloc | apply pw_below_drewN | apply below_drew1) | exact HB.out)⟩⟩
  case rest =>
    clear HC5
    try clear c1
    try clear p2
    try clear c6
    try clear c6b0
    try clear p6
    obtain ⟨kq, x1_4, rfl, HA, HJ4, HB⟩ := hcut
    cases kq with
    | zero => exact absurd HA.out (by simp [lookasidelaw01_FieldRound.j0])
    | succ kj4 =>
      have H := HA.out
      clear HA
      simp only [lookasidelaw01_FieldRound.j0] at H
      have HC7 := Aside0.mk H
      clear H
      go_upto_if 18 with (fail)
      go_cut [2] (fun v2 wc => ∃ (kq : Nat) (x2_6 : Int), v2 = .int .i64 x2_6 ∧ Aside0 (lookasidelaw01_FieldRound.j1 kq a0 x1_4 x2_6 a3 = some r) ∧ Aside0 (kq ≤ kj4) ∧ Aside0 (Below w.heap.size w wc))
      case first =>
        have H := HC7.out
        clear HC7
        by_cases c8 : a2 < 0
        · rw [if_pos c8] at H
          have c8b0 : decide (a2 < 0) = true := decide_eq_true c8
          clear c8
          (first | rw [c8b0] | (simp only [i64_w, i32_w]; rw [c8b0]) | skip)
          have H' := Aside0.mk H
          clear H
          go_wp2
          go_meet
          case rel => exact ⟨_, (wrap64 (-(wrap64 (a2 + 1)))), (by first | rfl | (simp; done) | (simp [*]; done)), H', ⟨by have := HJ4.out; first | omega | exact Nat.le_refl _⟩, ⟨by repeat (first | (with_reducible first | exact HB.out | apply below_alloc | apply pw_below_drewN | apply below_drew1) | exact HB.out)⟩⟩
        · rw [if_neg c8] at H
          have c8b0 : decide (a2 < 0) = false := decide_eq_false c8
          clear c8
          (first | rw [c8b0] | (simp only [i64_w, i32_w]; rw [c8b0]) | skip)
          have H' := Aside0.mk H
          clear H
          go_wp2
          go_meet
          case rel => exact ⟨_, (a2), (by first | rfl | (simp; done) | (simp [*]; done)), H', ⟨by have := HJ4.out; first | omega | exact Nat.le_refl _⟩, ⟨by repeat (first | (with_reducible first | exact HB.out | apply below_alloc | apply pw_below_drewN | apply below_drew1) | exact HB.out)⟩⟩
      case rest =>
        clear HC7
        try clear c1
        try clear p2
        try clear c6
        try clear c6b0
        try clear p6
        try clear c8
        try clear c8b0
        try clear p2
        try clear p6
        obtain ⟨kq, x2_6, rfl, HA, HJ6, HB⟩ := hcut
        cases kq with
        | zero => exact absurd HA.out (by simp [lookasidelaw01_FieldRound.j1])
        | succ kj6 =>
          have H := HA.out
          clear HA
          simp only [lookasidelaw01_FieldRound.j1] at H
          by_cases c9 : (wrap64 (64 - (Int.tmod x1_4 64))) = 0
          · rw [if_pos c9] at H
            exact absurd H (by simp)
          · rw [if_neg c9] at H
            have c9b0 : ((wrap64 (64 - (Int.tmod x1_4 64))) == 0) = false := beq_eq_false_iff_ne.mpr c9
            have c9b1 : ((wrap64 (64 - (Int.tmod x1_4 64))) != 0) = true := bne_iff_ne.mpr c9
            replace H := Option.bind_eq_some_iff.mp H
            obtain ⟨t204, A100, H⟩ := H
            replace H : ((field_Mask.f (Int.tmod x1_4 64) (wrap64 (1 + (Int.tmod x2_6 (wrap64 (64 - (Int.tmod x1_4 64))))))).bind fun t205 => ((field_Get.f t204 (Int.tmod x1_4 64) (wrap64 (1 + (Int.tmod x2_6 (wrap64 (64 - (Int.tmod x1_4 64))))))).bind fun t206 => ((field_Fits.f t206 (wrap64 (1 + (Int.tmod x2_6 (wrap64 (64 - (Int.tmod x1_4 64))))))).bind fun t207 => (if t207 = true then (lookasidelaw01_FieldRound.j2 kj6 (Int.tmod x1_4 64) (wrap64 (1 + (Int.tmod x2_6 (wrap64 (64 - (Int.tmod x1_4 64)))))) a3 t204 t206 ((IntKind.u64.wrap (t204 - (Go.bits .and .u64 t204 t205))) != (IntKind.u64.wrap (a0 - (Go.bits .and .u64 a0 t205))))) else (lookasidelaw01_FieldRound.j2 kj6 (Int.tmod x1_4 64) (wrap64 (1 + (Int.tmod x2_6 (wrap64 (64 - (Int.tmod x1_4 64)))))) a3 t204 t206 true))))) = some r := H
            have A10 := Aside0.mk A100
            clear A100
            replace H := Option.bind_eq_some_iff.mp H
            obtain ⟨t205, A110, H⟩ := H
            replace H : ((field_Get.f t204 (Int.tmod x1_4 64) (wrap64 (1 + (Int.tmod x2_6 (wrap64 (64 - (Int.tmod x1_4 64))))))).bind fun t206 => ((field_Fits.f t206 (wrap64 (1 + (Int.tmod x2_6 (wrap64 (64 - (Int.tmod x1_4 64))))))).bind fun t207 => (if t207 = true then (lookasidelaw01_FieldRound.j2 kj6 (Int.tmod x1_4 64) (wrap64 (1 + (Int.tmod x2_6 (wrap64 (64 - (Int.tmod x1_4 64)))))) a3 t204 t206 ((IntKind.u64.wrap (t204 - (Go.bits .and .u64 t204 t205))) != (IntKind.u64.wrap (a0 - (Go.bits .and .u64 a0 t205))))) else (lookasidelaw01_FieldRound.j2 kj6 (Int.tmod x1_4 64) (wrap64 (1 + (Int.tmod x2_6 (wrap64 (64 - (Int.tmod x1_4 64)))))) a3 t204 t206 true)))) = some r := H
            have A11 := Aside0.mk A110
            clear A110
            replace H := Option.bind_eq_some_iff.mp H
            obtain ⟨t206, A120, H⟩ := H
            replace H : ((field_Fits.f t206 (wrap64 (1 + (Int.tmod x2_6 (wrap64 (64 - (Int.tmod x1_4 64))))))).bind fun t207 => (if t207 = true then (lookasidelaw01_FieldRound.j2 kj6 (Int.tmod x1_4 64) (wrap64 (1 + (Int.tmod x2_6 (wrap64 (64 - (Int.tmod x1_4 64)))))) a3 t204 t206 ((IntKind.u64.wrap (t204 - (Go.bits .and .u64 t204 t205))) != (IntKind.u64.wrap (a0 - (Go.bits .and .u64 a0 t205))))) else (lookasidelaw01_FieldRound.j2 kj6 (Int.tmod x1_4 64) (wrap64 (1 + (Int.tmod x2_6 (wrap64 (64 - (Int.tmod x1_4 64)))))) a3 t204 t206 true))) = some r := H
            have A12 := Aside0.mk A120
            clear A120
            have HC13 := Aside0.mk H
            clear H
            go_upto_region 10 with (first | ((with_reducible refine gate_callee (f := 38) rfl ?_); refine goesL_ (some 33) rfl rfl Try.func38 (by kernel_rfl) rfl #[.int .u64 a0, .int .i64 (Int.tmod x1_4 64), .int .i64 (wrap64 (1 + (Int.tmod x2_6 (wrap64 (64 - (Int.tmod x1_4 64)))))), .int .u64 a3] rfl (by (try simp only [List.map_toArray, List.map_cons, List.map_nil]); first | done | rfl | (simp only [List.length_drop, List.length_take]; rfl)) ?_; (with_reducible refine (field_Put.calls a0 (Int.tmod x1_4 64) (wrap64 (1 + (Int.tmod x2_6 (wrap64 (64 - (Int.tmod x1_4 64)))))) a3 t204 _ A10.out).mono ?_); rintro e w' ⟨rfl, ⟨nd, rfl⟩⟩; refine ⟨_, rfl, ?_⟩) | ((with_reducible refine gate_callee (f := 39) rfl ?_); refine goesL_ (some 36) rfl rfl Try.func39 (by kernel_rfl) rfl #[.int .i64 (Int.tmod x1_4 64), .int .i64 (wrap64 (1 + (Int.tmod x2_6 (wrap64 (64 - (Int.tmod x1_4 64))))))] rfl (by (try simp only [List.map_toArray, List.map_cons, List.map_nil]); first | done | rfl | (simp only [List.length_drop, List.length_take]; rfl)) ?_; (with_reducible refine (field_Mask.calls (Int.tmod x1_4 64) (wrap64 (1 + (Int.tmod x2_6 (wrap64 (64 - (Int.tmod x1_4 64)))))) t205 _ A11.out).mono ?_); rintro e w' ⟨rfl, ⟨nd, rfl⟩⟩; refine ⟨_, rfl, ?_⟩) | ((with_reducible refine gate_callee (f := 36) rfl ?_); refine goesL_ (some 40) rfl rfl Try.func36 (by kernel_rfl) rfl #[.int .u64 t204, .int .i64 (Int.tmod x1_4 64), .int .i64 (wrap64 (1 + (Int.tmod x2_6 (wrap64 (64 - (Int.tmod x1_4 64))))))] rfl (by (try simp only [List.map_toArray, List.map_cons, List.map_nil]); first | done | rfl | (simp only [List.length_drop, List.length_take]; rfl)) ?_; (with_reducible refine (field_Get.calls t204 (Int.tmod x1_4 64) (wrap64 (1 + (Int.tmod x2_6 (wrap64 (64 - (Int.tmod x1_4 64)))))) t206 _ A12.out).mono ?_); rintro e w' ⟨rfl, ⟨nd, rfl⟩⟩; refine ⟨_, rfl, ?_⟩))
            (try simp only [Act.put, List.setIfInBounds_toArray, List.set_cons_zero, List.set_cons_succ])
            go_cut [57] (fun v57 wc => ∃ (kq : Nat) (x57_12 : Bool), v57 = .bool x57_12 ∧ Aside0 (lookasidelaw01_FieldRound.j2 kq (Int.tmod x1_4 64) (wrap64 (1 + (Int.tmod x2_6 (wrap64 (64 - (Int.tmod x1_4 64)))))) a3 t204 t206 x57_12 = some r) ∧ Aside0 (kq ≤ kj6) ∧ Aside0 (Below w.heap.size w wc))
            case first =>
              have H := HC13.out
              clear HC13
              replace H := Option.bind_eq_some_iff.mp H
              obtain ⟨t207, A140, H⟩ := H
              replace H : (if t207 = true then (lookasidelaw01_FieldRound.j2 kj6 (Int.tmod x1_4 64) (wrap64 (1 + (Int.tmod x2_6 (wrap64 (64 - (Int.tmod x1_4 64)))))) a3 t204 t206 ((IntKind.u64.wrap (t204 - (Go.bits .and .u64 t204 t205))) != (IntKind.u64.wrap (a0 - (Go.bits .and .u64 a0 t205))))) else (lookasidelaw01_FieldRound.j2 kj6 (Int.tmod x1_4 64) (wrap64 (1 + (Int.tmod x2_6 (wrap64 (64 - (Int.tmod x1_4 64)))))) a3 t204 t206 true)) = some r := H
              have A14 := Aside0.mk A140
              clear A140
              by_cases c15 : t207 = true
              · subst c15
                have H1 : (lookasidelaw01_FieldRound.j2 kj6 (Int.tmod x1_4 64) (wrap64 (1 + (Int.tmod x2_6 (wrap64 (64 - (Int.tmod x1_4 64)))))) a3 t204 t206 ((IntKind.u64.wrap (t204 - (Go.bits .and .u64 t204 t205))) != (IntKind.u64.wrap (a0 - (Go.bits .and .u64 a0 t205))))) = some r := by rw [if_pos rfl] at H; exact H
                clear H
                have H := H1
                clear H1
                have H' := Aside0.mk H
                clear H
                go_wp2_with (first | ((with_reducible refine gate_callee (f := 41) rfl ?_); refine goesL_ (some 43) rfl rfl Try.func41 (by kernel_rfl) rfl #[.int .u64 t206, .int .i64 (wrap64 (1 + (Int.tmod x2_6 (wrap64 (64 - (Int.tmod x1_4 64))))))] rfl (by (try simp only [List.map_toArray, List.map_cons, List.map_nil]); first | done | rfl | (simp only [List.length_drop, List.length_take]; rfl)) ?_; (with_reducible refine (field_Fits.calls t206 (wrap64 (1 + (Int.tmod x2_6 (wrap64 (64 - (Int.tmod x1_4 64)))))) true _ A14.out).mono ?_); rintro e w' ⟨rfl, ⟨nd, rfl⟩⟩; refine ⟨_, rfl, ?_⟩))
                go_meet
                case rel => exact ⟨_, (((IntKind.u64.wrap (t204 - (Go.bits .and .u64 t204 t205))) != (IntKind.u64.wrap (a0 - (Go.bits .and .u64 a0 t205))))), (by first | rfl | (simp; done) | (simp [*]; done)), H', ⟨by have := HJ4.out; have := HJ6.out; first | omega | exact Nat.le_refl _⟩, ⟨by repeat (first | (with_reducible first | exact HB.out | apply below_alloc | apply pw_below_drewN | apply below_drew1) | exact HB.out)⟩⟩
              · replace c15 := Bool.eq_false_iff.mpr c15
                subst c15
                have H1 : (lookasidelaw01_FieldRound.j2 kj6 (Int.tmod x1_4 64) (wrap64 (1 + (Int.tmod x2_6 (wrap64 (64 - (Int.tmod x1_4 64)))))) a3 t204 t206 true) = some r := by rw [if_neg (show ¬ (false = true) by decide)] at H; exact H
                clear H
                have H := H1
                clear H1
                have H' := Aside0.mk H
                clear H
                go_wp2_with (first | ((with_reducible refine gate_callee (f := 41) rfl ?_); refine goesL_ (some 43) rfl rfl Try.func41 (by kernel_rfl) rfl #[.int .u64 t206, .int .i64 (wrap64 (1 + (Int.tmod x2_6 (wrap64 (64 - (Int.tmod x1_4 64))))))] rfl (by (try simp only [List.map_toArray, List.map_cons, List.map_nil]); first | done | rfl | (simp only [List.length_drop, List.length_take]; rfl)) ?_; (with_reducible refine (field_Fits.calls t206 (wrap64 (1 + (Int.tmod x2_6 (wrap64 (64 - (Int.tmod x1_4 64)))))) false _ A14.out).mono ?_); rintro e w' ⟨rfl, ⟨nd, rfl⟩⟩; refine ⟨_, rfl, ?_⟩))
                go_meet
                case rel => exact ⟨_, (true), (by first | rfl | (simp; done) | (simp [*]; done)), H', ⟨by have := HJ4.out; have := HJ6.out; first | omega | exact Nat.le_refl _⟩, ⟨by repeat (first | (with_reducible first | exact HB.out | apply below_alloc | apply pw_below_drewN | apply below_drew1) | exact HB.out)⟩⟩
            case rest =>
              clear HC13
              try clear c1
              try clear p2
              try clear c3
              try clear c4
              try clear c6
              try clear c6b0
              try clear p6
              try clear c8
              try clear c8b0
              try clear c9
              try clear c9b0
              try clear c9b1
              try clear c11
              try clear c15
              try clear p2
              try clear p6
              obtain ⟨kq, x57_12, rfl, HA, HJ12, HB⟩ := hcut
              cases kq with
              | zero => exact absurd HA.out (by simp [lookasidelaw01_FieldRound.j2])
              | succ kj12 =>
                have H := HA.out
                clear HA
                simp only [lookasidelaw01_FieldRound.j2] at H
                by_cases c16 : x57_12 = true
                · subst c16
                  have H1 : (some false) = some r := by rw [if_pos rfl] at H; exact H
                  clear H
                  have H := H1
                  clear H1
                  obtain rfl := Option.some.inj H
                  go_wp2
                  go_ret
                  exact ⟨by first | rfl | (simp [errW_none, errW_some] <;> rfl) | (simp [*, errW_none, errW_some] <;> rfl), by repeat (first | (with_reducible first | exact HB.out | apply below_alloc | apply pw_below_drewN | apply below_drew1) | exact HB.out)⟩
                · replace c16 := Bool.eq_false_iff.mpr c16
                  subst c16
                  have H1 : ((field_Fits.f a3 (wrap64 (1 + (Int.tmod x2_6 (wrap64 (64 - (Int.tmod x1_4 64))))))).bind fun t208 => (if t208 = true then (if t206 = a3 then ((field_Put.f t204 (Int.tmod x1_4 64) (wrap64 (1 + (Int.tmod x2_6 (wrap64 (64 - (Int.tmod x1_4 64)))))) t206).bind fun t209 => (if t209 = t204 then ((lookasidelaw01_lives.f).bind fun t210 => (some t210)) else (some false))) else (some false)) else ((field_Put.f t204 (Int.tmod x1_4 64) (wrap64 (1 + (Int.tmod x2_6 (wrap64 (64 - (Int.tmod x1_4 64)))))) t206).bind fun t211 => (if t211 = t204 then ((lookasidelaw01_lives.f).bind fun t212 => (some t212)) else (some false))))) = some r := by rw [if_neg (show ¬ (false = true) by decide)] at H; exact H
                  clear H
                  have H := H1
                  clear H1
                  replace H := Option.bind_eq_some_iff.mp H
                  obtain ⟨t208, A170, H⟩ := H
                  replace H : (if t208 = true then (if t206 = a3 then ((field_Put.f t204 (Int.tmod x1_4 64) (wrap64 (1 + (Int.tmod x2_6 (wrap64 (64 - (Int.tmod x1_4 64)))))) t206).bind fun t209 => (if t209 = t204 then ((lookasidelaw01_lives.f).bind fun t210 => (some t210)) else (some false))) else (some false)) else ((field_Put.f t204 (Int.tmod x1_4 64) (wrap64 (1 + (Int.tmod x2_6 (wrap64 (64 - (Int.tmod x1_4 64)))))) t206).bind fun t211 => (if t211 = t204 then ((lookasidelaw01_lives.f).bind fun t212 => (some t212)) else (some false)))) = some r := H
                  have A17 := Aside0.mk A170
                  clear A170
                  by_cases c18 : t208 = true
                  · subst c18
                    have H1 : (if t206 = a3 then ((field_Put.f t204 (Int.tmod x1_4 64) (wrap64 (1 + (Int.tmod x2_6 (wrap64 (64 - (Int.tmod x1_4 64)))))) t206).bind fun t209 => (if t209 = t204 then ((lookasidelaw01_lives.f).bind fun t210 => (some t210)) else (some false))) else (some false)) = some r := by rw [if_pos rfl] at H; exact H
                    clear H
                    have H := H1
                    clear H1
                    by_cases c19 : t206 = a3
                    · rw [if_pos c19] at H
                      have c19b0 : (t206 == a3) = true := beq_iff_eq.mpr c19
                      have c19b1 : (t206 != a3) = false := bne_eq_false_iff_eq.mpr c19
                      clear c19
                      replace H := Option.bind_eq_some_iff.mp H
                      obtain ⟨t209, A200, H⟩ := H
                      replace H : (if t209 = t204 then ((lookasidelaw01_lives.f).bind fun t210 => (some t210)) else (some false)) = some r := H
                      have A20 := Aside0.mk A200
                      clear A200
                      by_cases c21 : t209 = t204
                      · rw [if_pos c21] at H
                        have c21b0 : (t209 == t204) = true := beq_iff_eq.mpr c21
                        have c21b1 : (t209 != t204) = false := bne_eq_false_iff_eq.mpr c21
                        clear c21
                        replace H := Option.bind_eq_some_iff.mp H
                        obtain ⟨t210, A220, H⟩ := H
                        replace H : (some t210) = some r := H
                        have A22 := Aside0.mk A220
                        clear A220
                        obtain rfl := Option.some.inj H
                        go_wp2_with (first | ((with_reducible refine gate_callee (f := 41) rfl ?_); refine goesL_ (some 60) rfl rfl Try.func41 (by kernel_rfl) rfl #[.int .u64 a3, .int .i64 (wrap64 (1 + (Int.tmod x2_6 (wrap64 (64 - (Int.tmod x1_4 64))))))] rfl (by (try simp only [List.map_toArray, List.map_cons, List.map_nil]); first | done | rfl | (simp only [List.length_drop, List.length_take]; rfl)) ?_; (with_reducible refine (field_Fits.calls a3 (wrap64 (1 + (Int.tmod x2_6 (wrap64 (64 - (Int.tmod x1_4 64)))))) true _ A17.out).mono ?_); rintro e w' ⟨rfl, ⟨nd, rfl⟩⟩; refine ⟨_, rfl, ?_⟩) | (go_at_call 38; (with_reducible refine (field_Put.calls t204 (Int.tmod x1_4 64) (wrap64 (1 + (Int.tmod x2_6 (wrap64 (64 - (Int.tmod x1_4 64)))))) t206 t209 _ A20.out).mono ?_); rintro e w' ⟨rfl, ⟨nd, rfl⟩⟩) | (go_at_call 40; (with_reducible refine (lookasidelaw01_lives.calls  t210 _ A22.out).mono ?_); rintro e w23 ⟨rfl, hb⟩; have n0_ := Aside0.mk (below_step (by repeat (first | (with_reducible first | exact HB.out | apply below_alloc | apply pw_below_drewN | apply below_drew1) | exact HB.out)) hb); clear HB; have HB := n0_; clear n0_; (try clear hb); (try clear hb2); (try clear hk); (try clear hi)))
                        go_ret
                        exact ⟨by first | rfl | (simp [errW_none, errW_some] <;> rfl) | (simp [*, errW_none, errW_some] <;> rfl), by repeat (first | (with_reducible first | exact HB.out | apply below_alloc | apply pw_below_drewN | apply below_drew1) | exact HB.out)⟩
                      · rw [if_neg c21] at H
                        have c21b0 : (t209 == t204) = false := beq_eq_false_iff_ne.mpr c21
                        have c21b1 : (t209 != t204) = true := bne_iff_ne.mpr c21
                        obtain rfl := Option.some.inj H
                        go_wp2_with (first | ((with_reducible refine gate_callee (f := 41) rfl ?_); refine goesL_ (some 60) rfl rfl Try.func41 (by kernel_rfl) rfl #[.int .u64 a3, .int .i64 (wrap64 (1 + (Int.tmod x2_6 (wrap64 (64 - (Int.tmod x1_4 64))))))] rfl (by (try simp only [List.map_toArray, List.map_cons, List.map_nil]); first | done | rfl | (simp only [List.length_drop, List.length_take]; rfl)) ?_; (with_reducible refine (field_Fits.calls a3 (wrap64 (1 + (Int.tmod x2_6 (wrap64 (64 - (Int.tmod x1_4 64)))))) true _ A17.out).mono ?_); rintro e w' ⟨rfl, ⟨nd, rfl⟩⟩; refine ⟨_, rfl, ?_⟩) | (go_at_call 38; (with_reducible refine (field_Put.calls t204 (Int.tmod x1_4 64) (wrap64 (1 + (Int.tmod x2_6 (wrap64 (64 - (Int.tmod x1_4 64)))))) t206 t209 _ A20.out).mono ?_); rintro e w' ⟨rfl, ⟨nd, rfl⟩⟩))
                        go_ret
                        exact ⟨by first | rfl | (simp [errW_none, errW_some] <;> rfl) | (simp [*, errW_none, errW_some] <;> rfl), by repeat (first | (with_reducible first | exact HB.out | apply below_alloc | apply pw_below_drewN | apply below_drew1) | exact HB.out)⟩
                    · rw [if_neg c19] at H
                      have c19b0 : (t206 == a3) = false := beq_eq_false_iff_ne.mpr c19
                      have c19b1 : (t206 != a3) = true := bne_iff_ne.mpr c19
                      obtain rfl := Option.some.inj H
                      go_wp2_with (first | ((with_reducible refine gate_callee (f := 41) rfl ?_); refine goesL_ (some 60) rfl rfl Try.func41 (by kernel_rfl) rfl #[.int .u64 a3, .int .i64 (wrap64 (1 + (Int.tmod x2_6 (wrap64 (64 - (Int.tmod x1_4 64))))))] rfl (by (try simp only [List.map_toArray, List.map_cons, List.map_nil]); first | done | rfl | (simp only [List.length_drop, List.length_take]; rfl)) ?_; (with_reducible refine (field_Fits.calls a3 (wrap64 (1 + (Int.tmod x2_6 (wrap64 (64 - (Int.tmod x1_4 64)))))) true _ A17.out).mono ?_); rintro e w' ⟨rfl, ⟨nd, rfl⟩⟩; refine ⟨_, rfl, ?_⟩))
                      go_ret
                      exact ⟨by first | rfl | (simp [errW_none, errW_some] <;> rfl) | (simp [*, errW_none, errW_some] <;> rfl), by repeat (first | (with_reducible first | exact HB.out | apply below_alloc | apply pw_below_drewN | apply below_drew1) | exact HB.out)⟩
                  · replace c18 := Bool.eq_false_iff.mpr c18
                    subst c18
                    have H1 : ((field_Put.f t204 (Int.tmod x1_4 64) (wrap64 (1 + (Int.tmod x2_6 (wrap64 (64 - (Int.tmod x1_4 64)))))) t206).bind fun t211 => (if t211 = t204 then ((lookasidelaw01_lives.f).bind fun t212 => (some t212)) else (some false))) = some r := by rw [if_neg (show ¬ (false = true) by decide)] at H; exact H
                    clear H
                    have H := H1
                    clear H1
                    replace H := Option.bind_eq_some_iff.mp H
                    obtain ⟨t211, A240, H⟩ := H
                    replace H : (if t211 = t204 then ((lookasidelaw01_lives.f).bind fun t212 => (some t212)) else (some false)) = some r := H
                    have A24 := Aside0.mk A240
                    clear A240
                    by_cases c25 : t211 = t204
                    · rw [if_pos c25] at H
                      have c25b0 : (t211 == t204) = true := beq_iff_eq.mpr c25
                      have c25b1 : (t211 != t204) = false := bne_eq_false_iff_eq.mpr c25
                      clear c25
                      replace H := Option.bind_eq_some_iff.mp H
                      obtain ⟨t212, A260, H⟩ := H
                      replace H : (some t212) = some r := H
                      have A26 := Aside0.mk A260
                      clear A260
                      obtain rfl := Option.some.inj H
                      go_wp2_with (first | ((with_reducible refine gate_callee (f := 41) rfl ?_); refine goesL_ (some 60) rfl rfl Try.func41 (by kernel_rfl) rfl #[.int .u64 a3, .int .i64 (wrap64 (1 + (Int.tmod x2_6 (wrap64 (64 - (Int.tmod x1_4 64))))))] rfl (by (try simp only [List.map_toArray, List.map_cons, List.map_nil]); first | done | rfl | (simp only [List.length_drop, List.length_take]; rfl)) ?_; (with_reducible refine (field_Fits.calls a3 (wrap64 (1 + (Int.tmod x2_6 (wrap64 (64 - (Int.tmod x1_4 64)))))) false _ A17.out).mono ?_); rintro e w' ⟨rfl, ⟨nd, rfl⟩⟩; refine ⟨_, rfl, ?_⟩) | (go_at_call 38; (with_reducible refine (field_Put.calls t204 (Int.tmod x1_4 64) (wrap64 (1 + (Int.tmod x2_6 (wrap64 (64 - (Int.tmod x1_4 64)))))) t206 t211 _ A24.out).mono ?_); rintro e w' ⟨rfl, ⟨nd, rfl⟩⟩) | (go_at_call 40; (with_reducible refine (lookasidelaw01_lives.calls  t212 _ A26.out).mono ?_); rintro e w27 ⟨rfl, hb⟩; have n0_ := Aside0.mk (below_step (by repeat (first | (with_reducible first | exact HB.out | apply below_alloc | apply pw_below_drewN | apply below_drew1) | exact HB.out)) hb); clear HB; have HB := n0_; clear n0_; (try clear hb); (try clear hb2); (try clear hk); (try clear hi)))
                      go_ret
                      exact ⟨by first | rfl | (simp [errW_none, errW_some] <;> rfl) | (simp [*, errW_none, errW_some] <;> rfl), by repeat (first | (with_reducible first | exact HB.out | apply below_alloc | apply pw_below_drewN | apply below_drew1) | exact HB.out)⟩
                    · rw [if_neg c25] at H
                      have c25b0 : (t211 == t204) = false := beq_eq_false_iff_ne.mpr c25
                      have c25b1 : (t211 != t204) = true := bne_iff_ne.mpr c25
                      obtain rfl := Option.some.inj H
                      go_wp2_with (first | ((with_reducible refine gate_callee (f := 41) rfl ?_); refine goesL_ (some 60) rfl rfl Try.func41 (by kernel_rfl) rfl #[.int .u64 a3, .int .i64 (wrap64 (1 + (Int.tmod x2_6 (wrap64 (64 - (Int.tmod x1_4 64))))))] rfl (by (try simp only [List.map_toArray, List.map_cons, List.map_nil]); first | done | rfl | (simp only [List.length_drop, List.length_take]; rfl)) ?_; (with_reducible refine (field_Fits.calls a3 (wrap64 (1 + (Int.tmod x2_6 (wrap64 (64 - (Int.tmod x1_4 64)))))) false _ A17.out).mono ?_); rintro e w' ⟨rfl, ⟨nd, rfl⟩⟩; refine ⟨_, rfl, ?_⟩) | (go_at_call 38; (with_reducible refine (field_Put.calls t204 (Int.tmod x1_4 64) (wrap64 (1 + (Int.tmod x2_6 (wrap64 (64 - (Int.tmod x1_4 64)))))) t206 t211 _ A24.out).mono ?_); rintro e w' ⟨rfl, ⟨nd, rfl⟩⟩))
                      go_ret
                      exact ⟨by first | rfl | (simp [errW_none, errW_some] <;> rfl) | (simp [*, errW_none, errW_some] <;> rfl), by repeat (first | (with_reducible first | exact HB.out | apply below_alloc | apply pw_below_drewN | apply below_drew1) | exact HB.out)⟩

/-- THE ONE PURE STATEMENT of lookasidelaw01_FieldRound: yours. -/
def lookasidelaw01_FieldRound.Pure : Prop := ∀ (a0 : Int) (a1 : Int) (a2 : Int) (a3 : Int), (Lit.int .u64 a0).wf = true → (Lit.int .i64 a1).wf = true → (Lit.int .i64 a2).wf = true → (Lit.int .u64 a3).wf = true → ∃ k, lookasidelaw01_FieldRound.f k a0 a1 a2 a3 = some true
theorem lookasidelaw01_FieldRound.walk (P : lookasidelaw01_FieldRound.Pure) (a0 : Int) (a1 : Int) (a2 : Int) (a3 : Int) (w : World) (w0 : (Lit.int .u64 a0).wf = true) (w1 : (Lit.int .i64 a1).wf = true) (w2 : (Lit.int .i64 a2).wf = true) (w3 : (Lit.int .u64 a3).wf = true) :
    Calls Try.prog 11 #[.int .u64 a0, .int .i64 a1, .int .i64 a2, .int .u64 a3] w fun e w' => e = .returned (.bool true) ∧ Below w.heap.size w w' := by
  obtain ⟨k, h⟩ := P a0 a1 a2 a3 w0 w1 w2 w3
  refine (lookasidelaw01_FieldRound.calls k a0 a1 a2 a3 true w h).mono ?_
  rintro e w' ⟨rfl, hd⟩
  exact ⟨rfl, hd⟩

/-! ### lookasideref01_Fits: function 42 -/
def lookasideref01_Fits.l0 : Nat → Int → Int → Option (Bool)
  | 0, _, _ => none
  | k + 1, x0, x5 => if x5 < 64 then ((lookasideref01_Bit.f k x0 x5).bind fun t213 => (if t213 = 1 then (some false) else (lookasideref01_Fits.l0 k x0 (wrap64 (x5 + 1))))) else (some true)
def lookasideref01_Fits.f (k : Nat) (a0 : Int) (a1 : Int) : Option (Bool) := if a1 < 1 then (some false) else (lookasideref01_Fits.l0 k a0 a1)
theorem lookasideref01_Fits.mono_l : ∀ k, (∀ y0 y1, LeO (lookasideref01_Fits.l0 k y0 y1) (lookasideref01_Fits.l0 (k + 1) y0 y1))
  | 0 => fun _ _ r h => by simp [lookasideref01_Fits.l0] at h
  | k + 1 => by
    have ih0 := lookasideref01_Fits.mono_l k
    · intro y0 y1
      unfold lookasideref01_Fits.l0
      repeat' first
      | (with_reducible exact ih0 _ _)
      | (with_reducible exact lookasideref01_Bit.mono _ _ _)
      | (with_reducible exact LeO.refl _)
      | (with_reducible exact LeO.none _)
      | (with_reducible refine LeO.ite ?_ ?_)
      | (with_reducible refine LeO.bind ?_ (fun _ => ?_))
      | exact ih0 _ _
      | exact lookasideref01_Bit.mono _ _ _
      | exact LeO.none _
      | refine LeO.ite ?_ ?_
      | refine LeO.bind ?_ (fun _ => ?_)
theorem lookasideref01_Fits.mono : ∀ a0 a1 k, LeO (lookasideref01_Fits.f k a0 a1) (lookasideref01_Fits.f (k + 1) a0 a1) := by
  intro a0 a1 k
  have ih0 := lookasideref01_Fits.mono_l k
  unfold lookasideref01_Fits.f
  repeat' first
      | (with_reducible exact ih0 _ _)
      | (with_reducible exact lookasideref01_Bit.mono _ _ _)
      | (with_reducible exact LeO.refl _)
      | (with_reducible exact LeO.none _)
      | (with_reducible refine LeO.ite ?_ ?_)
      | (with_reducible refine LeO.bind ?_ (fun _ => ?_))
      | exact ih0 _ _
      | exact lookasideref01_Bit.mono _ _ _
      | exact LeO.none _
      | refine LeO.ite ?_ ?_
      | refine LeO.bind ?_ (fun _ => ?_)
set_option maxHeartbeats 8000000 in
set_option maxRecDepth 100000 in
theorem lookasideref01_Fits.calls (k : Nat) (a0 : Int) (a1 : Int) (r : Bool) (w : World) (h : lookasideref01_Fits.f k a0 a1 = some r) :
    Calls Try.prog 42 #[.int .u64 a0, .int .i64 a1] w fun e w' => e = .returned (.bool r) ∧ Drawn0 w w' := by
  have H : (if a1 < 1 then (some false) else (lookasideref01_Fits.l0 k a0 a1)) = some r := h
  clear h
  by_cases c3 : a1 < 1
  · rw [if_pos c3] at H
    have c3b0 : decide (a1 < 1) = true := decide_eq_true c3
    clear c3
    obtain rfl := Option.some.inj H
    go_enter Try.func42, Try.ntmps42
    go_wp2
    go_ret
    exact ⟨by first | rfl | (simp; done) | (simp [*]; done), by repeat (first | exact Drawn0.refl _ | apply Drawn0.step)⟩
  · rw [if_neg c3] at H
    have c3b0 : decide (a1 < 1) = false := decide_eq_false c3
    clear c3
    have H' := Aside0.mk H
    clear H
    go_enter Try.func42, Try.ntmps42
    go_wp2
    go_loopg [5] k (fun kq v5 w' => ∃ (x5_1 : Int), v5 = .int .i64 x5_1 ∧ Aside0 (lookasideref01_Fits.l0 kq a0 x5_1 = some r) ∧ Aside0 (kq ≤ k) ∧ Drawn0 w w')
    case atStart => exact ⟨(a1), (by first | rfl | (simp; done) | (simp [*]; done)), H', ⟨Nat.le_refl _⟩, by repeat (first | exact Drawn0.refl _ | apply Drawn0.step)⟩
    case round =>
      clear H'
      try clear p2
      try clear c3
      try clear c3b0
      obtain ⟨x5_1, rfl, HA, HK1, ⟨m1, rfl⟩⟩ := hrel
      cases gk with
      | zero => exact absurd HA.out (by simp [lookasideref01_Fits.l0])
      | succ k1 =>
        have H := HA.out
        clear HA
        simp only [lookasideref01_Fits.l0] at H
        by_cases c4 : x5_1 < 64
        · rw [if_pos c4] at H
          have c4b0 : decide (x5_1 < 64) = true := decide_eq_true c4
          clear c4
          replace H := Option.bind_eq_some_iff.mp H
          obtain ⟨t213, A50, H⟩ := H
          replace H : (if t213 = 1 then (some false) else (lookasideref01_Fits.l0 k1 a0 (wrap64 (x5_1 + 1)))) = some r := H
          have A5 := Aside0.mk A50
          clear A50
          by_cases c6 : t213 = 1
          · rw [if_pos c6] at H
            have c6b0 : (t213 == 1) = true := beq_iff_eq.mpr c6
            have c6b1 : (t213 != 1) = false := bne_eq_false_iff_eq.mpr c6
            clear c6
            obtain rfl := Option.some.inj H
            go_wp2_with (first | ((with_reducible refine gate_callee (f := 52) rfl ?_); refine goesL_ (some 15) rfl rfl Try.func52 (by kernel_rfl) rfl #[.int .u64 a0, .int .i64 x5_1] rfl (by (try simp only [List.map_toArray, List.map_cons, List.map_nil]); first | done | rfl | (simp only [List.length_drop, List.length_take]; rfl)) ?_; (with_reducible refine (lookasideref01_Bit.calls k1 a0 x5_1 t213 _ A5.out).mono ?_); rintro e w' ⟨rfl, ⟨nd, rfl⟩⟩; refine ⟨_, rfl, ?_⟩))
            go_ret
            exact ⟨by first | rfl | (simp; done) | (simp [*]; done), by repeat (first | exact Drawn0.refl _ | apply Drawn0.step)⟩
          · rw [if_neg c6] at H
            have c6b0 : (t213 == 1) = false := beq_eq_false_iff_ne.mpr c6
            have c6b1 : (t213 != 1) = true := bne_iff_ne.mpr c6
            have H' := Aside0.mk H
            clear H
            go_wp2_with (first | ((with_reducible refine gate_callee (f := 52) rfl ?_); refine goesL_ (some 15) rfl rfl Try.func52 (by kernel_rfl) rfl #[.int .u64 a0, .int .i64 x5_1] rfl (by (try simp only [List.map_toArray, List.map_cons, List.map_nil]); first | done | rfl | (simp only [List.length_drop, List.length_take]; rfl)) ?_; (with_reducible refine (lookasideref01_Bit.calls k1 a0 x5_1 t213 _ A5.out).mono ?_); rintro e w' ⟨rfl, ⟨nd, rfl⟩⟩; refine ⟨_, rfl, ?_⟩))
            go_roundg k1
            case measure => have := HK1.out; omega
            case rel => exact ⟨(wrap64 (x5_1 + 1)), (by first | rfl | (simp; done) | (simp [*]; done)), H', ⟨by have := HK1.out; omega⟩, by repeat (first | exact Drawn0.refl _ | apply Drawn0.step)⟩
        · rw [if_neg c4] at H
          have c4b0 : decide (x5_1 < 64) = false := decide_eq_false c4
          clear c4
          obtain rfl := Option.some.inj H
          go_wp2
          go_ret
          exact ⟨by first | rfl | (simp; done) | (simp [*]; done), by repeat (first | exact Drawn0.refl _ | apply Drawn0.step)⟩

end Go.Proofs.Ytlkojjkgbcpjjaa.PA

-- written by xprint.py, a program of this session, over the kit's print (functions told by hand: see the texts)
import Derived.Test.YtcbnmmkmgpbfiaaPSx0O
import Derived.Test.YtcbnmmkmgpbfiaaPSx2O
import Derived.Test.YtcbnmmkmgpbfiaaPSx9O
import Derived.RangeFuncNested
import Derived.RangeFuncBound
import Derived.RangeFuncCalls
import Derived.RangeFuncLeaves
import Derived.Shelf.Abstract
import Derived.Shelf.RegionOpen
import Derived.WalkKit
import Derived.OwnWalkIn
import Derived.TacticsInMore
import Derived.LoopNIn
import Derived.LoopIn
import Derived.Sort.LoopGhostIn
import Derived.Lib.Builder
namespace Go.Proofs.Ytcbnmmkmgpbfiaa.PS
open Go.RowKit Go.Proofs.YtcbnmmkmgpbfiaaW.PrintWords Go.Proofs.YtcbnmmkmgpbfiaaW.PrintLast Go.Proofs.YtcbnmmkmgpbfiaaW.PrintMore
attribute [local go_sem] max2_int min2_int max_two min_two max_three min_three max_four min_four   -- for this text's walks alone
set_option linter.unusedVariables false
set_option linter.unusedSimpArgs false

/-! ### page_Bits: function 114 -/
def page_Bits.f (a0 : Int) : Option (Int) := (page_May.f a0).bind fun t226 => (if t226 = true then (some (wrap64 (13 + (wrap64 (3 * a0))))) else (some 0))
set_option maxHeartbeats 8000000 in
set_option maxRecDepth 100000 in
theorem page_Bits.calls (a0 : Int) (r : Int) (w : World) (h : page_Bits.f a0 = some r) :
    Calls Try.prog 114 #[.int .i64 a0] w fun e w' => e = .returned (.int .i64 r) ∧ Drawn0 w w' := by
  have H : ((page_May.f a0).bind fun t226 => (if t226 = true then (some (wrap64 (13 + (wrap64 (3 * a0))))) else (some 0))) = some r := h
  clear h
  replace H := Option.bind_eq_some_iff.mp H
  obtain ⟨t226, A20, H⟩ := H
  replace H : (if t226 = true then (some (wrap64 (13 + (wrap64 (3 * a0))))) else (some 0)) = some r := H
  have A2 := Aside0.mk A20
  clear A20
  by_cases c3 : t226 = true
  · subst c3
    have H1 : (some (wrap64 (13 + (wrap64 (3 * a0))))) = some r := by rw [if_pos rfl] at H; exact H
    clear H
    have H := H1
    clear H1
    obtain rfl := Option.some.inj H
    go_enter Try.func114, Try.ntmps114
    go_wp2_with (first | ((with_reducible refine gate_callee (f := 86) rfl ?_); refine goesL_ (some 4) rfl rfl Try.func86 (by kernel_rfl) rfl #[.int .i64 a0] rfl (by (try simp only [List.map_toArray, List.map_cons, List.map_nil]); first | done | rfl | (simp only [List.length_drop, List.length_take]; rfl)) ?_; (with_reducible refine (page_May.calls a0 true _ A2.out).mono ?_); rintro e w' ⟨rfl, ⟨nd, rfl⟩⟩; refine ⟨_, rfl, ?_⟩))
    go_ret
    exact ⟨by first | rfl | (simp; done) | (simp [*]; done), by repeat (first | exact Drawn0.refl _ | apply Drawn0.step)⟩
  · replace c3 := Bool.eq_false_iff.mpr c3
    subst c3
    have H1 : (some 0) = some r := by rw [if_neg (show ¬ (false = true) by decide)] at H; exact H
    clear H
    have H := H1
    clear H1
    obtain rfl := Option.some.inj H
    go_enter Try.func114, Try.ntmps114
    go_wp2_with (first | ((with_reducible refine gate_callee (f := 86) rfl ?_); refine goesL_ (some 4) rfl rfl Try.func86 (by kernel_rfl) rfl #[.int .i64 a0] rfl (by (try simp only [List.map_toArray, List.map_cons, List.map_nil]); first | done | rfl | (simp only [List.length_drop, List.length_take]; rfl)) ?_; (with_reducible refine (page_May.calls a0 false _ A2.out).mono ?_); rintro e w' ⟨rfl, ⟨nd, rfl⟩⟩; refine ⟨_, rfl, ?_⟩))
    go_ret
    exact ⟨by first | rfl | (simp; done) | (simp [*]; done), by repeat (first | exact Drawn0.refl _ | apply Drawn0.step)⟩

/-! ### page_Offset: function 98 -/
def page_Offset.f (a0 : Int) (a1 : Int) : Option (Int) := (page_May.f a1).bind fun t227 => (if t227 = true then ((page_Bits.f a1).bind fun t228 => ((field_Get.f a0 0 t228).bind fun t229 => (some t229))) else (some 0))
set_option maxHeartbeats 8000000 in
set_option maxRecDepth 100000 in
theorem page_Offset.calls (a0 : Int) (a1 : Int) (r : Int) (w : World) (h : page_Offset.f a0 a1 = some r) :
    Calls Try.prog 98 #[.int .u64 a0, .int .i64 a1] w fun e w' => e = .returned (.int .u64 r) ∧ Drawn0 w w' := by
  have H : ((page_May.f a1).bind fun t227 => (if t227 = true then ((page_Bits.f a1).bind fun t228 => ((field_Get.f a0 0 t228).bind fun t229 => (some t229))) else (some 0))) = some r := h
  clear h
  replace H := Option.bind_eq_some_iff.mp H
  obtain ⟨t227, A30, H⟩ := H
  replace H : (if t227 = true then ((page_Bits.f a1).bind fun t228 => ((field_Get.f a0 0 t228).bind fun t229 => (some t229))) else (some 0)) = some r := H
  have A3 := Aside0.mk A30
  clear A30
  by_cases c4 : t227 = true
  · subst c4
    have H1 : ((page_Bits.f a1).bind fun t228 => ((field_Get.f a0 0 t228).bind fun t229 => (some t229))) = some r := by rw [if_pos rfl] at H; exact H
    clear H
    have H := H1
    clear H1
    replace H := Option.bind_eq_some_iff.mp H
    obtain ⟨t228, A50, H⟩ := H
    replace H : ((field_Get.f a0 0 t228).bind fun t229 => (some t229)) = some r := H
    have A5 := Aside0.mk A50
    clear A50
    replace H := Option.bind_eq_some_iff.mp H
    obtain ⟨t229, A60, H⟩ := H
    replace H : (some t229) = some r := H
    have A6 := Aside0.mk A60
    clear A60
    obtain rfl := Option.some.inj H
    go_enter Try.func98, Try.ntmps98
    go_wp2_with (first | ((with_reducible refine gate_callee (f := 86) rfl ?_); refine goesL_ (some 6) rfl rfl Try.func86 (by kernel_rfl) rfl #[.int .i64 a1] rfl (by (try simp only [List.map_toArray, List.map_cons, List.map_nil]); first | done | rfl | (simp only [List.length_drop, List.length_take]; rfl)) ?_; (with_reducible refine (page_May.calls a1 true _ A3.out).mono ?_); rintro e w' ⟨rfl, ⟨nd, rfl⟩⟩; refine ⟨_, rfl, ?_⟩) | ((with_reducible refine gate_callee (f := 114) rfl ?_); refine goesL_ (some 10) rfl rfl Try.func114 (by kernel_rfl) rfl #[.int .i64 a1] rfl (by (try simp only [List.map_toArray, List.map_cons, List.map_nil]); first | done | rfl | (simp only [List.length_drop, List.length_take]; rfl)) ?_; (with_reducible refine (page_Bits.calls a1 t228 _ A5.out).mono ?_); rintro e w' ⟨rfl, ⟨nd, rfl⟩⟩; refine ⟨_, rfl, ?_⟩) | ((with_reducible refine gate_callee (f := 113) rfl ?_); refine goesL_ (some 11) rfl rfl Try.func113 (by kernel_rfl) rfl #[.int .u64 a0, .int .i64 0, .int .i64 t228] rfl (by (try simp only [List.map_toArray, List.map_cons, List.map_nil]); first | done | rfl | (simp only [List.length_drop, List.length_take]; rfl)) ?_; (with_reducible refine (field_Get.calls a0 0 t228 t229 _ A6.out).mono ?_); rintro e w' ⟨rfl, ⟨nd, rfl⟩⟩; refine ⟨_, rfl, ?_⟩))
    go_ret
    exact ⟨by first | rfl | (simp; done) | (simp [*]; done), by repeat (first | exact Drawn0.refl _ | apply Drawn0.step)⟩
  · replace c4 := Bool.eq_false_iff.mpr c4
    subst c4
    have H1 : (some 0) = some r := by rw [if_neg (show ¬ (false = true) by decide)] at H; exact H
    clear H
    have H := H1
    clear H1
    obtain rfl := Option.some.inj H
    go_enter Try.func98, Try.ntmps98
    go_wp2_with (first | ((with_reducible refine gate_callee (f := 86) rfl ?_); refine goesL_ (some 6) rfl rfl Try.func86 (by kernel_rfl) rfl #[.int .i64 a1] rfl (by (try simp only [List.map_toArray, List.map_cons, List.map_nil]); first | done | rfl | (simp only [List.length_drop, List.length_take]; rfl)) ?_; (with_reducible refine (page_May.calls a1 false _ A3.out).mono ?_); rintro e w' ⟨rfl, ⟨nd, rfl⟩⟩; refine ⟨_, rfl, ?_⟩))
    go_ret
    exact ⟨by first | rfl | (simp; done) | (simp [*]; done), by repeat (first | exact Drawn0.refl _ | apply Drawn0.step)⟩

/-! ### page_Base: function 87 -/
def page_Base.f (a0 : Int) (a1 : Int) : Option (Int) := (page_May.f a1).bind fun t230 => (if t230 = true then ((page_Offset.f a0 a1).bind fun t231 => (some (IntKind.u64.wrap (a0 - t231)))) else (some 0))
set_option maxHeartbeats 8000000 in
set_option maxRecDepth 100000 in
theorem page_Base.calls (a0 : Int) (a1 : Int) (r : Int) (w : World) (h : page_Base.f a0 a1 = some r) :
    Calls Try.prog 87 #[.int .u64 a0, .int .i64 a1] w fun e w' => e = .returned (.int .u64 r) ∧ Drawn0 w w' := by
  have H : ((page_May.f a1).bind fun t230 => (if t230 = true then ((page_Offset.f a0 a1).bind fun t231 => (some (IntKind.u64.wrap (a0 - t231)))) else (some 0))) = some r := h
  clear h
  replace H := Option.bind_eq_some_iff.mp H
  obtain ⟨t230, A30, H⟩ := H
  replace H : (if t230 = true then ((page_Offset.f a0 a1).bind fun t231 => (some (IntKind.u64.wrap (a0 - t231)))) else (some 0)) = some r := H
  have A3 := Aside0.mk A30
  clear A30
  by_cases c4 : t230 = true
  · subst c4
    have H1 : ((page_Offset.f a0 a1).bind fun t231 => (some (IntKind.u64.wrap (a0 - t231)))) = some r := by rw [if_pos rfl] at H; exact H
    clear H
    have H := H1
    clear H1
    replace H := Option.bind_eq_some_iff.mp H
    obtain ⟨t231, A50, H⟩ := H
    replace H : (some (IntKind.u64.wrap (a0 - t231))) = some r := H
    have A5 := Aside0.mk A50
    clear A50
    obtain rfl := Option.some.inj H
    go_enter Try.func87, Try.ntmps87
    go_wp2_with (first | ((with_reducible refine gate_callee (f := 86) rfl ?_); refine goesL_ (some 6) rfl rfl Try.func86 (by kernel_rfl) rfl #[.int .i64 a1] rfl (by (try simp only [List.map_toArray, List.map_cons, List.map_nil]); first | done | rfl | (simp only [List.length_drop, List.length_take]; rfl)) ?_; (with_reducible refine (page_May.calls a1 true _ A3.out).mono ?_); rintro e w' ⟨rfl, ⟨nd, rfl⟩⟩; refine ⟨_, rfl, ?_⟩) | ((with_reducible refine gate_callee (f := 98) rfl ?_); refine goesL_ (some 11) rfl rfl Try.func98 (by kernel_rfl) rfl #[.int .u64 a0, .int .i64 a1] rfl (by (try simp only [List.map_toArray, List.map_cons, List.map_nil]); first | done | rfl | (simp only [List.length_drop, List.length_take]; rfl)) ?_; (with_reducible refine (page_Offset.calls a0 a1 t231 _ A5.out).mono ?_); rintro e w' ⟨rfl, ⟨nd, rfl⟩⟩; refine ⟨_, rfl, ?_⟩))
    go_ret
    exact ⟨by first | rfl | (simp; done) | (simp [*]; done), by repeat (first | exact Drawn0.refl _ | apply Drawn0.step)⟩
  · replace c4 := Bool.eq_false_iff.mpr c4
    subst c4
    have H1 : (some 0) = some r := by rw [if_neg (show ¬ (false = true) by decide)] at H; exact H
    clear H
    have H := H1
    clear H1
    obtain rfl := Option.some.inj H
    go_enter Try.func87, Try.ntmps87
    go_wp2_with (first | ((with_reducible refine gate_callee (f := 86) rfl ?_); refine goesL_ (some 6) rfl rfl Try.func86 (by kernel_rfl) rfl #[.int .i64 a1] rfl (by (try simp only [List.map_toArray, List.map_cons, List.map_nil]); first | done | rfl | (simp only [List.length_drop, List.length_take]; rfl)) ?_; (with_reducible refine (page_May.calls a1 false _ A3.out).mono ?_); rintro e w' ⟨rfl, ⟨nd, rfl⟩⟩; refine ⟨_, rfl, ?_⟩))
    go_ret
    exact ⟨by first | rfl | (simp; done) | (simp [*]; done), by repeat (first | exact Drawn0.refl _ | apply Drawn0.step)⟩

/-! ### page_In: function 65 -/
def page_In.f (a0 : Int) (a1 : Int) (a2 : Int) : Option (Bool) := (page_May.f a2).bind fun t232 => (if t232 = true then ((page_Base.f a0 a2).bind fun t233 => ((page_Base.f a1 a2).bind fun t234 => (some (t233 == t234)))) else (some false))
set_option maxHeartbeats 8000000 in
set_option maxRecDepth 100000 in
theorem page_In.calls (a0 : Int) (a1 : Int) (a2 : Int) (r : Bool) (w : World) (h : page_In.f a0 a1 a2 = some r) :
    Calls Try.prog 65 #[.int .u64 a0, .int .u64 a1, .int .i64 a2] w fun e w' => e = .returned (.bool r) ∧ Drawn0 w w' := by
  have H : ((page_May.f a2).bind fun t232 => (if t232 = true then ((page_Base.f a0 a2).bind fun t233 => ((page_Base.f a1 a2).bind fun t234 => (some (t233 == t234)))) else (some false))) = some r := h
  clear h
  replace H := Option.bind_eq_some_iff.mp H
  obtain ⟨t232, A40, H⟩ := H
  replace H : (if t232 = true then ((page_Base.f a0 a2).bind fun t233 => ((page_Base.f a1 a2).bind fun t234 => (some (t233 == t234)))) else (some false)) = some r := H
  have A4 := Aside0.mk A40
  clear A40
  by_cases c5 : t232 = true
  · subst c5
    have H1 : ((page_Base.f a0 a2).bind fun t233 => ((page_Base.f a1 a2).bind fun t234 => (some (t233 == t234)))) = some r := by rw [if_pos rfl] at H; exact H
    clear H
    have H := H1
    clear H1
    replace H := Option.bind_eq_some_iff.mp H
    obtain ⟨t233, A60, H⟩ := H
    replace H : ((page_Base.f a1 a2).bind fun t234 => (some (t233 == t234))) = some r := H
    have A6 := Aside0.mk A60
    clear A60
    replace H := Option.bind_eq_some_iff.mp H
    obtain ⟨t234, A70, H⟩ := H
    replace H : (some (t233 == t234)) = some r := H
    have A7 := Aside0.mk A70
    clear A70
    obtain rfl := Option.some.inj H
    go_enter Try.func65, Try.ntmps65
    go_wp2_with (first | ((with_reducible refine gate_callee (f := 86) rfl ?_); refine goesL_ (some 8) rfl rfl Try.func86 (by kernel_rfl) rfl #[.int .i64 a2] rfl (by (try simp only [List.map_toArray, List.map_cons, List.map_nil]); first | done | rfl | (simp only [List.length_drop, List.length_take]; rfl)) ?_; (with_reducible refine (page_May.calls a2 true _ A4.out).mono ?_); rintro e w' ⟨rfl, ⟨nd, rfl⟩⟩; refine ⟨_, rfl, ?_⟩) | (go_at_call 87; (with_reducible refine (page_Base.calls a0 a2 t233 _ A6.out).mono ?_); rintro e w' ⟨rfl, ⟨nd, rfl⟩⟩) | (go_at_call 87; (with_reducible refine (page_Base.calls a1 a2 t234 _ A7.out).mono ?_); rintro e w' ⟨rfl, ⟨nd, rfl⟩⟩))
    go_ret
    exact ⟨by first | rfl | (simp; done) | (simp [*]; done), by repeat (first | exact Drawn0.refl _ | apply Drawn0.step)⟩
  · replace c5 := Bool.eq_false_iff.mpr c5
    subst c5
    have H1 : (some false) = some r := by rw [if_neg (show ¬ (false = true) by decide)] at H; exact H
    clear H
    have H := H1
    clear H1
    obtain rfl := Option.some.inj H
    go_enter Try.func65, Try.ntmps65
    go_wp2_with (first | ((with_reducible refine gate_callee (f := 86) rfl ?_); refine goesL_ (some 8) rfl rfl Try.func86 (by kernel_rfl) rfl #[.int .i64 a2] rfl (by (try simp only [List.map_toArray, List.map_cons, List.map_nil]); first | done | rfl | (simp only [List.length_drop, List.length_take]; rfl)) ?_; (with_reducible refine (page_May.calls a2 false _ A4.out).mono ?_); rintro e w' ⟨rfl, ⟨nd, rfl⟩⟩; refine ⟨_, rfl, ?_⟩))
    go_ret
    exact ⟨by first | rfl | (simp; done) | (simp [*]; done), by repeat (first | exact Drawn0.refl _ | apply Drawn0.step)⟩

/-! ### page_Meet: function 67 -/
def page_Meet.f (a0 : Int) (a1 : Int) (a2 : Int) (a3 : Int) : Option (Bool) := (page_May.f a1).bind fun t235 => (if t235 = true then ((page_May.f a3).bind fun t236 => (if t236 = true then ((page_In.f a0 a2 (mx a1 a3)).bind fun t237 => (some t237)) else (some false))) else (some false))
set_option maxHeartbeats 8000000 in
set_option maxRecDepth 100000 in
theorem page_Meet.calls (a0 : Int) (a1 : Int) (a2 : Int) (a3 : Int) (r : Bool) (w : World) (h : page_Meet.f a0 a1 a2 a3 = some r) :
    Calls Try.prog 67 #[.int .u64 a0, .int .i64 a1, .int .u64 a2, .int .i64 a3] w fun e w' => e = .returned (.bool r) ∧ Below w.heap.size w w' := by
  have HB := Aside0.mk (Below.refl w.heap.size w)
  have H : ((page_May.f a1).bind fun t235 => (if t235 = true then ((page_May.f a3).bind fun t236 => (if t236 = true then ((page_In.f a0 a2 (mx a1 a3)).bind fun t237 => (some t237)) else (some false))) else (some false))) = some r := h
  clear h
  replace H := Option.bind_eq_some_iff.mp H
  obtain ⟨t235, A50, H⟩ := H
  replace H : (if t235 = true then ((page_May.f a3).bind fun t236 => (if t236 = true then ((page_In.f a0 a2 (mx a1 a3)).bind fun t237 => (some t237)) else (some false))) else (some false)) = some r := H
  have A5 := Aside0.mk A50
  clear A50
  by_cases c6 : t235 = true
  · subst c6
    have H1 : ((page_May.f a3).bind fun t236 => (if t236 = true then ((page_In.f a0 a2 (mx a1 a3)).bind fun t237 => (some t237)) else (some false))) = some r := by rw [if_pos rfl] at H; exact H
    clear H
    have H := H1
    clear H1
    replace H := Option.bind_eq_some_iff.mp H
    obtain ⟨t236, A70, H⟩ := H
    replace H : (if t236 = true then ((page_In.f a0 a2 (mx a1 a3)).bind fun t237 => (some t237)) else (some false)) = some r := H
    have A7 := Aside0.mk A70
    clear A70
    by_cases c8 : t236 = true
    · subst c8
      have H1 : ((page_In.f a0 a2 (mx a1 a3)).bind fun t237 => (some t237)) = some r := by rw [if_pos rfl] at H; exact H
      clear H
      have H := H1
      clear H1
      obtain ⟨ji9, hji9⟩ : ∃ j_ : Int, (mx a1 a3) = j_ := ⟨_, rfl⟩
      replace H : ((page_In.f a0 a2 (ji9)).bind fun t237 => (some t237)) = some r := by first | (rw [hji9] at H; exact H) | (simp only [hji9] at H ⊢; exact H)
      (try rw [hji9] at A5)
      (try rw [hji9] at A7)
      have hji9_ : (if a1 < a3 then a3 else a1) = ji9 := hji9
      replace H := Option.bind_eq_some_iff.mp H
      obtain ⟨t237, A100, H⟩ := H
      replace H : (some t237) = some r := H
      have A10 := Aside0.mk A100
      clear A100
      obtain rfl := Option.some.inj H
      go_enter Try.func67, Try.ntmps67
      go_wp2_with (first | ((with_reducible refine gate_callee (f := 86) rfl ?_); refine goesL_ (some 10) rfl rfl Try.func86 (by kernel_rfl) rfl #[.int .i64 a1] rfl (by (try simp only [List.map_toArray, List.map_cons, List.map_nil]); first | done | rfl | (simp only [List.length_drop, List.length_take]; rfl)) ?_; (with_reducible refine (page_May.calls a1 true _ A5.out).mono ?_); rintro e w' ⟨rfl, ⟨nd, rfl⟩⟩; refine ⟨_, rfl, ?_⟩) | (go_at_call 86; (with_reducible refine (page_May.calls a3 true _ A7.out).mono ?_); rintro e w' ⟨rfl, ⟨nd, rfl⟩⟩) | (go_at_call 65; (with_reducible refine (page_In.calls a0 a2 ji9 t237 _ A10.out).mono ?_); rintro e w' ⟨rfl, ⟨nd, rfl⟩⟩))
      go_ret
      exact ⟨by first | rfl | (simp [errW_none, errW_some] <;> rfl) | (simp only [← hji9]; first | rfl | (simp [errW_none, errW_some] <;> rfl)) | (simp [*, errW_none, errW_some] <;> rfl), by repeat (first | (with_reducible first | exact HB.out | apply below_alloc | apply pw_below_drewN | apply below_drew1) | exact HB.out)⟩
    · replace c8 := Bool.eq_false_iff.mpr c8
      subst c8
      have H1 : (some false) = some r := by rw [if_neg (show ¬ (false = true) by decide)] at H; exact H
      clear H
      have H := H1
      clear H1
      obtain rfl := Option.some.inj H
      go_enter Try.func67, Try.ntmps67
      go_wp2_with (first | ((with_reducible refine gate_callee (f := 86) rfl ?_); refine goesL_ (some 10) rfl rfl Try.func86 (by kernel_rfl) rfl #[.int .i64 a1] rfl (by (try simp only [List.map_toArray, List.map_cons, List.map_nil]); first | done | rfl | (simp only [List.length_drop, List.length_take]; rfl)) ?_; (with_reducible refine (page_May.calls a1 true _ A5.out).mono ?_); rintro e w' ⟨rfl, ⟨nd, rfl⟩⟩; refine ⟨_, rfl, ?_⟩) | (go_at_call 86; (with_reducible refine (page_May.calls a3 false _ A7.out).mono ?_); rintro e w' ⟨rfl, ⟨nd, rfl⟩⟩))
      go_ret
      exact ⟨by first | rfl | (simp [errW_none, errW_some] <;> rfl) | (simp [*, errW_none, errW_some] <;> rfl), by repeat (first | (with_reducible first | exact HB.out | apply below_alloc | apply pw_below_drewN | apply below_drew1) | exact HB.out)⟩
  · replace c6 := Bool.eq_false_iff.mpr c6
    subst c6
    have H1 : (some false) = some r := by rw [if_neg (show ¬ (false = true) by decide)] at H; exact H
    clear H
    have H := H1
    clear H1
    obtain rfl := Option.some.inj H
    go_enter Try.func67, Try.ntmps67
    go_wp2_with (first | ((with_reducible refine gate_callee (f := 86) rfl ?_); refine goesL_ (some 10) rfl rfl Try.func86 (by kernel_rfl) rfl #[.int .i64 a1] rfl (by (try simp only [List.map_toArray, List.map_cons, List.map_nil]); first | done | rfl | (simp only [List.length_drop, List.length_take]; rfl)) ?_; (with_reducible refine (page_May.calls a1 false _ A5.out).mono ?_); rintro e w' ⟨rfl, ⟨nd, rfl⟩⟩; refine ⟨_, rfl, ?_⟩))
    go_ret
    exact ⟨by first | rfl | (simp [errW_none, errW_some] <;> rfl) | (simp [*, errW_none, errW_some] <;> rfl), by repeat (first | (with_reducible first | exact HB.out | apply below_alloc | apply pw_below_drewN | apply below_drew1) | exact HB.out)⟩

/-! ### tlb_Parts: function 56 -/
def tlb_Parts.f (a0_0 : Int) (a0_1 : Int) (a0_2 : Int) (a0_3 : Int) (a0_4 : Bool) (a0_5 : Bool) (a0_6 : Bool) (a0_7 : Bool) (a0_8 : Bool) (a0_9 : Bool) (a0_10 : Bool) (a1_0 : Int) (a1_1 : Int) (a1_2 : Int) (a1_3 : Int) (a1_4 : Bool) (a1_5 : Bool) (a1_6 : Bool) (a1_7 : Bool) (a1_8 : Bool) (a1_9 : Bool) (a1_10 : Bool) : Option (Bool) := (page_Meet.f a0_2 a0_0 a1_2 a1_0).bind fun t240 => (if t240 = true then (if a0_8 = true then (some false) else (if a1_8 = true then (some false) else (some (a0_1 != a1_1)))) else (some true))
set_option maxHeartbeats 8000000 in
set_option maxRecDepth 100000 in
theorem tlb_Parts.calls (a0_0 : Int) (a0_1 : Int) (a0_2 : Int) (a0_3 : Int) (a0_4 : Bool) (a0_5 : Bool) (a0_6 : Bool) (a0_7 : Bool) (a0_8 : Bool) (a0_9 : Bool) (a0_10 : Bool) (a1_0 : Int) (a1_1 : Int) (a1_2 : Int) (a1_3 : Int) (a1_4 : Bool) (a1_5 : Bool) (a1_6 : Bool) (a1_7 : Bool) (a1_8 : Bool) (a1_9 : Bool) (a1_10 : Bool) (r : Bool) (w : World) (h : tlb_Parts.f a0_0 a0_1 a0_2 a0_3 a0_4 a0_5 a0_6 a0_7 a0_8 a0_9 a0_10 a1_0 a1_1 a1_2 a1_3 a1_4 a1_5 a1_6 a1_7 a1_8 a1_9 a1_10 = some r) :
    Calls Try.prog 56 #[.agg #[.int .i64 a0_0, .int .i64 a0_1, .int .u64 a0_2, .int .u64 a0_3, .bool a0_4, .bool a0_5, .bool a0_6, .bool a0_7, .bool a0_8, .bool a0_9, .bool a0_10], .agg #[.int .i64 a1_0, .int .i64 a1_1, .int .u64 a1_2, .int .u64 a1_3, .bool a1_4, .bool a1_5, .bool a1_6, .bool a1_7, .bool a1_8, .bool a1_9, .bool a1_10]] w fun e w' => e = .returned (.bool r) ∧ Below w.heap.size w w' := by
  have hu32 := Try.underlying32
  have HB := Aside0.mk (Below.refl w.heap.size w)
  have H : ((page_Meet.f a0_2 a0_0 a1_2 a1_0).bind fun t240 => (if t240 = true then (if a0_8 = true then (some false) else (if a1_8 = true then (some false) else (some (a0_1 != a1_1)))) else (some true))) = some r := h
  clear h
  replace H := Option.bind_eq_some_iff.mp H
  obtain ⟨t240, A30, H⟩ := H
  replace H : (if t240 = true then (if a0_8 = true then (some false) else (if a1_8 = true then (some false) else (some (a0_1 != a1_1)))) else (some true)) = some r := H
  have A3 := Aside0.mk A30
  clear A30
  by_cases c4 : t240 = true
  · subst c4
    have H1 : (if a0_8 = true then (some false) else (if a1_8 = true then (some false) else (some (a0_1 != a1_1)))) = some r := by rw [if_pos rfl] at H; exact H
    clear H
    have H := H1
    clear H1
    by_cases c5 : a0_8 = true
    · subst c5
      have H1 : (some false) = some r := by rw [if_pos rfl] at H; exact H
      clear H
      have H := H1
      clear H1
      obtain rfl := Option.some.inj H
      go_enter Try.func56, Try.ntmps56
      go_wp2_with (first | ((with_reducible refine gate_dst (N := 2) rfl ?_); refine box_event ?hg (N := 2) ?hd (cs := #[.int .i64 a0_0, .int .i64 a0_1, .int .u64 a0_2, .int .u64 a0_3, .bool a0_4, .bool a0_5, .bool a0_6, .bool a0_7, .bool true, .bool a0_9, .bool a0_10]) (t := 32) ?hr ?_; (case hd => rfl); (case hg => rfl); (case hr => first | (go_simp; done) | (go_simp; rfl)); intro gb238 hg w6 hbox hb; have n0_ := Aside0.mk (below_step (by repeat (first | (with_reducible first | exact HB.out | apply below_alloc | apply pw_below_drewN | apply below_drew1) | exact HB.out)) hb); have n1_ := Aside0.mk (hbox); have n2_ := Aside0.mk ((by rw [hg]; exact (below_size (by repeat (first | (with_reducible first | exact HB.out | apply below_alloc | apply pw_below_drewN | apply below_drew1) | exact HB.out))) : w.heap.size ≤ gb238)); have n3_ := Aside0.mk ((by rw [hg]; exact (below_size (by repeat (first | (with_reducible first | exact HB.out | apply below_alloc | apply pw_below_drewN | apply below_drew1) | exact HB.out))) : w.heap.size ≤ gb238)); clear HB; have HB := n0_; have BK238 := n1_; have GW238 := n2_; have GE238 := n3_; clear n0_ n1_ n2_ n3_; clear hb hbox hg) | ((with_reducible refine gate_dst (N := 3) rfl ?_); refine box_event ?hg (N := 3) ?hd (cs := #[.int .i64 a1_0, .int .i64 a1_1, .int .u64 a1_2, .int .u64 a1_3, .bool a1_4, .bool a1_5, .bool a1_6, .bool a1_7, .bool a1_8, .bool a1_9, .bool a1_10]) (t := 32) ?hr ?_; (case hd => rfl); (case hg => rfl); (case hr => first | (go_simp; done) | (go_simp; rfl)); intro gb239 hg w7 hbox hb; have n0_ := Aside0.mk (blk_below (g := gb238) (o := .cells #[.int .i64 a0_0, .int .i64 a0_1, .int .u64 a0_2, .int .u64 a0_3, .bool a0_4, .bool a0_5, .bool a0_6, .bool a0_7, .bool true, .bool a0_9, .bool a0_10] 32 (0, 0)) (by (with_reducible repeat (first | refine blk_drewN ?_ _ | refine blk_drew ?_ | refine blk_alloc ?_ _)); exact BK238.out) hb); have n1_ := Aside0.mk (below_step (by repeat (first | (with_reducible first | exact HB.out | apply below_alloc | apply pw_below_drewN | apply below_drew1 | refine below_set ?_ GE238.out) | exact HB.out)) hb); have n2_ := Aside0.mk (hbox); have n3_ := Aside0.mk ((by rw [hg]; exact (below_size (by repeat (first | (with_reducible first | exact HB.out | apply below_alloc | apply pw_below_drewN | apply below_drew1 | refine below_set ?_ GE238.out) | exact HB.out))) : w.heap.size ≤ gb239)); have n4_ := Aside0.mk ((by rw [hg]; exact (below_size (by repeat (first | (with_reducible first | exact HB.out | apply below_alloc | apply pw_below_drewN | apply below_drew1 | refine below_set ?_ GE238.out) | exact HB.out))) : w.heap.size ≤ gb239)); have n5_ := Aside0.mk ((by rw [hg]; exact Nat.ne_of_lt (blk_lt (g := gb238) (o := .cells #[.int .i64 a0_0, .int .i64 a0_1, .int .u64 a0_2, .int .u64 a0_3, .bool a0_4, .bool a0_5, .bool a0_6, .bool a0_7, .bool true, .bool a0_9, .bool a0_10] 32 (0, 0)) (by (with_reducible repeat (first | refine blk_drewN ?_ _ | refine blk_drew ?_ | refine blk_alloc ?_ _)); exact BK238.out)) : gb238 ≠ gb239)); have n6_ := Aside0.mk ((by rw [hg]; exact Nat.ne_of_gt (blk_lt (g := gb238) (o := .cells #[.int .i64 a0_0, .int .i64 a0_1, .int .u64 a0_2, .int .u64 a0_3, .bool a0_4, .bool a0_5, .bool a0_6, .bool a0_7, .bool true, .bool a0_9, .bool a0_10] 32 (0, 0)) (by (with_reducible repeat (first | refine blk_drewN ?_ _ | refine blk_drew ?_ | refine blk_alloc ?_ _)); exact BK238.out)) : gb239 ≠ gb238)); clear BK238; clear HB; have BK238 := n0_; have HB := n1_; have BK239 := n2_; have GW239 := n3_; have GE239 := n4_; have NB238_239 := n5_; have NB239_238 := n6_; clear n0_ n1_ n2_ n3_ n4_ n5_ n6_; clear hb hbox hg; have hnb8 := NB238_239.out; have hnc8 := NB239_238.out; have hcz9_0 : w7.cell? ⟨gb238, 0, none⟩ = some (.int .i64 a0_0) := (blk_cell BK238.out 0).trans rfl; have hcz9_1 : w7.cell? ⟨gb238, 1, none⟩ = some (.int .i64 a0_1) := (blk_cell BK238.out 1).trans rfl; have hcz9_2 : w7.cell? ⟨gb238, 2, none⟩ = some (.int .u64 a0_2) := (blk_cell BK238.out 2).trans rfl; have hcz9_3 : w7.cell? ⟨gb238, 3, none⟩ = some (.int .u64 a0_3) := (blk_cell BK238.out 3).trans rfl; have hcz9_4 : w7.cell? ⟨gb238, 4, none⟩ = some (.bool a0_4) := (blk_cell BK238.out 4).trans rfl; have hcz9_5 : w7.cell? ⟨gb238, 5, none⟩ = some (.bool a0_5) := (blk_cell BK238.out 5).trans rfl; have hcz9_6 : w7.cell? ⟨gb238, 6, none⟩ = some (.bool a0_6) := (blk_cell BK238.out 6).trans rfl; have hcz9_7 : w7.cell? ⟨gb238, 7, none⟩ = some (.bool a0_7) := (blk_cell BK238.out 7).trans rfl; have hcz9_8 : w7.cell? ⟨gb238, 8, none⟩ = some (.bool true) := (blk_cell BK238.out 8).trans rfl; have hcz9_9 : w7.cell? ⟨gb238, 9, none⟩ = some (.bool a0_9) := (blk_cell BK238.out 9).trans rfl; have hcz9_10 : w7.cell? ⟨gb238, 10, none⟩ = some (.bool a0_10) := (blk_cell BK238.out 10).trans rfl; have hfz9_0 := blk_frozen BK238.out 0; have hfz9_1 := blk_frozen BK238.out 1; have hfz9_2 := blk_frozen BK238.out 2; have hfz9_3 := blk_frozen BK238.out 3; have hfz9_4 := blk_frozen BK238.out 4; have hfz9_5 := blk_frozen BK238.out 5; have hfz9_6 := blk_frozen BK238.out 6; have hfz9_7 := blk_frozen BK238.out 7; have hfz9_8 := blk_frozen BK238.out 8; have hfz9_9 := blk_frozen BK238.out 9; have hfz9_10 := blk_frozen BK238.out 10; have hcz10_0 : w7.cell? ⟨gb239, 0, none⟩ = some (.int .i64 a1_0) := (blk_cell BK239.out 0).trans rfl; have hcz10_1 : w7.cell? ⟨gb239, 1, none⟩ = some (.int .i64 a1_1) := (blk_cell BK239.out 1).trans rfl; have hcz10_2 : w7.cell? ⟨gb239, 2, none⟩ = some (.int .u64 a1_2) := (blk_cell BK239.out 2).trans rfl; have hcz10_3 : w7.cell? ⟨gb239, 3, none⟩ = some (.int .u64 a1_3) := (blk_cell BK239.out 3).trans rfl; have hcz10_4 : w7.cell? ⟨gb239, 4, none⟩ = some (.bool a1_4) := (blk_cell BK239.out 4).trans rfl; have hcz10_5 : w7.cell? ⟨gb239, 5, none⟩ = some (.bool a1_5) := (blk_cell BK239.out 5).trans rfl; have hcz10_6 : w7.cell? ⟨gb239, 6, none⟩ = some (.bool a1_6) := (blk_cell BK239.out 6).trans rfl; have hcz10_7 : w7.cell? ⟨gb239, 7, none⟩ = some (.bool a1_7) := (blk_cell BK239.out 7).trans rfl; have hcz10_8 : w7.cell? ⟨gb239, 8, none⟩ = some (.bool a1_8) := (blk_cell BK239.out 8).trans rfl; have hcz10_9 : w7.cell? ⟨gb239, 9, none⟩ = some (.bool a1_9) := (blk_cell BK239.out 9).trans rfl; have hcz10_10 : w7.cell? ⟨gb239, 10, none⟩ = some (.bool a1_10) := (blk_cell BK239.out 10).trans rfl; have hfz10_0 := blk_frozen BK239.out 0; have hfz10_1 := blk_frozen BK239.out 1; have hfz10_2 := blk_frozen BK239.out 2; have hfz10_3 := blk_frozen BK239.out 3; have hfz10_4 := blk_frozen BK239.out 4; have hfz10_5 := blk_frozen BK239.out 5; have hfz10_6 := blk_frozen BK239.out 6; have hfz10_7 := blk_frozen BK239.out 7; have hfz10_8 := blk_frozen BK239.out 8; have hfz10_9 := blk_frozen BK239.out 9; have hfz10_10 := blk_frozen BK239.out 10) | ((with_reducible refine gate_callee (f := 67) rfl ?_); refine goesL_ (some 13) rfl rfl Try.func67 (by kernel_rfl) rfl #[.int .u64 a0_2, .int .i64 a0_0, .int .u64 a1_2, .int .i64 a1_0] rfl (by (try simp only [List.map_toArray, List.map_cons, List.map_nil]); first | done | rfl | (simp only [List.length_drop, List.length_take]; rfl)) ?_; (with_reducible refine (page_Meet.calls a0_2 a0_0 a1_2 a1_0 true _ A3.out).mono ?_); rintro e w11 ⟨rfl, hb⟩; refine ⟨_, rfl, ?_⟩; have n0_ := Aside0.mk (blk_below (g := gb238) (o := .cells #[.int .i64 a0_0, .int .i64 a0_1, .int .u64 a0_2, .int .u64 a0_3, .bool a0_4, .bool a0_5, .bool a0_6, .bool a0_7, .bool true, .bool a0_9, .bool a0_10] 32 (0, 0)) (by (with_reducible repeat (first | refine blk_drewN ?_ _ | refine blk_drew ?_ | refine blk_alloc ?_ _)); exact BK238.out) hb); have n1_ := Aside0.mk (blk_below (g := gb239) (o := .cells #[.int .i64 a1_0, .int .i64 a1_1, .int .u64 a1_2, .int .u64 a1_3, .bool a1_4, .bool a1_5, .bool a1_6, .bool a1_7, .bool a1_8, .bool a1_9, .bool a1_10] 32 (0, 0)) (by (with_reducible repeat (first | refine blk_drewN ?_ _ | refine blk_drew ?_ | refine blk_alloc ?_ _)); exact BK239.out) hb); have n2_ := Aside0.mk (below_step (by repeat (first | (with_reducible first | exact HB.out | apply below_alloc | apply pw_below_drewN | apply below_drew1 | refine below_set ?_ GE238.out | refine below_set ?_ GE239.out) | exact HB.out)) hb); clear BK238; clear BK239; clear HB; have BK238 := n0_; have BK239 := n1_; have HB := n2_; clear n0_ n1_ n2_; (try clear hb); (try clear hb2); (try clear hk); (try clear hi); have hcz12_0 : w11.cell? ⟨gb238, 0, none⟩ = some (.int .i64 a0_0) := (blk_cell BK238.out 0).trans rfl; have hcz12_1 : w11.cell? ⟨gb238, 1, none⟩ = some (.int .i64 a0_1) := (blk_cell BK238.out 1).trans rfl; have hcz12_2 : w11.cell? ⟨gb238, 2, none⟩ = some (.int .u64 a0_2) := (blk_cell BK238.out 2).trans rfl; have hcz12_3 : w11.cell? ⟨gb238, 3, none⟩ = some (.int .u64 a0_3) := (blk_cell BK238.out 3).trans rfl; have hcz12_4 : w11.cell? ⟨gb238, 4, none⟩ = some (.bool a0_4) := (blk_cell BK238.out 4).trans rfl; have hcz12_5 : w11.cell? ⟨gb238, 5, none⟩ = some (.bool a0_5) := (blk_cell BK238.out 5).trans rfl; have hcz12_6 : w11.cell? ⟨gb238, 6, none⟩ = some (.bool a0_6) := (blk_cell BK238.out 6).trans rfl; have hcz12_7 : w11.cell? ⟨gb238, 7, none⟩ = some (.bool a0_7) := (blk_cell BK238.out 7).trans rfl; have hcz12_8 : w11.cell? ⟨gb238, 8, none⟩ = some (.bool true) := (blk_cell BK238.out 8).trans rfl; have hcz12_9 : w11.cell? ⟨gb238, 9, none⟩ = some (.bool a0_9) := (blk_cell BK238.out 9).trans rfl; have hcz12_10 : w11.cell? ⟨gb238, 10, none⟩ = some (.bool a0_10) := (blk_cell BK238.out 10).trans rfl; have hfz12_0 := blk_frozen BK238.out 0; have hfz12_1 := blk_frozen BK238.out 1; have hfz12_2 := blk_frozen BK238.out 2; have hfz12_3 := blk_frozen BK238.out 3; have hfz12_4 := blk_frozen BK238.out 4; have hfz12_5 := blk_frozen BK238.out 5; have hfz12_6 := blk_frozen BK238.out 6; have hfz12_7 := blk_frozen BK238.out 7; have hfz12_8 := blk_frozen BK238.out 8; have hfz12_9 := blk_frozen BK238.out 9; have hfz12_10 := blk_frozen BK238.out 10))
      go_ret
      exact ⟨by first | rfl | (simp [errW_none, errW_some] <;> rfl) | (simp [*, errW_none, errW_some] <;> rfl), by repeat (first | (with_reducible first | exact HB.out | apply below_alloc | apply pw_below_drewN | apply below_drew1 | refine below_set ?_ GE238.out | refine below_set ?_ GE239.out) | exact HB.out)⟩
    · replace c5 := Bool.eq_false_iff.mpr c5
      subst c5
      have H1 : (if a1_8 = true then (some false) else (some (a0_1 != a1_1))) = some r := by rw [if_neg (show ¬ (false = true) by decide)] at H; exact H
      clear H
      have H := H1
      clear H1
      by_cases c13 : a1_8 = true
      · subst c13
        have H1 : (some false) = some r := by rw [if_pos rfl] at H; exact H
        clear H
        have H := H1
        clear H1
        obtain rfl := Option.some.inj H
        go_enter Try.func56, Try.ntmps56
        go_wp2_with (first | ((with_reducible refine gate_dst (N := 2) rfl ?_); refine box_event ?hg (N := 2) ?hd (cs := #[.int .i64 a0_0, .int .i64 a0_1, .int .u64 a0_2, .int .u64 a0_3, .bool a0_4, .bool a0_5, .bool a0_6, .bool a0_7, .bool false, .bool a0_9, .bool a0_10]) (t := 32) ?hr ?_; (case hd => rfl); (case hg => rfl); (case hr => first | (go_simp; done) | (go_simp; rfl)); intro gb238 hg w14 hbox hb; have n0_ := Aside0.mk (below_step (by repeat (first | (with_reducible first | exact HB.out | apply below_alloc | apply pw_below_drewN | apply below_drew1) | exact HB.out)) hb); have n1_ := Aside0.mk (hbox); have n2_ := Aside0.mk ((by rw [hg]; exact (below_size (by repeat (first | (with_reducible first | exact HB.out | apply below_alloc | apply pw_below_drewN | apply below_drew1) | exact HB.out))) : w.heap.size ≤ gb238)); have n3_ := Aside0.mk ((by rw [hg]; exact (below_size (by repeat (first | (with_reducible first | exact HB.out | apply below_alloc | apply pw_below_drewN | apply below_drew1) | exact HB.out))) : w.heap.size ≤ gb238)); clear HB; have HB := n0_; have BK238 := n1_; have GW238 := n2_; have GE238 := n3_; clear n0_ n1_ n2_ n3_; clear hb hbox hg) | ((with_reducible refine gate_dst (N := 3) rfl ?_); refine box_event ?hg (N := 3) ?hd (cs := #[.int .i64 a1_0, .int .i64 a1_1, .int .u64 a1_2, .int .u64 a1_3, .bool a1_4, .bool a1_5, .bool a1_6, .bool a1_7, .bool true, .bool a1_9, .bool a1_10]) (t := 32) ?hr ?_; (case hd => rfl); (case hg => rfl); (case hr => first | (go_simp; done) | (go_simp; rfl)); intro gb239 hg w15 hbox hb; have n0_ := Aside0.mk (blk_below (g := gb238) (o := .cells #[.int .i64 a0_0, .int .i64 a0_1, .int .u64 a0_2, .int .u64 a0_3, .bool a0_4, .bool a0_5, .bool a0_6, .bool a0_7, .bool false, .bool a0_9, .bool a0_10] 32 (0, 0)) (by (with_reducible repeat (first | refine blk_drewN ?_ _ | refine blk_drew ?_ | refine blk_alloc ?_ _)); exact BK238.out) hb); have n1_ := Aside0.mk (below_step (by repeat (first | (with_reducible first | exact HB.out | apply below_alloc | apply pw_below_drewN | apply below_drew1 | refine below_set ?_ GE238.out) | exact HB.out)) hb); have n2_ := Aside0.mk (hbox); have n3_ := Aside0.mk ((by rw [hg]; exact (below_size (by repeat (first | (with_reducible first | exact HB.out | apply below_alloc | apply pw_below_drewN | apply below_drew1 | refine below_set ?_ GE238.out) | exact HB.out))) : w.heap.size ≤ gb239)); have n4_ := Aside0.mk ((by rw [hg]; exact (below_size (by repeat (first | (with_reducible first | exact HB.out | apply below_alloc | apply pw_below_drewN | apply below_drew1 | refine below_set ?_ GE238.out) | exact HB.out))) : w.heap.size ≤ gb239)); have n5_ := Aside0.mk ((by rw [hg]; exact Nat.ne_of_lt (blk_lt (g := gb238) (o := .cells #[.int .i64 a0_0, .int .i64 a0_1, .int .u64 a0_2, .int .u64 a0_3, .bool a0_4, .bool a0_5, .bool a0_6, .bool a0_7, .bool false, .bool a0_9, .bool a0_10] 32 (0, 0)) (by (with_reducible repeat (first | refine blk_drewN ?_ _ | refine blk_drew ?_ | refine blk_alloc ?_ _)); exact BK238.out)) : gb238 ≠ gb239)); have n6_ := Aside0.mk ((by rw [hg]; exact Nat.ne_of_gt (blk_lt (g := gb238) (o := .cells #[.int .i64 a0_0, .int .i64 a0_1, .int .u64 a0_2, .int .u64 a0_3, .bool a0_4, .bool a0_5, .bool a0_6, .bool a0_7, .bool false, .bool a0_9, .bool a0_10] 32 (0, 0)) (by (with_reducible repeat (first | refine blk_drewN ?_ _ | refine blk_drew ?_ | refine blk_alloc ?_ _)); exact BK238.out)) : gb239 ≠ gb238)); clear BK238; clear HB; have BK238 := n0_; have HB := n1_; have BK239 := n2_; have GW239 := n3_; have GE239 := n4_; have NB238_239 := n5_; have NB239_238 := n6_; clear n0_ n1_ n2_ n3_ n4_ n5_ n6_; clear hb hbox hg; have hnb16 := NB238_239.out; have hnc16 := NB239_238.out; have hcz17_0 : w15.cell? ⟨gb238, 0, none⟩ = some (.int .i64 a0_0) := (blk_cell BK238.out 0).trans rfl; have hcz17_1 : w15.cell? ⟨gb238, 1, none⟩ = some (.int .i64 a0_1) := (blk_cell BK238.out 1).trans rfl; have hcz17_2 : w15.cell? ⟨gb238, 2, none⟩ = some (.int .u64 a0_2) := (blk_cell BK238.out 2).trans rfl; have hcz17_3 : w15.cell? ⟨gb238, 3, none⟩ = some (.int .u64 a0_3) := (blk_cell BK238.out 3).trans rfl; have hcz17_4 : w15.cell? ⟨gb238, 4, none⟩ = some (.bool a0_4) := (blk_cell BK238.out 4).trans rfl; have hcz17_5 : w15.cell? ⟨gb238, 5, none⟩ = some (.bool a0_5) := (blk_cell BK238.out 5).trans rfl; have hcz17_6 : w15.cell? ⟨gb238, 6, none⟩ = some (.bool a0_6) := (blk_cell BK238.out 6).trans rfl; have hcz17_7 : w15.cell? ⟨gb238, 7, none⟩ = some (.bool a0_7) := (blk_cell BK238.out 7).trans rfl; have hcz17_8 : w15.cell? ⟨gb238, 8, none⟩ = some (.bool false) := (blk_cell BK238.out 8).trans rfl; have hcz17_9 : w15.cell? ⟨gb238, 9, none⟩ = some (.bool a0_9) := (blk_cell BK238.out 9).trans rfl; have hcz17_10 : w15.cell? ⟨gb238, 10, none⟩ = some (.bool a0_10) := (blk_cell BK238.out 10).trans rfl; have hfz17_0 := blk_frozen BK238.out 0; have hfz17_1 := blk_frozen BK238.out 1; have hfz17_2 := blk_frozen BK238.out 2; have hfz17_3 := blk_frozen BK238.out 3; have hfz17_4 := blk_frozen BK238.out 4; have hfz17_5 := blk_frozen BK238.out 5; have hfz17_6 := blk_frozen BK238.out 6; have hfz17_7 := blk_frozen BK238.out 7; have hfz17_8 := blk_frozen BK238.out 8; have hfz17_9 := blk_frozen BK238.out 9; have hfz17_10 := blk_frozen BK238.out 10; have hcz18_0 : w15.cell? ⟨gb239, 0, none⟩ = some (.int .i64 a1_0) := (blk_cell BK239.out 0).trans rfl; have hcz18_1 : w15.cell? ⟨gb239, 1, none⟩ = some (.int .i64 a1_1) := (blk_cell BK239.out 1).trans rfl; have hcz18_2 : w15.cell? ⟨gb239, 2, none⟩ = some (.int .u64 a1_2) := (blk_cell BK239.out 2).trans rfl; have hcz18_3 : w15.cell? ⟨gb239, 3, none⟩ = some (.int .u64 a1_3) := (blk_cell BK239.out 3).trans rfl; have hcz18_4 : w15.cell? ⟨gb239, 4, none⟩ = some (.bool a1_4) := (blk_cell BK239.out 4).trans rfl; have hcz18_5 : w15.cell? ⟨gb239, 5, none⟩ = some (.bool a1_5) := (blk_cell BK239.out 5).trans rfl; have hcz18_6 : w15.cell? ⟨gb239, 6, none⟩ = some (.bool a1_6) := (blk_cell BK239.out 6).trans rfl; have hcz18_7 : w15.cell? ⟨gb239, 7, none⟩ = some (.bool a1_7) := (blk_cell BK239.out 7).trans rfl; have hcz18_8 : w15.cell? ⟨gb239, 8, none⟩ = some (.bool true) := (blk_cell BK239.out 8).trans rfl; have hcz18_9 : w15.cell? ⟨gb239, 9, none⟩ = some (.bool a1_9) := (blk_cell BK239.out 9).trans rfl; have hcz18_10 : w15.cell? ⟨gb239, 10, none⟩ = some (.bool a1_10) := (blk_cell BK239.out 10).trans rfl; have hfz18_0 := blk_frozen BK239.out 0; have hfz18_1 := blk_frozen BK239.out 1; have hfz18_2 := blk_frozen BK239.out 2; have hfz18_3 := blk_frozen BK239.out 3; have hfz18_4 := blk_frozen BK239.out 4; have hfz18_5 := blk_frozen BK239.out 5; have hfz18_6 := blk_frozen BK239.out 6; have hfz18_7 := blk_frozen BK239.out 7; have hfz18_8 := blk_frozen BK239.out 8; have hfz18_9 := blk_frozen BK239.out 9; have hfz18_10 := blk_frozen BK239.out 10) | ((with_reducible refine gate_callee (f := 67) rfl ?_); refine goesL_ (some 13) rfl rfl Try.func67 (by kernel_rfl) rfl #[.int .u64 a0_2, .int .i64 a0_0, .int .u64 a1_2, .int .i64 a1_0] rfl (by (try simp only [List.map_toArray, List.map_cons, List.map_nil]); first | done | rfl | (simp only [List.length_drop, List.length_take]; rfl)) ?_; (with_reducible refine (page_Meet.calls a0_2 a0_0 a1_2 a1_0 true _ A3.out).mono ?_); rintro e w19 ⟨rfl, hb⟩; refine ⟨_, rfl, ?_⟩; have n0_ := Aside0.mk (blk_below (g := gb238) (o := .cells #[.int .i64 a0_0, .int .i64 a0_1, .int .u64 a0_2, .int .u64 a0_3, .bool a0_4, .bool a0_5, .bool a0_6, .bool a0_7, .bool false, .bool a0_9, .bool a0_10] 32 (0, 0)) (by (with_reducible repeat (first | refine blk_drewN ?_ _ | refine blk_drew ?_ | refine blk_alloc ?_ _)); exact BK238.out) hb); have n1_ := Aside0.mk (blk_below (g := gb239) (o := .cells #[.int .i64 a1_0, .int .i64 a1_1, .int .u64 a1_2, .int .u64 a1_3, .bool a1_4, .bool a1_5, .bool a1_6, .bool a1_7, .bool true, .bool a1_9, .bool a1_10] 32 (0, 0)) (by (with_reducible repeat (first | refine blk_drewN ?_ _ | refine blk_drew ?_ | refine blk_alloc ?_ _)); exact BK239.out) hb); have n2_ := Aside0.mk (below_step (by repeat (first | (with_reducible first | exact HB.out | apply below_alloc | apply pw_below_drewN | apply below_drew1 | refine below_set ?_ GE238.out | refine below_set ?_ GE239.out) | exact HB.out)) hb); clear BK238; clear BK239; clear HB; have BK238 := n0_; have BK239 := n1_; have HB := n2_; clear n0_ n1_ n2_; (try clear hb); (try clear hb2); (try clear hk); (try clear hi); have hcz20_0 : w19.cell? ⟨gb238, 0, none⟩ = some (.int .i64 a0_0) := (blk_cell BK238.out 0).trans rfl; have hcz20_1 : w19.cell? ⟨gb238, 1, none⟩ = some (.int .i64 a0_1) := (blk_cell BK238.out 1).trans rfl; have hcz20_2 : w19.cell? ⟨gb238, 2, none⟩ = some (.int .u64 a0_2) := (blk_cell BK238.out 2).trans rfl; have hcz20_3 : w19.cell? ⟨gb238, 3, none⟩ = some (.int .u64 a0_3) := (blk_cell BK238.out 3).trans rfl; have hcz20_4 : w19.cell? ⟨gb238, 4, none⟩ = some (.bool a0_4) := (blk_cell BK238.out 4).trans rfl; have hcz20_5 : w19.cell? ⟨gb238, 5, none⟩ = some (.bool a0_5) := (blk_cell BK238.out 5).trans rfl; have hcz20_6 : w19.cell? ⟨gb238, 6, none⟩ = some (.bool a0_6) := (blk_cell BK238.out 6).trans rfl; have hcz20_7 : w19.cell? ⟨gb238, 7, none⟩ = some (.bool a0_7) := (blk_cell BK238.out 7).trans rfl; have hcz20_8 : w19.cell? ⟨gb238, 8, none⟩ = some (.bool false) := (blk_cell BK238.out 8).trans rfl; have hcz20_9 : w19.cell? ⟨gb238, 9, none⟩ = some (.bool a0_9) := (blk_cell BK238.out 9).trans rfl; have hcz20_10 : w19.cell? ⟨gb238, 10, none⟩ = some (.bool a0_10) := (blk_cell BK238.out 10).trans rfl; have hfz20_0 := blk_frozen BK238.out 0; have hfz20_1 := blk_frozen BK238.out 1; have hfz20_2 := blk_frozen BK238.out 2; have hfz20_3 := blk_frozen BK238.out 3; have hfz20_4 := blk_frozen BK238.out 4; have hfz20_5 := blk_frozen BK238.out 5; have hfz20_6 := blk_frozen BK238.out 6; have hfz20_7 := blk_frozen BK238.out 7; have hfz20_8 := blk_frozen BK238.out 8; have hfz20_9 := blk_frozen BK238.out 9; have hfz20_10 := blk_frozen BK238.out 10; have hcz21_0 : w19.cell? ⟨gb239, 0, none⟩ = some (.int .i64 a1_0) := (blk_cell BK239.out 0).trans rfl; have hcz21_1 : w19.cell? ⟨gb239, 1, none⟩ = some (.int .i64 a1_1) := (blk_cell BK239.out 1).trans rfl; have hcz21_2 : w19.cell? ⟨gb239, 2, none⟩ = some (.int .u64 a1_2) := (blk_cell BK239.out 2).trans rfl; have hcz21_3 : w19.cell? ⟨gb239, 3, none⟩ = some (.int .u64 a1_3) := (blk_cell BK239.out 3).trans rfl; have hcz21_4 : w19.cell? ⟨gb239, 4, none⟩ = some (.bool a1_4) := (blk_cell BK239.out 4).trans rfl; have hcz21_5 : w19.cell? ⟨gb239, 5, none⟩ = some (.bool a1_5) := (blk_cell BK239.out 5).trans rfl; have hcz21_6 : w19.cell? ⟨gb239, 6, none⟩ = some (.bool a1_6) := (blk_cell BK239.out 6).trans rfl; have hcz21_7 : w19.cell? ⟨gb239, 7, none⟩ = some (.bool a1_7) := (blk_cell BK239.out 7).trans rfl; have hcz21_8 : w19.cell? ⟨gb239, 8, none⟩ = some (.bool true) := (blk_cell BK239.out 8).trans rfl; have hcz21_9 : w19.cell? ⟨gb239, 9, none⟩ = some (.bool a1_9) := (blk_cell BK239.out 9).trans rfl; have hcz21_10 : w19.cell? ⟨gb239, 10, none⟩ = some (.bool a1_10) := (blk_cell BK239.out 10).trans rfl; have hfz21_0 := blk_frozen BK239.out 0; have hfz21_1 := blk_frozen BK239.out 1; have hfz21_2 := blk_frozen BK239.out 2; have hfz21_3 := blk_frozen BK239.out 3; have hfz21_4 := blk_frozen BK239.out 4; have hfz21_5 := blk_frozen BK239.out 5; have hfz21_6 := blk_frozen BK239.out 6; have hfz21_7 := blk_frozen BK239.out 7; have hfz21_8 := blk_frozen BK239.out 8; have hfz21_9 := blk_frozen BK239.out 9; have hfz21_10 := blk_frozen BK239.out 10))
        go_ret
        exact ⟨by first | rfl | (simp [errW_none, errW_some] <;> rfl) | (simp [*, errW_none, errW_some] <;> rfl), by repeat (first | (with_reducible first | exact HB.out | apply below_alloc | apply pw_below_drewN | apply below_drew1 | refine below_set ?_ GE238.out | refine below_set ?_ GE239.out) | exact HB.out)⟩
      · replace c13 := Bool.eq_false_iff.mpr c13
        subst c13
        have H1 : (some (a0_1 != a1_1)) = some r := by rw [if_neg (show ¬ (false = true) by decide)] at H; exact H
        clear H
        have H := H1
        clear H1
        obtain rfl := Option.some.inj H
        go_enter Try.func56, Try.ntmps56
        go_wp2_with (first | ((with_reducible refine gate_dst (N := 2) rfl ?_); refine box_event ?hg (N := 2) ?hd (cs := #[.int .i64 a0_0, .int .i64 a0_1, .int .u64 a0_2, .int .u64 a0_3, .bool a0_4, .bool a0_5, .bool a0_6, .bool a0_7, .bool false, .bool a0_9, .bool a0_10]) (t := 32) ?hr ?_; (case hd => rfl); (case hg => rfl); (case hr => first | (go_simp; done) | (go_simp; rfl)); intro gb238 hg w22 hbox hb; have n0_ := Aside0.mk (below_step (by repeat (first | (with_reducible first | exact HB.out | apply below_alloc | apply pw_below_drewN | apply below_drew1) | exact HB.out)) hb); have n1_ := Aside0.mk (hbox); have n2_ := Aside0.mk ((by rw [hg]; exact (below_size (by repeat (first | (with_reducible first | exact HB.out | apply below_alloc | apply pw_below_drewN | apply below_drew1) | exact HB.out))) : w.heap.size ≤ gb238)); have n3_ := Aside0.mk ((by rw [hg]; exact (below_size (by repeat (first | (with_reducible first | exact HB.out | apply below_alloc | apply pw_below_drewN | apply below_drew1) | exact HB.out))) : w.heap.size ≤ gb238)); clear HB; have HB := n0_; have BK238 := n1_; have GW238 := n2_; have GE238 := n3_; clear n0_ n1_ n2_ n3_; clear hb hbox hg) | ((with_reducible refine gate_dst (N := 3) rfl ?_); refine box_event ?hg (N := 3) ?hd (cs := #[.int .i64 a1_0, .int .i64 a1_1, .int .u64 a1_2, .int .u64 a1_3, .bool a1_4, .bool a1_5, .bool a1_6, .bool a1_7, .bool false, .bool a1_9, .bool a1_10]) (t := 32) ?hr ?_; (case hd => rfl); (case hg => rfl); (case hr => first | (go_simp; done) | (go_simp; rfl)); intro gb239 hg w23 hbox hb; have n0_ := Aside0.mk (blk_below (g := gb238) (o := .cells #[.int .i64 a0_0, .int .i64 a0_1, .int .u64 a0_2, .int .u64 a0_3, .bool a0_4, .bool a0_5, .bool a0_6, .bool a0_7, .bool false, .bool a0_9, .bool a0_10] 32 (0, 0)) (by (with_reducible repeat (first | refine blk_drewN ?_ _ | refine blk_drew ?_ | refine blk_alloc ?_ _)); exact BK238.out) hb); have n1_ := Aside0.mk (below_step (by repeat (first | (with_reducible first | exact HB.out | apply below_alloc | apply pw_below_drewN | apply below_drew1 | refine below_set ?_ GE238.out) | exact HB.out)) hb); have n2_ := Aside0.mk (hbox); have n3_ := Aside0.mk ((by rw [hg]; exact (below_size (by repeat (first | (with_reducible first | exact HB.out | apply below_alloc | apply pw_below_drewN | apply below_drew1 | refine below_set ?_ GE238.out) | exact HB.out))) : w.heap.size ≤ gb239)); have n4_ := Aside0.mk ((by rw [hg]; exact (below_size (by repeat (first | (with_reducible first | exact HB.out | apply below_alloc | apply pw_below_drewN | apply below_drew1 | refine below_set ?_ GE238.out) | exact HB.out))) : w.heap.size ≤ gb239)); have n5_ := Aside0.mk ((by rw [hg]; exact Nat.ne_of_lt (blk_lt (g := gb238) (o := .cells #[.int .i64 a0_0, .int .i64 a0_1, .int .u64 a0_2, .int .u64 a0_3, .bool a0_4, .bool a0_5, .bool a0_6, .bool a0_7, .bool false, .bool a0_9, .bool a0_10] 32 (0, 0)) (by (with_reducible repeat (first | refine blk_drewN ?_ _ | refine blk_drew ?_ | refine blk_alloc ?_ _)); exact BK238.out)) : gb238 ≠ gb239)); have n6_ := Aside0.mk ((by rw [hg]; exact Nat.ne_of_gt (blk_lt (g := gb238) (o := .cells #[.int .i64 a0_0, .int .i64 a0_1, .int .u64 a0_2, .int .u64 a0_3, .bool a0_4, .bool a0_5, .bool a0_6, .bool a0_7, .bool false, .bool a0_9, .bool a0_10] 32 (0, 0)) (by (with_reducible repeat (first | refine blk_drewN ?_ _ | refine blk_drew ?_ | refine blk_alloc ?_ _)); exact BK238.out)) : gb239 ≠ gb238)); clear BK238; clear HB; have BK238 := n0_; have HB := n1_; have BK239 := n2_; have GW239 := n3_; have GE239 := n4_; have NB238_239 := n5_; have NB239_238 := n6_; clear n0_ n1_ n2_ n3_ n4_ n5_ n6_; clear hb hbox hg; have hnb24 := NB238_239.out; have hnc24 := NB239_238.out; have hcz25_0 : w23.cell? ⟨gb238, 0, none⟩ = some (.int .i64 a0_0) := (blk_cell BK238.out 0).trans rfl; have hcz25_1 : w23.cell? ⟨gb238, 1, none⟩ = some (.int .i64 a0_1) := (blk_cell BK238.out 1).trans rfl; have hcz25_2 : w23.cell? ⟨gb238, 2, none⟩ = some (.int .u64 a0_2) := (blk_cell BK238.out 2).trans rfl; have hcz25_3 : w23.cell? ⟨gb238, 3, none⟩ = some (.int .u64 a0_3) := (blk_cell BK238.out 3).trans rfl; have hcz25_4 : w23.cell? ⟨gb238, 4, none⟩ = some (.bool a0_4) := (blk_cell BK238.out 4).trans rfl; have hcz25_5 : w23.cell? ⟨gb238, 5, none⟩ = some (.bool a0_5) := (blk_cell BK238.out 5).trans rfl; have hcz25_6 : w23.cell? ⟨gb238, 6, none⟩ = some (.bool a0_6) := (blk_cell BK238.out 6).trans rfl; have hcz25_7 : w23.cell? ⟨gb238, 7, none⟩ = some (.bool a0_7) := (blk_cell BK238.out 7).trans rfl; have hcz25_8 : w23.cell? ⟨gb238, 8, none⟩ = some (.bool false) := (blk_cell BK238.out 8).trans rfl; have hcz25_9 : w23.cell? ⟨gb238, 9, none⟩ = some (.bool a0_9) := (blk_cell BK238.out 9).trans rfl; have hcz25_10 : w23.cell? ⟨gb238, 10, none⟩ = some (.bool a0_10) := (blk_cell BK238.out 10).trans rfl; have hfz25_0 := blk_frozen BK238.out 0; have hfz25_1 := blk_frozen BK238.out 1; have hfz25_2 := blk_frozen BK238.out 2; have hfz25_3 := blk_frozen BK238.out 3; have hfz25_4 := blk_frozen BK238.out 4; have hfz25_5 := blk_frozen BK238.out 5; have hfz25_6 := blk_frozen BK238.out 6; have hfz25_7 := blk_frozen BK238.out 7; have hfz25_8 := blk_frozen BK238.out 8; have hfz25_9 := blk_frozen BK238.out 9; have hfz25_10 := blk_frozen BK238.out 10; have hcz26_0 : w23.cell? ⟨gb239, 0, none⟩ = some (.int .i64 a1_0) := (blk_cell BK239.out 0).trans rfl; have hcz26_1 : w23.cell? ⟨gb239, 1, none⟩ = some (.int .i64 a1_1) := (blk_cell BK239.out 1).trans rfl; have hcz26_2 : w23.cell? ⟨gb239, 2, none⟩ = some (.int .u64 a1_2) := (blk_cell BK239.out 2).trans rfl; have hcz26_3 : w23.cell? ⟨gb239, 3, none⟩ = some (.int .u64 a1_3) := (blk_cell BK239.out 3).trans rfl; have hcz26_4 : w23.cell? ⟨gb239, 4, none⟩ = some (.bool a1_4) := (blk_cell BK239.out 4).trans rfl; have hcz26_5 : w23.cell? ⟨gb239, 5, none⟩ = some (.bool a1_5) := (blk_cell BK239.out 5).trans rfl; have hcz26_6 : w23.cell? ⟨gb239, 6, none⟩ = some (.bool a1_6) := (blk_cell BK239.out 6).trans rfl; have hcz26_7 : w23.cell? ⟨gb239, 7, none⟩ = some (.bool a1_7) := (blk_cell BK239.out 7).trans rfl; have hcz26_8 : w23.cell? ⟨gb239, 8, none⟩ = some (.bool false) := (blk_cell BK239.out 8).trans rfl; have hcz26_9 : w23.cell? ⟨gb239, 9, none⟩ = some (.bool a1_9) := (blk_cell BK239.out 9).trans rfl; have hcz26_10 : w23.cell? ⟨gb239, 10, none⟩ = some (.bool a1_10) := (blk_cell BK239.out 10).trans rfl; have hfz26_0 := blk_frozen BK239.out 0; have hfz26_1 := blk_frozen BK239.out 1; have hfz26_2 := blk_frozen BK239.out 2; have hfz26_3 := blk_frozen BK239.out 3; have hfz26_4 := blk_frozen BK239.out 4; have hfz26_5 := blk_frozen BK239.out 5; have hfz26_6 := blk_frozen BK239.out 6; have hfz26_7 := blk_frozen BK239.out 7; have hfz26_8 := blk_frozen BK239.out 8; have hfz26_9 := blk_frozen BK239.out 9; have hfz26_10 := blk_frozen BK239.out 10) | ((with_reducible refine gate_callee (f := 67) rfl ?_); refine goesL_ (some 13) rfl rfl Try.func67 (by kernel_rfl) rfl #[.int .u64 a0_2, .int .i64 a0_0, .int .u64 a1_2, .int .i64 a1_0] rfl (by (try simp only [List.map_toArray, List.map_cons, List.map_nil]); first | done | rfl | (simp only [List.length_drop, List.length_take]; rfl)) ?_; (with_reducible refine (page_Meet.calls a0_2 a0_0 a1_2 a1_0 true _ A3.out).mono ?_); rintro e w27 ⟨rfl, hb⟩; refine ⟨_, rfl, ?_⟩; have n0_ := Aside0.mk (blk_below (g := gb238) (o := .cells #[.int .i64 a0_0, .int .i64 a0_1, .int .u64 a0_2, .int .u64 a0_3, .bool a0_4, .bool a0_5, .bool a0_6, .bool a0_7, .bool false, .bool a0_9, .bool a0_10] 32 (0, 0)) (by (with_reducible repeat (first | refine blk_drewN ?_ _ | refine blk_drew ?_ | refine blk_alloc ?_ _)); exact BK238.out) hb); have n1_ := Aside0.mk (blk_below (g := gb239) (o := .cells #[.int .i64 a1_0, .int .i64 a1_1, .int .u64 a1_2, .int .u64 a1_3, .bool a1_4, .bool a1_5, .bool a1_6, .bool a1_7, .bool false, .bool a1_9, .bool a1_10] 32 (0, 0)) (by (with_reducible repeat (first | refine blk_drewN ?_ _ | refine blk_drew ?_ | refine blk_alloc ?_ _)); exact BK239.out) hb); have n2_ := Aside0.mk (below_step (by repeat (first | (with_reducible first | exact HB.out | apply below_alloc | apply pw_below_drewN | apply below_drew1 | refine below_set ?_ GE238.out | refine below_set ?_ GE239.out) | exact HB.out)) hb); clear BK238; clear BK239; clear HB; have BK238 := n0_; have BK239 := n1_; have HB := n2_; clear n0_ n1_ n2_; (try clear hb); (try clear hb2); (try clear hk); (try clear hi); have hcz28_0 : w27.cell? ⟨gb238, 0, none⟩ = some (.int .i64 a0_0) := (blk_cell BK238.out 0).trans rfl; have hcz28_1 : w27.cell? ⟨gb238, 1, none⟩ = some (.int .i64 a0_1) := (blk_cell BK238.out 1).trans rfl; have hcz28_2 : w27.cell? ⟨gb238, 2, none⟩ = some (.int .u64 a0_2) := (blk_cell BK238.out 2).trans rfl; have hcz28_3 : w27.cell? ⟨gb238, 3, none⟩ = some (.int .u64 a0_3) := (blk_cell BK238.out 3).trans rfl; have hcz28_4 : w27.cell? ⟨gb238, 4, none⟩ = some (.bool a0_4) := (blk_cell BK238.out 4).trans rfl; have hcz28_5 : w27.cell? ⟨gb238, 5, none⟩ = some (.bool a0_5) := (blk_cell BK238.out 5).trans rfl; have hcz28_6 : w27.cell? ⟨gb238, 6, none⟩ = some (.bool a0_6) := (blk_cell BK238.out 6).trans rfl; have hcz28_7 : w27.cell? ⟨gb238, 7, none⟩ = some (.bool a0_7) := (blk_cell BK238.out 7).trans rfl; have hcz28_8 : w27.cell? ⟨gb238, 8, none⟩ = some (.bool false) := (blk_cell BK238.out 8).trans rfl; have hcz28_9 : w27.cell? ⟨gb238, 9, none⟩ = some (.bool a0_9) := (blk_cell BK238.out 9).trans rfl; have hcz28_10 : w27.cell? ⟨gb238, 10, none⟩ = some (.bool a0_10) := (blk_cell BK238.out 10).trans rfl; have hfz28_0 := blk_frozen BK238.out 0; have hfz28_1 := blk_frozen BK238.out 1; have hfz28_2 := blk_frozen BK238.out 2; have hfz28_3 := blk_frozen BK238.out 3; have hfz28_4 := blk_frozen BK238.out 4; have hfz28_5 := blk_frozen BK238.out 5; have hfz28_6 := blk_frozen BK238.out 6; have hfz28_7 := blk_frozen BK238.out 7; have hfz28_8 := blk_frozen BK238.out 8; have hfz28_9 := blk_frozen BK238.out 9; have hfz28_10 := blk_frozen BK238.out 10; have hcz29_0 : w27.cell? ⟨gb239, 0, none⟩ = some (.int .i64 a1_0) := (blk_cell BK239.out 0).trans rfl; have hcz29_1 : w27.cell? ⟨gb239, 1, none⟩ = some (.int .i64 a1_1) := (blk_cell BK239.out 1).trans rfl; have hcz29_2 : w27.cell? ⟨gb239, 2, none⟩ = some (.int .u64 a1_2) := (blk_cell BK239.out 2).trans rfl; have hcz29_3 : w27.cell? ⟨gb239, 3, none⟩ = some (.int .u64 a1_3) := (blk_cell BK239.out 3).trans rfl; have hcz29_4 : w27.cell? ⟨gb239, 4, none⟩ = some (.bool a1_4) := (blk_cell BK239.out 4).trans rfl; have hcz29_5 : w27.cell? ⟨gb239, 5, none⟩ = some (.bool a1_5) := (blk_cell BK239.out 5).trans rfl; have hcz29_6 : w27.cell? ⟨gb239, 6, none⟩ = some (.bool a1_6) := (blk_cell BK239.out 6).trans rfl; have hcz29_7 : w27.cell? ⟨gb239, 7, none⟩ = some (.bool a1_7) := (blk_cell BK239.out 7).trans rfl; have hcz29_8 : w27.cell? ⟨gb239, 8, none⟩ = some (.bool false) := (blk_cell BK239.out 8).trans rfl; have hcz29_9 : w27.cell? ⟨gb239, 9, none⟩ = some (.bool a1_9) := (blk_cell BK239.out 9).trans rfl; have hcz29_10 : w27.cell? ⟨gb239, 10, none⟩ = some (.bool a1_10) := (blk_cell BK239.out 10).trans rfl; have hfz29_0 := blk_frozen BK239.out 0; have hfz29_1 := blk_frozen BK239.out 1; have hfz29_2 := blk_frozen BK239.out 2; have hfz29_3 := blk_frozen BK239.out 3; have hfz29_4 := blk_frozen BK239.out 4; have hfz29_5 := blk_frozen BK239.out 5; have hfz29_6 := blk_frozen BK239.out 6; have hfz29_7 := blk_frozen BK239.out 7; have hfz29_8 := blk_frozen BK239.out 8; have hfz29_9 := blk_frozen BK239.out 9; have hfz29_10 := blk_frozen BK239.out 10))
        go_ret
        exact ⟨by first | rfl | (simp [errW_none, errW_some] <;> rfl) | (simp [*, errW_none, errW_some] <;> rfl), by repeat (first | (with_reducible first | exact HB.out | apply below_alloc | apply pw_below_drewN | apply below_drew1 | refine below_set ?_ GE238.out | refine below_set ?_ GE239.out) | exact HB.out)⟩
  · replace c4 := Bool.eq_false_iff.mpr c4
    subst c4
    have H1 : (some true) = some r := by rw [if_neg (show ¬ (false = true) by decide)] at H; exact H
    clear H
    have H := H1
    clear H1
    obtain rfl := Option.some.inj H
    go_enter Try.func56, Try.ntmps56
    go_wp2_with (first | ((with_reducible refine gate_dst (N := 2) rfl ?_); refine box_event ?hg (N := 2) ?hd (cs := #[.int .i64 a0_0, .int .i64 a0_1, .int .u64 a0_2, .int .u64 a0_3, .bool a0_4, .bool a0_5, .bool a0_6, .bool a0_7, .bool a0_8, .bool a0_9, .bool a0_10]) (t := 32) ?hr ?_; (case hd => rfl); (case hg => rfl); (case hr => first | (go_simp; done) | (go_simp; rfl)); intro gb238 hg w30 hbox hb; have n0_ := Aside0.mk (below_step (by repeat (first | (with_reducible first | exact HB.out | apply below_alloc | apply pw_below_drewN | apply below_drew1) | exact HB.out)) hb); have n1_ := Aside0.mk (hbox); have n2_ := Aside0.mk ((by rw [hg]; exact (below_size (by repeat (first | (with_reducible first | exact HB.out | apply below_alloc | apply pw_below_drewN | apply below_drew1) | exact HB.out))) : w.heap.size ≤ gb238)); have n3_ := Aside0.mk ((by rw [hg]; exact (below_size (by repeat (first | (with_reducible first | exact HB.out | apply below_alloc | apply pw_below_drewN | apply below_drew1) | exact HB.out))) : w.heap.size ≤ gb238)); clear HB; have HB := n0_; have BK238 := n1_; have GW238 := n2_; have GE238 := n3_; clear n0_ n1_ n2_ n3_; clear hb hbox hg) | ((with_reducible refine gate_dst (N := 3) rfl ?_); refine box_event ?hg (N := 3) ?hd (cs := #[.int .i64 a1_0, .int .i64 a1_1, .int .u64 a1_2, .int .u64 a1_3, .bool a1_4, .bool a1_5, .bool a1_6, .bool a1_7, .bool a1_8, .bool a1_9, .bool a1_10]) (t := 32) ?hr ?_; (case hd => rfl); (case hg => rfl); (case hr => first | (go_simp; done) | (go_simp; rfl)); intro gb239 hg w31 hbox hb; have n0_ := Aside0.mk (blk_below (g := gb238) (o := .cells #[.int .i64 a0_0, .int .i64 a0_1, .int .u64 a0_2, .int .u64 a0_3, .bool a0_4, .bool a0_5, .bool a0_6, .bool a0_7, .bool a0_8, .bool a0_9, .bool a0_10] 32 (0, 0)) (by (with_reducible repeat (first | refine blk_drewN ?_ _ | refine blk_drew ?_ | refine blk_alloc ?_ _)); exact BK238.out) hb); have n1_ := Aside0.mk (below_step (by repeat (first | (with_reducible first | exact HB.out | apply below_alloc | apply pw_below_drewN | apply below_drew1 | refine below_set ?_ GE238.out) | exact HB.out)) hb); have n2_ := Aside0.mk (hbox); have n3_ := Aside0.mk ((by rw [hg]; exact (below_size (by repeat (first | (with_reducible first | exact HB.out | apply below_alloc | apply pw_below_drewN | apply below_drew1 | refine below_set ?_ GE238.out) | exact HB.out))) : w.heap.size ≤ gb239)); have n4_ := Aside0.mk ((by rw [hg]; exact (below_size (by repeat (first | (with_reducible first | exact HB.out | apply below_alloc | apply pw_below_drewN | apply below_drew1 | refine below_set ?_ GE238.out) | exact HB.out))) : w.heap.size ≤ gb239)); have n5_ := Aside0.mk ((by rw [hg]; exact Nat.ne_of_lt (blk_lt (g := gb238) (o := .cells #[.int .i64 a0_0, .int .i64 a0_1, .int .u64 a0_2, .int .u64 a0_3, .bool a0_4, .bool a0_5, .bool a0_6, .bool a0_7, .bool a0_8, .bool a0_9, .bool a0_10] 32 (0, 0)) (by (with_reducible repeat (first | refine blk_drewN ?_ _ | refine blk_drew ?_ | refine blk_alloc ?_ _)); exact BK238.out)) : gb238 ≠ gb239)); have n6_ := Aside0.mk ((by rw [hg]; exact Nat.ne_of_gt (blk_lt (g := gb238) (o := .cells #[.int .i64 a0_0, .int .i64 a0_1, .int .u64 a0_2, .int .u64 a0_3, .bool a0_4, .bool a0_5, .bool a0_6, .bool a0_7, .bool a0_8, .bool a0_9, .bool a0_10] 32 (0, 0)) (by (with_reducible repeat (first | refine blk_drewN ?_ _ | refine blk_drew ?_ | refine blk_alloc ?_ _)); exact BK238.out)) : gb239 ≠ gb238)); clear BK238; clear HB; have BK238 := n0_; have HB := n1_; have BK239 := n2_; have GW239 := n3_; have GE239 := n4_; have NB238_239 := n5_; have NB239_238 := n6_; clear n0_ n1_ n2_ n3_ n4_ n5_ n6_; clear hb hbox hg; have hnb32 := NB238_239.out; have hnc32 := NB239_238.out; have hcz33_0 : w31.cell? ⟨gb238, 0, none⟩ = some (.int .i64 a0_0) := (blk_cell BK238.out 0).trans rfl; have hcz33_1 : w31.cell? ⟨gb238, 1, none⟩ = some (.int .i64 a0_1) := (blk_cell BK238.out 1).trans rfl; have hcz33_2 : w31.cell? ⟨gb238, 2, none⟩ = some (.int .u64 a0_2) := (blk_cell BK238.out 2).trans rfl; have hcz33_3 : w31.cell? ⟨gb238, 3, none⟩ = some (.int .u64 a0_3) := (blk_cell BK238.out 3).trans rfl; have hcz33_4 : w31.cell? ⟨gb238, 4, none⟩ = some (.bool a0_4) := (blk_cell BK238.out 4).trans rfl; have hcz33_5 : w31.cell? ⟨gb238, 5, none⟩ = some (.bool a0_5) := (blk_cell BK238.out 5).trans rfl; have hcz33_6 : w31.cell? ⟨gb238, 6, none⟩ = some (.bool a0_6) := (blk_cell BK238.out 6).trans rfl; have hcz33_7 : w31.cell? ⟨gb238, 7, none⟩ = some (.bool a0_7) := (blk_cell BK238.out 7).trans rfl; have hcz33_8 : w31.cell? ⟨gb238, 8, none⟩ = some (.bool a0_8) := (blk_cell BK238.out 8).trans rfl; have hcz33_9 : w31.cell? ⟨gb238, 9, none⟩ = some (.bool a0_9) := (blk_cell BK238.out 9).trans rfl; have hcz33_10 : w31.cell? ⟨gb238, 10, none⟩ = some (.bool a0_10) := (blk_cell BK238.out 10).trans rfl; have hfz33_0 := blk_frozen BK238.out 0; have hfz33_1 := blk_frozen BK238.out 1; have hfz33_2 := blk_frozen BK238.out 2; have hfz33_3 := blk_frozen BK238.out 3; have hfz33_4 := blk_frozen BK238.out 4; have hfz33_5 := blk_frozen BK238.out 5; have hfz33_6 := blk_frozen BK238.out 6; have hfz33_7 := blk_frozen BK238.out 7; have hfz33_8 := blk_frozen BK238.out 8; have hfz33_9 := blk_frozen BK238.out 9; have hfz33_10 := blk_frozen BK238.out 10; have hcz34_0 : w31.cell? ⟨gb239, 0, none⟩ = some (.int .i64 a1_0) := (blk_cell BK239.out 0).trans rfl; have hcz34_1 : w31.cell? ⟨gb239, 1, none⟩ = some (.int .i64 a1_1) := (blk_cell BK239.out 1).trans rfl; have hcz34_2 : w31.cell? ⟨gb239, 2, none⟩ = some (.int .u64 a1_2) := (blk_cell BK239.out 2).trans rfl; have hcz34_3 : w31.cell? ⟨gb239, 3, none⟩ = some (.int .u64 a1_3) := (blk_cell BK239.out 3).trans rfl; have hcz34_4 : w31.cell? ⟨gb239, 4, none⟩ = some (.bool a1_4) := (blk_cell BK239.out 4).trans rfl; have hcz34_5 : w31.cell? ⟨gb239, 5, none⟩ = some (.bool a1_5) := (blk_cell BK239.out 5).trans rfl; have hcz34_6 : w31.cell? ⟨gb239, 6, none⟩ = some (.bool a1_6) := (blk_cell BK239.out 6).trans rfl; have hcz34_7 : w31.cell? ⟨gb239, 7, none⟩ = some (.bool a1_7) := (blk_cell BK239.out 7).trans rfl; have hcz34_8 : w31.cell? ⟨gb239, 8, none⟩ = some (.bool a1_8) := (blk_cell BK239.out 8).trans rfl; have hcz34_9 : w31.cell? ⟨gb239, 9, none⟩ = some (.bool a1_9) := (blk_cell BK239.out 9).trans rfl; have hcz34_10 : w31.cell? ⟨gb239, 10, none⟩ = some (.bool a1_10) := (blk_cell BK239.out 10).trans rfl; have hfz34_0 := blk_frozen BK239.out 0; have hfz34_1 := blk_frozen BK239.out 1; have hfz34_2 := blk_frozen BK239.out 2; have hfz34_3 := blk_frozen BK239.out 3; have hfz34_4 := blk_frozen BK239.out 4; have hfz34_5 := blk_frozen BK239.out 5; have hfz34_6 := blk_frozen BK239.out 6; have hfz34_7 := blk_frozen BK239.out 7; have hfz34_8 := blk_frozen BK239.out 8; have hfz34_9 := blk_frozen BK239.out 9; have hfz34_10 := blk_frozen BK239.out 10) | ((with_reducible refine gate_callee (f := 67) rfl ?_); refine goesL_ (some 13) rfl rfl Try.func67 (by kernel_rfl) rfl #[.int .u64 a0_2, .int .i64 a0_0, .int .u64 a1_2, .int .i64 a1_0] rfl (by (try simp only [List.map_toArray, List.map_cons, List.map_nil]); first | done | rfl | (simp only [List.length_drop, List.length_take]; rfl)) ?_; (with_reducible refine (page_Meet.calls a0_2 a0_0 a1_2 a1_0 false _ A3.out).mono ?_); rintro e w35 ⟨rfl, hb⟩; refine ⟨_, rfl, ?_⟩; have n0_ := Aside0.mk (blk_below (g := gb238) (o := .cells #[.int .i64 a0_0, .int .i64 a0_1, .int .u64 a0_2, .int .u64 a0_3, .bool a0_4, .bool a0_5, .bool a0_6, .bool a0_7, .bool a0_8, .bool a0_9, .bool a0_10] 32 (0, 0)) (by (with_reducible repeat (first | refine blk_drewN ?_ _ | refine blk_drew ?_ | refine blk_alloc ?_ _)); exact BK238.out) hb); have n1_ := Aside0.mk (blk_below (g := gb239) (o := .cells #[.int .i64 a1_0, .int .i64 a1_1, .int .u64 a1_2, .int .u64 a1_3, .bool a1_4, .bool a1_5, .bool a1_6, .bool a1_7, .bool a1_8, .bool a1_9, .bool a1_10] 32 (0, 0)) (by (with_reducible repeat (first | refine blk_drewN ?_ _ | refine blk_drew ?_ | refine blk_alloc ?_ _)); exact BK239.out) hb); have n2_ := Aside0.mk (below_step (by repeat (first | (with_reducible first | exact HB.out | apply below_alloc | apply pw_below_drewN | apply below_drew1 | refine below_set ?_ GE238.out | refine below_set ?_ GE239.out) | exact HB.out)) hb); clear BK238; clear BK239; clear HB; have BK238 := n0_; have BK239 := n1_; have HB := n2_; clear n0_ n1_ n2_; (try clear hb); (try clear hb2); (try clear hk); (try clear hi)))
    go_ret
    exact ⟨by first | rfl | (simp [errW_none, errW_some] <;> rfl) | (simp [*, errW_none, errW_some] <;> rfl), by repeat (first | (with_reducible first | exact HB.out | apply below_alloc | apply pw_below_drewN | apply below_drew1 | refine below_set ?_ GE238.out | refine below_set ?_ GE239.out) | exact HB.out)⟩

/-! ### shoot_Apart: function 21, told by hand -/
-- MAKES
-- IMPORT Derived.RangeFuncNested
-- IMPORT Derived.RangeFuncBound
-- IMPORT Derived.RangeFuncCalls
-- IMPORT Derived.RangeFuncLeaves
-- IMPORT Derived.Shelf.Abstract
-- IMPORT Derived.Shelf.RegionOpen
-- IMPORT Derived.WalkKit
-- IMPORT Derived.OwnWalkIn
-- IMPORT Derived.TacticsInMore
-- IMPORT Derived.LoopNIn
-- IMPORT Derived.LoopIn
-- IMPORT Derived.Sort.LoopGhostIn
-- IMPORT Derived.Lib.Builder
open Go.Shelf
attribute [local go_sem] Oper.semAt_some
def enc32 (e : S32) : Value := .agg #[.int .i64 e.f0, .int .i64 e.f1, .int .u64 e.f2, .int .u64 e.f3, .bool e.f4.f0, .bool e.f4.f1, .bool e.f4.f2, .bool e.f4.f3, .bool e.f4.f4, .bool e.f4.f5, .bool e.f5]
/-- Each two of a list, as they come. -/
def prs {α : Type} (l : List α) (i : Nat) : List (α × α) := match l[i]? with
  | some b => (l.take i).map (fun a => (a, b))
  | none => []
def prsTo {α : Type} (l : List α) : Nat → List (α × α)
  | 0 => []
  | i + 1 => prsTo l i ++ prs l i
def pairsL {α : Type} (l : List α) : List (α × α) := prsTo l l.length
set_option maxHeartbeats 4000000 in
set_option maxRecDepth 100000 in
theorem pairs_in (n : Nat) (v0 : Value) (hv : ∃ A m c, v0 = .slice A m c) (w : World) :
    CallsIn Fence.wide n Try.prog 55 #[v0] w fun e w' => e = .returned (.func (.func 84) #[] #[.pointer (some ⟨w.heap.size, 0, none⟩)]) ∧ w' = w.alloc (.cells #[v0] 22) := by
  obtain ⟨A, m, c, rfl⟩ := hv
  refine callsIn_of_wp Try.func55 rfl trivial ?_ rfl
  simp only [Try.ntmps55, List.size_toArray, List.length_cons, List.length_nil, Nat.reduceAdd, Nat.reduceSub, Array.replicate_succ, Array.replicate_zero, List.push_toArray, List.append_toArray, List.nil_append, List.cons_append]
  gi_wp2
  go_ret
  exact ⟨rfl, rfl⟩
theorem prsTo_len {α : Type} (l : List α) : ∀ i j, i ≤ j → (prsTo l i).length ≤ (prsTo l j).length
  | i, 0, h => by obtain rfl : i = 0 := by omega
                  exact Nat.le_refl _
  | i, j + 1, h => by
    by_cases he : i = j + 1
    · subst he; exact Nat.le_refl _
    · refine Nat.le_trans (prsTo_len l i j (by omega)) ?_
      rw [prsTo, List.length_append]
      exact Nat.le_add_right _ _
theorem prsTo_pre {α : Type} (l : List α) : ∀ i j, i ≤ j → prsTo l i <+: prsTo l j
  | i, 0, h => by obtain rfl : i = 0 := by omega
                  exact List.prefix_refl _
  | i, j + 1, h => by
    by_cases he : i = j + 1
    · subst he; exact List.prefix_refl _
    · exact (prsTo_pre l i j (by omega)).trans (by rw [prsTo]; exact List.prefix_append _ _)
/-- What was cells is as it was. -/
def KC (W W' : World) : Prop := W.heap.size ≤ W'.heap.size ∧ ∀ (k : Nat) (cs : Array Value) (t : TypeId) (fr : Nat × Nat), W.heap[k]? = some (.cells cs t fr) → W'.heap[k]? = some (.cells cs t fr)
theorem KC.refl (W : World) : KC W W := ⟨Nat.le_refl _, fun _ _ _ _ h => h⟩
theorem KC.trans {A B C : World} (h : KC A B) (k : KC B C) : KC A C := ⟨Nat.le_trans h.1 k.1, fun i cs t fr hi => k.2 i cs t fr (h.2 i cs t fr hi)⟩
theorem KC.of_below {A B : World} (h : Below A.heap.size A B) : KC A B := ⟨h.size, fun k cs t fr hk => (h.block k (Array.getElem?_eq_some_iff.1 hk).1).trans hk⟩
theorem KC.putObj {W : World} {l : Nat} {o o' : Obj} (hl : W.heap[l]? = some o) (ho : o.isCells = false) : KC W (W.putObj l o') := by
  refine ⟨by simp [World.putObj], fun k cs t fr hk => ?_⟩
  have hne : l ≠ k := fun e => by
    subst e
    rw [hl] at hk
    obtain rfl := Option.some.inj hk
    cases ho
  simp [World.putObj, Array.getElem?_setIfInBounds_ne hne, hk]
theorem KC.cell {W W' : World} (h : KC W W') {a : Addr} {v : Value} (hc : W.cell? a = some v) : W'.cell? a = some v := by
  unfold World.cell? at hc ⊢
  cases hh : W.heap[a.block]? with
  | none => rw [hh] at hc; simp at hc
  | some o =>
    rw [hh] at hc
    cases o with
    | cells cs t fr => rw [h.2 _ _ _ _ hh]; exact hc
    | _ => simp at hc
theorem KC.reads {W W' : World} (h : KC W W') {A : Option Addr} {n : Nat} {l : List S32} (hc : Kd.C k32 W A n l) : Kd.C k32 W' A n l := by
  obtain ⟨h1, h2, h3⟩ := hc
  refine ⟨h1, h2, fun hp => ?_⟩
  obtain ⟨a, ha, hr⟩ := h3 hp
  refine ⟨a, ha, fun j x hj => ?_⟩
  obtain ⟨cs, hcl, hK, hcc⟩ := hr j x hj
  obtain rfl := k32_open hK
  exact ⟨_, hcl, k32_mk W' x, fun q u hu => h.cell (hcc q u hu)⟩
theorem prs_at {α : Type} {l : List α} {i : Nat} {b : α} (h : l[i]? = some b) : prs l i = (l.take i).map (fun a => (a, b)) := by unfold prs; rw [h]
set_option maxHeartbeats 4000000 in
set_option maxRecDepth 100000 in
theorem pairs1_in {α : Type} (f : α → S32 × S32) (n : Nat) (hn : 1 ≤ n) (lq Bn : Nat) (A : Option Addr) (c : Nat) (l : List S32) (Q : List α) (hQ : Q.map f = pairsL l) (hmx : l.length ≤ 1000000) (J Jx : List α → World → Prop)
    (hY : ∀ pre x W, J pre W → pre.length < Q.length → YieldAt Fence.wide (n - 1) Try.prog lq #[enc32 (f x).1, enc32 (f x).2] W fun e W' =>
      (e = .returned (.bool true) ∧ J (pre ++ [x]) W' ∧ KC W W') ∨ (e = .returned (.bool false) ∧ Jx (pre ++ [x]) W'))
    (hJa : ∀ pre W o, J pre W → J pre (W.alloc o)) (hlc : l.length ≤ c)
    (W : World) (hBn : W.cell? ⟨Bn, 0, none⟩ = some (.slice A l.length c)) (hT : Kd.C k32 W A l.length l) (h0 : J [] W) :
    CallsIn Fence.wide n Try.prog 84 #[.func (.yield lq) #[] #[], .pointer (some ⟨Bn, 0, none⟩)] W fun e W' => (∃ v, e = .returned v) ∧
      ((∃ ys, ys = Q ∧ J ys W') ∨ (∃ pre, pre <+: Q ∧ Jx pre W')) := by
  have HT := Aside0.mk hT
  have HQ := Aside0.mk hQ
  have HY := Aside0.mk hY
  have HBN := Aside0.mk hBn
  clear hT hQ hY
  refine callsIn_of_wp Try.func84 rfl trivial ?_ rfl
  simp only [Try.ntmps84, List.size_toArray, List.length_cons, List.length_nil, Nat.reduceAdd, Nat.reduceSub, Array.replicate_succ, Array.replicate_zero, List.push_toArray, List.append_toArray, List.nil_append, List.cons_append]
  gi_wp2
  clear hBn
  gi_loopw [9] (fun iv wr => ∃ i : Nat, iv = .int .i64 i ∧ i ≤ l.length ∧ J (Q.take (prsTo l i).length) wr ∧ Aside0 (KC W wr)) (fun iv _ => l.length - (intOf iv).toNat)
  case atStart => exact ⟨0, rfl, by omega, by simpa [prsTo] using h0, ⟨KC.refl _⟩⟩
  case round =>
    obtain ⟨i, rfl, hi, hJ, HB⟩ := hrel
    by_cases hil : (i : Int) < (l.length : Int)
    · have hil' : i < l.length := by omega
      obtain ⟨ad, ead, x0, x1, x2, x3, x4, x5, x6, x7, x8, x9, x10⟩ := at_T32 (HB.out.reads HT.out) i (by omega) hil
      subst ead
      obtain ⟨b, hb⟩ : ∃ b, l[i] = b := ⟨_, rfl⟩
      have hrd : rd_T32 l i = b := by rw [← hb]; simp [rd_T32, List.getD_eq_getElem?_getD, List.getElem?_eq_getElem hil']
      rw [hrd, Int.toNat_natCast] at x0 x1 x2 x3 x4 x5 x6 x7 x8 x9 x10
      have hkc : KC wr (wr.alloc (.cells #[.int .i64 b.f0, .int .i64 b.f1, .int .u64 b.f2, .int .u64 b.f3, .bool b.f4.f0, .bool b.f4.f1, .bool b.f4.f2, .bool b.f4.f3, .bool b.f4.f4, .bool b.f4.f5, .bool b.f5] 32)) := KC.of_below ((Below.refl _ wr).alloc (Nat.le_refl _) _)
      have hcB2 : (wr.alloc (.cells #[.int .i64 b.f0, .int .i64 b.f1, .int .u64 b.f2, .int .u64 b.f3, .bool b.f4.f0, .bool b.f4.f1, .bool b.f4.f2, .bool b.f4.f3, .bool b.f4.f4, .bool b.f4.f5, .bool b.f5] 32)).cell? ⟨Bn, 0, none⟩ = some (.slice (some ad) l.length c) := (HB.out.trans hkc).cell HBN.out
      have hslc : i ≤ c := by omega
      have HBB := Aside0.mk hb
      clear hb hrd
      gi_wp2
      have hJ2 := hJa _ _ (.cells #[.int .i64 b.f0, .int .i64 b.f1, .int .u64 b.f2, .int .u64 b.f3, .bool b.f4.f0, .bool b.f4.f1, .bool b.f4.f2, .bool b.f4.f3, .bool b.f4.f4, .bool b.f4.f5, .bool b.f5] 32) hJ
      have HB2 := Aside0.mk (HB.out.trans hkc)
      have hgb : (wr.alloc (.cells #[.int .i64 b.f0, .int .i64 b.f1, .int .u64 b.f2, .int .u64 b.f3, .bool b.f4.f0, .bool b.f4.f1, .bool b.f4.f2, .bool b.f4.f3, .bool b.f4.f4, .bool b.f4.f5, .bool b.f5] 32)).heap[wr.heap.size]? = some (.cells #[.int .i64 b.f0, .int .i64 b.f1, .int .u64 b.f2, .int .u64 b.f3, .bool b.f4.f0, .bool b.f4.f1, .bool b.f4.f2, .bool b.f4.f3, .bool b.f4.f4, .bool b.f4.f5, .bool b.f5] 32 (0, 0)) := World.alloc_heap_new wr _
      have HGB := Aside0.mk hgb
      clear hgb x0 x1 x2 x3 x4 x5 x6 x7 x8 x9 x10 hJ HB hkc hcB2
      generalize wr.alloc (.cells #[.int .i64 b.f0, .int .i64 b.f1, .int .u64 b.f2, .int .u64 b.f3, .bool b.f4.f0, .bool b.f4.f1, .bool b.f4.f2, .bool b.f4.f3, .bool b.f4.f4, .bool b.f4.f5, .bool b.f5] 32) = w1 at HGB hJ2 HB2 ⊢
      generalize wr.heap.size = gb at HGB ⊢
      have hpi : prs l i = (l.take i).map (fun a => (a, b)) := prs_at (by rw [List.getElem?_eq_getElem hil', HBB.out])
      have HPI := Aside0.mk hpi
      have hpl : (prs l i).length = i := by rw [hpi, List.length_map, List.length_take]; omega
      have HPL := Aside0.mk hpl
      clear hpi hpl
      gi_loopw [18] (fun jv wr => ∃ j : Nat, jv = .int .i64 j ∧ j ≤ i ∧ J (Q.take ((prsTo l i).length + j)) wr ∧ Aside0 (KC W wr) ∧ Aside0 (wr.heap[gb]? = some (.cells #[.int .i64 b.f0, .int .i64 b.f1, .int .u64 b.f2, .int .u64 b.f3, .bool b.f4.f0, .bool b.f4.f1, .bool b.f4.f2, .bool b.f4.f3, .bool b.f4.f4, .bool b.f4.f5, .bool b.f5] 32 (0, 0)))) (fun jv _ => i - (intOf jv).toNat)
      case atStart => exact ⟨0, rfl, by omega, hJ2, HB2, HGB⟩
      case round =>
        clear hJ2 HB2 HGB
        obtain ⟨j, rfl, hj, hJ, HB, HGB⟩ := hrel
        by_cases hjl : (j : Int) < (i : Int)
        · have hjl' : j < i := by omega
          have hjc : j < l.length := by omega
          have hjll : (j : Int) < (l.length : Int) := by omega
          obtain ⟨ad2, ead2, x0, x1, x2, x3, x4, x5, x6, x7, x8, x9, x10⟩ := at_T32 (HB.out.reads HT.out) j (by omega) hjll
          obtain rfl : ad = ad2 := Option.some.inj ead2
          obtain ⟨a, ha⟩ : ∃ a, l[j] = a := ⟨_, rfl⟩
          have hrd : rd_T32 l j = a := by rw [← ha]; simp [rd_T32, List.getD_eq_getElem?_getD, List.getElem?_eq_getElem hjc]
          rw [hrd, Int.toNat_natCast] at x0 x1 x2 x3 x4 x5 x6 x7 x8 x9 x10
          have hkc : KC wr (wr.alloc (.cells #[.int .i64 a.f0, .int .i64 a.f1, .int .u64 a.f2, .int .u64 a.f3, .bool a.f4.f0, .bool a.f4.f1, .bool a.f4.f2, .bool a.f4.f3, .bool a.f4.f4, .bool a.f4.f5, .bool a.f5] 32)) := KC.of_below ((Below.refl _ wr).alloc (Nat.le_refl _) _)
          have hhz := hkc.2 _ _ _ _ HGB.out
          have z0 : (wr.alloc (.cells #[.int .i64 a.f0, .int .i64 a.f1, .int .u64 a.f2, .int .u64 a.f3, .bool a.f4.f0, .bool a.f4.f1, .bool a.f4.f2, .bool a.f4.f3, .bool a.f4.f4, .bool a.f4.f5, .bool a.f5] 32)).cell? ⟨gb, 0, none⟩ = some (.int .i64 b.f0) := by rw [Lib.cell_of_heap hhz]; rfl
          have z1 : (wr.alloc (.cells #[.int .i64 a.f0, .int .i64 a.f1, .int .u64 a.f2, .int .u64 a.f3, .bool a.f4.f0, .bool a.f4.f1, .bool a.f4.f2, .bool a.f4.f3, .bool a.f4.f4, .bool a.f4.f5, .bool a.f5] 32)).cell? ⟨gb, 1, none⟩ = some (.int .i64 b.f1) := by rw [Lib.cell_of_heap hhz]; rfl
          have z2 : (wr.alloc (.cells #[.int .i64 a.f0, .int .i64 a.f1, .int .u64 a.f2, .int .u64 a.f3, .bool a.f4.f0, .bool a.f4.f1, .bool a.f4.f2, .bool a.f4.f3, .bool a.f4.f4, .bool a.f4.f5, .bool a.f5] 32)).cell? ⟨gb, 2, none⟩ = some (.int .u64 b.f2) := by rw [Lib.cell_of_heap hhz]; rfl
          have z3 : (wr.alloc (.cells #[.int .i64 a.f0, .int .i64 a.f1, .int .u64 a.f2, .int .u64 a.f3, .bool a.f4.f0, .bool a.f4.f1, .bool a.f4.f2, .bool a.f4.f3, .bool a.f4.f4, .bool a.f4.f5, .bool a.f5] 32)).cell? ⟨gb, 3, none⟩ = some (.int .u64 b.f3) := by rw [Lib.cell_of_heap hhz]; rfl
          have z4 : (wr.alloc (.cells #[.int .i64 a.f0, .int .i64 a.f1, .int .u64 a.f2, .int .u64 a.f3, .bool a.f4.f0, .bool a.f4.f1, .bool a.f4.f2, .bool a.f4.f3, .bool a.f4.f4, .bool a.f4.f5, .bool a.f5] 32)).cell? ⟨gb, 4, none⟩ = some (.bool b.f4.f0) := by rw [Lib.cell_of_heap hhz]; rfl
          have z5 : (wr.alloc (.cells #[.int .i64 a.f0, .int .i64 a.f1, .int .u64 a.f2, .int .u64 a.f3, .bool a.f4.f0, .bool a.f4.f1, .bool a.f4.f2, .bool a.f4.f3, .bool a.f4.f4, .bool a.f4.f5, .bool a.f5] 32)).cell? ⟨gb, 5, none⟩ = some (.bool b.f4.f1) := by rw [Lib.cell_of_heap hhz]; rfl
          have z6 : (wr.alloc (.cells #[.int .i64 a.f0, .int .i64 a.f1, .int .u64 a.f2, .int .u64 a.f3, .bool a.f4.f0, .bool a.f4.f1, .bool a.f4.f2, .bool a.f4.f3, .bool a.f4.f4, .bool a.f4.f5, .bool a.f5] 32)).cell? ⟨gb, 6, none⟩ = some (.bool b.f4.f2) := by rw [Lib.cell_of_heap hhz]; rfl
          have z7 : (wr.alloc (.cells #[.int .i64 a.f0, .int .i64 a.f1, .int .u64 a.f2, .int .u64 a.f3, .bool a.f4.f0, .bool a.f4.f1, .bool a.f4.f2, .bool a.f4.f3, .bool a.f4.f4, .bool a.f4.f5, .bool a.f5] 32)).cell? ⟨gb, 7, none⟩ = some (.bool b.f4.f3) := by rw [Lib.cell_of_heap hhz]; rfl
          have z8 : (wr.alloc (.cells #[.int .i64 a.f0, .int .i64 a.f1, .int .u64 a.f2, .int .u64 a.f3, .bool a.f4.f0, .bool a.f4.f1, .bool a.f4.f2, .bool a.f4.f3, .bool a.f4.f4, .bool a.f4.f5, .bool a.f5] 32)).cell? ⟨gb, 8, none⟩ = some (.bool b.f4.f4) := by rw [Lib.cell_of_heap hhz]; rfl
          have z9 : (wr.alloc (.cells #[.int .i64 a.f0, .int .i64 a.f1, .int .u64 a.f2, .int .u64 a.f3, .bool a.f4.f0, .bool a.f4.f1, .bool a.f4.f2, .bool a.f4.f3, .bool a.f4.f4, .bool a.f4.f5, .bool a.f5] 32)).cell? ⟨gb, 9, none⟩ = some (.bool b.f4.f5) := by rw [Lib.cell_of_heap hhz]; rfl
          have z10 : (wr.alloc (.cells #[.int .i64 a.f0, .int .i64 a.f1, .int .u64 a.f2, .int .u64 a.f3, .bool a.f4.f0, .bool a.f4.f1, .bool a.f4.f2, .bool a.f4.f3, .bool a.f4.f4, .bool a.f4.f5, .bool a.f5] 32)).cell? ⟨gb, 10, none⟩ = some (.bool b.f5) := by rw [Lib.cell_of_heap hhz]; rfl
          have hJ2 := hJa _ _ (.cells #[.int .i64 a.f0, .int .i64 a.f1, .int .u64 a.f2, .int .u64 a.f3, .bool a.f4.f0, .bool a.f4.f1, .bool a.f4.f2, .bool a.f4.f3, .bool a.f4.f4, .bool a.f4.f5, .bool a.f5] 32) hJ
          have hql : (prsTo l i).length + j < Q.length := by
            have e1 := congrArg List.length HQ.out
            rw [List.length_map] at e1
            have e2 := prsTo_len l (i + 1) l.length (by omega)
            rw [prsTo, List.length_append, HPL.out] at e2
            have : (pairsL l).length = (prsTo l l.length).length := rfl
            omega
          have hqx : f (Q[(prsTo l i).length + j]'hql) = (a, b) := by
            have e1 : (Q.map f)[(prsTo l i).length + j]? = some (a, b) := by
              rw [HQ.out]
              obtain ⟨s, hs⟩ := prsTo_pre l (i + 1) l.length (by omega)
              rw [show pairsL l = prsTo l l.length from rfl, ← hs, prsTo, List.getElem?_append_left (by rw [List.length_append, HPL.out]; omega), List.getElem?_append_right (by omega), HPI.out]
              simp [List.getElem?_take, hjl', List.getElem?_eq_getElem hjc, ha]
            rw [List.getElem?_map, List.getElem?_eq_getElem hql] at e1
            simpa using e1
          have htk : Q.take ((prsTo l i).length + (j + 1)) = Q.take ((prsTo l i).length + j) ++ [Q[(prsTo l i).length + j]'hql] := by
            rw [← Nat.add_assoc, List.take_succ_eq_append_getElem hql]
          obtain ⟨fn, tmps, assign, body, hy, hR⟩ := HY.out _ (Q[(prsTo l i).length + j]'hql) _ hJ2 (by rw [List.length_take]; omega)
          have HTK := Aside0.mk htk
          have hpre : Q.take ((prsTo l i).length + (j + 1)) <+: Q := List.take_prefix _ _
          have HPRE := Aside0.mk hpre
          rw [hqx] at hy
          dsimp only [enc32] at hy
          clear ha hrd hJ htk hpre hqx hhz
          gi_wp2
          refine hR.mono ?_
          rintro e W3 (⟨rfl, hJ3, hk3⟩ | ⟨rfl, hJx3⟩)
          · have hJ4 : J (Q.take ((prsTo l i).length + (j + 1))) W3 := by rw [HTK.out]; exact hJ3
            have HB4 := Aside0.mk (HB.out.trans (hkc.trans hk3))
            have HGB4 := Aside0.mk (hk3.2 _ _ _ _ (hkc.2 _ _ _ _ HGB.out))
            clear hJ3 hk3 hkc HB HGB hJ2 hy hR x0 x1 x2 x3 x4 x5 x6 x7 x8 x9 x10 z0 z1 z2 z3 z4 z5 z6 z7 z8 z9 z10
            gi_wp2
            go_roundw
            case rel => exact ⟨j + 1, by go_num, by omega, hJ4, HB4, HGB4⟩
            case measure => simp [intOf]; omega
          · gi_wp2
            refine bodyPost_ret (results_none rfl _ _ _) rfl ?_
            refine ⟨⟨_, rfl⟩, .inr ⟨_, ?_, hJx3⟩⟩
            rw [← HTK.out]
            exact HPRE.out
        · obtain rfl : j = i := by omega
          have hnx : (prsTo l (j + 1)).length = (prsTo l j).length + j := by rw [prsTo, List.length_append, HPL.out]
          have HNX := Aside0.mk hnx
          clear hnx
          gi_wp2
          go_roundw
          case rel => exact ⟨j + 1, by go_num, by omega, by rw [HNX.out]; exact hJ, HB⟩
          case measure => simp [intOf]; omega
    · obtain rfl : i = l.length := by omega
      have hfull : Q.take (prsTo l l.length).length = Q := by
        have e1 := congrArg List.length HQ.out
        rw [List.length_map] at e1
        exact List.take_of_length_le (by rw [e1]; exact Nat.le_refl _)
      rw [hfull] at hJ
      have HJ := Aside0.mk hJ
      clear hfull hJ
      gi_wp2
      go_end0
      exact ⟨⟨_, rfl⟩, .inl HJ.out⟩
/-- What pairs hands back, as a contract for callers. -/
theorem pairs_stops {α : Type} (f : α → S32 × S32) (n : Nat) (hn : 1 ≤ n) (Bn : Nat) (A : Option Addr) (c : Nat) (l : List S32) (Q : List α) (hQ : Q.map f = pairsL l) (hmx : l.length ≤ 1000000) (hlc : l.length ≤ c) (w : World) (hBn : Bn < w.heap.size)
    (hc : w.cell? ⟨Bn, 0, none⟩ = some (.slice A l.length c)) (hT : Kd.C k32 w A l.length l) :
    SeqStopsK Fence.wide n Try.prog 84 #[.pointer (some ⟨Bn, 0, none⟩)] (fun x : α => #[enc32 (f x).1, enc32 (f x).2]) KC (fun ys => ys = Q) (fun pre => pre <+: Q) Q.length w := fun l' J Jx W hW hJ _ hY h0 =>
  pairs1_in f n hn l' Bn A c l Q hQ hmx J Jx hY (fun pre W' o hw => hJ pre W' (W'.alloc o) none hw (World.grownBy_alloc W' o none) (fun r e => by cases e)) hlc W ((hW.cell (p := ⟨Bn, 0, none⟩) hBn).trans hc) (Kd.C_below hT hW) h0
def pP (x : S32 × S32) : Option Bool := tlb_Parts.f x.1.f0 x.1.f1 x.1.f2 x.1.f3 x.1.f4.f0 x.1.f4.f1 x.1.f4.f2 x.1.f4.f3 x.1.f4.f4 x.1.f4.f5 x.1.f5 x.2.f0 x.2.f1 x.2.f2 x.2.f3 x.2.f4.f0 x.2.f4.f1 x.2.f4.f2 x.2.f4.f3 x.2.f4.f4 x.2.f4.f5 x.2.f5
/-- shoot.Apart. -/
def shoot_Apart.f (l0 : List (S32)) : Option (Bool) :=
  if (decide (l0.length ≤ 1000000) && (pairsL l0).all fun x => (pP x).isSome) = true then some ((pairsL l0).all fun x => (pP x).getD false) else none
theorem own32 {β : Type} (B : Nat) (cs : Array Value) (t : TypeId) : Own (fun (_ : β) W => W.heap[B]? = some (.cells cs t (0, 0))) := fun s X Y row hs hg hr =>
  (grownBy_keeps_cells hg hr hs rfl).trans hs
theorem lift_pairs {α : Type} (p : α → Prop) : ∀ (l : List α), (∀ x ∈ l, p x) → ∃ Q : List { x : α // p x }, Q.map Subtype.val = l
  | [], _ => ⟨[], rfl⟩
  | a :: l, h => by
    obtain ⟨Q, hQ⟩ := lift_pairs p l (fun x hx => h x (List.mem_cons_of_mem _ hx))
    exact ⟨⟨a, h a List.mem_cons_self⟩ :: Q, by rw [List.map_cons, hQ]⟩
set_option maxHeartbeats 4000000 in
set_option maxRecDepth 100000 in
theorem shoot_Apart.calls (A0 : Option Addr) (c0 : Nat) (l0 : List (S32)) (r : Bool) (w : World) (hr0 : Kd.C k32 w A0 l0.length l0) (hc0 : l0.length ≤ c0) (h : shoot_Apart.f l0 = some r) :
    Calls Try.prog 21 #[.slice A0 l0.length c0] w fun e w' => e = .returned (.bool r) ∧ Below w.heap.size w w' := by
  unfold shoot_Apart.f at h
  by_cases hc : (decide (l0.length ≤ 1000000) && (pairsL l0).all fun x => (pP x).isSome) = true
  rotate_left
  · rw [if_neg hc] at h; cases h
  rw [if_pos hc] at h
  have hr := Option.some.inj h
  simp only [Bool.and_eq_true, List.all_eq_true, decide_eq_true_eq] at hc
  obtain ⟨hmx, hso⟩ := hc
  obtain ⟨Q, hQ⟩ := lift_pairs (fun x => (pP x).isSome = true) (pairsL l0) hso
  have HQ := Aside0.mk hQ
  have HRR := Aside0.mk hr
  have HR0 := Aside0.mk hr0
  clear h hso hQ hr hr0
  refine (callsIn_wide (n := 5)).1 ?_
  have h1 : 1 ≤ 5 := by omega
  refine callsIn_of_wp_marks Try.func21 rfl trivial ?_ rfl
  simp only [Try.ntmps21, List.size_toArray, List.length_cons, List.length_nil, Nat.reduceAdd, Nat.reduceSub, Array.replicate_succ, Array.replicate_zero, List.push_toArray, List.append_toArray, List.nil_append, List.cons_append]
  gi_wp2_with (refine ⟨trivial, ?_⟩; gi_at_call 55; refine (pairs_in _ _ ⟨_, _, _, rfl⟩ _).mono ?_; rintro e w' ⟨rfl, rfl⟩)
  obtain ⟨B, hB⟩ : ∃ B, w.heap.size = B := ⟨_, rfl⟩
  have b0 := (Boxed.new w 4 (.bool false)).alloc (.cells #[.slice A0 l0.length c0] 22)
  have b1 := Boxed.new (w.alloc (.cells #[.bool false] 4)) 22 (.slice A0 l0.length c0)
  simp only [World.size_alloc] at b1
  have hB0 : Below w.heap.size w ((w.alloc (.cells #[.bool false] 4)).alloc (.cells #[.slice A0 l0.length c0] 22)) := ((Below.refl _ w).alloc (Nat.le_refl _) _).alloc (by simp) _
  have hsz : ((w.alloc (.cells #[.bool false] 4)).alloc (.cells #[.slice A0 l0.length c0] 22)).heap.size = w.heap.size + 2 := by simp
  obtain ⟨W0, hW0⟩ : ∃ W0, (w.alloc (.cells #[.bool false] 4)).alloc (.cells #[.slice A0 l0.length c0] 22) = W0 := ⟨_, rfl⟩
  rw [hW0] at b0 b1 hB0 hsz ⊢
  clear hW0
  have hT0 := Kd.C_below HR0.out hB0
  rw [hB] at b0 b1 hB0 hsz ⊢
  refine wpIn_rangeFunc_ownH rfl h1 (gf := 84) (lb := #[.pointer (some ⟨B + 1, 0, none⟩)]) rfl trivial (enters_of Try.func84 (by kernel_rfl) rfl)
    (pairs_stops (fun x : { x : S32 × S32 // (pP x).isSome = true } => x.1) 4 (by omega) (B + 1) A0 c0 l0 Q HQ.out hmx hc0 W0 (by omega) b1.cell hT0) (fun h k => KC.trans h k) (fun W l o o' _ hl ho _ => KC.putObj hl ho) (Below.refl _ _) (fun _ => rfl)
    (fun pre W => Boxed W B 4 (.bool false) ∧ (∀ x ∈ pre, pP x.1 = some true) ∧ Below B w W)
    (fun cd pre W => Boxed W B 4 (.bool false) ∧ (cd = .ret ∧ ∃ x ∈ pre, pP x.1 = some false) ∧ Below B w W)
    ?hI ?hIx ?h0
    (fun x a' W => ∃ Ba Bb, B < Ba ∧ B < Bb ∧ W.heap[Ba]? = some (.cells #[.int .i64 x.1.1.f0, .int .i64 x.1.1.f1, .int .u64 x.1.1.f2, .int .u64 x.1.1.f3, .bool x.1.1.f4.f0, .bool x.1.1.f4.f1, .bool x.1.1.f4.f2, .bool x.1.1.f4.f3, .bool x.1.1.f4.f4, .bool x.1.1.f4.f5, .bool x.1.1.f5] 32 (0, 0)) ∧
      W.heap[Bb]? = some (.cells #[.int .i64 x.1.2.f0, .int .i64 x.1.2.f1, .int .u64 x.1.2.f2, .int .u64 x.1.2.f3, .bool x.1.2.f4.f0, .bool x.1.2.f4.f1, .bool x.1.2.f4.f2, .bool x.1.2.f4.f3, .bool x.1.2.f4.f4, .bool x.1.2.f4.f5, .bool x.1.2.f5] 32 (0, 0)) ∧
      a' = { tmps := #[.slice A0 l0.length c0, undef, .pointer (some ⟨B, 0, none⟩), .pointer (some ⟨Ba, 0, none⟩), .pointer (some ⟨Bb, 0, none⟩), .slice A0 l0.length c0, .func (.func 84) #[] #[.pointer (some ⟨B + 1, 0, none⟩)], enc32 x.1.1, enc32 x.1.2, undef, undef, undef, undef], defers := [] })
    ?hAx ?assign ?body ?done ?stop
  case hI => exact OwnFrom.and (Own.from (boxed_own _ _ _) _) (OwnFrom.and (fun _ _ _ _ hs _ _ => hs) (ownFrom_below (by omega) (by omega)))
  case hIx => exact fun cd => OwnFrom.and (Own.from (boxed_own _ _ _) _) (OwnFrom.and (fun _ _ _ _ hs _ _ => hs) (ownFrom_below (by omega) (by omega)))
  case h0 => exact ⟨b0, by simp, hB0⟩
  case hAx =>
    rintro x a' _ X Y row ⟨Ba, Bb, h1, h2, h3, h4, h5⟩ hg hr
    exact ⟨Ba, Bb, h1, h2, own32 (β := Unit) Ba _ _ () X Y row h3 hg (fun r e => (hr r e).2), own32 (β := Unit) Bb _ _ () X Y row h4 hg (fun r e => (hr r e).2), h5⟩
  case assign =>
    rintro l pre x W K ⟨c0', hp, hBW⟩ hK
    dsimp only [enc32]
    have hsW := hBW.size
    have hl4 := c0'.lt
    gi_wp2
    have hka : KC W (W.alloc (.cells #[.int .i64 x.1.1.f0, .int .i64 x.1.1.f1, .int .u64 x.1.1.f2, .int .u64 x.1.1.f3, .bool x.1.1.f4.f0, .bool x.1.1.f4.f1, .bool x.1.1.f4.f2, .bool x.1.1.f4.f3, .bool x.1.1.f4.f4, .bool x.1.1.f4.f5, .bool x.1.1.f5] 32)) := KC.of_below ((Below.refl _ W).alloc (Nat.le_refl _) _)
    have hkb : KC (W.alloc (.cells #[.int .i64 x.1.1.f0, .int .i64 x.1.1.f1, .int .u64 x.1.1.f2, .int .u64 x.1.1.f3, .bool x.1.1.f4.f0, .bool x.1.1.f4.f1, .bool x.1.1.f4.f2, .bool x.1.1.f4.f3, .bool x.1.1.f4.f4, .bool x.1.1.f4.f5, .bool x.1.1.f5] 32)) ((W.alloc (.cells #[.int .i64 x.1.1.f0, .int .i64 x.1.1.f1, .int .u64 x.1.1.f2, .int .u64 x.1.1.f3, .bool x.1.1.f4.f0, .bool x.1.1.f4.f1, .bool x.1.1.f4.f2, .bool x.1.1.f4.f3, .bool x.1.1.f4.f4, .bool x.1.1.f4.f5, .bool x.1.1.f5] 32)).alloc (.cells #[.int .i64 x.1.2.f0, .int .i64 x.1.2.f1, .int .u64 x.1.2.f2, .int .u64 x.1.2.f3, .bool x.1.2.f4.f0, .bool x.1.2.f4.f1, .bool x.1.2.f4.f2, .bool x.1.2.f4.f3, .bool x.1.2.f4.f4, .bool x.1.2.f4.f5, .bool x.1.2.f5] 32)) := KC.of_below ((Below.refl _ _).alloc (Nat.le_refl _) _)
    have hBa : (W.alloc (.cells #[.int .i64 x.1.1.f0, .int .i64 x.1.1.f1, .int .u64 x.1.1.f2, .int .u64 x.1.1.f3, .bool x.1.1.f4.f0, .bool x.1.1.f4.f1, .bool x.1.1.f4.f2, .bool x.1.1.f4.f3, .bool x.1.1.f4.f4, .bool x.1.1.f4.f5, .bool x.1.1.f5] 32)).heap[W.heap.size]? = some (.cells #[.int .i64 x.1.1.f0, .int .i64 x.1.1.f1, .int .u64 x.1.1.f2, .int .u64 x.1.1.f3, .bool x.1.1.f4.f0, .bool x.1.1.f4.f1, .bool x.1.1.f4.f2, .bool x.1.1.f4.f3, .bool x.1.1.f4.f4, .bool x.1.1.f4.f5, .bool x.1.1.f5] 32 (0, 0)) := World.alloc_heap_new W _
    have hBb : ((W.alloc (.cells #[.int .i64 x.1.1.f0, .int .i64 x.1.1.f1, .int .u64 x.1.1.f2, .int .u64 x.1.1.f3, .bool x.1.1.f4.f0, .bool x.1.1.f4.f1, .bool x.1.1.f4.f2, .bool x.1.1.f4.f3, .bool x.1.1.f4.f4, .bool x.1.1.f4.f5, .bool x.1.1.f5] 32)).alloc (.cells #[.int .i64 x.1.2.f0, .int .i64 x.1.2.f1, .int .u64 x.1.2.f2, .int .u64 x.1.2.f3, .bool x.1.2.f4.f0, .bool x.1.2.f4.f1, .bool x.1.2.f4.f2, .bool x.1.2.f4.f3, .bool x.1.2.f4.f4, .bool x.1.2.f4.f5, .bool x.1.2.f5] 32)).heap[W.heap.size + 1]? = some (.cells #[.int .i64 x.1.2.f0, .int .i64 x.1.2.f1, .int .u64 x.1.2.f2, .int .u64 x.1.2.f3, .bool x.1.2.f4.f0, .bool x.1.2.f4.f1, .bool x.1.2.f4.f2, .bool x.1.2.f4.f3, .bool x.1.2.f4.f4, .bool x.1.2.f4.f5, .bool x.1.2.f5] 32 (0, 0)) := by
      have := World.alloc_heap_new (W.alloc (.cells #[.int .i64 x.1.1.f0, .int .i64 x.1.1.f1, .int .u64 x.1.1.f2, .int .u64 x.1.1.f3, .bool x.1.1.f4.f0, .bool x.1.1.f4.f1, .bool x.1.1.f4.f2, .bool x.1.1.f4.f3, .bool x.1.1.f4.f4, .bool x.1.1.f4.f5, .bool x.1.1.f5] 32)) (.cells #[.int .i64 x.1.2.f0, .int .i64 x.1.2.f1, .int .u64 x.1.2.f2, .int .u64 x.1.2.f3, .bool x.1.2.f4.f0, .bool x.1.2.f4.f1, .bool x.1.2.f4.f2, .bool x.1.2.f4.f3, .bool x.1.2.f4.f4, .bool x.1.2.f4.f5, .bool x.1.2.f5] 32)
      rwa [World.size_alloc] at this
    exact hK _ _ (((KeepsOthers.alloc _ _).trans (KeepsOthers.alloc _ _)).from _) (hka.trans hkb) ⟨(c0'.alloc _).alloc _, hp, (hBW.alloc (by omega) _).alloc (by simp; omega) _⟩ ⟨W.heap.size, W.heap.size + 1, hl4, by omega, hkb.2 _ _ _ _ hBa, hBb, rfl⟩
  case body =>
    rintro l pre x a' W hl ⟨r', hr'⟩ ⟨c0', hp, hBW⟩ ⟨Ba, Bb, hBa, hBb, ca, cb, rfl⟩ hlt
    obtain ⟨rb, hrb⟩ := Option.isSome_iff_exists.1 x.2
    obtain ⟨⟨xa, xb⟩, hx⟩ := x
    dsimp only at ca cb hrb ⊢
    have a0 : W.cell? ⟨Ba, 0, none⟩ = some (.int .i64 xa.f0) := by rw [Lib.cell_of_heap ca]; rfl
    have a1 : W.cell? ⟨Ba, 1, none⟩ = some (.int .i64 xa.f1) := by rw [Lib.cell_of_heap ca]; rfl
    have a2 : W.cell? ⟨Ba, 2, none⟩ = some (.int .u64 xa.f2) := by rw [Lib.cell_of_heap ca]; rfl
    have a3 : W.cell? ⟨Ba, 3, none⟩ = some (.int .u64 xa.f3) := by rw [Lib.cell_of_heap ca]; rfl
    have a4 : W.cell? ⟨Ba, 4, none⟩ = some (.bool xa.f4.f0) := by rw [Lib.cell_of_heap ca]; rfl
    have a5 : W.cell? ⟨Ba, 5, none⟩ = some (.bool xa.f4.f1) := by rw [Lib.cell_of_heap ca]; rfl
    have a6 : W.cell? ⟨Ba, 6, none⟩ = some (.bool xa.f4.f2) := by rw [Lib.cell_of_heap ca]; rfl
    have a7 : W.cell? ⟨Ba, 7, none⟩ = some (.bool xa.f4.f3) := by rw [Lib.cell_of_heap ca]; rfl
    have a8 : W.cell? ⟨Ba, 8, none⟩ = some (.bool xa.f4.f4) := by rw [Lib.cell_of_heap ca]; rfl
    have a9 : W.cell? ⟨Ba, 9, none⟩ = some (.bool xa.f4.f5) := by rw [Lib.cell_of_heap ca]; rfl
    have a10 : W.cell? ⟨Ba, 10, none⟩ = some (.bool xa.f5) := by rw [Lib.cell_of_heap ca]; rfl
    have b0 : W.cell? ⟨Bb, 0, none⟩ = some (.int .i64 xb.f0) := by rw [Lib.cell_of_heap cb]; rfl
    have b1 : W.cell? ⟨Bb, 1, none⟩ = some (.int .i64 xb.f1) := by rw [Lib.cell_of_heap cb]; rfl
    have b2 : W.cell? ⟨Bb, 2, none⟩ = some (.int .u64 xb.f2) := by rw [Lib.cell_of_heap cb]; rfl
    have b3 : W.cell? ⟨Bb, 3, none⟩ = some (.int .u64 xb.f3) := by rw [Lib.cell_of_heap cb]; rfl
    have b4 : W.cell? ⟨Bb, 4, none⟩ = some (.bool xb.f4.f0) := by rw [Lib.cell_of_heap cb]; rfl
    have b5 : W.cell? ⟨Bb, 5, none⟩ = some (.bool xb.f4.f1) := by rw [Lib.cell_of_heap cb]; rfl
    have b6 : W.cell? ⟨Bb, 6, none⟩ = some (.bool xb.f4.f2) := by rw [Lib.cell_of_heap cb]; rfl
    have b7 : W.cell? ⟨Bb, 7, none⟩ = some (.bool xb.f4.f3) := by rw [Lib.cell_of_heap cb]; rfl
    have b8 : W.cell? ⟨Bb, 8, none⟩ = some (.bool xb.f4.f4) := by rw [Lib.cell_of_heap cb]; rfl
    have b9 : W.cell? ⟨Bb, 9, none⟩ = some (.bool xb.f4.f5) := by rw [Lib.cell_of_heap cb]; rfl
    have b10 : W.cell? ⟨Bb, 10, none⟩ = some (.bool xb.f5) := by rw [Lib.cell_of_heap cb]; rfl
    have HRB := Aside0.mk hrb
    have hl0 := c0'.lt
    clear hrb
    dsimp only [enc32]
    cases rb with
    | true =>
      gi_wp2_with (refine ⟨trivial, ?_⟩; gi_at_call 56; refine (CallsIn.inRound l (callsIn_wide.2 (tlb_Parts.calls _ _ _ _ _ _ _ _ _ _ _ _ _ _ _ _ _ _ _ _ _ _ true W HRB.out))).mono ?_; rintro e w2 ⟨rfl, hb2⟩)
      have c2' : Boxed w2 B 4 (.bool false) := (hb2.block _ hl0).trans c0'
      exact ⟨⟨hb2.size, fun k o _ hk _ => (hb2.block k (Array.getElem?_eq_some_iff.1 hk).1).trans hk⟩, KC.of_below hb2, c2', fun y hy => (List.mem_append.1 hy).elim (hp y) (fun h => by simp at h; subst h; exact HRB.out), hBW.trans (hb2.mono (by have := hBW.size; omega))⟩
    | false =>
      gi_wp2_with (refine ⟨trivial, ?_⟩; gi_at_call 56; refine (CallsIn.inRound l (callsIn_wide.2 (tlb_Parts.calls _ _ _ _ _ _ _ _ _ _ _ _ _ _ _ _ _ _ _ _ _ _ false W HRB.out))).mono ?_; rintro e w2 ⟨rfl, hb2⟩; have c2' : Boxed w2 B 4 (.bool false) := (hb2.block _ hl0).trans c0'; have d2 := c2'.cell; have e2 := c2'.frozen)
      exact ⟨KeepsFrom.trans ⟨hb2.size, fun k o _ hk _ => (hb2.block k (Array.getElem?_eq_some_iff.1 hk).1).trans hk⟩ ((KeepsOthers.setCell _ _ _).from _), c2'.set _, ⟨rfl, ⟨⟨(xa, xb), hx⟩, List.mem_append.2 (.inr (by simp)), HRB.out⟩⟩, (hBW.trans (hb2.mono (by have := hBW.size; omega))).setCell (p := ⟨B, 0, none⟩) (Nat.le_refl _) _⟩
  case done =>
    rintro D xs W hD rfl ⟨c0', hp, hBW⟩ hK
    have d2 := c0'.cell
    have e2 := c0'.frozen
    have hr1 : r = true := by
      rw [← HRR.out, List.all_eq_true]
      intro y hy
      rw [← HQ.out] at hy
      obtain ⟨z, hz, rfl⟩ := List.mem_map.1 hy
      rw [hp z hz]
      rfl
    subst hr1
    gi_wp2
    have hK' := (KeepsOthers.setCell W ⟨B, 0, none⟩ (.bool true)).same D _ hK rfl
    refine ⟨by simp, .inl ⟨_, _, rfl, run_takeDeferred hK', ?_⟩⟩
    have hc5 := cell_kept (World.cell?_setCell_same' W ⟨B, 0, none⟩ (.bool true) (by rw [d2]; rfl)) (grownBy_putObj' _ D (.deferred none)) (fun r e => by cases e; exact ⟨_, hK', rfl⟩)
    refine ⟨.bool true, ?_, rfl, ?_⟩
    · simp [results, Try.f21, go_sem, hc5]
    · rw [hB]
      exact (hBW.setCell (p := ⟨B, 0, none⟩) (Nat.le_refl _) _).trans (belowK_b (w := w) (by omega) _ D _ _ (by omega) hK' rfl rfl)
  case stop =>
    rintro D cd pre W hD hpre ⟨c0', ⟨rfl, hno⟩, hBW⟩ hK
    have d2 := c0'.cell
    have e2 := c0'.frozen
    have hr1 : r = false := by
      obtain ⟨z, hz, hzf⟩ := hno
      rw [← HRR.out]
      cases hall : (pairsL l0).all fun x => (pP x).getD false with
      | false => rfl
      | true =>
        rw [List.all_eq_true] at hall
        have := hall z.1 (by rw [← HQ.out]; exact List.mem_map_of_mem (hpre.subset hz))
        rw [hzf] at this
        cases this
    subst hr1
    gi_wp2
    refine ⟨by simp, .inl ⟨_, _, rfl, run_takeDeferred hK, ?_⟩⟩
    have hc5 := cell_kept d2 (grownBy_putObj' _ D (.deferred none)) (fun r e => by cases e; exact ⟨_, hK, rfl⟩)
    refine ⟨.bool false, ?_, rfl, ?_⟩
    · simp [results, Try.f21, go_sem, hc5]
    · rw [hB]
      exact hBW.trans (belowK_b (w := w) (by omega) _ D _ _ (by omega) hK rfl rfl)

/-! ### lookasideref02_Meet: function 85 -/
def lookasideref02_Meet.j0 : Nat → Int → Int → Int → Int → Bool → Option (Bool)
  | 0, _, _, _, _, _ => none
  | k + 1, x0, x1, x2, x3, x22 => if x22 = true then (some false) else ((lookasideref02_Base.f x0 x1).bind fun t246 => ((lookasideref02_Base.f x2 x3).bind fun t247 => (if t246 ≥ t247 then ((lookasideref02_Bytes.f x3).bind fun t248 => (if (IntKind.u64.wrap (t246 - t247)) < t248 then (some true) else (if t247 ≥ t246 then ((lookasideref02_Bytes.f x1).bind fun t249 => (some (decide ((IntKind.u64.wrap (t247 - t246)) < t249)))) else (some false)))) else (if t247 ≥ t246 then ((lookasideref02_Bytes.f x1).bind fun t250 => (some (decide ((IntKind.u64.wrap (t247 - t246)) < t250)))) else (some false)))))
def lookasideref02_Meet.f (k : Nat) (a0 : Int) (a1 : Int) (a2 : Int) (a3 : Int) : Option (Bool) := (lookasideref02_May.f a1).bind fun t244 => ((lookasideref02_May.f a3).bind fun t245 => (if t244 = true then (lookasideref02_Meet.j0 k a0 a1 a2 a3 (!t245)) else (lookasideref02_Meet.j0 k a0 a1 a2 a3 true)))
/-! ### lookasideref06_Parts: function 57 -/
def lookasideref06_Parts.f (k : Nat) (a0_0 : Int) (a0_1 : Int) (a0_2 : Int) (a0_3 : Int) (a0_4 : Bool) (a0_5 : Bool) (a0_6 : Bool) (a0_7 : Bool) (a0_8 : Bool) (a0_9 : Bool) (a0_10 : Bool) (a1_0 : Int) (a1_1 : Int) (a1_2 : Int) (a1_3 : Int) (a1_4 : Bool) (a1_5 : Bool) (a1_6 : Bool) (a1_7 : Bool) (a1_8 : Bool) (a1_9 : Bool) (a1_10 : Bool) : Option (Bool) := (lookasideref02_Meet.f k a0_2 a0_0 a1_2 a1_0).bind fun t253 => (if t253 = true then (if a0_8 = true then (some false) else (if a1_8 = true then (some false) else (some (a0_1 != a1_1)))) else (some true))
end Go.Proofs.Ytcbnmmkmgpbfiaa.PS


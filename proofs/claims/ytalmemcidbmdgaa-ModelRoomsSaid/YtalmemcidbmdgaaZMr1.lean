import Derived.Test.YtalmemcidbmdgaaZMr0
import Derived.Laws.BitsLemmas
import Derived.Laws.Bits64
import Derived.Maps.OwnSet
import Derived.Deep.RegionHeld3
import Derived.Deep.DeepCutAuto
import Derived.Deep.Light
-- written by xprint.py, a program of this session, over the kit's print (functions told by hand: see the texts)
namespace Go.Proofs.Ytalmemcidbmdgaa.PM
open Go.RowKit Go.Proofs.YtalmemcidbmdgaaW.PrintWords Go.Proofs.YtalmemcidbmdgaaW.PrintLast Go.Proofs.YtalmemcidbmdgaaW.PrintMore
attribute [local go_sem] max2_int min2_int max_two min_two max_three min_three max_four min_four   -- for this text's walks alone
set_option linter.unusedVariables false
set_option linter.unusedSimpArgs false

/-! ### lookasideref02_Meet: function 88 -/
def lookasideref02_Meet.j0 : Nat → Int → Int → Int → Int → Bool → Option (Bool)
  | 0, _, _, _, _, _ => none
  | k + 1, x0, x1, x2, x3, x22 => if x22 = true then (some false) else ((lookasideref02_Base.f x0 x1).bind fun t197 => ((lookasideref02_Base.f x2 x3).bind fun t198 => (if t197 ≥ t198 then ((lookasideref02_Bytes.f x3).bind fun t199 => (if (IntKind.u64.wrap (t197 - t198)) < t199 then (some true) else (if t198 ≥ t197 then ((lookasideref02_Bytes.f x1).bind fun t200 => (some (decide ((IntKind.u64.wrap (t198 - t197)) < t200)))) else (some false)))) else (if t198 ≥ t197 then ((lookasideref02_Bytes.f x1).bind fun t201 => (some (decide ((IntKind.u64.wrap (t198 - t197)) < t201)))) else (some false)))))
def lookasideref02_Meet.f (k : Nat) (a0 : Int) (a1 : Int) (a2 : Int) (a3 : Int) : Option (Bool) := (lookasideref02_May.f a1).bind fun t195 => ((lookasideref02_May.f a3).bind fun t196 => (if t195 = true then (lookasideref02_Meet.j0 k a0 a1 a2 a3 (!t196)) else (lookasideref02_Meet.j0 k a0 a1 a2 a3 true)))
set_option maxHeartbeats 8000000 in
set_option maxRecDepth 100000 in
theorem lookasideref02_Meet.calls (k : Nat) (a0 : Int) (a1 : Int) (a2 : Int) (a3 : Int) (r : Bool) (w : World) (h : lookasideref02_Meet.f k a0 a1 a2 a3 = some r) :
    Calls Try.prog 88 #[.int .u64 a0, .int .i64 a1, .int .u64 a2, .int .i64 a3] w fun e w' => e = .returned (.bool r) ∧ Drawn0 w w' := by
  have H : ((lookasideref02_May.f a1).bind fun t195 => ((lookasideref02_May.f a3).bind fun t196 => (if t195 = true then (lookasideref02_Meet.j0 k a0 a1 a2 a3 (!t196)) else (lookasideref02_Meet.j0 k a0 a1 a2 a3 true)))) = some r := h
  clear h
  replace H := Option.bind_eq_some_iff.mp H
  obtain ⟨t195, A50, H⟩ := H
  replace H : ((lookasideref02_May.f a3).bind fun t196 => (if t195 = true then (lookasideref02_Meet.j0 k a0 a1 a2 a3 (!t196)) else (lookasideref02_Meet.j0 k a0 a1 a2 a3 true))) = some r := H
  have A5 := Aside0.mk A50
  clear A50
  replace H := Option.bind_eq_some_iff.mp H
  obtain ⟨t196, A60, H⟩ := H
  replace H : (if t195 = true then (lookasideref02_Meet.j0 k a0 a1 a2 a3 (!t196)) else (lookasideref02_Meet.j0 k a0 a1 a2 a3 true)) = some r := H
  have A6 := Aside0.mk A60
  clear A60
  have HC7 := Aside0.mk H
  clear H
  go_enter Try.func88, Try.ntmps88
  go_upto_region 3 with (first | ((with_reducible refine gate_callee (f := 49) rfl ?_); refine goesL_ (some 14) rfl rfl Try.func49 (by kernel_rfl) rfl #[.int .i64 a1] rfl (by (try simp only [List.map_toArray, List.map_cons, List.map_nil]); first | done | rfl | (simp only [List.length_drop, List.length_take]; rfl)) ?_; (with_reducible refine (lookasideref02_May.calls a1 t195 _ A5.out).mono ?_); rintro e w' ⟨rfl, ⟨nd, rfl⟩⟩; refine ⟨_, rfl, ?_⟩) | ((with_reducible refine gate_callee (f := 49) rfl ?_); refine goesL_ (some 16) rfl rfl Try.func49 (by kernel_rfl) rfl #[.int .i64 a3] rfl (by (try simp only [List.map_toArray, List.map_cons, List.map_nil]); first | done | rfl | (simp only [List.length_drop, List.length_take]; rfl)) ?_; (with_reducible refine (lookasideref02_May.calls a3 t196 _ A6.out).mono ?_); rintro e w' ⟨rfl, ⟨nd, rfl⟩⟩; refine ⟨_, rfl, ?_⟩))
  (try simp only [Act.put, List.setIfInBounds_toArray, List.set_cons_zero, List.set_cons_succ])
  go_cut [22] (fun v22 wc => ∃ (kq : Nat) (x22_6 : Bool), v22 = .bool x22_6 ∧ Aside0 (lookasideref02_Meet.j0 kq a0 a1 a2 a3 x22_6 = some r) ∧ Aside0 (kq ≤ k) ∧ Drawn0 w wc)
  case first =>
    have H := HC7.out
    clear HC7
    by_cases c8 : t195 = true
    · subst c8
      have H1 : (lookasideref02_Meet.j0 k a0 a1 a2 a3 (!t196)) = some r := by rw [if_pos rfl] at H; exact H
      clear H
      have H := H1
      clear H1
      have H' := Aside0.mk H
      clear H
      go_wp2
      go_meet
      case rel => exact ⟨_, (!t196), (by first | rfl | (simp; done) | (simp [*]; done)), H', ⟨by first | omega | exact Nat.le_refl _⟩, by repeat (first | exact Drawn0.refl _ | apply Drawn0.step)⟩
    · replace c8 := Bool.eq_false_iff.mpr c8
      subst c8
      have H1 : (lookasideref02_Meet.j0 k a0 a1 a2 a3 true) = some r := by rw [if_neg (show ¬ (false = true) by decide)] at H; exact H
      clear H
      have H := H1
      clear H1
      have H' := Aside0.mk H
      clear H
      go_wp2
      go_meet
      case rel => exact ⟨_, (true), (by first | rfl | (simp; done) | (simp [*]; done)), H', ⟨by first | omega | exact Nat.le_refl _⟩, by repeat (first | exact Drawn0.refl _ | apply Drawn0.step)⟩
  case rest =>
    clear HC7
    try clear p2
    try clear c4
    try clear c8
    obtain ⟨kq, x22_6, rfl, HA, HJ6, ⟨mc6, rfl⟩⟩ := hcut
    cases kq with
    | zero => exact absurd HA.out (by simp [lookasideref02_Meet.j0])
    | succ kj6 =>
      have H := HA.out
      clear HA
      simp only [lookasideref02_Meet.j0] at H
      by_cases c9 : x22_6 = true
      · subst c9
        have H1 : (some false) = some r := by rw [if_pos rfl] at H; exact H
        clear H
        have H := H1
        clear H1
        obtain rfl := Option.some.inj H
        go_wp2
        go_ret
        exact ⟨by first | rfl | (simp; done) | (simp [*]; done), by repeat (first | exact Drawn0.refl _ | apply Drawn0.step)⟩
      · replace c9 := Bool.eq_false_iff.mpr c9
        subst c9
        have H1 : ((lookasideref02_Base.f a0 a1).bind fun t197 => ((lookasideref02_Base.f a2 a3).bind fun t198 => (if t197 ≥ t198 then ((lookasideref02_Bytes.f a3).bind fun t199 => (if (IntKind.u64.wrap (t197 - t198)) < t199 then (some true) else (if t198 ≥ t197 then ((lookasideref02_Bytes.f a1).bind fun t200 => (some (decide ((IntKind.u64.wrap (t198 - t197)) < t200)))) else (some false)))) else (if t198 ≥ t197 then ((lookasideref02_Bytes.f a1).bind fun t201 => (some (decide ((IntKind.u64.wrap (t198 - t197)) < t201)))) else (some false))))) = some r := by rw [if_neg (show ¬ (false = true) by decide)] at H; exact H
        clear H
        have H := H1
        clear H1
        replace H := Option.bind_eq_some_iff.mp H
        obtain ⟨t197, A100, H⟩ := H
        replace H : ((lookasideref02_Base.f a2 a3).bind fun t198 => (if t197 ≥ t198 then ((lookasideref02_Bytes.f a3).bind fun t199 => (if (IntKind.u64.wrap (t197 - t198)) < t199 then (some true) else (if t198 ≥ t197 then ((lookasideref02_Bytes.f a1).bind fun t200 => (some (decide ((IntKind.u64.wrap (t198 - t197)) < t200)))) else (some false)))) else (if t198 ≥ t197 then ((lookasideref02_Bytes.f a1).bind fun t201 => (some (decide ((IntKind.u64.wrap (t198 - t197)) < t201)))) else (some false)))) = some r := H
        have A10 := Aside0.mk A100
        clear A100
        replace H := Option.bind_eq_some_iff.mp H
        obtain ⟨t198, A110, H⟩ := H
        replace H : (if t197 ≥ t198 then ((lookasideref02_Bytes.f a3).bind fun t199 => (if (IntKind.u64.wrap (t197 - t198)) < t199 then (some true) else (if t198 ≥ t197 then ((lookasideref02_Bytes.f a1).bind fun t200 => (some (decide ((IntKind.u64.wrap (t198 - t197)) < t200)))) else (some false)))) else (if t198 ≥ t197 then ((lookasideref02_Bytes.f a1).bind fun t201 => (some (decide ((IntKind.u64.wrap (t198 - t197)) < t201)))) else (some false))) = some r := H
        have A11 := Aside0.mk A110
        clear A110
        by_cases c12 : t197 ≥ t198
        · rw [if_pos c12] at H
          have c12b0 : decide (t198 ≤ t197) = true := decide_eq_true c12
          clear c12
          replace H := Option.bind_eq_some_iff.mp H
          obtain ⟨t199, A130, H⟩ := H
          replace H : (if (IntKind.u64.wrap (t197 - t198)) < t199 then (some true) else (if t198 ≥ t197 then ((lookasideref02_Bytes.f a1).bind fun t200 => (some (decide ((IntKind.u64.wrap (t198 - t197)) < t200)))) else (some false))) = some r := H
          have A13 := Aside0.mk A130
          clear A130
          by_cases c14 : (IntKind.u64.wrap (t197 - t198)) < t199
          · rw [if_pos c14] at H
            have c14b0 : decide ((IntKind.u64.wrap (t197 - t198)) < t199) = true := decide_eq_true c14
            clear c14
            obtain rfl := Option.some.inj H
            go_wp2_with (first | ((with_reducible refine gate_callee (f := 18) rfl ?_); refine goesL_ (some 25) rfl rfl Try.func18 (by kernel_rfl) rfl #[.int .u64 a0, .int .i64 a1] rfl (by (try simp only [List.map_toArray, List.map_cons, List.map_nil]); first | done | rfl | (simp only [List.length_drop, List.length_take]; rfl)) ?_; (with_reducible refine (lookasideref02_Base.calls a0 a1 t197 _ A10.out).mono ?_); rintro e w' ⟨rfl, ⟨nd, rfl⟩⟩; refine ⟨_, rfl, ?_⟩) | ((with_reducible refine gate_callee (f := 18) rfl ?_); refine goesL_ (some 28) rfl rfl Try.func18 (by kernel_rfl) rfl #[.int .u64 a2, .int .i64 a3] rfl (by (try simp only [List.map_toArray, List.map_cons, List.map_nil]); first | done | rfl | (simp only [List.length_drop, List.length_take]; rfl)) ?_; (with_reducible refine (lookasideref02_Base.calls a2 a3 t198 _ A11.out).mono ?_); rintro e w' ⟨rfl, ⟨nd, rfl⟩⟩; refine ⟨_, rfl, ?_⟩) | (go_at_call 17; (with_reducible refine (lookasideref02_Bytes.calls a3 t199 _ A13.out).mono ?_); rintro e w' ⟨rfl, ⟨nd, rfl⟩⟩))
            go_ret
            exact ⟨by first | rfl | (simp; done) | (simp [*]; done), by repeat (first | exact Drawn0.refl _ | apply Drawn0.step)⟩
          · rw [if_neg c14] at H
            have c14b0 : decide ((IntKind.u64.wrap (t197 - t198)) < t199) = false := decide_eq_false c14
            clear c14
            by_cases c15 : t198 ≥ t197
            · rw [if_pos c15] at H
              have c15b0 : decide (t197 ≤ t198) = true := decide_eq_true c15
              clear c15
              replace H := Option.bind_eq_some_iff.mp H
              obtain ⟨t200, A160, H⟩ := H
              replace H : (some (decide ((IntKind.u64.wrap (t198 - t197)) < t200))) = some r := H
              have A16 := Aside0.mk A160
              clear A160
              obtain rfl := Option.some.inj H
              go_wp2_with (first | ((with_reducible refine gate_callee (f := 18) rfl ?_); refine goesL_ (some 25) rfl rfl Try.func18 (by kernel_rfl) rfl #[.int .u64 a0, .int .i64 a1] rfl (by (try simp only [List.map_toArray, List.map_cons, List.map_nil]); first | done | rfl | (simp only [List.length_drop, List.length_take]; rfl)) ?_; (with_reducible refine (lookasideref02_Base.calls a0 a1 t197 _ A10.out).mono ?_); rintro e w' ⟨rfl, ⟨nd, rfl⟩⟩; refine ⟨_, rfl, ?_⟩) | ((with_reducible refine gate_callee (f := 18) rfl ?_); refine goesL_ (some 28) rfl rfl Try.func18 (by kernel_rfl) rfl #[.int .u64 a2, .int .i64 a3] rfl (by (try simp only [List.map_toArray, List.map_cons, List.map_nil]); first | done | rfl | (simp only [List.length_drop, List.length_take]; rfl)) ?_; (with_reducible refine (lookasideref02_Base.calls a2 a3 t198 _ A11.out).mono ?_); rintro e w' ⟨rfl, ⟨nd, rfl⟩⟩; refine ⟨_, rfl, ?_⟩) | (go_at_call 17; (with_reducible refine (lookasideref02_Bytes.calls a3 t199 _ A13.out).mono ?_); rintro e w' ⟨rfl, ⟨nd, rfl⟩⟩) | (go_at_call 17; (with_reducible refine (lookasideref02_Bytes.calls a1 t200 _ A16.out).mono ?_); rintro e w' ⟨rfl, ⟨nd, rfl⟩⟩))
              go_ret
              exact ⟨by first | rfl | (simp; done) | (simp [*]; done), by repeat (first | exact Drawn0.refl _ | apply Drawn0.step)⟩
            · rw [if_neg c15] at H
              have c15b0 : decide (t197 ≤ t198) = false := decide_eq_false c15
              clear c15
              obtain rfl := Option.some.inj H
              go_wp2_with (first | ((with_reducible refine gate_callee (f := 18) rfl ?_); refine goesL_ (some 25) rfl rfl Try.func18 (by kernel_rfl) rfl #[.int .u64 a0, .int .i64 a1] rfl (by (try simp only [List.map_toArray, List.map_cons, List.map_nil]); first | done | rfl | (simp only [List.length_drop, List.length_take]; rfl)) ?_; (with_reducible refine (lookasideref02_Base.calls a0 a1 t197 _ A10.out).mono ?_); rintro e w' ⟨rfl, ⟨nd, rfl⟩⟩; refine ⟨_, rfl, ?_⟩) | ((with_reducible refine gate_callee (f := 18) rfl ?_); refine goesL_ (some 28) rfl rfl Try.func18 (by kernel_rfl) rfl #[.int .u64 a2, .int .i64 a3] rfl (by (try simp only [List.map_toArray, List.map_cons, List.map_nil]); first | done | rfl | (simp only [List.length_drop, List.length_take]; rfl)) ?_; (with_reducible refine (lookasideref02_Base.calls a2 a3 t198 _ A11.out).mono ?_); rintro e w' ⟨rfl, ⟨nd, rfl⟩⟩; refine ⟨_, rfl, ?_⟩) | (go_at_call 17; (with_reducible refine (lookasideref02_Bytes.calls a3 t199 _ A13.out).mono ?_); rintro e w' ⟨rfl, ⟨nd, rfl⟩⟩))
              go_ret
              exact ⟨by first | rfl | (simp; done) | (simp [*]; done), by repeat (first | exact Drawn0.refl _ | apply Drawn0.step)⟩
        · rw [if_neg c12] at H
          have c12b0 : decide (t198 ≤ t197) = false := decide_eq_false c12
          clear c12
          by_cases c17 : t198 ≥ t197
          · rw [if_pos c17] at H
            have c17b0 : decide (t197 ≤ t198) = true := decide_eq_true c17
            clear c17
            replace H := Option.bind_eq_some_iff.mp H
            obtain ⟨t201, A180, H⟩ := H
            replace H : (some (decide ((IntKind.u64.wrap (t198 - t197)) < t201))) = some r := H
            have A18 := Aside0.mk A180
            clear A180
            obtain rfl := Option.some.inj H
            go_wp2_with (first | ((with_reducible refine gate_callee (f := 18) rfl ?_); refine goesL_ (some 25) rfl rfl Try.func18 (by kernel_rfl) rfl #[.int .u64 a0, .int .i64 a1] rfl (by (try simp only [List.map_toArray, List.map_cons, List.map_nil]); first | done | rfl | (simp only [List.length_drop, List.length_take]; rfl)) ?_; (with_reducible refine (lookasideref02_Base.calls a0 a1 t197 _ A10.out).mono ?_); rintro e w' ⟨rfl, ⟨nd, rfl⟩⟩; refine ⟨_, rfl, ?_⟩) | ((with_reducible refine gate_callee (f := 18) rfl ?_); refine goesL_ (some 28) rfl rfl Try.func18 (by kernel_rfl) rfl #[.int .u64 a2, .int .i64 a3] rfl (by (try simp only [List.map_toArray, List.map_cons, List.map_nil]); first | done | rfl | (simp only [List.length_drop, List.length_take]; rfl)) ?_; (with_reducible refine (lookasideref02_Base.calls a2 a3 t198 _ A11.out).mono ?_); rintro e w' ⟨rfl, ⟨nd, rfl⟩⟩; refine ⟨_, rfl, ?_⟩) | (go_at_call 17; (with_reducible refine (lookasideref02_Bytes.calls a1 t201 _ A18.out).mono ?_); rintro e w' ⟨rfl, ⟨nd, rfl⟩⟩))
            go_ret
            exact ⟨by first | rfl | (simp; done) | (simp [*]; done), by repeat (first | exact Drawn0.refl _ | apply Drawn0.step)⟩
          · rw [if_neg c17] at H
            have c17b0 : decide (t197 ≤ t198) = false := decide_eq_false c17
            clear c17
            obtain rfl := Option.some.inj H
            go_wp2_with (first | ((with_reducible refine gate_callee (f := 18) rfl ?_); refine goesL_ (some 25) rfl rfl Try.func18 (by kernel_rfl) rfl #[.int .u64 a0, .int .i64 a1] rfl (by (try simp only [List.map_toArray, List.map_cons, List.map_nil]); first | done | rfl | (simp only [List.length_drop, List.length_take]; rfl)) ?_; (with_reducible refine (lookasideref02_Base.calls a0 a1 t197 _ A10.out).mono ?_); rintro e w' ⟨rfl, ⟨nd, rfl⟩⟩; refine ⟨_, rfl, ?_⟩) | ((with_reducible refine gate_callee (f := 18) rfl ?_); refine goesL_ (some 28) rfl rfl Try.func18 (by kernel_rfl) rfl #[.int .u64 a2, .int .i64 a3] rfl (by (try simp only [List.map_toArray, List.map_cons, List.map_nil]); first | done | rfl | (simp only [List.length_drop, List.length_take]; rfl)) ?_; (with_reducible refine (lookasideref02_Base.calls a2 a3 t198 _ A11.out).mono ?_); rintro e w' ⟨rfl, ⟨nd, rfl⟩⟩; refine ⟨_, rfl, ?_⟩))
            go_ret
            exact ⟨by first | rfl | (simp; done) | (simp [*]; done), by repeat (first | exact Drawn0.refl _ | apply Drawn0.step)⟩

/-- THE ONE PURE STATEMENT of lookasideref02_Meet: yours. -/
def lookasideref02_Meet.Pure : Prop := ∀ (a0 : Int) (a1 : Int) (a2 : Int) (a3 : Int), (Lit.int .u64 a0).wf = true → (Lit.int .i64 a1).wf = true → (Lit.int .u64 a2).wf = true → (Lit.int .i64 a3).wf = true → ∃ k, lookasideref02_Meet.f k a0 a1 a2 a3 = some true
theorem lookasideref02_Meet.walk (P : lookasideref02_Meet.Pure) (a0 : Int) (a1 : Int) (a2 : Int) (a3 : Int) (w : World) (w0 : (Lit.int .u64 a0).wf = true) (w1 : (Lit.int .i64 a1).wf = true) (w2 : (Lit.int .u64 a2).wf = true) (w3 : (Lit.int .i64 a3).wf = true) :
    Calls Try.prog 88 #[.int .u64 a0, .int .i64 a1, .int .u64 a2, .int .i64 a3] w fun e w' => e = .returned (.bool true) ∧ Below w.heap.size w w' := by
  obtain ⟨k, h⟩ := P a0 a1 a2 a3 w0 w1 w2 w3
  refine (lookasideref02_Meet.calls k a0 a1 a2 a3 true w h).mono ?_
  rintro e w' ⟨rfl, hd⟩
  exact ⟨rfl, hd.below⟩

end Go.Proofs.Ytalmemcidbmdgaa.PM

-- written by xprint.py, a program of this session, over the kit's print (functions told by hand: see the texts)
namespace Go.Proofs.Ytalmemcidbmdgaa.PM
open Go.RowKit Go.Proofs.YtalmemcidbmdgaaW.PrintWords Go.Proofs.YtalmemcidbmdgaaW.PrintLast Go.Proofs.YtalmemcidbmdgaaW.PrintMore
attribute [local go_sem] max2_int min2_int max_two min_two max_three min_three max_four min_four   -- for this text's walks alone
set_option linter.unusedVariables false
set_option linter.unusedSimpArgs false

/-! ### lookasideref02_Hole: function 56 -/
def lookasideref02_Hole.l0 : Nat → Int → Int → Option (Bool)
  | 0, _, _ => none
  | k + 1, x0, x3 => if x3 < 64 then ((lookasideref01_Bit.f k x0 x3).bind fun t202 => ((lookasideref01_Bit.f k x0 43).bind fun t203 => (if t202 = t203 then (lookasideref02_Hole.l0 k x0 (wrap64 (x3 + 1))) else (some true)))) else (some false)
def lookasideref02_Hole.f (k : Nat) (a0 : Int) : Option (Bool) := lookasideref02_Hole.l0 k a0 44
set_option maxHeartbeats 8000000 in
set_option maxRecDepth 100000 in
theorem lookasideref02_Hole.calls (k : Nat) (a0 : Int) (r : Bool) (w : World) (h : lookasideref02_Hole.f k a0 = some r) :
    Calls Try.prog 56 #[.int .u64 a0] w fun e w' => e = .returned (.bool r) ∧ Drawn0 w w' := by
  have H : (lookasideref02_Hole.l0 k a0 44) = some r := h
  clear h
  have H' := Aside0.mk H
  clear H
  go_enter Try.func56, Try.ntmps56
  go_wp2
  go_loopg [3] k (fun kq v3 w' => ∃ (x3_1 : Int), v3 = .int .i64 x3_1 ∧ Aside0 (lookasideref02_Hole.l0 kq a0 x3_1 = some r) ∧ Aside0 (kq ≤ k) ∧ Drawn0 w w')
  case atStart => exact ⟨(44), (by first | rfl | (simp; done) | (simp [*]; done)), H', ⟨Nat.le_refl _⟩, by repeat (first | exact Drawn0.refl _ | apply Drawn0.step)⟩
  case round =>
    clear H'
    obtain ⟨x3_1, rfl, HA, HK1, ⟨m1, rfl⟩⟩ := hrel
    cases gk with
    | zero => exact absurd HA.out (by simp [lookasideref02_Hole.l0])
    | succ k1 =>
      have H := HA.out
      clear HA
      simp only [lookasideref02_Hole.l0] at H
      by_cases c2 : x3_1 < 64
      · rw [if_pos c2] at H
        have c2b0 : decide (x3_1 < 64) = true := decide_eq_true c2
        clear c2
        replace H := Option.bind_eq_some_iff.mp H
        obtain ⟨t202, A30, H⟩ := H
        replace H : ((lookasideref01_Bit.f k1 a0 43).bind fun t203 => (if t202 = t203 then (lookasideref02_Hole.l0 k1 a0 (wrap64 (x3_1 + 1))) else (some true))) = some r := H
        have A3 := Aside0.mk A30
        clear A30
        replace H := Option.bind_eq_some_iff.mp H
        obtain ⟨t203, A40, H⟩ := H
        replace H : (if t202 = t203 then (lookasideref02_Hole.l0 k1 a0 (wrap64 (x3_1 + 1))) else (some true)) = some r := H
        have A4 := Aside0.mk A40
        clear A40
        by_cases c5 : t202 = t203
        · rw [if_pos c5] at H
          have c5b0 : (t202 == t203) = true := beq_iff_eq.mpr c5
          have c5b1 : (t202 != t203) = false := bne_eq_false_iff_eq.mpr c5
          clear c5
          have H' := Aside0.mk H
          clear H
          go_wp2_with (first | ((with_reducible refine gate_callee (f := 50) rfl ?_); refine goesL_ (some 10) rfl rfl Try.func50 (by kernel_rfl) rfl #[.int .u64 a0, .int .i64 x3_1] rfl (by (try simp only [List.map_toArray, List.map_cons, List.map_nil]); first | done | rfl | (simp only [List.length_drop, List.length_take]; rfl)) ?_; (with_reducible refine (lookasideref01_Bit.calls k1 a0 x3_1 t202 _ A3.out).mono ?_); rintro e w' ⟨rfl, ⟨nd, rfl⟩⟩; refine ⟨_, rfl, ?_⟩) | ((with_reducible refine gate_callee (f := 50) rfl ?_); refine goesL_ (some 12) rfl rfl Try.func50 (by kernel_rfl) rfl #[.int .u64 a0, .int .i64 43] rfl (by (try simp only [List.map_toArray, List.map_cons, List.map_nil]); first | done | rfl | (simp only [List.length_drop, List.length_take]; rfl)) ?_; (with_reducible refine (lookasideref01_Bit.calls k1 a0 43 t203 _ A4.out).mono ?_); rintro e w' ⟨rfl, ⟨nd, rfl⟩⟩; refine ⟨_, rfl, ?_⟩))
          go_roundg k1
          case measure => have := HK1.out; omega
          case rel => exact ⟨(wrap64 (x3_1 + 1)), (by first | rfl | (simp; done) | (simp [*]; done)), H', ⟨by have := HK1.out; omega⟩, by repeat (first | exact Drawn0.refl _ | apply Drawn0.step)⟩
        · rw [if_neg c5] at H
          have c5b0 : (t202 == t203) = false := beq_eq_false_iff_ne.mpr c5
          have c5b1 : (t202 != t203) = true := bne_iff_ne.mpr c5
          obtain rfl := Option.some.inj H
          go_wp2_with (first | ((with_reducible refine gate_callee (f := 50) rfl ?_); refine goesL_ (some 10) rfl rfl Try.func50 (by kernel_rfl) rfl #[.int .u64 a0, .int .i64 x3_1] rfl (by (try simp only [List.map_toArray, List.map_cons, List.map_nil]); first | done | rfl | (simp only [List.length_drop, List.length_take]; rfl)) ?_; (with_reducible refine (lookasideref01_Bit.calls k1 a0 x3_1 t202 _ A3.out).mono ?_); rintro e w' ⟨rfl, ⟨nd, rfl⟩⟩; refine ⟨_, rfl, ?_⟩) | ((with_reducible refine gate_callee (f := 50) rfl ?_); refine goesL_ (some 12) rfl rfl Try.func50 (by kernel_rfl) rfl #[.int .u64 a0, .int .i64 43] rfl (by (try simp only [List.map_toArray, List.map_cons, List.map_nil]); first | done | rfl | (simp only [List.length_drop, List.length_take]; rfl)) ?_; (with_reducible refine (lookasideref01_Bit.calls k1 a0 43 t203 _ A4.out).mono ?_); rintro e w' ⟨rfl, ⟨nd, rfl⟩⟩; refine ⟨_, rfl, ?_⟩))
          go_ret
          exact ⟨by first | rfl | (simp; done) | (simp [*]; done), by repeat (first | exact Drawn0.refl _ | apply Drawn0.step)⟩
      · rw [if_neg c2] at H
        have c2b0 : decide (x3_1 < 64) = false := decide_eq_false c2
        clear c2
        obtain rfl := Option.some.inj H
        go_wp2
        go_ret
        exact ⟨by first | rfl | (simp; done) | (simp [*]; done), by repeat (first | exact Drawn0.refl _ | apply Drawn0.step)⟩

/-- THE ONE PURE STATEMENT of lookasideref02_Hole: yours. -/
def lookasideref02_Hole.Pure : Prop := ∀ (a0 : Int), (Lit.int .u64 a0).wf = true → ∃ k, lookasideref02_Hole.f k a0 = some true
theorem lookasideref02_Hole.walk (P : lookasideref02_Hole.Pure) (a0 : Int) (w : World) (w0 : (Lit.int .u64 a0).wf = true) :
    Calls Try.prog 56 #[.int .u64 a0] w fun e w' => e = .returned (.bool true) ∧ Below w.heap.size w w' := by
  obtain ⟨k, h⟩ := P a0 w0
  refine (lookasideref02_Hole.calls k a0 true w h).mono ?_
  rintro e w' ⟨rfl, hd⟩
  exact ⟨rfl, hd.below⟩

/-! ### lookasideref02_Offset: function 59 -/
end Go.Proofs.Ytalmemcidbmdgaa.PM

-- written by xprint.py, a program of this session, over the kit's print (functions told by hand: see the texts)
namespace Go.Proofs.Ytalmemcidbmdgaa.PM
open Go.RowKit Go.Proofs.YtalmemcidbmdgaaW.PrintWords Go.Proofs.YtalmemcidbmdgaaW.PrintLast Go.Proofs.YtalmemcidbmdgaaW.PrintMore
attribute [local go_sem] max2_int min2_int max_two min_two max_three min_three max_four min_four   -- for this text's walks alone
set_option linter.unusedVariables false
set_option linter.unusedSimpArgs false

/-! ### lookasideref09_Judge: function 57 -/
end Go.Proofs.Ytalmemcidbmdgaa.PM

-- written by xprint.py, a program of this session, over the kit's print (functions told by hand: see the texts)
namespace Go.Proofs.Ytalmemcidbmdgaa.PM
open Go.RowKit Go.Proofs.YtalmemcidbmdgaaW.PrintWords Go.Proofs.YtalmemcidbmdgaaW.PrintLast Go.Proofs.YtalmemcidbmdgaaW.PrintMore
attribute [local go_sem] max2_int min2_int max_two min_two max_three min_three max_four min_four   -- for this text's walks alone
set_option linter.unusedVariables false
set_option linter.unusedSimpArgs false

/-! ### field_May: function 109 -/
def field_May.f (a0 : Int) (a1 : Int) : Option (Bool) := if a0 ≥ 0 then (if a1 ≥ 1 then (if a1 ≤ 64 then (some (decide (a0 ≤ (wrap64 (64 - a1))))) else (some false)) else (some false)) else (some false)
set_option maxHeartbeats 8000000 in
set_option maxRecDepth 100000 in
theorem field_May.calls (a0 : Int) (a1 : Int) (r : Bool) (w : World) (h : field_May.f a0 a1 = some r) :
    Calls Try.prog 109 #[.int .i64 a0, .int .i64 a1] w fun e w' => e = .returned (.bool r) ∧ Drawn0 w w' := by
  have H : (if a0 ≥ 0 then (if a1 ≥ 1 then (if a1 ≤ 64 then (some (decide (a0 ≤ (wrap64 (64 - a1))))) else (some false)) else (some false)) else (some false)) = some r := h
  clear h
  by_cases c3 : a0 ≥ 0
  · rw [if_pos c3] at H
    have c3b0 : decide (0 ≤ a0) = true := decide_eq_true c3
    clear c3
    by_cases c4 : a1 ≥ 1
    · rw [if_pos c4] at H
      have c4b0 : decide (1 ≤ a1) = true := decide_eq_true c4
      clear c4
      by_cases c5 : a1 ≤ 64
      · rw [if_pos c5] at H
        have c5b0 : decide (a1 ≤ 64) = true := decide_eq_true c5
        clear c5
        obtain rfl := Option.some.inj H
        go_enter Try.func109, Try.ntmps109
        go_wp2
        go_ret
        exact ⟨by first | rfl | (simp; done) | (simp [*]; done), by repeat (first | exact Drawn0.refl _ | apply Drawn0.step)⟩
      · rw [if_neg c5] at H
        have c5b0 : decide (a1 ≤ 64) = false := decide_eq_false c5
        clear c5
        obtain rfl := Option.some.inj H
        go_enter Try.func109, Try.ntmps109
        go_wp2
        go_ret
        exact ⟨by first | rfl | (simp; done) | (simp [*]; done), by repeat (first | exact Drawn0.refl _ | apply Drawn0.step)⟩
    · rw [if_neg c4] at H
      have c4b0 : decide (1 ≤ a1) = false := decide_eq_false c4
      clear c4
      obtain rfl := Option.some.inj H
      go_enter Try.func109, Try.ntmps109
      go_wp2
      go_ret
      exact ⟨by first | rfl | (simp; done) | (simp [*]; done), by repeat (first | exact Drawn0.refl _ | apply Drawn0.step)⟩
  · rw [if_neg c3] at H
    have c3b0 : decide (0 ≤ a0) = false := decide_eq_false c3
    clear c3
    obtain rfl := Option.some.inj H
    go_enter Try.func109, Try.ntmps109
    go_wp2
    go_ret
    exact ⟨by first | rfl | (simp; done) | (simp [*]; done), by repeat (first | exact Drawn0.refl _ | apply Drawn0.step)⟩

/-! ### field_Mask: function 110 -/
def field_Mask.f (a0 : Int) (a1 : Int) : Option (Int) := (field_May.f a0 a1).bind fun t208 => (if t208 = true then (if 0 ≤ (wrap64 (64 - a1)) then (if 0 ≤ a0 then (some (shl .u64 (shr .u64 18446744073709551615 (wrap64 (64 - a1))) a0)) else (none)) else (none)) else (some 0))
set_option maxHeartbeats 8000000 in
set_option maxRecDepth 100000 in
theorem field_Mask.calls (a0 : Int) (a1 : Int) (r : Int) (w : World) (h : field_Mask.f a0 a1 = some r) :
    Calls Try.prog 110 #[.int .i64 a0, .int .i64 a1] w fun e w' => e = .returned (.int .u64 r) ∧ Drawn0 w w' := by
  have H : ((field_May.f a0 a1).bind fun t208 => (if t208 = true then (if 0 ≤ (wrap64 (64 - a1)) then (if 0 ≤ a0 then (some (shl .u64 (shr .u64 18446744073709551615 (wrap64 (64 - a1))) a0)) else (none)) else (none)) else (some 0))) = some r := h
  clear h
  replace H := Option.bind_eq_some_iff.mp H
  obtain ⟨t208, A30, H⟩ := H
  replace H : (if t208 = true then (if 0 ≤ (wrap64 (64 - a1)) then (if 0 ≤ a0 then (some (shl .u64 (shr .u64 18446744073709551615 (wrap64 (64 - a1))) a0)) else (none)) else (none)) else (some 0)) = some r := H
  have A3 := Aside0.mk A30
  clear A30
  by_cases c4 : t208 = true
  · subst c4
    have H1 : (if 0 ≤ (wrap64 (64 - a1)) then (if 0 ≤ a0 then (some (shl .u64 (shr .u64 18446744073709551615 (wrap64 (64 - a1))) a0)) else (none)) else (none)) = some r := by rw [if_pos rfl] at H; exact H
    clear H
    have H := H1
    clear H1
    obtain ⟨ji5, hji5⟩ : ∃ j_ : Int, (wrap64 (64 - a1)) = j_ := ⟨_, rfl⟩
    replace H : (if 0 ≤ (ji5) then (if 0 ≤ a0 then (some (shl .u64 (shr .u64 18446744073709551615 (ji5)) a0)) else (none)) else (none)) = some r := by first | (rw [hji5] at H; exact H) | (simp only [hji5] at H ⊢; exact H)
    (try rw [hji5] at A3)
    have hji5w : (IntKind.i64.wrap (64 - a1)) = ji5 := (i64_w _).trans hji5
    by_cases c6 : 0 ≤ (ji5)
    · rw [if_pos c6] at H
      have c6b0 := eq_true c6
      have c6b1 : decide (0 ≤ (ji5)) = true := decide_eq_true c6
      clear c6
      obtain ⟨ji7, hji7⟩ : ∃ j_ : Int, (shr .u64 18446744073709551615 (ji5)) = j_ := ⟨_, rfl⟩
      replace H : (if 0 ≤ a0 then (some (shl .u64 (ji7) a0)) else (none)) = some r := by first | (rw [hji7] at H; exact H) | (simp only [hji7] at H ⊢; exact H)
      (try rw [hji7] at A3)
      have hji7_ : (18446744073709551615 / 2 ^ min (ji5).toNat 64) = ji7 := hji7
      have hji7z : (ji5) ≤ 64 → (18446744073709551615 / 2 ^ (ji5).toNat) = ji7 := shr_small hji7
      by_cases c8 : 0 ≤ a0
      · rw [if_pos c8] at H
        have c8b0 := eq_true c8
        have c8b1 : decide (0 ≤ a0) = true := decide_eq_true c8
        clear c8
        obtain ⟨ji9, hji9⟩ : ∃ j_ : Int, (shl .u64 (ji7) a0) = j_ := ⟨_, rfl⟩
        replace H : (some ji9) = some r := by first | (rw [hji9] at H; exact H) | (simp only [hji9] at H ⊢; exact H)
        (try rw [hji9] at A3)
        have hji9_ : (IntKind.u64.wrap ((ji7) * 2 ^ min a0.toNat 64)) = ji9 := hji9
        have hji9z : a0 ≤ 64 → (IntKind.u64.wrap ((ji7) * 2 ^ a0.toNat)) = ji9 := shl_small hji9
        obtain rfl := Option.some.inj H
        go_enter Try.func110, Try.ntmps110
        go_wp2_with (first | ((with_reducible refine gate_callee (f := 109) rfl ?_); refine goesL_ (some 7) rfl rfl Try.func109 (by kernel_rfl) rfl #[.int .i64 a0, .int .i64 a1] rfl (by (try simp only [List.map_toArray, List.map_cons, List.map_nil]); first | done | rfl | (simp only [List.length_drop, List.length_take]; rfl)) ?_; (with_reducible refine (field_May.calls a0 a1 true _ A3.out).mono ?_); rintro e w' ⟨rfl, ⟨nd, rfl⟩⟩; refine ⟨_, rfl, ?_⟩))
        go_ret
        exact ⟨by first | rfl | (simp; done) | (simp only [← hji5, ← hji7, ← hji9] <;> (first | rfl | simp)) | (simp [*]; done), by repeat (first | exact Drawn0.refl _ | apply Drawn0.step)⟩
      · rw [if_neg c8] at H
        exact absurd H (by simp)
    · rw [if_neg c6] at H
      exact absurd H (by simp)
  · replace c4 := Bool.eq_false_iff.mpr c4
    subst c4
    have H1 : (some 0) = some r := by rw [if_neg (show ¬ (false = true) by decide)] at H; exact H
    clear H
    have H := H1
    clear H1
    obtain rfl := Option.some.inj H
    go_enter Try.func110, Try.ntmps110
    go_wp2_with (first | ((with_reducible refine gate_callee (f := 109) rfl ?_); refine goesL_ (some 7) rfl rfl Try.func109 (by kernel_rfl) rfl #[.int .i64 a0, .int .i64 a1] rfl (by (try simp only [List.map_toArray, List.map_cons, List.map_nil]); first | done | rfl | (simp only [List.length_drop, List.length_take]; rfl)) ?_; (with_reducible refine (field_May.calls a0 a1 false _ A3.out).mono ?_); rintro e w' ⟨rfl, ⟨nd, rfl⟩⟩; refine ⟨_, rfl, ?_⟩))
    go_ret
    exact ⟨by first | rfl | (simp; done) | (simp [*]; done), by repeat (first | exact Drawn0.refl _ | apply Drawn0.step)⟩

/-! ### field_Get: function 89 -/
def field_Get.f (a0 : Int) (a1 : Int) (a2 : Int) : Option (Int) := (field_May.f a1 a2).bind fun t209 => (if t209 = true then ((field_Mask.f a1 a2).bind fun t210 => (if 0 ≤ a1 then (some (shr .u64 (Go.bits .and .u64 a0 t210) a1)) else (none))) else (some 0))
set_option maxHeartbeats 8000000 in
set_option maxRecDepth 100000 in
theorem field_Get.calls (a0 : Int) (a1 : Int) (a2 : Int) (r : Int) (w : World) (h : field_Get.f a0 a1 a2 = some r) :
    Calls Try.prog 89 #[.int .u64 a0, .int .i64 a1, .int .i64 a2] w fun e w' => e = .returned (.int .u64 r) ∧ Drawn0 w w' := by
  have H : ((field_May.f a1 a2).bind fun t209 => (if t209 = true then ((field_Mask.f a1 a2).bind fun t210 => (if 0 ≤ a1 then (some (shr .u64 (Go.bits .and .u64 a0 t210) a1)) else (none))) else (some 0))) = some r := h
  clear h
  replace H := Option.bind_eq_some_iff.mp H
  obtain ⟨t209, A40, H⟩ := H
  replace H : (if t209 = true then ((field_Mask.f a1 a2).bind fun t210 => (if 0 ≤ a1 then (some (shr .u64 (Go.bits .and .u64 a0 t210) a1)) else (none))) else (some 0)) = some r := H
  have A4 := Aside0.mk A40
  clear A40
  by_cases c5 : t209 = true
  · subst c5
    have H1 : ((field_Mask.f a1 a2).bind fun t210 => (if 0 ≤ a1 then (some (shr .u64 (Go.bits .and .u64 a0 t210) a1)) else (none))) = some r := by rw [if_pos rfl] at H; exact H
    clear H
    have H := H1
    clear H1
    replace H := Option.bind_eq_some_iff.mp H
    obtain ⟨t210, A60, H⟩ := H
    replace H : (if 0 ≤ a1 then (some (shr .u64 (Go.bits .and .u64 a0 t210) a1)) else (none)) = some r := H
    have A6 := Aside0.mk A60
    clear A60
    by_cases c7 : 0 ≤ a1
    · rw [if_pos c7] at H
      have c7b0 := eq_true c7
      have c7b1 : decide (0 ≤ a1) = true := decide_eq_true c7
      clear c7
      obtain ⟨ji8, hji8⟩ : ∃ j_ : Int, (shr .u64 (Go.bits .and .u64 a0 t210) a1) = j_ := ⟨_, rfl⟩
      replace H : (some ji8) = some r := by first | (rw [hji8] at H; exact H) | (simp only [hji8] at H ⊢; exact H)
      (try rw [hji8] at A4)
      (try rw [hji8] at A6)
      have hji8_ : ((Go.bits .and .u64 a0 t210) / 2 ^ min a1.toNat 64) = ji8 := hji8
      have hji8z : a1 ≤ 64 → ((Go.bits .and .u64 a0 t210) / 2 ^ a1.toNat) = ji8 := shr_small hji8
      obtain rfl := Option.some.inj H
      go_enter Try.func89, Try.ntmps89
      go_wp2_with (first | ((with_reducible refine gate_callee (f := 109) rfl ?_); refine goesL_ (some 9) rfl rfl Try.func109 (by kernel_rfl) rfl #[.int .i64 a1, .int .i64 a2] rfl (by (try simp only [List.map_toArray, List.map_cons, List.map_nil]); first | done | rfl | (simp only [List.length_drop, List.length_take]; rfl)) ?_; (with_reducible refine (field_May.calls a1 a2 true _ A4.out).mono ?_); rintro e w' ⟨rfl, ⟨nd, rfl⟩⟩; refine ⟨_, rfl, ?_⟩) | ((with_reducible refine gate_callee (f := 110) rfl ?_); refine goesL_ (some 14) rfl rfl Try.func110 (by kernel_rfl) rfl #[.int .i64 a1, .int .i64 a2] rfl (by (try simp only [List.map_toArray, List.map_cons, List.map_nil]); first | done | rfl | (simp only [List.length_drop, List.length_take]; rfl)) ?_; (with_reducible refine (field_Mask.calls a1 a2 t210 _ A6.out).mono ?_); rintro e w' ⟨rfl, ⟨nd, rfl⟩⟩; refine ⟨_, rfl, ?_⟩))
      go_ret
      exact ⟨by first | rfl | (simp; done) | (simp only [← hji8] <;> (first | rfl | simp)) | (simp [*]; done), by repeat (first | exact Drawn0.refl _ | apply Drawn0.step)⟩
    · rw [if_neg c7] at H
      exact absurd H (by simp)
  · replace c5 := Bool.eq_false_iff.mpr c5
    subst c5
    have H1 : (some 0) = some r := by rw [if_neg (show ¬ (false = true) by decide)] at H; exact H
    clear H
    have H := H1
    clear H1
    obtain rfl := Option.some.inj H
    go_enter Try.func89, Try.ntmps89
    go_wp2_with (first | ((with_reducible refine gate_callee (f := 109) rfl ?_); refine goesL_ (some 9) rfl rfl Try.func109 (by kernel_rfl) rfl #[.int .i64 a1, .int .i64 a2] rfl (by (try simp only [List.map_toArray, List.map_cons, List.map_nil]); first | done | rfl | (simp only [List.length_drop, List.length_take]; rfl)) ?_; (with_reducible refine (field_May.calls a1 a2 false _ A4.out).mono ?_); rintro e w' ⟨rfl, ⟨nd, rfl⟩⟩; refine ⟨_, rfl, ?_⟩))
    go_ret
    exact ⟨by first | rfl | (simp; done) | (simp [*]; done), by repeat (first | exact Drawn0.refl _ | apply Drawn0.step)⟩

/-! ### page_Hole: function 68 -/
def page_Hole.f (a0 : Int) : Option (Bool) := (field_Get.f a0 43 21).bind fun t211 => (if t211 = 0 then (some false) else (some (t211 != 2097151)))
set_option maxHeartbeats 8000000 in
set_option maxRecDepth 100000 in
theorem page_Hole.calls (a0 : Int) (r : Bool) (w : World) (h : page_Hole.f a0 = some r) :
    Calls Try.prog 68 #[.int .u64 a0] w fun e w' => e = .returned (.bool r) ∧ Drawn0 w w' := by
  have H : ((field_Get.f a0 43 21).bind fun t211 => (if t211 = 0 then (some false) else (some (t211 != 2097151)))) = some r := h
  clear h
  replace H := Option.bind_eq_some_iff.mp H
  obtain ⟨t211, A20, H⟩ := H
  replace H : (if t211 = 0 then (some false) else (some (t211 != 2097151))) = some r := H
  have A2 := Aside0.mk A20
  clear A20
  by_cases c3 : t211 = 0
  · rw [if_pos c3] at H
    have c3b0 : (t211 == 0) = true := beq_iff_eq.mpr c3
    have c3b1 : (t211 != 0) = false := bne_eq_false_iff_eq.mpr c3
    clear c3
    obtain rfl := Option.some.inj H
    go_enter Try.func68, Try.ntmps68
    go_wp2_with (first | ((with_reducible refine gate_callee (f := 89) rfl ?_); refine goesL_ (some 5) rfl rfl Try.func89 (by kernel_rfl) rfl #[.int .u64 a0, .int .i64 43, .int .i64 21] rfl (by (try simp only [List.map_toArray, List.map_cons, List.map_nil]); first | done | rfl | (simp only [List.length_drop, List.length_take]; rfl)) ?_; (with_reducible refine (field_Get.calls a0 43 21 t211 _ A2.out).mono ?_); rintro e w' ⟨rfl, ⟨nd, rfl⟩⟩; refine ⟨_, rfl, ?_⟩))
    go_ret
    exact ⟨by first | rfl | (simp; done) | (simp [*]; done), by repeat (first | exact Drawn0.refl _ | apply Drawn0.step)⟩
  · rw [if_neg c3] at H
    have c3b0 : (t211 == 0) = false := beq_eq_false_iff_ne.mpr c3
    have c3b1 : (t211 != 0) = true := bne_iff_ne.mpr c3
    obtain rfl := Option.some.inj H
    go_enter Try.func68, Try.ntmps68
    go_wp2_with (first | ((with_reducible refine gate_callee (f := 89) rfl ?_); refine goesL_ (some 5) rfl rfl Try.func89 (by kernel_rfl) rfl #[.int .u64 a0, .int .i64 43, .int .i64 21] rfl (by (try simp only [List.map_toArray, List.map_cons, List.map_nil]); first | done | rfl | (simp only [List.length_drop, List.length_take]; rfl)) ?_; (with_reducible refine (field_Get.calls a0 43 21 t211 _ A2.out).mono ?_); rintro e w' ⟨rfl, ⟨nd, rfl⟩⟩; refine ⟨_, rfl, ?_⟩))
    go_ret
    exact ⟨by first | rfl | (simp; done) | (simp [*]; done), by repeat (first | exact Drawn0.refl _ | apply Drawn0.step)⟩

/-- THE ONE PURE STATEMENT of page_Hole: yours. -/
def page_Hole.Pure : Prop := ∀ (a0 : Int), (Lit.int .u64 a0).wf = true → page_Hole.f a0 = some true
theorem page_Hole.walk (P : page_Hole.Pure) (a0 : Int) (w : World) (w0 : (Lit.int .u64 a0).wf = true) :
    Calls Try.prog 68 #[.int .u64 a0] w fun e w' => e = .returned (.bool true) ∧ Below w.heap.size w w' := by
  have h := P a0 w0
  refine (page_Hole.calls a0 true w h).mono ?_
  rintro e w' ⟨rfl, hd⟩
  exact ⟨rfl, hd.below⟩

/-! ### page_May: function 69 -/
def page_May.f (a0 : Int) : Option (Bool) := if a0 ≥ 0 then (some (decide (a0 < 4))) else (some false)
set_option maxHeartbeats 8000000 in
set_option maxRecDepth 100000 in
theorem page_May.calls (a0 : Int) (r : Bool) (w : World) (h : page_May.f a0 = some r) :
    Calls Try.prog 69 #[.int .i64 a0] w fun e w' => e = .returned (.bool r) ∧ Drawn0 w w' := by
  have H : (if a0 ≥ 0 then (some (decide (a0 < 4))) else (some false)) = some r := h
  clear h
  by_cases c2 : a0 ≥ 0
  · rw [if_pos c2] at H
    have c2b0 : decide (0 ≤ a0) = true := decide_eq_true c2
    clear c2
    obtain rfl := Option.some.inj H
    go_enter Try.func69, Try.ntmps69
    go_wp2
    go_ret
    exact ⟨by first | rfl | (simp; done) | (simp [*]; done), by repeat (first | exact Drawn0.refl _ | apply Drawn0.step)⟩
  · rw [if_neg c2] at H
    have c2b0 : decide (0 ≤ a0) = false := decide_eq_false c2
    clear c2
    obtain rfl := Option.some.inj H
    go_enter Try.func69, Try.ntmps69
    go_wp2
    go_ret
    exact ⟨by first | rfl | (simp; done) | (simp [*]; done), by repeat (first | exact Drawn0.refl _ | apply Drawn0.step)⟩

end Go.Proofs.Ytalmemcidbmdgaa.PM

-- written by xprint.py, a program of this session, over the kit's print (functions told by hand: see the texts)
namespace Go.Proofs.Ytalmemcidbmdgaa.PM
open Go.RowKit Go.Proofs.YtalmemcidbmdgaaW.PrintWords Go.Proofs.YtalmemcidbmdgaaW.PrintLast Go.Proofs.YtalmemcidbmdgaaW.PrintMore
attribute [local go_sem] max2_int min2_int max_two min_two max_three min_three max_four min_four   -- for this text's walks alone
set_option linter.unusedVariables false
set_option linter.unusedSimpArgs false

/-! ### page_Bits: function 106 -/
def page_Bits.f (a0 : Int) : Option (Int) := (page_May.f a0).bind fun t212 => (if t212 = true then (some (wrap64 (13 + (wrap64 (3 * a0))))) else (some 0))
set_option maxHeartbeats 8000000 in
set_option maxRecDepth 100000 in
theorem page_Bits.calls (a0 : Int) (r : Int) (w : World) (h : page_Bits.f a0 = some r) :
    Calls Try.prog 106 #[.int .i64 a0] w fun e w' => e = .returned (.int .i64 r) ∧ Drawn0 w w' := by
  have H : ((page_May.f a0).bind fun t212 => (if t212 = true then (some (wrap64 (13 + (wrap64 (3 * a0))))) else (some 0))) = some r := h
  clear h
  replace H := Option.bind_eq_some_iff.mp H
  obtain ⟨t212, A20, H⟩ := H
  replace H : (if t212 = true then (some (wrap64 (13 + (wrap64 (3 * a0))))) else (some 0)) = some r := H
  have A2 := Aside0.mk A20
  clear A20
  by_cases c3 : t212 = true
  · subst c3
    have H1 : (some (wrap64 (13 + (wrap64 (3 * a0))))) = some r := by rw [if_pos rfl] at H; exact H
    clear H
    have H := H1
    clear H1
    obtain rfl := Option.some.inj H
    go_enter Try.func106, Try.ntmps106
    go_wp2_with (first | ((with_reducible refine gate_callee (f := 69) rfl ?_); refine goesL_ (some 4) rfl rfl Try.func69 (by kernel_rfl) rfl #[.int .i64 a0] rfl (by (try simp only [List.map_toArray, List.map_cons, List.map_nil]); first | done | rfl | (simp only [List.length_drop, List.length_take]; rfl)) ?_; (with_reducible refine (page_May.calls a0 true _ A2.out).mono ?_); rintro e w' ⟨rfl, ⟨nd, rfl⟩⟩; refine ⟨_, rfl, ?_⟩))
    go_ret
    exact ⟨by first | rfl | (simp; done) | (simp [*]; done), by repeat (first | exact Drawn0.refl _ | apply Drawn0.step)⟩
  · replace c3 := Bool.eq_false_iff.mpr c3
    subst c3
    have H1 : (some 0) = some r := by rw [if_neg (show ¬ (false = true) by decide)] at H; exact H
    clear H
    have H := H1
    clear H1
    obtain rfl := Option.some.inj H
    go_enter Try.func106, Try.ntmps106
    go_wp2_with (first | ((with_reducible refine gate_callee (f := 69) rfl ?_); refine goesL_ (some 4) rfl rfl Try.func69 (by kernel_rfl) rfl #[.int .i64 a0] rfl (by (try simp only [List.map_toArray, List.map_cons, List.map_nil]); first | done | rfl | (simp only [List.length_drop, List.length_take]; rfl)) ?_; (with_reducible refine (page_May.calls a0 false _ A2.out).mono ?_); rintro e w' ⟨rfl, ⟨nd, rfl⟩⟩; refine ⟨_, rfl, ?_⟩))
    go_ret
    exact ⟨by first | rfl | (simp; done) | (simp [*]; done), by repeat (first | exact Drawn0.refl _ | apply Drawn0.step)⟩

/-! ### page_Offset: function 80 -/
def page_Offset.f (a0 : Int) (a1 : Int) : Option (Int) := (page_May.f a1).bind fun t213 => (if t213 = true then ((page_Bits.f a1).bind fun t214 => ((field_Get.f a0 0 t214).bind fun t215 => (some t215))) else (some 0))
set_option maxHeartbeats 8000000 in
set_option maxRecDepth 100000 in
theorem page_Offset.calls (a0 : Int) (a1 : Int) (r : Int) (w : World) (h : page_Offset.f a0 a1 = some r) :
    Calls Try.prog 80 #[.int .u64 a0, .int .i64 a1] w fun e w' => e = .returned (.int .u64 r) ∧ Drawn0 w w' := by
  have H : ((page_May.f a1).bind fun t213 => (if t213 = true then ((page_Bits.f a1).bind fun t214 => ((field_Get.f a0 0 t214).bind fun t215 => (some t215))) else (some 0))) = some r := h
  clear h
  replace H := Option.bind_eq_some_iff.mp H
  obtain ⟨t213, A30, H⟩ := H
  replace H : (if t213 = true then ((page_Bits.f a1).bind fun t214 => ((field_Get.f a0 0 t214).bind fun t215 => (some t215))) else (some 0)) = some r := H
  have A3 := Aside0.mk A30
  clear A30
  by_cases c4 : t213 = true
  · subst c4
    have H1 : ((page_Bits.f a1).bind fun t214 => ((field_Get.f a0 0 t214).bind fun t215 => (some t215))) = some r := by rw [if_pos rfl] at H; exact H
    clear H
    have H := H1
    clear H1
    replace H := Option.bind_eq_some_iff.mp H
    obtain ⟨t214, A50, H⟩ := H
    replace H : ((field_Get.f a0 0 t214).bind fun t215 => (some t215)) = some r := H
    have A5 := Aside0.mk A50
    clear A50
    replace H := Option.bind_eq_some_iff.mp H
    obtain ⟨t215, A60, H⟩ := H
    replace H : (some t215) = some r := H
    have A6 := Aside0.mk A60
    clear A60
    obtain rfl := Option.some.inj H
    go_enter Try.func80, Try.ntmps80
    go_wp2_with (first | ((with_reducible refine gate_callee (f := 69) rfl ?_); refine goesL_ (some 6) rfl rfl Try.func69 (by kernel_rfl) rfl #[.int .i64 a1] rfl (by (try simp only [List.map_toArray, List.map_cons, List.map_nil]); first | done | rfl | (simp only [List.length_drop, List.length_take]; rfl)) ?_; (with_reducible refine (page_May.calls a1 true _ A3.out).mono ?_); rintro e w' ⟨rfl, ⟨nd, rfl⟩⟩; refine ⟨_, rfl, ?_⟩) | ((with_reducible refine gate_callee (f := 106) rfl ?_); refine goesL_ (some 10) rfl rfl Try.func106 (by kernel_rfl) rfl #[.int .i64 a1] rfl (by (try simp only [List.map_toArray, List.map_cons, List.map_nil]); first | done | rfl | (simp only [List.length_drop, List.length_take]; rfl)) ?_; (with_reducible refine (page_Bits.calls a1 t214 _ A5.out).mono ?_); rintro e w' ⟨rfl, ⟨nd, rfl⟩⟩; refine ⟨_, rfl, ?_⟩) | ((with_reducible refine gate_callee (f := 89) rfl ?_); refine goesL_ (some 11) rfl rfl Try.func89 (by kernel_rfl) rfl #[.int .u64 a0, .int .i64 0, .int .i64 t214] rfl (by (try simp only [List.map_toArray, List.map_cons, List.map_nil]); first | done | rfl | (simp only [List.length_drop, List.length_take]; rfl)) ?_; (with_reducible refine (field_Get.calls a0 0 t214 t215 _ A6.out).mono ?_); rintro e w' ⟨rfl, ⟨nd, rfl⟩⟩; refine ⟨_, rfl, ?_⟩))
    go_ret
    exact ⟨by first | rfl | (simp; done) | (simp [*]; done), by repeat (first | exact Drawn0.refl _ | apply Drawn0.step)⟩
  · replace c4 := Bool.eq_false_iff.mpr c4
    subst c4
    have H1 : (some 0) = some r := by rw [if_neg (show ¬ (false = true) by decide)] at H; exact H
    clear H
    have H := H1
    clear H1
    obtain rfl := Option.some.inj H
    go_enter Try.func80, Try.ntmps80
    go_wp2_with (first | ((with_reducible refine gate_callee (f := 69) rfl ?_); refine goesL_ (some 6) rfl rfl Try.func69 (by kernel_rfl) rfl #[.int .i64 a1] rfl (by (try simp only [List.map_toArray, List.map_cons, List.map_nil]); first | done | rfl | (simp only [List.length_drop, List.length_take]; rfl)) ?_; (with_reducible refine (page_May.calls a1 false _ A3.out).mono ?_); rintro e w' ⟨rfl, ⟨nd, rfl⟩⟩; refine ⟨_, rfl, ?_⟩))
    go_ret
    exact ⟨by first | rfl | (simp; done) | (simp [*]; done), by repeat (first | exact Drawn0.refl _ | apply Drawn0.step)⟩

/-! ### page_Base: function 79 -/
def page_Base.f (a0 : Int) (a1 : Int) : Option (Int) := (page_May.f a1).bind fun t216 => (if t216 = true then ((page_Offset.f a0 a1).bind fun t217 => (some (IntKind.u64.wrap (a0 - t217)))) else (some 0))
set_option maxHeartbeats 8000000 in
set_option maxRecDepth 100000 in
theorem page_Base.calls (a0 : Int) (a1 : Int) (r : Int) (w : World) (h : page_Base.f a0 a1 = some r) :
    Calls Try.prog 79 #[.int .u64 a0, .int .i64 a1] w fun e w' => e = .returned (.int .u64 r) ∧ Drawn0 w w' := by
  have H : ((page_May.f a1).bind fun t216 => (if t216 = true then ((page_Offset.f a0 a1).bind fun t217 => (some (IntKind.u64.wrap (a0 - t217)))) else (some 0))) = some r := h
  clear h
  replace H := Option.bind_eq_some_iff.mp H
  obtain ⟨t216, A30, H⟩ := H
  replace H : (if t216 = true then ((page_Offset.f a0 a1).bind fun t217 => (some (IntKind.u64.wrap (a0 - t217)))) else (some 0)) = some r := H
  have A3 := Aside0.mk A30
  clear A30
  by_cases c4 : t216 = true
  · subst c4
    have H1 : ((page_Offset.f a0 a1).bind fun t217 => (some (IntKind.u64.wrap (a0 - t217)))) = some r := by rw [if_pos rfl] at H; exact H
    clear H
    have H := H1
    clear H1
    replace H := Option.bind_eq_some_iff.mp H
    obtain ⟨t217, A50, H⟩ := H
    replace H : (some (IntKind.u64.wrap (a0 - t217))) = some r := H
    have A5 := Aside0.mk A50
    clear A50
    obtain rfl := Option.some.inj H
    go_enter Try.func79, Try.ntmps79
    go_wp2_with (first | ((with_reducible refine gate_callee (f := 69) rfl ?_); refine goesL_ (some 6) rfl rfl Try.func69 (by kernel_rfl) rfl #[.int .i64 a1] rfl (by (try simp only [List.map_toArray, List.map_cons, List.map_nil]); first | done | rfl | (simp only [List.length_drop, List.length_take]; rfl)) ?_; (with_reducible refine (page_May.calls a1 true _ A3.out).mono ?_); rintro e w' ⟨rfl, ⟨nd, rfl⟩⟩; refine ⟨_, rfl, ?_⟩) | ((with_reducible refine gate_callee (f := 80) rfl ?_); refine goesL_ (some 11) rfl rfl Try.func80 (by kernel_rfl) rfl #[.int .u64 a0, .int .i64 a1] rfl (by (try simp only [List.map_toArray, List.map_cons, List.map_nil]); first | done | rfl | (simp only [List.length_drop, List.length_take]; rfl)) ?_; (with_reducible refine (page_Offset.calls a0 a1 t217 _ A5.out).mono ?_); rintro e w' ⟨rfl, ⟨nd, rfl⟩⟩; refine ⟨_, rfl, ?_⟩))
    go_ret
    exact ⟨by first | rfl | (simp; done) | (simp [*]; done), by repeat (first | exact Drawn0.refl _ | apply Drawn0.step)⟩
  · replace c4 := Bool.eq_false_iff.mpr c4
    subst c4
    have H1 : (some 0) = some r := by rw [if_neg (show ¬ (false = true) by decide)] at H; exact H
    clear H
    have H := H1
    clear H1
    obtain rfl := Option.some.inj H
    go_enter Try.func79, Try.ntmps79
    go_wp2_with (first | ((with_reducible refine gate_callee (f := 69) rfl ?_); refine goesL_ (some 6) rfl rfl Try.func69 (by kernel_rfl) rfl #[.int .i64 a1] rfl (by (try simp only [List.map_toArray, List.map_cons, List.map_nil]); first | done | rfl | (simp only [List.length_drop, List.length_take]; rfl)) ?_; (with_reducible refine (page_May.calls a1 false _ A3.out).mono ?_); rintro e w' ⟨rfl, ⟨nd, rfl⟩⟩; refine ⟨_, rfl, ?_⟩))
    go_ret
    exact ⟨by first | rfl | (simp; done) | (simp [*]; done), by repeat (first | exact Drawn0.refl _ | apply Drawn0.step)⟩

/-! ### page_In: function 111 -/
def page_In.f (a0 : Int) (a1 : Int) (a2 : Int) : Option (Bool) := (page_May.f a2).bind fun t218 => (if t218 = true then ((page_Base.f a0 a2).bind fun t219 => ((page_Base.f a1 a2).bind fun t220 => (some (t219 == t220)))) else (some false))
set_option maxHeartbeats 8000000 in
set_option maxRecDepth 100000 in
theorem page_In.calls (a0 : Int) (a1 : Int) (a2 : Int) (r : Bool) (w : World) (h : page_In.f a0 a1 a2 = some r) :
    Calls Try.prog 111 #[.int .u64 a0, .int .u64 a1, .int .i64 a2] w fun e w' => e = .returned (.bool r) ∧ Drawn0 w w' := by
  have H : ((page_May.f a2).bind fun t218 => (if t218 = true then ((page_Base.f a0 a2).bind fun t219 => ((page_Base.f a1 a2).bind fun t220 => (some (t219 == t220)))) else (some false))) = some r := h
  clear h
  replace H := Option.bind_eq_some_iff.mp H
  obtain ⟨t218, A40, H⟩ := H
  replace H : (if t218 = true then ((page_Base.f a0 a2).bind fun t219 => ((page_Base.f a1 a2).bind fun t220 => (some (t219 == t220)))) else (some false)) = some r := H
  have A4 := Aside0.mk A40
  clear A40
  by_cases c5 : t218 = true
  · subst c5
    have H1 : ((page_Base.f a0 a2).bind fun t219 => ((page_Base.f a1 a2).bind fun t220 => (some (t219 == t220)))) = some r := by rw [if_pos rfl] at H; exact H
    clear H
    have H := H1
    clear H1
    replace H := Option.bind_eq_some_iff.mp H
    obtain ⟨t219, A60, H⟩ := H
    replace H : ((page_Base.f a1 a2).bind fun t220 => (some (t219 == t220))) = some r := H
    have A6 := Aside0.mk A60
    clear A60
    replace H := Option.bind_eq_some_iff.mp H
    obtain ⟨t220, A70, H⟩ := H
    replace H : (some (t219 == t220)) = some r := H
    have A7 := Aside0.mk A70
    clear A70
    obtain rfl := Option.some.inj H
    go_enter Try.func111, Try.ntmps111
    go_wp2_with (first | ((with_reducible refine gate_callee (f := 69) rfl ?_); refine goesL_ (some 8) rfl rfl Try.func69 (by kernel_rfl) rfl #[.int .i64 a2] rfl (by (try simp only [List.map_toArray, List.map_cons, List.map_nil]); first | done | rfl | (simp only [List.length_drop, List.length_take]; rfl)) ?_; (with_reducible refine (page_May.calls a2 true _ A4.out).mono ?_); rintro e w' ⟨rfl, ⟨nd, rfl⟩⟩; refine ⟨_, rfl, ?_⟩) | (go_at_call 79; (with_reducible refine (page_Base.calls a0 a2 t219 _ A6.out).mono ?_); rintro e w' ⟨rfl, ⟨nd, rfl⟩⟩) | (go_at_call 79; (with_reducible refine (page_Base.calls a1 a2 t220 _ A7.out).mono ?_); rintro e w' ⟨rfl, ⟨nd, rfl⟩⟩))
    go_ret
    exact ⟨by first | rfl | (simp; done) | (simp [*]; done), by repeat (first | exact Drawn0.refl _ | apply Drawn0.step)⟩
  · replace c5 := Bool.eq_false_iff.mpr c5
    subst c5
    have H1 : (some false) = some r := by rw [if_neg (show ¬ (false = true) by decide)] at H; exact H
    clear H
    have H := H1
    clear H1
    obtain rfl := Option.some.inj H
    go_enter Try.func111, Try.ntmps111
    go_wp2_with (first | ((with_reducible refine gate_callee (f := 69) rfl ?_); refine goesL_ (some 8) rfl rfl Try.func69 (by kernel_rfl) rfl #[.int .i64 a2] rfl (by (try simp only [List.map_toArray, List.map_cons, List.map_nil]); first | done | rfl | (simp only [List.length_drop, List.length_take]; rfl)) ?_; (with_reducible refine (page_May.calls a2 false _ A4.out).mono ?_); rintro e w' ⟨rfl, ⟨nd, rfl⟩⟩; refine ⟨_, rfl, ?_⟩))
    go_ret
    exact ⟨by first | rfl | (simp; done) | (simp [*]; done), by repeat (first | exact Drawn0.refl _ | apply Drawn0.step)⟩

/-! ### page_Meet: function 91 -/
def page_Meet.f (a0 : Int) (a1 : Int) (a2 : Int) (a3 : Int) : Option (Bool) := (page_May.f a1).bind fun t221 => (if t221 = true then ((page_May.f a3).bind fun t222 => (if t222 = true then ((page_In.f a0 a2 (mx a1 a3)).bind fun t223 => (some t223)) else (some false))) else (some false))
set_option maxHeartbeats 8000000 in
set_option maxRecDepth 100000 in
theorem page_Meet.calls (a0 : Int) (a1 : Int) (a2 : Int) (a3 : Int) (r : Bool) (w : World) (h : page_Meet.f a0 a1 a2 a3 = some r) :
    Calls Try.prog 91 #[.int .u64 a0, .int .i64 a1, .int .u64 a2, .int .i64 a3] w fun e w' => e = .returned (.bool r) ∧ Below w.heap.size w w' := by
  have HB := Aside0.mk (Below.refl w.heap.size w)
  have H : ((page_May.f a1).bind fun t221 => (if t221 = true then ((page_May.f a3).bind fun t222 => (if t222 = true then ((page_In.f a0 a2 (mx a1 a3)).bind fun t223 => (some t223)) else (some false))) else (some false))) = some r := h
  clear h
  replace H := Option.bind_eq_some_iff.mp H
  obtain ⟨t221, A50, H⟩ := H
  replace H : (if t221 = true then ((page_May.f a3).bind fun t222 => (if t222 = true then ((page_In.f a0 a2 (mx a1 a3)).bind fun t223 => (some t223)) else (some false))) else (some false)) = some r := H
  have A5 := Aside0.mk A50
  clear A50
  by_cases c6 : t221 = true
  · subst c6
    have H1 : ((page_May.f a3).bind fun t222 => (if t222 = true then ((page_In.f a0 a2 (mx a1 a3)).bind fun t223 => (some t223)) else (some false))) = some r := by rw [if_pos rfl] at H; exact H
    clear H
    have H := H1
    clear H1
    replace H := Option.bind_eq_some_iff.mp H
    obtain ⟨t222, A70, H⟩ := H
    replace H : (if t222 = true then ((page_In.f a0 a2 (mx a1 a3)).bind fun t223 => (some t223)) else (some false)) = some r := H
    have A7 := Aside0.mk A70
    clear A70
    by_cases c8 : t222 = true
    · subst c8
      have H1 : ((page_In.f a0 a2 (mx a1 a3)).bind fun t223 => (some t223)) = some r := by rw [if_pos rfl] at H; exact H
      clear H
      have H := H1
      clear H1
      obtain ⟨ji9, hji9⟩ : ∃ j_ : Int, (mx a1 a3) = j_ := ⟨_, rfl⟩
      replace H : ((page_In.f a0 a2 (ji9)).bind fun t223 => (some t223)) = some r := by first | (rw [hji9] at H; exact H) | (simp only [hji9] at H ⊢; exact H)
      (try rw [hji9] at A5)
      (try rw [hji9] at A7)
      have hji9_ : (if a1 < a3 then a3 else a1) = ji9 := hji9
      replace H := Option.bind_eq_some_iff.mp H
      obtain ⟨t223, A100, H⟩ := H
      replace H : (some t223) = some r := H
      have A10 := Aside0.mk A100
      clear A100
      obtain rfl := Option.some.inj H
      go_enter Try.func91, Try.ntmps91
      go_wp2_with (first | ((with_reducible refine gate_callee (f := 69) rfl ?_); refine goesL_ (some 10) rfl rfl Try.func69 (by kernel_rfl) rfl #[.int .i64 a1] rfl (by (try simp only [List.map_toArray, List.map_cons, List.map_nil]); first | done | rfl | (simp only [List.length_drop, List.length_take]; rfl)) ?_; (with_reducible refine (page_May.calls a1 true _ A5.out).mono ?_); rintro e w' ⟨rfl, ⟨nd, rfl⟩⟩; refine ⟨_, rfl, ?_⟩) | (go_at_call 69; (with_reducible refine (page_May.calls a3 true _ A7.out).mono ?_); rintro e w' ⟨rfl, ⟨nd, rfl⟩⟩) | (go_at_call 111; (with_reducible refine (page_In.calls a0 a2 ji9 t223 _ A10.out).mono ?_); rintro e w' ⟨rfl, ⟨nd, rfl⟩⟩))
      go_ret
      exact ⟨by first | rfl | (simp [errW_none, errW_some] <;> rfl) | (simp only [← hji9]; first | rfl | (simp [errW_none, errW_some] <;> rfl)) | (simp [*, errW_none, errW_some] <;> rfl), by repeat (first | (with_reducible first | exact HB.out | apply below_alloc | apply pw_below_drewN | apply below_drew1) | exact HB.out)⟩
    · replace c8 := Bool.eq_false_iff.mpr c8
      subst c8
      have H1 : (some false) = some r := by rw [if_neg (show ¬ (false = true) by decide)] at H; exact H
      clear H
      have H := H1
      clear H1
      obtain rfl := Option.some.inj H
      go_enter Try.func91, Try.ntmps91
      go_wp2_with (first | ((with_reducible refine gate_callee (f := 69) rfl ?_); refine goesL_ (some 10) rfl rfl Try.func69 (by kernel_rfl) rfl #[.int .i64 a1] rfl (by (try simp only [List.map_toArray, List.map_cons, List.map_nil]); first | done | rfl | (simp only [List.length_drop, List.length_take]; rfl)) ?_; (with_reducible refine (page_May.calls a1 true _ A5.out).mono ?_); rintro e w' ⟨rfl, ⟨nd, rfl⟩⟩; refine ⟨_, rfl, ?_⟩) | (go_at_call 69; (with_reducible refine (page_May.calls a3 false _ A7.out).mono ?_); rintro e w' ⟨rfl, ⟨nd, rfl⟩⟩))
      go_ret
      exact ⟨by first | rfl | (simp [errW_none, errW_some] <;> rfl) | (simp [*, errW_none, errW_some] <;> rfl), by repeat (first | (with_reducible first | exact HB.out | apply below_alloc | apply pw_below_drewN | apply below_drew1) | exact HB.out)⟩
  · replace c6 := Bool.eq_false_iff.mpr c6
    subst c6
    have H1 : (some false) = some r := by rw [if_neg (show ¬ (false = true) by decide)] at H; exact H
    clear H
    have H := H1
    clear H1
    obtain rfl := Option.some.inj H
    go_enter Try.func91, Try.ntmps91
    go_wp2_with (first | ((with_reducible refine gate_callee (f := 69) rfl ?_); refine goesL_ (some 10) rfl rfl Try.func69 (by kernel_rfl) rfl #[.int .i64 a1] rfl (by (try simp only [List.map_toArray, List.map_cons, List.map_nil]); first | done | rfl | (simp only [List.length_drop, List.length_take]; rfl)) ?_; (with_reducible refine (page_May.calls a1 false _ A5.out).mono ?_); rintro e w' ⟨rfl, ⟨nd, rfl⟩⟩; refine ⟨_, rfl, ?_⟩))
    go_ret
    exact ⟨by first | rfl | (simp [errW_none, errW_some] <;> rfl) | (simp [*, errW_none, errW_some] <;> rfl), by repeat (first | (with_reducible first | exact HB.out | apply below_alloc | apply pw_below_drewN | apply below_drew1) | exact HB.out)⟩

/-- THE ONE PURE STATEMENT of page_Meet: yours. -/
def page_Meet.Pure : Prop := ∀ (a0 : Int) (a1 : Int) (a2 : Int) (a3 : Int), (Lit.int .u64 a0).wf = true → (Lit.int .i64 a1).wf = true → (Lit.int .u64 a2).wf = true → (Lit.int .i64 a3).wf = true → page_Meet.f a0 a1 a2 a3 = some true
theorem page_Meet.walk (P : page_Meet.Pure) (a0 : Int) (a1 : Int) (a2 : Int) (a3 : Int) (w : World) (w0 : (Lit.int .u64 a0).wf = true) (w1 : (Lit.int .i64 a1).wf = true) (w2 : (Lit.int .u64 a2).wf = true) (w3 : (Lit.int .i64 a3).wf = true) :
    Calls Try.prog 91 #[.int .u64 a0, .int .i64 a1, .int .u64 a2, .int .i64 a3] w fun e w' => e = .returned (.bool true) ∧ Below w.heap.size w w' := by
  have h := P a0 a1 a2 a3 w0 w1 w2 w3
  refine (page_Meet.calls a0 a1 a2 a3 true w h).mono ?_
  rintro e w' ⟨rfl, hd⟩
  exact ⟨rfl, hd⟩

end Go.Proofs.Ytalmemcidbmdgaa.PM

-- written by xprint.py, a program of this session, over the kit's print (functions told by hand: see the texts)
namespace Go.Proofs.Ytalmemcidbmdgaa.PM
open Go.RowKit Go.Proofs.YtalmemcidbmdgaaW.PrintWords Go.Proofs.YtalmemcidbmdgaaW.PrintLast Go.Proofs.YtalmemcidbmdgaaW.PrintMore
attribute [local go_sem] max2_int min2_int max_two min_two max_three min_three max_four min_four   -- for this text's walks alone
set_option linter.unusedVariables false
set_option linter.unusedSimpArgs false

/-! ### page_Starts: function 92 -/
def page_Starts.f (a0 : Int) (a1 : Int) : Option (Bool) := (page_May.f a1).bind fun t224 => (if t224 = true then ((page_Offset.f a0 a1).bind fun t225 => (some (t225 == 0))) else (some false))
set_option maxHeartbeats 8000000 in
set_option maxRecDepth 100000 in
theorem page_Starts.calls (a0 : Int) (a1 : Int) (r : Bool) (w : World) (h : page_Starts.f a0 a1 = some r) :
    Calls Try.prog 92 #[.int .u64 a0, .int .i64 a1] w fun e w' => e = .returned (.bool r) ∧ Drawn0 w w' := by
  have H : ((page_May.f a1).bind fun t224 => (if t224 = true then ((page_Offset.f a0 a1).bind fun t225 => (some (t225 == 0))) else (some false))) = some r := h
  clear h
  replace H := Option.bind_eq_some_iff.mp H
  obtain ⟨t224, A30, H⟩ := H
  replace H : (if t224 = true then ((page_Offset.f a0 a1).bind fun t225 => (some (t225 == 0))) else (some false)) = some r := H
  have A3 := Aside0.mk A30
  clear A30
  by_cases c4 : t224 = true
  · subst c4
    have H1 : ((page_Offset.f a0 a1).bind fun t225 => (some (t225 == 0))) = some r := by rw [if_pos rfl] at H; exact H
    clear H
    have H := H1
    clear H1
    replace H := Option.bind_eq_some_iff.mp H
    obtain ⟨t225, A50, H⟩ := H
    replace H : (some (t225 == 0)) = some r := H
    have A5 := Aside0.mk A50
    clear A50
    obtain rfl := Option.some.inj H
    go_enter Try.func92, Try.ntmps92
    go_wp2_with (first | ((with_reducible refine gate_callee (f := 69) rfl ?_); refine goesL_ (some 6) rfl rfl Try.func69 (by kernel_rfl) rfl #[.int .i64 a1] rfl (by (try simp only [List.map_toArray, List.map_cons, List.map_nil]); first | done | rfl | (simp only [List.length_drop, List.length_take]; rfl)) ?_; (with_reducible refine (page_May.calls a1 true _ A3.out).mono ?_); rintro e w' ⟨rfl, ⟨nd, rfl⟩⟩; refine ⟨_, rfl, ?_⟩) | (go_at_call 80; (with_reducible refine (page_Offset.calls a0 a1 t225 _ A5.out).mono ?_); rintro e w' ⟨rfl, ⟨nd, rfl⟩⟩))
    go_ret
    exact ⟨by first | rfl | (simp; done) | (simp [*]; done), by repeat (first | exact Drawn0.refl _ | apply Drawn0.step)⟩
  · replace c4 := Bool.eq_false_iff.mpr c4
    subst c4
    have H1 : (some false) = some r := by rw [if_neg (show ¬ (false = true) by decide)] at H; exact H
    clear H
    have H := H1
    clear H1
    obtain rfl := Option.some.inj H
    go_enter Try.func92, Try.ntmps92
    go_wp2_with (first | ((with_reducible refine gate_callee (f := 69) rfl ?_); refine goesL_ (some 6) rfl rfl Try.func69 (by kernel_rfl) rfl #[.int .i64 a1] rfl (by (try simp only [List.map_toArray, List.map_cons, List.map_nil]); first | done | rfl | (simp only [List.length_drop, List.length_take]; rfl)) ?_; (with_reducible refine (page_May.calls a1 false _ A3.out).mono ?_); rintro e w' ⟨rfl, ⟨nd, rfl⟩⟩; refine ⟨_, rfl, ?_⟩))
    go_ret
    exact ⟨by first | rfl | (simp; done) | (simp [*]; done), by repeat (first | exact Drawn0.refl _ | apply Drawn0.step)⟩

/-- THE ONE PURE STATEMENT of page_Starts: yours. -/
def page_Starts.Pure : Prop := ∀ (a0 : Int) (a1 : Int), (Lit.int .u64 a0).wf = true → (Lit.int .i64 a1).wf = true → page_Starts.f a0 a1 = some true
theorem page_Starts.walk (P : page_Starts.Pure) (a0 : Int) (a1 : Int) (w : World) (w0 : (Lit.int .u64 a0).wf = true) (w1 : (Lit.int .i64 a1).wf = true) :
    Calls Try.prog 92 #[.int .u64 a0, .int .i64 a1] w fun e w' => e = .returned (.bool true) ∧ Below w.heap.size w w' := by
  have h := P a0 a1 w0 w1
  refine (page_Starts.calls a0 a1 true w h).mono ?_
  rintro e w' ⟨rfl, hd⟩
  exact ⟨rfl, hd.below⟩

end Go.Proofs.Ytalmemcidbmdgaa.PM

-- written by xprint.py, a program of this session, over the kit's print (functions told by hand: see the texts)
namespace Go.Proofs.Ytalmemcidbmdgaa.PM
open Go.RowKit Go.Proofs.YtalmemcidbmdgaaW.PrintWords Go.Proofs.YtalmemcidbmdgaaW.PrintLast Go.Proofs.YtalmemcidbmdgaaW.PrintMore
attribute [local go_sem] max2_int min2_int max_two min_two max_three min_three max_four min_four   -- for this text's walks alone
set_option linter.unusedVariables false
set_option linter.unusedSimpArgs false

/-! ### fault_Judge: function 65 -/
mutual
def fault_Judge.j0 : Nat → Bool → Bool → Bool → Bool → Bool → Bool → Bool → Int → Bool → Int → Option (Int)
  | 0, _, _, _, _, _, _, _, _, _, _ => none
  | k + 1, x5, x227000, x227001, x227002, x227003, x227004, x227005, x228000, x228001, x228002 => if x5 = true then (some 3) else (if x227005 = true then (fault_Judge.j1 k (x228000 != 3) x227000 x227001 x227002 x227003 x227004 x227005 x228000 x228001 x228002) else (fault_Judge.j1 k false x227000 x227001 x227002 x227003 x227004 x227005 x228000 x228001 x228002))
def fault_Judge.j1 : Nat → Bool → Bool → Bool → Bool → Bool → Bool → Bool → Int → Bool → Int → Option (Int)
  | 0, _, _, _, _, _, _, _, _, _, _ => none
  | k + 1, x13, x227000, x227001, x227002, x227003, x227004, x227005, x228000, x228001, x228002 => if x13 = true then (some 4) else (if x228000 = 1 then (fault_Judge.j2 k (!x227000) x227000 x227001 x227002 x227003 x227004 x227005 x228000 x228001 x228002) else (fault_Judge.j2 k false x227000 x227001 x227002 x227003 x227004 x227005 x228000 x228001 x228002))
def fault_Judge.j2 : Nat → Bool → Bool → Bool → Bool → Bool → Bool → Bool → Int → Bool → Int → Option (Int)
  | 0, _, _, _, _, _, _, _, _, _, _ => none
  | k + 1, x21, x227000, x227001, x227002, x227003, x227004, x227005, x228000, x228001, x228002 => if x21 = true then (some 5) else (if x228000 = 2 then (if x227002 = true then (some 0) else (some 6)) else (some 0))
end
def fault_Judge.f (k : Nat) (a0_0 : Bool) (a0_1 : Bool) (a0_2 : Bool) (a0_3 : Bool) (a0_4 : Bool) (a0_5 : Bool) (a1_0 : Int) (a1_1 : Bool) (a1_2 : Int) : Option (Int) := if a0_1 = true then (fault_Judge.j0 k (!a1_1) a0_0 a0_1 a0_2 a0_3 a0_4 a0_5 a1_0 a1_1 a1_2) else (fault_Judge.j0 k false a0_0 a0_1 a0_2 a0_3 a0_4 a0_5 a1_0 a1_1 a1_2)
set_option maxHeartbeats 8000000 in
set_option maxRecDepth 100000 in
theorem fault_Judge.calls (k : Nat) (a0_0 : Bool) (a0_1 : Bool) (a0_2 : Bool) (a0_3 : Bool) (a0_4 : Bool) (a0_5 : Bool) (a1_0 : Int) (a1_1 : Bool) (a1_2 : Int) (r : Int) (w : World) (h : fault_Judge.f k a0_0 a0_1 a0_2 a0_3 a0_4 a0_5 a1_0 a1_1 a1_2 = some r) :
    Calls Try.prog 65 #[.agg #[.bool a0_0, .bool a0_1, .bool a0_2, .bool a0_3, .bool a0_4, .bool a0_5], .agg #[.int .i64 a1_0, .bool a1_1, .int .u64 a1_2]] w fun e w' => e = .returned (.int .i64 r) ∧ Below w.heap.size w w' := by
  have hu34 := Try.underlying34
  have hu32 := Try.underlying32
  have HB := Aside0.mk (Below.refl w.heap.size w)
  have H : (if a0_1 = true then (fault_Judge.j0 k (!a1_1) a0_0 a0_1 a0_2 a0_3 a0_4 a0_5 a1_0 a1_1 a1_2) else (fault_Judge.j0 k false a0_0 a0_1 a0_2 a0_3 a0_4 a0_5 a1_0 a1_1 a1_2)) = some r := h
  clear h
  have HC3 := Aside0.mk H
  clear H
  go_enter Try.func65, Try.ntmps65
  go_upto_region 1 with (first | ((with_reducible refine gate_dst (N := 2) rfl ?_); refine box_event ?hg (N := 2) ?hd (cs := #[.bool a0_0, .bool a0_1, .bool a0_2, .bool a0_3, .bool a0_4, .bool a0_5]) (t := 34) ?hr ?_; (case hd => rfl); (case hg => rfl); (case hr => first | (go_simp; done) | (go_simp; rfl)); intro gb226 hg w4 hbox hb; have n0_ := Aside0.mk (below_step (by repeat (first | (with_reducible first | exact HB.out | apply below_alloc | apply pw_below_drewN | apply below_drew1) | exact HB.out)) hb); have n1_ := Aside0.mk (hbox); have n2_ := Aside0.mk ((by rw [hg]; exact (below_size (by repeat (first | (with_reducible first | exact HB.out | apply below_alloc | apply pw_below_drewN | apply below_drew1) | exact HB.out))) : w.heap.size ≤ gb226)); have n3_ := Aside0.mk ((by rw [hg]; exact (below_size (by repeat (first | (with_reducible first | exact HB.out | apply below_alloc | apply pw_below_drewN | apply below_drew1) | exact HB.out))) : w.heap.size ≤ gb226)); clear HB; have HB := n0_; have BK226 := n1_; have GW226 := n2_; have GE226 := n3_; clear n0_ n1_ n2_ n3_; clear hb hbox hg) | ((with_reducible refine gate_dst (N := 3) rfl ?_); refine box_event ?hg (N := 3) ?hd (cs := #[.int .i64 a1_0, .bool a1_1, .int .u64 a1_2]) (t := 32) ?hr ?_; (case hd => rfl); (case hg => rfl); (case hr => first | (go_simp; done) | (go_simp; rfl)); intro gb227 hg w5 hbox hb; have n0_ := Aside0.mk (blk_below (g := gb226) (o := .cells #[.bool a0_0, .bool a0_1, .bool a0_2, .bool a0_3, .bool a0_4, .bool a0_5] 34 (0, 0)) (by (with_reducible repeat (first | refine blk_drewN ?_ _ | refine blk_drew ?_ | refine blk_alloc ?_ _)); exact BK226.out) hb); have n1_ := Aside0.mk (below_step (by repeat (first | (with_reducible first | exact HB.out | apply below_alloc | apply pw_below_drewN | apply below_drew1 | refine below_set ?_ GE226.out) | exact HB.out)) hb); have n2_ := Aside0.mk (hbox); have n3_ := Aside0.mk ((by rw [hg]; exact (below_size (by repeat (first | (with_reducible first | exact HB.out | apply below_alloc | apply pw_below_drewN | apply below_drew1 | refine below_set ?_ GE226.out) | exact HB.out))) : w.heap.size ≤ gb227)); have n4_ := Aside0.mk ((by rw [hg]; exact (below_size (by repeat (first | (with_reducible first | exact HB.out | apply below_alloc | apply pw_below_drewN | apply below_drew1 | refine below_set ?_ GE226.out) | exact HB.out))) : w.heap.size ≤ gb227)); have n5_ := Aside0.mk ((by rw [hg]; exact Nat.ne_of_lt (blk_lt (g := gb226) (o := .cells #[.bool a0_0, .bool a0_1, .bool a0_2, .bool a0_3, .bool a0_4, .bool a0_5] 34 (0, 0)) (by (with_reducible repeat (first | refine blk_drewN ?_ _ | refine blk_drew ?_ | refine blk_alloc ?_ _)); exact BK226.out)) : gb226 ≠ gb227)); have n6_ := Aside0.mk ((by rw [hg]; exact Nat.ne_of_gt (blk_lt (g := gb226) (o := .cells #[.bool a0_0, .bool a0_1, .bool a0_2, .bool a0_3, .bool a0_4, .bool a0_5] 34 (0, 0)) (by (with_reducible repeat (first | refine blk_drewN ?_ _ | refine blk_drew ?_ | refine blk_alloc ?_ _)); exact BK226.out)) : gb227 ≠ gb226)); clear BK226; clear HB; have BK226 := n0_; have HB := n1_; have BK227 := n2_; have GW227 := n3_; have GE227 := n4_; have NB226_227 := n5_; have NB227_226 := n6_; clear n0_ n1_ n2_ n3_ n4_ n5_ n6_; clear hb hbox hg))
  (try simp only [Act.put, List.setIfInBounds_toArray, List.set_cons_zero, List.set_cons_succ])
  go_cut [5] (fun v5 wc => ∃ (kq : Nat) (x5_2 : Bool), v5 = .bool x5_2 ∧ Aside0 (fault_Judge.j0 kq x5_2 a0_0 a0_1 a0_2 a0_3 a0_4 a0_5 a1_0 a1_1 a1_2 = some r) ∧ Aside0 (kq ≤ k) ∧ Aside0 (wc.heap[gb226]? = some (.cells #[.bool a0_0, .bool a0_1, .bool a0_2, .bool a0_3, .bool a0_4, .bool a0_5] 34 (0, 0))) ∧ Aside0 (wc.heap[gb227]? = some (.cells #[.int .i64 a1_0, .bool a1_1, .int .u64 a1_2] 32 (0, 0))) ∧ Aside0 (Below w.heap.size w wc))
  case first =>
    have H := HC3.out
    clear HC3
    by_cases c6 : a0_1 = true
    · subst c6
      have H1 : (fault_Judge.j0 k (!a1_1) a0_0 true a0_2 a0_3 a0_4 a0_5 a1_0 a1_1 a1_2) = some r := by rw [if_pos rfl] at H; exact H
      clear H
      have H := H1
      clear H1
      have H' := Aside0.mk H
      clear H
      have hnb7 := NB226_227.out
      have hnc7 := NB227_226.out
      have hcz8_0 : w5.cell? ⟨gb226, 0, none⟩ = some (.bool a0_0) := (blk_cell BK226.out 0).trans rfl
      have hcz8_1 : w5.cell? ⟨gb226, 1, none⟩ = some (.bool true) := (blk_cell BK226.out 1).trans rfl
      have hcz8_2 : w5.cell? ⟨gb226, 2, none⟩ = some (.bool a0_2) := (blk_cell BK226.out 2).trans rfl
      have hcz8_3 : w5.cell? ⟨gb226, 3, none⟩ = some (.bool a0_3) := (blk_cell BK226.out 3).trans rfl
      have hcz8_4 : w5.cell? ⟨gb226, 4, none⟩ = some (.bool a0_4) := (blk_cell BK226.out 4).trans rfl
      have hcz8_5 : w5.cell? ⟨gb226, 5, none⟩ = some (.bool a0_5) := (blk_cell BK226.out 5).trans rfl
      have hfz8_0 := blk_frozen BK226.out 0
      have hfz8_1 := blk_frozen BK226.out 1
      have hfz8_2 := blk_frozen BK226.out 2
      have hfz8_3 := blk_frozen BK226.out 3
      have hfz8_4 := blk_frozen BK226.out 4
      have hfz8_5 := blk_frozen BK226.out 5
      have hcz9_0 : w5.cell? ⟨gb227, 0, none⟩ = some (.int .i64 a1_0) := (blk_cell BK227.out 0).trans rfl
      have hcz9_1 : w5.cell? ⟨gb227, 1, none⟩ = some (.bool a1_1) := (blk_cell BK227.out 1).trans rfl
      have hcz9_2 : w5.cell? ⟨gb227, 2, none⟩ = some (.int .u64 a1_2) := (blk_cell BK227.out 2).trans rfl
      have hfz9_0 := blk_frozen BK227.out 0
      have hfz9_1 := blk_frozen BK227.out 1
      have hfz9_2 := blk_frozen BK227.out 2
      go_wp2
      go_meet
      case rel => exact ⟨_, (!a1_1), (by first | rfl | (simp; done) | (simp [*]; done)), H', ⟨by first | omega | exact Nat.le_refl _⟩, ⟨by (with_reducible repeat (first | refine blk_drewN ?_ _ | refine blk_drew ?_ | refine blk_alloc ?_ _)); exact BK226.out⟩, ⟨by (with_reducible repeat (first | refine blk_drewN ?_ _ | refine blk_drew ?_ | refine blk_alloc ?_ _)); exact BK227.out⟩, ⟨by repeat (first | (with_reducible first | exact HB.out | apply below_alloc | apply pw_below_drewN | apply below_drew1 | refine below_set ?_ GE226.out | refine below_set ?_ GE227.out) | exact HB.out)⟩⟩
    · replace c6 := Bool.eq_false_iff.mpr c6
      subst c6
      have H1 : (fault_Judge.j0 k false a0_0 false a0_2 a0_3 a0_4 a0_5 a1_0 a1_1 a1_2) = some r := by rw [if_neg (show ¬ (false = true) by decide)] at H; exact H
      clear H
      have H := H1
      clear H1
      have H' := Aside0.mk H
      clear H
      have hnb10 := NB226_227.out
      have hnc10 := NB227_226.out
      have hcz11_0 : w5.cell? ⟨gb226, 0, none⟩ = some (.bool a0_0) := (blk_cell BK226.out 0).trans rfl
      have hcz11_1 : w5.cell? ⟨gb226, 1, none⟩ = some (.bool false) := (blk_cell BK226.out 1).trans rfl
      have hcz11_2 : w5.cell? ⟨gb226, 2, none⟩ = some (.bool a0_2) := (blk_cell BK226.out 2).trans rfl
      have hcz11_3 : w5.cell? ⟨gb226, 3, none⟩ = some (.bool a0_3) := (blk_cell BK226.out 3).trans rfl
      have hcz11_4 : w5.cell? ⟨gb226, 4, none⟩ = some (.bool a0_4) := (blk_cell BK226.out 4).trans rfl
      have hcz11_5 : w5.cell? ⟨gb226, 5, none⟩ = some (.bool a0_5) := (blk_cell BK226.out 5).trans rfl
      have hfz11_0 := blk_frozen BK226.out 0
      have hfz11_1 := blk_frozen BK226.out 1
      have hfz11_2 := blk_frozen BK226.out 2
      have hfz11_3 := blk_frozen BK226.out 3
      have hfz11_4 := blk_frozen BK226.out 4
      have hfz11_5 := blk_frozen BK226.out 5
      go_wp2
      go_meet
      case rel => exact ⟨_, (false), (by first | rfl | (simp; done) | (simp [*]; done)), H', ⟨by first | omega | exact Nat.le_refl _⟩, ⟨by (with_reducible repeat (first | refine blk_drewN ?_ _ | refine blk_drew ?_ | refine blk_alloc ?_ _)); exact BK226.out⟩, ⟨by (with_reducible repeat (first | refine blk_drewN ?_ _ | refine blk_drew ?_ | refine blk_alloc ?_ _)); exact BK227.out⟩, ⟨by repeat (first | (with_reducible first | exact HB.out | apply below_alloc | apply pw_below_drewN | apply below_drew1 | refine below_set ?_ GE226.out | refine below_set ?_ GE227.out) | exact HB.out)⟩⟩
  case rest =>
    clear HC3
    try clear c1
    try clear p2
    try clear c6
    try clear c7
    try clear c10
    try clear hcz11_0
    try clear hcz11_1
    try clear hcz11_2
    try clear hcz11_3
    try clear hcz11_4
    try clear hcz11_5
    try clear hcz8_0
    try clear hcz8_1
    try clear hcz8_2
    try clear hcz8_3
    try clear hcz8_4
    try clear hcz8_5
    try clear hcz9_0
    try clear hcz9_1
    try clear hcz9_2
    try clear hfz11_0
    try clear hfz11_1
    try clear hfz11_2
    try clear hfz11_3
    try clear hfz11_4
    try clear hfz11_5
    try clear hfz8_0
    try clear hfz8_1
    try clear hfz8_2
    try clear hfz8_3
    try clear hfz8_4
    try clear hfz8_5
    try clear hfz9_0
    try clear hfz9_1
    try clear hfz9_2
    obtain ⟨kq, x5_2, rfl, HA, HJ2, BK226, BK227, HB⟩ := hcut
    cases kq with
    | zero => exact absurd HA.out (by simp [fault_Judge.j0])
    | succ kj2 =>
      have H := HA.out
      clear HA
      simp only [fault_Judge.j0] at H
      by_cases c12 : x5_2 = true
      · subst c12
        have H1 : (some 3) = some r := by rw [if_pos rfl] at H; exact H
        clear H
        have H := H1
        clear H1
        obtain rfl := Option.some.inj H
        go_wp2
        go_ret
        exact ⟨by first | rfl | (simp [errW_none, errW_some] <;> rfl) | (simp [*, errW_none, errW_some] <;> rfl), by repeat (first | (with_reducible first | exact HB.out | apply below_alloc | apply pw_below_drewN | apply below_drew1 | refine below_set ?_ GE226.out | refine below_set ?_ GE227.out) | exact HB.out)⟩
      · replace c12 := Bool.eq_false_iff.mpr c12
        subst c12
        have H1 : (if a0_5 = true then (fault_Judge.j1 kj2 (a1_0 != 3) a0_0 a0_1 a0_2 a0_3 a0_4 a0_5 a1_0 a1_1 a1_2) else (fault_Judge.j1 kj2 false a0_0 a0_1 a0_2 a0_3 a0_4 a0_5 a1_0 a1_1 a1_2)) = some r := by rw [if_neg (show ¬ (false = true) by decide)] at H; exact H
        clear H
        have H := H1
        clear H1
        have HC13 := Aside0.mk H
        clear H
        go_upto_region 3 with (fail)
        go_cut [13] (fun v13 wc => ∃ (kq : Nat) (x13_12 : Bool), v13 = .bool x13_12 ∧ Aside0 (fault_Judge.j1 kq x13_12 a0_0 a0_1 a0_2 a0_3 a0_4 a0_5 a1_0 a1_1 a1_2 = some r) ∧ Aside0 (kq ≤ kj2) ∧ Aside0 (wc.heap[gb226]? = some (.cells #[.bool a0_0, .bool a0_1, .bool a0_2, .bool a0_3, .bool a0_4, .bool a0_5] 34 (0, 0))) ∧ Aside0 (wc.heap[gb227]? = some (.cells #[.int .i64 a1_0, .bool a1_1, .int .u64 a1_2] 32 (0, 0))) ∧ Aside0 (Below w.heap.size w wc))
        case first =>
          have H := HC13.out
          clear HC13
          by_cases c14 : a0_5 = true
          · subst c14
            have H1 : (fault_Judge.j1 kj2 (a1_0 != 3) a0_0 a0_1 a0_2 a0_3 a0_4 true a1_0 a1_1 a1_2) = some r := by rw [if_pos rfl] at H; exact H
            clear H
            have H := H1
            clear H1
            have H' := Aside0.mk H
            clear H
            have hnb15 := NB226_227.out
            have hnc15 := NB227_226.out
            have hcz16_0 : wc.cell? ⟨gb226, 0, none⟩ = some (.bool a0_0) := (blk_cell BK226.out 0).trans rfl
            have hcz16_1 : wc.cell? ⟨gb226, 1, none⟩ = some (.bool a0_1) := (blk_cell BK226.out 1).trans rfl
            have hcz16_2 : wc.cell? ⟨gb226, 2, none⟩ = some (.bool a0_2) := (blk_cell BK226.out 2).trans rfl
            have hcz16_3 : wc.cell? ⟨gb226, 3, none⟩ = some (.bool a0_3) := (blk_cell BK226.out 3).trans rfl
            have hcz16_4 : wc.cell? ⟨gb226, 4, none⟩ = some (.bool a0_4) := (blk_cell BK226.out 4).trans rfl
            have hcz16_5 : wc.cell? ⟨gb226, 5, none⟩ = some (.bool true) := (blk_cell BK226.out 5).trans rfl
            have hfz16_0 := blk_frozen BK226.out 0
            have hfz16_1 := blk_frozen BK226.out 1
            have hfz16_2 := blk_frozen BK226.out 2
            have hfz16_3 := blk_frozen BK226.out 3
            have hfz16_4 := blk_frozen BK226.out 4
            have hfz16_5 := blk_frozen BK226.out 5
            have hcz17_0 : wc.cell? ⟨gb227, 0, none⟩ = some (.int .i64 a1_0) := (blk_cell BK227.out 0).trans rfl
            have hcz17_1 : wc.cell? ⟨gb227, 1, none⟩ = some (.bool a1_1) := (blk_cell BK227.out 1).trans rfl
            have hcz17_2 : wc.cell? ⟨gb227, 2, none⟩ = some (.int .u64 a1_2) := (blk_cell BK227.out 2).trans rfl
            have hfz17_0 := blk_frozen BK227.out 0
            have hfz17_1 := blk_frozen BK227.out 1
            have hfz17_2 := blk_frozen BK227.out 2
            go_wp2
            go_meet
            case rel => exact ⟨_, ((a1_0 != 3)), (by first | rfl | (simp; done) | (simp [*]; done)), H', ⟨by have := HJ2.out; first | omega | exact Nat.le_refl _⟩, ⟨by (with_reducible repeat (first | refine blk_drewN ?_ _ | refine blk_drew ?_ | refine blk_alloc ?_ _)); exact BK226.out⟩, ⟨by (with_reducible repeat (first | refine blk_drewN ?_ _ | refine blk_drew ?_ | refine blk_alloc ?_ _)); exact BK227.out⟩, ⟨by repeat (first | (with_reducible first | exact HB.out | apply below_alloc | apply pw_below_drewN | apply below_drew1 | refine below_set ?_ GE226.out | refine below_set ?_ GE227.out) | exact HB.out)⟩⟩
          · replace c14 := Bool.eq_false_iff.mpr c14
            subst c14
            have H1 : (fault_Judge.j1 kj2 false a0_0 a0_1 a0_2 a0_3 a0_4 false a1_0 a1_1 a1_2) = some r := by rw [if_neg (show ¬ (false = true) by decide)] at H; exact H
            clear H
            have H := H1
            clear H1
            have H' := Aside0.mk H
            clear H
            have hnb18 := NB226_227.out
            have hnc18 := NB227_226.out
            have hcz19_0 : wc.cell? ⟨gb226, 0, none⟩ = some (.bool a0_0) := (blk_cell BK226.out 0).trans rfl
            have hcz19_1 : wc.cell? ⟨gb226, 1, none⟩ = some (.bool a0_1) := (blk_cell BK226.out 1).trans rfl
            have hcz19_2 : wc.cell? ⟨gb226, 2, none⟩ = some (.bool a0_2) := (blk_cell BK226.out 2).trans rfl
            have hcz19_3 : wc.cell? ⟨gb226, 3, none⟩ = some (.bool a0_3) := (blk_cell BK226.out 3).trans rfl
            have hcz19_4 : wc.cell? ⟨gb226, 4, none⟩ = some (.bool a0_4) := (blk_cell BK226.out 4).trans rfl
            have hcz19_5 : wc.cell? ⟨gb226, 5, none⟩ = some (.bool false) := (blk_cell BK226.out 5).trans rfl
            have hfz19_0 := blk_frozen BK226.out 0
            have hfz19_1 := blk_frozen BK226.out 1
            have hfz19_2 := blk_frozen BK226.out 2
            have hfz19_3 := blk_frozen BK226.out 3
            have hfz19_4 := blk_frozen BK226.out 4
            have hfz19_5 := blk_frozen BK226.out 5
            go_wp2
            go_meet
            case rel => exact ⟨_, (false), (by first | rfl | (simp; done) | (simp [*]; done)), H', ⟨by have := HJ2.out; first | omega | exact Nat.le_refl _⟩, ⟨by (with_reducible repeat (first | refine blk_drewN ?_ _ | refine blk_drew ?_ | refine blk_alloc ?_ _)); exact BK226.out⟩, ⟨by (with_reducible repeat (first | refine blk_drewN ?_ _ | refine blk_drew ?_ | refine blk_alloc ?_ _)); exact BK227.out⟩, ⟨by repeat (first | (with_reducible first | exact HB.out | apply below_alloc | apply pw_below_drewN | apply below_drew1 | refine below_set ?_ GE226.out | refine below_set ?_ GE227.out) | exact HB.out)⟩⟩
        case rest =>
          clear HC13
          try clear c1
          try clear p2
          try clear c6
          try clear c7
          try clear c10
          try clear c12
          try clear c14
          try clear c15
          try clear c18
          try clear hcz11_0
          try clear hcz11_1
          try clear hcz11_2
          try clear hcz11_3
          try clear hcz11_4
          try clear hcz11_5
          try clear hcz16_0
          try clear hcz16_1
          try clear hcz16_2
          try clear hcz16_3
          try clear hcz16_4
          try clear hcz16_5
          try clear hcz17_0
          try clear hcz17_1
          try clear hcz17_2
          try clear hcz19_0
          try clear hcz19_1
          try clear hcz19_2
          try clear hcz19_3
          try clear hcz19_4
          try clear hcz19_5
          try clear hcz8_0
          try clear hcz8_1
          try clear hcz8_2
          try clear hcz8_3
          try clear hcz8_4
          try clear hcz8_5
          try clear hcz9_0
          try clear hcz9_1
          try clear hcz9_2
          try clear hfz11_0
          try clear hfz11_1
          try clear hfz11_2
          try clear hfz11_3
          try clear hfz11_4
          try clear hfz11_5
          try clear hfz16_0
          try clear hfz16_1
          try clear hfz16_2
          try clear hfz16_3
          try clear hfz16_4
          try clear hfz16_5
          try clear hfz17_0
          try clear hfz17_1
          try clear hfz17_2
          try clear hfz19_0
          try clear hfz19_1
          try clear hfz19_2
          try clear hfz19_3
          try clear hfz19_4
          try clear hfz19_5
          try clear hfz8_0
          try clear hfz8_1
          try clear hfz8_2
          try clear hfz8_3
          try clear hfz8_4
          try clear hfz8_5
          try clear hfz9_0
          try clear hfz9_1
          try clear hfz9_2
          try clear p2
          obtain ⟨kq, x13_12, rfl, HA, HJ12, BK226, BK227, HB⟩ := hcut
          cases kq with
          | zero => exact absurd HA.out (by simp [fault_Judge.j1])
          | succ kj12 =>
            have H := HA.out
            clear HA
            simp only [fault_Judge.j1] at H
            by_cases c20 : x13_12 = true
            · subst c20
              have H1 : (some 4) = some r := by rw [if_pos rfl] at H; exact H
              clear H
              have H := H1
              clear H1
              obtain rfl := Option.some.inj H
              go_wp2
              go_ret
              exact ⟨by first | rfl | (simp [errW_none, errW_some] <;> rfl) | (simp [*, errW_none, errW_some] <;> rfl), by repeat (first | (with_reducible first | exact HB.out | apply below_alloc | apply pw_below_drewN | apply below_drew1 | refine below_set ?_ GE226.out | refine below_set ?_ GE227.out) | exact HB.out)⟩
            · replace c20 := Bool.eq_false_iff.mpr c20
              subst c20
              have H1 : (if a1_0 = 1 then (fault_Judge.j2 kj12 (!a0_0) a0_0 a0_1 a0_2 a0_3 a0_4 a0_5 a1_0 a1_1 a1_2) else (fault_Judge.j2 kj12 false a0_0 a0_1 a0_2 a0_3 a0_4 a0_5 a1_0 a1_1 a1_2)) = some r := by rw [if_neg (show ¬ (false = true) by decide)] at H; exact H
              clear H
              have H := H1
              clear H1
              have HC21 := Aside0.mk H
              clear H
              go_upto_region 5 with (fail)
              go_cut [21] (fun v21 wc => ∃ (kq : Nat) (x21_20 : Bool), v21 = .bool x21_20 ∧ Aside0 (fault_Judge.j2 kq x21_20 a0_0 a0_1 a0_2 a0_3 a0_4 a0_5 a1_0 a1_1 a1_2 = some r) ∧ Aside0 (kq ≤ kj12) ∧ Aside0 (wc.heap[gb226]? = some (.cells #[.bool a0_0, .bool a0_1, .bool a0_2, .bool a0_3, .bool a0_4, .bool a0_5] 34 (0, 0))) ∧ Aside0 (wc.heap[gb227]? = some (.cells #[.int .i64 a1_0, .bool a1_1, .int .u64 a1_2] 32 (0, 0))) ∧ Aside0 (Below w.heap.size w wc))
              case first =>
                have H := HC21.out
                clear HC21
                by_cases c22 : a1_0 = 1
                · rw [if_pos c22] at H
                  have c22b0 : (a1_0 == 1) = true := beq_iff_eq.mpr c22
                  have c22b1 : (a1_0 != 1) = false := bne_eq_false_iff_eq.mpr c22
                  clear c22
                  (first | rw [c22b0] | (simp only [i64_w, i32_w]; rw [c22b0]) | skip)
                  have H' := Aside0.mk H
                  clear H
                  have hnb23 := NB227_226.out
                  have hnc23 := NB226_227.out
                  have hcz24_0 : wc.cell? ⟨gb227, 0, none⟩ = some (.int .i64 a1_0) := (blk_cell BK227.out 0).trans rfl
                  have hcz24_1 : wc.cell? ⟨gb227, 1, none⟩ = some (.bool a1_1) := (blk_cell BK227.out 1).trans rfl
                  have hcz24_2 : wc.cell? ⟨gb227, 2, none⟩ = some (.int .u64 a1_2) := (blk_cell BK227.out 2).trans rfl
                  have hfz24_0 := blk_frozen BK227.out 0
                  have hfz24_1 := blk_frozen BK227.out 1
                  have hfz24_2 := blk_frozen BK227.out 2
                  have hcz25_0 : wc.cell? ⟨gb226, 0, none⟩ = some (.bool a0_0) := (blk_cell BK226.out 0).trans rfl
                  have hcz25_1 : wc.cell? ⟨gb226, 1, none⟩ = some (.bool a0_1) := (blk_cell BK226.out 1).trans rfl
                  have hcz25_2 : wc.cell? ⟨gb226, 2, none⟩ = some (.bool a0_2) := (blk_cell BK226.out 2).trans rfl
                  have hcz25_3 : wc.cell? ⟨gb226, 3, none⟩ = some (.bool a0_3) := (blk_cell BK226.out 3).trans rfl
                  have hcz25_4 : wc.cell? ⟨gb226, 4, none⟩ = some (.bool a0_4) := (blk_cell BK226.out 4).trans rfl
                  have hcz25_5 : wc.cell? ⟨gb226, 5, none⟩ = some (.bool a0_5) := (blk_cell BK226.out 5).trans rfl
                  have hfz25_0 := blk_frozen BK226.out 0
                  have hfz25_1 := blk_frozen BK226.out 1
                  have hfz25_2 := blk_frozen BK226.out 2
                  have hfz25_3 := blk_frozen BK226.out 3
                  have hfz25_4 := blk_frozen BK226.out 4
                  have hfz25_5 := blk_frozen BK226.out 5
                  go_wp2
                  go_meet
                  case rel => exact ⟨_, (!a0_0), (by first | rfl | (simp; done) | (simp [*]; done)), H', ⟨by have := HJ2.out; have := HJ12.out; first | omega | exact Nat.le_refl _⟩, ⟨by (with_reducible repeat (first | refine blk_drewN ?_ _ | refine blk_drew ?_ | refine blk_alloc ?_ _)); exact BK226.out⟩, ⟨by (with_reducible repeat (first | refine blk_drewN ?_ _ | refine blk_drew ?_ | refine blk_alloc ?_ _)); exact BK227.out⟩, ⟨by repeat (first | (with_reducible first | exact HB.out | apply below_alloc | apply pw_below_drewN | apply below_drew1 | refine below_set ?_ GE226.out | refine below_set ?_ GE227.out) | exact HB.out)⟩⟩
                · rw [if_neg c22] at H
                  have c22b0 : (a1_0 == 1) = false := beq_eq_false_iff_ne.mpr c22
                  have c22b1 : (a1_0 != 1) = true := bne_iff_ne.mpr c22
                  (first | rw [c22b0] | (simp only [i64_w, i32_w]; rw [c22b0]) | skip)
                  have H' := Aside0.mk H
                  clear H
                  have hnb26 := NB227_226.out
                  have hnc26 := NB226_227.out
                  have hcz27_0 : wc.cell? ⟨gb227, 0, none⟩ = some (.int .i64 a1_0) := (blk_cell BK227.out 0).trans rfl
                  have hcz27_1 : wc.cell? ⟨gb227, 1, none⟩ = some (.bool a1_1) := (blk_cell BK227.out 1).trans rfl
                  have hcz27_2 : wc.cell? ⟨gb227, 2, none⟩ = some (.int .u64 a1_2) := (blk_cell BK227.out 2).trans rfl
                  have hfz27_0 := blk_frozen BK227.out 0
                  have hfz27_1 := blk_frozen BK227.out 1
                  have hfz27_2 := blk_frozen BK227.out 2
                  go_wp2
                  go_meet
                  case rel => exact ⟨_, (false), (by first | rfl | (simp; done) | (simp [*]; done)), H', ⟨by have := HJ2.out; have := HJ12.out; first | omega | exact Nat.le_refl _⟩, ⟨by (with_reducible repeat (first | refine blk_drewN ?_ _ | refine blk_drew ?_ | refine blk_alloc ?_ _)); exact BK226.out⟩, ⟨by (with_reducible repeat (first | refine blk_drewN ?_ _ | refine blk_drew ?_ | refine blk_alloc ?_ _)); exact BK227.out⟩, ⟨by repeat (first | (with_reducible first | exact HB.out | apply below_alloc | apply pw_below_drewN | apply below_drew1 | refine below_set ?_ GE226.out | refine below_set ?_ GE227.out) | exact HB.out)⟩⟩
              case rest =>
                clear HC21
                try clear c1
                try clear c2
                try clear p2
                try clear c6
                try clear c7
                try clear c10
                try clear c12
                try clear c14
                try clear c15
                try clear c18
                try clear c20
                try clear c22
                try clear c22b0
                try clear c22b1
                try clear c23
                try clear c26
                try clear hcz11_0
                try clear hcz11_1
                try clear hcz11_2
                try clear hcz11_3
                try clear hcz11_4
                try clear hcz11_5
                try clear hcz16_0
                try clear hcz16_1
                try clear hcz16_2
                try clear hcz16_3
                try clear hcz16_4
                try clear hcz16_5
                try clear hcz17_0
                try clear hcz17_1
                try clear hcz17_2
                try clear hcz19_0
                try clear hcz19_1
                try clear hcz19_2
                try clear hcz19_3
                try clear hcz19_4
                try clear hcz19_5
                try clear hcz24_0
                try clear hcz24_1
                try clear hcz24_2
                try clear hcz25_0
                try clear hcz25_1
                try clear hcz25_2
                try clear hcz25_3
                try clear hcz25_4
                try clear hcz25_5
                try clear hcz27_0
                try clear hcz27_1
                try clear hcz27_2
                try clear hcz8_0
                try clear hcz8_1
                try clear hcz8_2
                try clear hcz8_3
                try clear hcz8_4
                try clear hcz8_5
                try clear hcz9_0
                try clear hcz9_1
                try clear hcz9_2
                try clear hfz11_0
                try clear hfz11_1
                try clear hfz11_2
                try clear hfz11_3
                try clear hfz11_4
                try clear hfz11_5
                try clear hfz16_0
                try clear hfz16_1
                try clear hfz16_2
                try clear hfz16_3
                try clear hfz16_4
                try clear hfz16_5
                try clear hfz17_0
                try clear hfz17_1
                try clear hfz17_2
                try clear hfz19_0
                try clear hfz19_1
                try clear hfz19_2
                try clear hfz19_3
                try clear hfz19_4
                try clear hfz19_5
                try clear hfz24_0
                try clear hfz24_1
                try clear hfz24_2
                try clear hfz25_0
                try clear hfz25_1
                try clear hfz25_2
                try clear hfz25_3
                try clear hfz25_4
                try clear hfz25_5
                try clear hfz27_0
                try clear hfz27_1
                try clear hfz27_2
                try clear hfz8_0
                try clear hfz8_1
                try clear hfz8_2
                try clear hfz8_3
                try clear hfz8_4
                try clear hfz8_5
                try clear hfz9_0
                try clear hfz9_1
                try clear hfz9_2
                try clear p2
                obtain ⟨kq, x21_20, rfl, HA, HJ20, BK226, BK227, HB⟩ := hcut
                cases kq with
                | zero => exact absurd HA.out (by simp [fault_Judge.j2])
                | succ kj20 =>
                  have H := HA.out
                  clear HA
                  simp only [fault_Judge.j2] at H
                  by_cases c28 : x21_20 = true
                  · subst c28
                    have H1 : (some 5) = some r := by rw [if_pos rfl] at H; exact H
                    clear H
                    have H := H1
                    clear H1
                    obtain rfl := Option.some.inj H
                    go_wp2
                    go_ret
                    exact ⟨by first | rfl | (simp [errW_none, errW_some] <;> rfl) | (simp [*, errW_none, errW_some] <;> rfl), by repeat (first | (with_reducible first | exact HB.out | apply below_alloc | apply pw_below_drewN | apply below_drew1 | refine below_set ?_ GE226.out | refine below_set ?_ GE227.out) | exact HB.out)⟩
                  · replace c28 := Bool.eq_false_iff.mpr c28
                    subst c28
                    have H1 : (if a1_0 = 2 then (if a0_2 = true then (some 0) else (some 6)) else (some 0)) = some r := by rw [if_neg (show ¬ (false = true) by decide)] at H; exact H
                    clear H
                    have H := H1
                    clear H1
                    by_cases c29 : a1_0 = 2
                    · rw [if_pos c29] at H
                      have c29b0 : (a1_0 == 2) = true := beq_iff_eq.mpr c29
                      have c29b1 : (a1_0 != 2) = false := bne_eq_false_iff_eq.mpr c29
                      clear c29
                      by_cases c30 : a0_2 = true
                      · subst c30
                        have H1 : (some 0) = some r := by rw [if_pos rfl] at H; exact H
                        clear H
                        have H := H1
                        clear H1
                        obtain rfl := Option.some.inj H
                        have hnb31 := NB227_226.out
                        have hnc31 := NB226_227.out
                        have hcz32_0 : wc.cell? ⟨gb227, 0, none⟩ = some (.int .i64 a1_0) := (blk_cell BK227.out 0).trans rfl
                        have hcz32_1 : wc.cell? ⟨gb227, 1, none⟩ = some (.bool a1_1) := (blk_cell BK227.out 1).trans rfl
                        have hcz32_2 : wc.cell? ⟨gb227, 2, none⟩ = some (.int .u64 a1_2) := (blk_cell BK227.out 2).trans rfl
                        have hfz32_0 := blk_frozen BK227.out 0
                        have hfz32_1 := blk_frozen BK227.out 1
                        have hfz32_2 := blk_frozen BK227.out 2
                        have hcz33_0 : wc.cell? ⟨gb226, 0, none⟩ = some (.bool a0_0) := (blk_cell BK226.out 0).trans rfl
                        have hcz33_1 : wc.cell? ⟨gb226, 1, none⟩ = some (.bool a0_1) := (blk_cell BK226.out 1).trans rfl
                        have hcz33_2 : wc.cell? ⟨gb226, 2, none⟩ = some (.bool true) := (blk_cell BK226.out 2).trans rfl
                        have hcz33_3 : wc.cell? ⟨gb226, 3, none⟩ = some (.bool a0_3) := (blk_cell BK226.out 3).trans rfl
                        have hcz33_4 : wc.cell? ⟨gb226, 4, none⟩ = some (.bool a0_4) := (blk_cell BK226.out 4).trans rfl
                        have hcz33_5 : wc.cell? ⟨gb226, 5, none⟩ = some (.bool a0_5) := (blk_cell BK226.out 5).trans rfl
                        have hfz33_0 := blk_frozen BK226.out 0
                        have hfz33_1 := blk_frozen BK226.out 1
                        have hfz33_2 := blk_frozen BK226.out 2
                        have hfz33_3 := blk_frozen BK226.out 3
                        have hfz33_4 := blk_frozen BK226.out 4
                        have hfz33_5 := blk_frozen BK226.out 5
                        go_wp2
                        go_ret
                        exact ⟨by first | rfl | (simp [errW_none, errW_some] <;> rfl) | (simp [*, errW_none, errW_some] <;> rfl), by repeat (first | (with_reducible first | exact HB.out | apply below_alloc | apply pw_below_drewN | apply below_drew1 | refine below_set ?_ GE226.out | refine below_set ?_ GE227.out) | exact HB.out)⟩
                      · replace c30 := Bool.eq_false_iff.mpr c30
                        subst c30
                        have H1 : (some 6) = some r := by rw [if_neg (show ¬ (false = true) by decide)] at H; exact H
                        clear H
                        have H := H1
                        clear H1
                        obtain rfl := Option.some.inj H
                        have hnb34 := NB227_226.out
                        have hnc34 := NB226_227.out
                        have hcz35_0 : wc.cell? ⟨gb227, 0, none⟩ = some (.int .i64 a1_0) := (blk_cell BK227.out 0).trans rfl
                        have hcz35_1 : wc.cell? ⟨gb227, 1, none⟩ = some (.bool a1_1) := (blk_cell BK227.out 1).trans rfl
                        have hcz35_2 : wc.cell? ⟨gb227, 2, none⟩ = some (.int .u64 a1_2) := (blk_cell BK227.out 2).trans rfl
                        have hfz35_0 := blk_frozen BK227.out 0
                        have hfz35_1 := blk_frozen BK227.out 1
                        have hfz35_2 := blk_frozen BK227.out 2
                        have hcz36_0 : wc.cell? ⟨gb226, 0, none⟩ = some (.bool a0_0) := (blk_cell BK226.out 0).trans rfl
                        have hcz36_1 : wc.cell? ⟨gb226, 1, none⟩ = some (.bool a0_1) := (blk_cell BK226.out 1).trans rfl
                        have hcz36_2 : wc.cell? ⟨gb226, 2, none⟩ = some (.bool false) := (blk_cell BK226.out 2).trans rfl
                        have hcz36_3 : wc.cell? ⟨gb226, 3, none⟩ = some (.bool a0_3) := (blk_cell BK226.out 3).trans rfl
                        have hcz36_4 : wc.cell? ⟨gb226, 4, none⟩ = some (.bool a0_4) := (blk_cell BK226.out 4).trans rfl
                        have hcz36_5 : wc.cell? ⟨gb226, 5, none⟩ = some (.bool a0_5) := (blk_cell BK226.out 5).trans rfl
                        have hfz36_0 := blk_frozen BK226.out 0
                        have hfz36_1 := blk_frozen BK226.out 1
                        have hfz36_2 := blk_frozen BK226.out 2
                        have hfz36_3 := blk_frozen BK226.out 3
                        have hfz36_4 := blk_frozen BK226.out 4
                        have hfz36_5 := blk_frozen BK226.out 5
                        go_wp2
                        go_ret
                        exact ⟨by first | rfl | (simp [errW_none, errW_some] <;> rfl) | (simp [*, errW_none, errW_some] <;> rfl), by repeat (first | (with_reducible first | exact HB.out | apply below_alloc | apply pw_below_drewN | apply below_drew1 | refine below_set ?_ GE226.out | refine below_set ?_ GE227.out) | exact HB.out)⟩
                    · rw [if_neg c29] at H
                      have c29b0 : (a1_0 == 2) = false := beq_eq_false_iff_ne.mpr c29
                      have c29b1 : (a1_0 != 2) = true := bne_iff_ne.mpr c29
                      obtain rfl := Option.some.inj H
                      have hnb37 := NB227_226.out
                      have hnc37 := NB226_227.out
                      have hcz38_0 : wc.cell? ⟨gb227, 0, none⟩ = some (.int .i64 a1_0) := (blk_cell BK227.out 0).trans rfl
                      have hcz38_1 : wc.cell? ⟨gb227, 1, none⟩ = some (.bool a1_1) := (blk_cell BK227.out 1).trans rfl
                      have hcz38_2 : wc.cell? ⟨gb227, 2, none⟩ = some (.int .u64 a1_2) := (blk_cell BK227.out 2).trans rfl
                      have hfz38_0 := blk_frozen BK227.out 0
                      have hfz38_1 := blk_frozen BK227.out 1
                      have hfz38_2 := blk_frozen BK227.out 2
                      go_wp2
                      go_ret
                      exact ⟨by first | rfl | (simp [errW_none, errW_some] <;> rfl) | (simp [*, errW_none, errW_some] <;> rfl), by repeat (first | (with_reducible first | exact HB.out | apply below_alloc | apply pw_below_drewN | apply below_drew1 | refine below_set ?_ GE226.out | refine below_set ?_ GE227.out) | exact HB.out)⟩

end Go.Proofs.Ytalmemcidbmdgaa.PM

-- written by xprint.py, a program of this session, over the kit's print (functions told by hand: see the texts)
namespace Go.Proofs.Ytalmemcidbmdgaa.PM
open Go.RowKit Go.Proofs.YtalmemcidbmdgaaW.PrintWords Go.Proofs.YtalmemcidbmdgaaW.PrintLast Go.Proofs.YtalmemcidbmdgaaW.PrintMore
attribute [local go_sem] max2_int min2_int max_two min_two max_three min_three max_four min_four   -- for this text's walks alone
set_option linter.unusedVariables false
set_option linter.unusedSimpArgs false

/-! ### fault_May: function 67 -/
def fault_May.f (a0_0 : Int) (a0_1 : Bool) (a0_2 : Int) : Option (Bool) := if a0_0 ≥ 0 then (some (decide (a0_0 < 4))) else (some false)
set_option maxHeartbeats 8000000 in
set_option maxRecDepth 100000 in
theorem fault_May.calls (a0_0 : Int) (a0_1 : Bool) (a0_2 : Int) (r : Bool) (w : World) (h : fault_May.f a0_0 a0_1 a0_2 = some r) :
    Calls Try.prog 67 #[.agg #[.int .i64 a0_0, .bool a0_1, .int .u64 a0_2]] w fun e w' => e = .returned (.bool r) ∧ Below w.heap.size w w' := by
  have hu32 := Try.underlying32
  have HB := Aside0.mk (Below.refl w.heap.size w)
  have H : (if a0_0 ≥ 0 then (some (decide (a0_0 < 4))) else (some false)) = some r := h
  clear h
  by_cases c2 : a0_0 ≥ 0
  · rw [if_pos c2] at H
    have c2b0 : decide (0 ≤ a0_0) = true := decide_eq_true c2
    clear c2
    obtain rfl := Option.some.inj H
    go_enter Try.func67, Try.ntmps67
    go_wp2_with (first | ((with_reducible refine gate_dst (N := 1) rfl ?_); refine box_event ?hg (N := 1) ?hd (cs := #[.int .i64 a0_0, .bool a0_1, .int .u64 a0_2]) (t := 32) ?hr ?_; (case hd => rfl); (case hg => rfl); (case hr => first | (go_simp; done) | (go_simp; rfl)); intro gb228 hg w3 hbox hb; have n0_ := Aside0.mk (below_step (by repeat (first | (with_reducible first | exact HB.out | apply below_alloc | apply pw_below_drewN | apply below_drew1) | exact HB.out)) hb); have n1_ := Aside0.mk (hbox); have n2_ := Aside0.mk ((by rw [hg]; exact (below_size (by repeat (first | (with_reducible first | exact HB.out | apply below_alloc | apply pw_below_drewN | apply below_drew1) | exact HB.out))) : w.heap.size ≤ gb228)); have n3_ := Aside0.mk ((by rw [hg]; exact (below_size (by repeat (first | (with_reducible first | exact HB.out | apply below_alloc | apply pw_below_drewN | apply below_drew1) | exact HB.out))) : w.heap.size ≤ gb228)); clear HB; have HB := n0_; have BK228 := n1_; have GW228 := n2_; have GE228 := n3_; clear n0_ n1_ n2_ n3_; clear hb hbox hg; have hcz4_0 : w3.cell? ⟨gb228, 0, none⟩ = some (.int .i64 a0_0) := (blk_cell BK228.out 0).trans rfl; have hcz4_1 : w3.cell? ⟨gb228, 1, none⟩ = some (.bool a0_1) := (blk_cell BK228.out 1).trans rfl; have hcz4_2 : w3.cell? ⟨gb228, 2, none⟩ = some (.int .u64 a0_2) := (blk_cell BK228.out 2).trans rfl; have hfz4_0 := blk_frozen BK228.out 0; have hfz4_1 := blk_frozen BK228.out 1; have hfz4_2 := blk_frozen BK228.out 2))
    go_ret
    exact ⟨by first | rfl | (simp [errW_none, errW_some] <;> rfl) | (simp [*, errW_none, errW_some] <;> rfl), by repeat (first | (with_reducible first | exact HB.out | apply below_alloc | apply pw_below_drewN | apply below_drew1 | refine below_set ?_ GE228.out) | exact HB.out)⟩
  · rw [if_neg c2] at H
    have c2b0 : decide (0 ≤ a0_0) = false := decide_eq_false c2
    clear c2
    obtain rfl := Option.some.inj H
    go_enter Try.func67, Try.ntmps67
    go_wp2_with (first | ((with_reducible refine gate_dst (N := 1) rfl ?_); refine box_event ?hg (N := 1) ?hd (cs := #[.int .i64 a0_0, .bool a0_1, .int .u64 a0_2]) (t := 32) ?hr ?_; (case hd => rfl); (case hg => rfl); (case hr => first | (go_simp; done) | (go_simp; rfl)); intro gb228 hg w5 hbox hb; have n0_ := Aside0.mk (below_step (by repeat (first | (with_reducible first | exact HB.out | apply below_alloc | apply pw_below_drewN | apply below_drew1) | exact HB.out)) hb); have n1_ := Aside0.mk (hbox); have n2_ := Aside0.mk ((by rw [hg]; exact (below_size (by repeat (first | (with_reducible first | exact HB.out | apply below_alloc | apply pw_below_drewN | apply below_drew1) | exact HB.out))) : w.heap.size ≤ gb228)); have n3_ := Aside0.mk ((by rw [hg]; exact (below_size (by repeat (first | (with_reducible first | exact HB.out | apply below_alloc | apply pw_below_drewN | apply below_drew1) | exact HB.out))) : w.heap.size ≤ gb228)); clear HB; have HB := n0_; have BK228 := n1_; have GW228 := n2_; have GE228 := n3_; clear n0_ n1_ n2_ n3_; clear hb hbox hg; have hcz6_0 : w5.cell? ⟨gb228, 0, none⟩ = some (.int .i64 a0_0) := (blk_cell BK228.out 0).trans rfl; have hcz6_1 : w5.cell? ⟨gb228, 1, none⟩ = some (.bool a0_1) := (blk_cell BK228.out 1).trans rfl; have hcz6_2 : w5.cell? ⟨gb228, 2, none⟩ = some (.int .u64 a0_2) := (blk_cell BK228.out 2).trans rfl; have hfz6_0 := blk_frozen BK228.out 0; have hfz6_1 := blk_frozen BK228.out 1; have hfz6_2 := blk_frozen BK228.out 2))
    go_ret
    exact ⟨by first | rfl | (simp [errW_none, errW_some] <;> rfl) | (simp [*, errW_none, errW_some] <;> rfl), by repeat (first | (with_reducible first | exact HB.out | apply below_alloc | apply pw_below_drewN | apply below_drew1 | refine below_set ?_ GE228.out) | exact HB.out)⟩

/-! ### model_told: function 37 -/
def model_told.f (a0 : Int) : Option (Int × Int × Int) := some (a0, 0, 0)
set_option maxHeartbeats 8000000 in
set_option maxRecDepth 100000 in
theorem model_told.calls (a0 : Int) (r1 : Int) (r2 : Int) (r3 : Int) (w : World) (h : model_told.f a0 = some (r1, r2, r3)) :
    Calls Try.prog 37 #[.int .i64 a0] w fun e w' => e = .returned (.agg #[.int .i64 r1, .int .i64 r2, .int .u8 r3]) ∧ Below w.heap.size w w' := by
  have hu42 := Try.underlying42
  have HB := Aside0.mk (Below.refl w.heap.size w)
  have H : (some (a0, 0, 0)) = some (r1, r2, r3) := h
  clear h
  simp only [Option.some.injEq, Prod.mk.injEq] at H
  obtain ⟨rfl, rfl, rfl⟩ := H
  go_enter Try.func37, Try.ntmps37
  go_wp2_with (first | ((with_reducible refine gate_dst (N := 2) rfl ?_); refine box_event ?hg (N := 2) ?hd (cs := #[.int .i64 0, .int .i64 0, .int .u8 0]) (t := 42) ?hr ?_; (case hd => rfl); (case hg => rfl); (case hr => first | (go_simp; done) | (go_simp; rfl)); intro gb229 hg w2 hbox hb; have n0_ := Aside0.mk (below_step (by repeat (first | (with_reducible first | exact HB.out | apply below_alloc | apply pw_below_drewN | apply below_drew1) | exact HB.out)) hb); have n1_ := Aside0.mk (hbox); have n2_ := Aside0.mk ((by rw [hg]; exact (below_size (by repeat (first | (with_reducible first | exact HB.out | apply below_alloc | apply pw_below_drewN | apply below_drew1) | exact HB.out))) : w.heap.size ≤ gb229)); have n3_ := Aside0.mk ((by rw [hg]; exact (below_size (by repeat (first | (with_reducible first | exact HB.out | apply below_alloc | apply pw_below_drewN | apply below_drew1) | exact HB.out))) : w.heap.size ≤ gb229)); clear HB; have HB := n0_; have BK229 := n1_; have GW229 := n2_; have GE229 := n3_; clear n0_ n1_ n2_ n3_; clear hb hbox hg; have hcz3_0 : w2.cell? ⟨gb229, 0, none⟩ = some (.int .i64 0) := (blk_cell BK229.out 0).trans rfl; have hcz3_1 : w2.cell? ⟨gb229, 1, none⟩ = some (.int .i64 0) := (blk_cell BK229.out 1).trans rfl; have hcz3_2 : w2.cell? ⟨gb229, 2, none⟩ = some (.int .u8 0) := (blk_cell BK229.out 2).trans rfl; have hfz3_0 := blk_frozen BK229.out 0; have hfz3_1 := blk_frozen BK229.out 1; have hfz3_2 := blk_frozen BK229.out 2))
  refine bodyPost_ret (results_cell_row rfl _ _ gb229 42 #[.int .i64 a0, .int .i64 0, .int .u8 0] (0, 0) _ rfl (by (with_reducible repeat (first | refine blk_drewN ?_ _ | refine blk_drew ?_ | refine blk_alloc ?_ _)); refine blk_put (cs := #[.int .i64 a0, .int .i64 0, .int .u8 0]) ?_ 2 _ rfl; (with_reducible repeat (first | refine blk_drewN ?_ _ | refine blk_drew ?_ | refine blk_alloc ?_ _)); refine blk_put (cs := #[.int .i64 a0, .int .i64 0, .int .u8 0]) ?_ 1 _ rfl; (with_reducible repeat (first | refine blk_drewN ?_ _ | refine blk_drew ?_ | refine blk_alloc ?_ _)); refine blk_put (cs := #[.int .i64 0, .int .i64 0, .int .u8 0]) ?_ 0 _ rfl; (with_reducible repeat (first | refine blk_drewN ?_ _ | refine blk_drew ?_ | refine blk_alloc ?_ _)); exact BK229.out) Try.underlying42 rfl (by kernel_rfl)) rfl ?_
  exact ⟨by first | rfl | (simp [errW_none, errW_some] <;> rfl) | (simp [*, errW_none, errW_some] <;> rfl), by repeat (first | (with_reducible first | exact HB.out | apply below_alloc | apply pw_below_drewN | apply below_drew1 | refine below_set ?_ GE229.out) | exact HB.out)⟩

/-! ### model_spotOf: function 52 -/
def model_spotOf.f (a0_0 : Int) (a0_1 : Int) (a0_2 : Int) (a0_3 : Bool) (a0_4 : Bool) (a0_5 : Bool) (a0_6 : Bool) (a0_7 : Bool) (a0_8 : Bool) (a0_9 : Bool) (a0_10 : Bool) (a1 : Int) : Option (Int × Int) := (page_Offset.f a1 a0_1).bind fun t232 => (some (wrap64 (a0_2), t232))
def model_spotOf.T1 : Bool × List (List Nat × List Nat) := (true, [([], []), ([0], [0]), ([1], [1]), ([], []), ([], []), ([4], [4]), ([3, 5], [3, 5]), ([2, 6], [2, 6]), ([7, 6, 0, 1, 2, 3, 4, 5, 6, 7], [7])])
def model_spotOf.B1 : List Nat := [0, 1, 3, 0, 0, 16, 56, 127, 255]
theorem model_spotOf.tab1 : rtab .any (opsOf Try.f52 1) = model_spotOf.T1 := by kernel_rfl
theorem model_spotOf.bits1 : waitsOk model_spotOf.T1.2 model_spotOf.B1 = true := by kernel_rfl
set_option maxHeartbeats 8000000 in
set_option maxRecDepth 100000 in
theorem model_spotOf.calls (a0_0 : Int) (a0_1 : Int) (a0_2 : Int) (a0_3 : Bool) (a0_4 : Bool) (a0_5 : Bool) (a0_6 : Bool) (a0_7 : Bool) (a0_8 : Bool) (a0_9 : Bool) (a0_10 : Bool) (a1 : Int) (r1 : Int) (r2 : Int) (w : World) (h : model_spotOf.f a0_0 a0_1 a0_2 a0_3 a0_4 a0_5 a0_6 a0_7 a0_8 a0_9 a0_10 a1 = some (r1, r2)) :
    Calls Try.prog 52 #[.agg #[.int .u64 a0_0, .int .i64 a0_1, .int .u64 a0_2, .bool a0_3, .bool a0_4, .bool a0_5, .bool a0_6, .bool a0_7, .bool a0_8, .bool a0_9, .bool a0_10], .int .u64 a1] w fun e w' => e = .returned (.agg #[.int .i64 r1, .int .u64 r2]) ∧ Below w.heap.size w w' := by
  have hu50 := Try.underlying50
  have hu91 := Try.underlying91
  have HB := Aside0.mk (Below.refl w.heap.size w)
  have H : ((page_Offset.f a1 a0_1).bind fun t232 => (some (wrap64 (a0_2), t232))) = some (r1, r2) := h
  clear h
  replace H := Option.bind_eq_some_iff.mp H
  obtain ⟨t232, A30, H⟩ := H
  replace H : (some (wrap64 (a0_2), t232)) = some (r1, r2) := H
  have A3 := Aside0.mk A30
  clear A30
  simp only [Option.some.injEq, Prod.mk.injEq] at H
  obtain ⟨rfl, rfl⟩ := H
  go_enter Try.func52, Try.ntmps52
  try go_wp2_with (first | ((with_reducible refine gate_dst (N := 2) rfl ?_); refine box_event ?hg (N := 2) ?hd (cs := #[.int .u64 a0_0, .int .i64 a0_1, .int .u64 a0_2, .bool a0_3, .bool a0_4, .bool a0_5, .bool a0_6, .bool a0_7, .bool a0_8, .bool a0_9, .bool a0_10]) (t := 50) ?hr ?_; (case hd => rfl); (case hg => rfl); (case hr => first | (go_simp; done) | (go_simp; rfl)); intro gb230 hg w4 hbox hb; have n0_ := Aside0.mk (below_step (by repeat (first | (with_reducible first | exact HB.out | apply below_alloc | apply pw_below_drewN | apply below_drew1) | exact HB.out)) hb); have n1_ := Aside0.mk (hbox); have n2_ := Aside0.mk ((by rw [hg]; exact (below_size (by repeat (first | (with_reducible first | exact HB.out | apply below_alloc | apply pw_below_drewN | apply below_drew1) | exact HB.out))) : w.heap.size ≤ gb230)); have n3_ := Aside0.mk ((by rw [hg]; exact (below_size (by repeat (first | (with_reducible first | exact HB.out | apply below_alloc | apply pw_below_drewN | apply below_drew1) | exact HB.out))) : w.heap.size ≤ gb230)); clear HB; have HB := n0_; have BK230 := n1_; have GW230 := n2_; have GE230 := n3_; clear n0_ n1_ n2_ n3_; clear hb hbox hg) | ((with_reducible refine gate_dst (N := 4) rfl ?_); refine box_event ?hg (N := 4) ?hd (cs := #[.int .i64 0, .int .u64 0]) (t := 91) ?hr ?_; (case hd => rfl); (case hg => rfl); (case hr => first | (go_simp; done) | (go_simp; rfl)); intro gb231 hg w5 hbox hb; have n0_ := Aside0.mk (blk_below (g := gb230) (o := .cells #[.int .u64 a0_0, .int .i64 a0_1, .int .u64 a0_2, .bool a0_3, .bool a0_4, .bool a0_5, .bool a0_6, .bool a0_7, .bool a0_8, .bool a0_9, .bool a0_10] 50 (0, 0)) (by (with_reducible repeat (first | refine blk_drewN ?_ _ | refine blk_drew ?_ | refine blk_alloc ?_ _)); exact BK230.out) hb); have n1_ := Aside0.mk (below_step (by repeat (first | (with_reducible first | exact HB.out | apply below_alloc | apply pw_below_drewN | apply below_drew1 | refine below_set ?_ GE230.out) | exact HB.out)) hb); have n2_ := Aside0.mk (hbox); have n3_ := Aside0.mk ((by rw [hg]; exact (below_size (by repeat (first | (with_reducible first | exact HB.out | apply below_alloc | apply pw_below_drewN | apply below_drew1 | refine below_set ?_ GE230.out) | exact HB.out))) : w.heap.size ≤ gb231)); have n4_ := Aside0.mk ((by rw [hg]; exact (below_size (by repeat (first | (with_reducible first | exact HB.out | apply below_alloc | apply pw_below_drewN | apply below_drew1 | refine below_set ?_ GE230.out) | exact HB.out))) : w.heap.size ≤ gb231)); have n5_ := Aside0.mk ((by rw [hg]; exact Nat.ne_of_lt (blk_lt (g := gb230) (o := .cells #[.int .u64 a0_0, .int .i64 a0_1, .int .u64 a0_2, .bool a0_3, .bool a0_4, .bool a0_5, .bool a0_6, .bool a0_7, .bool a0_8, .bool a0_9, .bool a0_10] 50 (0, 0)) (by (with_reducible repeat (first | refine blk_drewN ?_ _ | refine blk_drew ?_ | refine blk_alloc ?_ _)); exact BK230.out)) : gb230 ≠ gb231)); have n6_ := Aside0.mk ((by rw [hg]; exact Nat.ne_of_gt (blk_lt (g := gb230) (o := .cells #[.int .u64 a0_0, .int .i64 a0_1, .int .u64 a0_2, .bool a0_3, .bool a0_4, .bool a0_5, .bool a0_6, .bool a0_7, .bool a0_8, .bool a0_9, .bool a0_10] 50 (0, 0)) (by (with_reducible repeat (first | refine blk_drewN ?_ _ | refine blk_drew ?_ | refine blk_alloc ?_ _)); exact BK230.out)) : gb231 ≠ gb230)); clear BK230; clear HB; have BK230 := n0_; have HB := n1_; have BK231 := n2_; have GW231 := n3_; have GE231 := n4_; have NB230_231 := n5_; have NB231_230 := n6_; clear n0_ n1_ n2_ n3_ n4_ n5_ n6_; clear hb hbox hg))
  have n0_ := Aside0.mk (blk_drew BK230.out)
  have n1_ := Aside0.mk (blk_drew BK231.out)
  have n2_ := Aside0.mk (below_drew1 HB.out)
  clear BK230
  clear BK231
  clear HB
  have BK230 := n0_
  have BK231 := n1_
  have HB := n2_
  clear n0_ n1_ n2_
  refine start_ (n := 9) (S := fun w' => w'.cell? ⟨gb230, 0, none⟩ = some (.int .u64 a0_0) ∧ w'.cell? ⟨gb230, 1, none⟩ = some (.int .i64 a0_1) ∧ w'.cell? ⟨gb230, 2, none⟩ = some (.int .u64 a0_2) ∧ w'.cell? ⟨gb230, 3, none⟩ = some (.bool a0_3) ∧ w'.cell? ⟨gb230, 4, none⟩ = some (.bool a0_4) ∧ w'.cell? ⟨gb230, 5, none⟩ = some (.bool a0_5) ∧ w'.cell? ⟨gb230, 6, none⟩ = some (.bool a0_6) ∧ w'.cell? ⟨gb230, 7, none⟩ = some (.bool a0_7) ∧ w'.cell? ⟨gb230, 8, none⟩ = some (.bool a0_8) ∧ w'.cell? ⟨gb230, 9, none⟩ = some (.bool a0_9) ∧ w'.cell? ⟨gb230, 10, none⟩ = some (.bool a0_10)) (ds := []) #[false, false, false, false, false, false, false, false, false] (by kernel_rfl) rfl rfl ⟨(blk_cell BK230.out 0).trans rfl, (blk_cell BK230.out 1).trans rfl, (blk_cell BK230.out 2).trans rfl, (blk_cell BK230.out 3).trans rfl, (blk_cell BK230.out 4).trans rfl, (blk_cell BK230.out 5).trans rfl, (blk_cell BK230.out 6).trans rfl, (blk_cell BK230.out 7).trans rfl, (blk_cell BK230.out 8).trans rfl, (blk_cell BK230.out 9).trans rfl, (blk_cell BK230.out 10).trans rfl⟩ (fun hHeld => ?_); refine with_tabW model_spotOf.tab1 model_spotOf.bits1 (fun HT_ HW_ => ?_)
  generalize w5.drew = w6 at BK230 BK231 HB hHeld ⊢
  refine pure_ (i := 0) (N := some 5) (v := ?_) (a' := ?_) #[true, false, false, false, false, false, false, false, false] rfl rfl (any_of HT_.out (by kernel_rfl)) (fun _ _ _ h => h) (Or.inl ⟨by rfl, ?_⟩) ?_ ?_
  rotate_left
  · intro w'
    go_simp
    with_reducible rfl
  rotate_left
  · simp only [Act.put, List.setIfInBounds_toArray, List.set_cons_zero, List.set_cons_succ, i64_w, i32_w]
    rfl
  refine pure_ (i := 3) (N := some 8) (v := ?_) (a' := ?_) #[true, false, false, true, false, false, false, false, false] rfl rfl (any_of HT_.out (by kernel_rfl)) (fun _ _ _ h => h) (Or.inl ⟨by rfl, ?_⟩) ?_ ?_
  rotate_left
  · intro w'
    go_simp
    with_reducible rfl
  rotate_left
  · simp only [Act.put, List.setIfInBounds_toArray, List.set_cons_zero, List.set_cons_succ, i64_w, i32_w]
    rfl
  refine pure_ (i := 4) (N := some 9) (v := ?_) (a' := ?_) #[true, false, false, true, true, false, false, false, false] rfl rfl (any_of HT_.out (by kernel_rfl)) (fun _ _ _ h => h) (Or.inl ⟨by rfl, ?_⟩) ?_ ?_
  rotate_left
  · intro w'
    go_simp
    with_reducible rfl
  rotate_left
  · simp only [Act.put, List.setIfInBounds_toArray, List.set_cons_zero, List.set_cons_succ, i64_w, i32_w]
    rfl
  refine take_ (i := 1) (N := some 6) (v := ?_) (a' := ?_) #[true, true, false, true, true, false, false, false, false] rfl rfl (take_ofW HT_.out HW_.out (by kernel_rfl)) (fun _ _ _ h => h) (Or.inl ⟨by rfl, ?_⟩) hHeld ?_ ?_
  rotate_left
  · rintro w' ⟨s0, s1, s2, s3, s4, s5, s6, s7, s8, s9, s10⟩
    go_simp
    with_reducible rfl
  rotate_left
  · simp only [Act.put, List.setIfInBounds_toArray, List.set_cons_zero, List.set_cons_succ, i64_w, i32_w]
    rfl
  refine pure_ (i := 2) (N := some 7) (v := ?_) (a' := ?_) #[true, true, true, true, true, false, false, false, false] rfl rfl (any_of HT_.out (by kernel_rfl)) (fun _ _ _ h => h) (Or.inl ⟨by rfl, ?_⟩) ?_ ?_
  rotate_left
  · intro w'
    go_simp
    with_reducible rfl
  rotate_left
  · simp only [Act.put, List.setIfInBounds_toArray, List.set_cons_zero, List.set_cons_succ, i64_w, i32_w]
    rfl
  refine take_ (i := 5) (N := some 10) (v := ?_) (a' := ?_) #[true, true, true, true, true, true, false, false, false] rfl rfl (take_ofW HT_.out HW_.out (by kernel_rfl)) (fun _ _ _ h => h) (Or.inl ⟨by rfl, ?_⟩) hHeld ?_ ?_
  rotate_left
  · rintro w' ⟨s0, s1, s2, s3, s4, s5, s6, s7, s8, s9, s10⟩
    go_simp
    with_reducible rfl
  rotate_left
  · simp only [Act.put, List.setIfInBounds_toArray, List.set_cons_zero, List.set_cons_succ, i64_w, i32_w]
    rfl
  refine one_ (i := 6) (N := some 11) #[true, true, true, true, true, true, true, false, false] rfl rfl (one_of HT_.out (by kernel_rfl)) (by decide) (fun K hK => ?_)
  refine goes_ Try.func80 (by kernel_rfl) rfl #[.int .u64 a1, .int .i64 a0_1] (by rfl) rfl rfl (by (try simp only [List.map_toArray, List.map_cons, List.map_nil]); first | done | rfl | (simp only [List.length_drop, List.length_take]; rfl)) ?_
  with_reducible refine (page_Offset.calls a1 a0_1 t232 _ A3.out).mono ?_
  rintro e w' ⟨rfl, ⟨nd, rfl⟩⟩
  refine ⟨_, rfl, ?_⟩
  refine hK.out _ _ ⟨(blk_cell BK230.out 0).trans rfl, (blk_cell BK230.out 1).trans rfl, (blk_cell BK230.out 2).trans rfl, (blk_cell BK230.out 3).trans rfl, (blk_cell BK230.out 4).trans rfl, (blk_cell BK230.out 5).trans rfl, (blk_cell BK230.out 6).trans rfl, (blk_cell BK230.out 7).trans rfl, (blk_cell BK230.out 8).trans rfl, (blk_cell BK230.out 9).trans rfl, (blk_cell BK230.out 10).trans rfl⟩ (fun hHeld => ?_)
  clear hK K
  refine norm_ (a' := ?_) ?_ ?_
  rotate_left
  · show Act.put _ (some 11) _ = _
    simp only [Act.put, List.setIfInBounds_toArray, List.set_cons_zero, List.set_cons_succ, i64_w, i32_w]
    rfl
  refine pure_ (i := 7) (N := some 12) (v := ?_) (a' := ?_) #[true, true, true, true, true, true, true, true, false] rfl rfl (any_of HT_.out (by kernel_rfl)) (fun _ _ _ h => h) (Or.inl ⟨by rfl, ?_⟩) ?_ ?_
  rotate_left
  · intro w'
    go_simp
    with_reducible rfl
  rotate_left
  · simp only [Act.put, List.setIfInBounds_toArray, List.set_cons_zero, List.set_cons_succ, i64_w, i32_w]
    rfl
  refine one_ (i := 8) (N := none) #[true, true, true, true, true, true, true, true, true] rfl rfl (one_of HT_.out (by kernel_rfl)) (by decide) (fun K hK => ?_)
  have hs7 : w6.cell? ⟨gb231, 0, none⟩ = some (.int .i64 0) := (blk_cell BK231.out 0).trans rfl
  have hfs7 := blk_frozen BK231.out 0
  have hns7_0 := NB230_231.out
  have hms7_0 := NB231_230.out
  have hs8 : w6.cell? ⟨gb231, 1, none⟩ = some (.int .u64 0) := (blk_cell BK231.out 1).trans rfl
  have hfs8 := blk_frozen BK231.out 1
  have hns8_0 := NB230_231.out
  have hms8_0 := NB231_230.out
  refine skip_ (w1 := ?_) (by rfl) rfl ?_ ?_
  rotate_left
  · go_simp
    rfl
  refine hK.out _ _ ⟨((cell_far (p := ⟨gb231, _, none⟩) NB230_231.out _).trans (((cell_far (p := ⟨gb231, _, none⟩) NB230_231.out _).trans (hHeld.1)))), ((cell_far (p := ⟨gb231, _, none⟩) NB230_231.out _).trans (((cell_far (p := ⟨gb231, _, none⟩) NB230_231.out _).trans (hHeld.2.1)))), ((cell_far (p := ⟨gb231, _, none⟩) NB230_231.out _).trans (((cell_far (p := ⟨gb231, _, none⟩) NB230_231.out _).trans (hHeld.2.2.1)))), ((cell_far (p := ⟨gb231, _, none⟩) NB230_231.out _).trans (((cell_far (p := ⟨gb231, _, none⟩) NB230_231.out _).trans (hHeld.2.2.2.1)))), ((cell_far (p := ⟨gb231, _, none⟩) NB230_231.out _).trans (((cell_far (p := ⟨gb231, _, none⟩) NB230_231.out _).trans (hHeld.2.2.2.2.1)))), ((cell_far (p := ⟨gb231, _, none⟩) NB230_231.out _).trans (((cell_far (p := ⟨gb231, _, none⟩) NB230_231.out _).trans (hHeld.2.2.2.2.2.1)))), ((cell_far (p := ⟨gb231, _, none⟩) NB230_231.out _).trans (((cell_far (p := ⟨gb231, _, none⟩) NB230_231.out _).trans (hHeld.2.2.2.2.2.2.1)))), ((cell_far (p := ⟨gb231, _, none⟩) NB230_231.out _).trans (((cell_far (p := ⟨gb231, _, none⟩) NB230_231.out _).trans (hHeld.2.2.2.2.2.2.2.1)))), ((cell_far (p := ⟨gb231, _, none⟩) NB230_231.out _).trans (((cell_far (p := ⟨gb231, _, none⟩) NB230_231.out _).trans (hHeld.2.2.2.2.2.2.2.2.1)))), ((cell_far (p := ⟨gb231, _, none⟩) NB230_231.out _).trans (((cell_far (p := ⟨gb231, _, none⟩) NB230_231.out _).trans (hHeld.2.2.2.2.2.2.2.2.2.1)))), ((cell_far (p := ⟨gb231, _, none⟩) NB230_231.out _).trans (((cell_far (p := ⟨gb231, _, none⟩) NB230_231.out _).trans (hHeld.2.2.2.2.2.2.2.2.2.2))))⟩ (fun hHeld => ?_)
  clear hK K
  refine done_ (done_of HT_.out (by kernel_rfl)) ?_
  try go_wp2
  refine bodyPost_ret (results_cell_row rfl _ _ gb231 91 #[.int .i64 (wrap64 (a0_2)), .int .u64 t232] (0, 0) _ rfl (by (with_reducible repeat (first | refine blk_drewN ?_ _ | refine blk_drew ?_ | refine blk_alloc ?_ _)); refine blk_put (cs := #[.int .i64 (wrap64 (a0_2)), .int .u64 0]) ?_ 1 _ rfl; (with_reducible repeat (first | refine blk_drewN ?_ _ | refine blk_drew ?_ | refine blk_alloc ?_ _)); refine blk_put (cs := #[.int .i64 0, .int .u64 0]) ?_ 0 _ rfl; (with_reducible repeat (first | refine blk_drewN ?_ _ | refine blk_drew ?_ | refine blk_alloc ?_ _)); exact BK231.out) Try.underlying91 rfl (by kernel_rfl)) rfl ?_
  exact ⟨by first | rfl | (simp [errW_none, errW_some] <;> rfl) | (simp [*, errW_none, errW_some] <;> rfl), by repeat (first | (with_reducible first | exact HB.out | apply below_alloc | apply pw_below_drewN | apply below_drew1 | refine below_set ?_ GE230.out | refine below_set ?_ GE231.out) | exact HB.out)⟩

/-! ### model_Frees: function 24 -/
def model_Frees.f (a0 : Int) : Option (Bool) := if a0 = 6 then (some true) else (if a0 = 7 then (some true) else (some (a0 == 8)))
set_option maxHeartbeats 8000000 in
set_option maxRecDepth 100000 in
theorem model_Frees.calls (a0 : Int) (r : Bool) (w : World) (h : model_Frees.f a0 = some r) :
    Calls Try.prog 24 #[.int .i64 a0] w fun e w' => e = .returned (.bool r) ∧ Drawn0 w w' := by
  have H : (if a0 = 6 then (some true) else (if a0 = 7 then (some true) else (some (a0 == 8)))) = some r := h
  clear h
  by_cases c2 : a0 = 6
  · rw [if_pos c2] at H
    have c2b0 : (a0 == 6) = true := beq_iff_eq.mpr c2
    have c2b1 : (a0 != 6) = false := bne_eq_false_iff_eq.mpr c2
    clear c2
    obtain rfl := Option.some.inj H
    go_enter Try.func24, Try.ntmps24
    go_wp2
    go_ret
    exact ⟨by first | rfl | (simp; done) | (simp [*]; done), by repeat (first | exact Drawn0.refl _ | apply Drawn0.step)⟩
  · rw [if_neg c2] at H
    have c2b0 : (a0 == 6) = false := beq_eq_false_iff_ne.mpr c2
    have c2b1 : (a0 != 6) = true := bne_iff_ne.mpr c2
    by_cases c3 : a0 = 7
    · rw [if_pos c3] at H
      have c3b0 : (a0 == 7) = true := beq_iff_eq.mpr c3
      have c3b1 : (a0 != 7) = false := bne_eq_false_iff_eq.mpr c3
      clear c3
      obtain rfl := Option.some.inj H
      go_enter Try.func24, Try.ntmps24
      go_wp2
      go_ret
      exact ⟨by first | rfl | (simp; done) | (simp [*]; done), by repeat (first | exact Drawn0.refl _ | apply Drawn0.step)⟩
    · rw [if_neg c3] at H
      have c3b0 : (a0 == 7) = false := beq_eq_false_iff_ne.mpr c3
      have c3b1 : (a0 != 7) = true := bne_iff_ne.mpr c3
      obtain rfl := Option.some.inj H
      go_enter Try.func24, Try.ntmps24
      go_wp2
      go_ret
      exact ⟨by first | rfl | (simp; done) | (simp [*]; done), by repeat (first | exact Drawn0.refl _ | apply Drawn0.step)⟩

/-- THE ONE PURE STATEMENT of model_Frees: yours. -/
def model_Frees.Pure : Prop := ∀ (a0 : Int), (Lit.int .i64 a0).wf = true → model_Frees.f a0 = some true
theorem model_Frees.walk (P : model_Frees.Pure) (a0 : Int) (w : World) (w0 : (Lit.int .i64 a0).wf = true) :
    Calls Try.prog 24 #[.int .i64 a0] w fun e w' => e = .returned (.bool true) ∧ Below w.heap.size w w' := by
  have h := P a0 w0
  refine (model_Frees.calls a0 true w h).mono ?_
  rintro e w' ⟨rfl, hd⟩
  exact ⟨rfl, hd.below⟩

end Go.Proofs.Ytalmemcidbmdgaa.PM

-- written by xprint.py, a program of this session, over the kit's print (functions told by hand: see the texts)
namespace Go.Proofs.Ytalmemcidbmdgaa.PM
open Go.RowKit Go.Proofs.YtalmemcidbmdgaaW.PrintWords Go.Proofs.YtalmemcidbmdgaaW.PrintLast Go.Proofs.YtalmemcidbmdgaaW.PrintMore
attribute [local go_sem] max2_int min2_int max_two min_two max_three min_three max_four min_four   -- for this text's walks alone
set_option linter.unusedVariables false
set_option linter.unusedSimpArgs false

attribute [local go_sem high] eqA42
/-! ### story_Room: function 25 -/
end Go.Proofs.Ytalmemcidbmdgaa.PM

-- written by xprint.py, a program of this session, over the kit's print (functions told by hand: see the texts)
namespace Go.Proofs.Ytalmemcidbmdgaa.PM
open Go.RowKit Go.Proofs.YtalmemcidbmdgaaW.PrintWords Go.Proofs.YtalmemcidbmdgaaW.PrintLast Go.Proofs.YtalmemcidbmdgaaW.PrintMore
attribute [local go_sem] max2_int min2_int max_two min_two max_three min_three max_four min_four   -- for this text's walks alone
set_option linter.unusedVariables false
set_option linter.unusedSimpArgs false

/-! ### lookasideref18_Free: function 26 -/
end Go.Proofs.Ytalmemcidbmdgaa.PM

-- written by xprint.py, a program of this session, over the kit's print (functions told by hand: see the texts)
namespace Go.Proofs.Ytalmemcidbmdgaa.PM
open Go.RowKit Go.Proofs.YtalmemcidbmdgaaW.PrintWords Go.Proofs.YtalmemcidbmdgaaW.PrintLast Go.Proofs.YtalmemcidbmdgaaW.PrintMore
attribute [local go_sem] max2_int min2_int max_two min_two max_three min_three max_four min_four   -- for this text's walks alone
set_option linter.unusedVariables false
set_option linter.unusedSimpArgs false

/-! ### story_Ahead: function 28 -/
end Go.Proofs.Ytalmemcidbmdgaa.PM

-- written by xprint.py, a program of this session, over the kit's print (functions told by hand: see the texts)
namespace Go.Proofs.Ytalmemcidbmdgaa.PM
open Go.RowKit Go.Proofs.YtalmemcidbmdgaaW.PrintWords Go.Proofs.YtalmemcidbmdgaaW.PrintLast Go.Proofs.YtalmemcidbmdgaaW.PrintMore
attribute [local go_sem] max2_int min2_int max_two min_two max_three min_three max_four min_four   -- for this text's walks alone
set_option linter.unusedVariables false
set_option linter.unusedSimpArgs false

/-! ### lookasideref16_New: function 11 -/
end Go.Proofs.Ytalmemcidbmdgaa.PM

-- written by xprint.py, a program of this session, over the kit's print (functions told by hand: see the texts)
namespace Go.Proofs.Ytalmemcidbmdgaa.PM
open Go.RowKit Go.Proofs.YtalmemcidbmdgaaW.PrintWords Go.Proofs.YtalmemcidbmdgaaW.PrintLast Go.Proofs.YtalmemcidbmdgaaW.PrintMore
attribute [local go_sem] max2_int min2_int max_two min_two max_three min_three max_four min_four   -- for this text's walks alone
set_option linter.unusedVariables false
set_option linter.unusedSimpArgs false

/-! ### lookasideref12_At: function 64 -/
end Go.Proofs.Ytalmemcidbmdgaa.PM

-- written by xprint.py, a program of this session, over the kit's print (functions told by hand: see the texts)
namespace Go.Proofs.Ytalmemcidbmdgaa.PM
open Go.RowKit Go.Proofs.YtalmemcidbmdgaaW.PrintWords Go.Proofs.YtalmemcidbmdgaaW.PrintLast Go.Proofs.YtalmemcidbmdgaaW.PrintMore
attribute [local go_sem] max2_int min2_int max_two min_two max_three min_three max_four min_four   -- for this text's walks alone
set_option linter.unusedVariables false
set_option linter.unusedSimpArgs false

/-! ### lookasideref16_At: function 36 -/
-- NOT PRINTED: function 58 (lookasideref16_with)

-- NOT PRINTED: function 60 (lookasideref16_put)

/-! ### lookasideref16_get: function 61 -/
end Go.Proofs.Ytalmemcidbmdgaa.PM


namespace Go.Proofs.Ytalmemcidbmdgaa.BitsN
open Go.Proofs.YtalmemcidbmdgaaW.PrintMore

theorem w64 (n : Int) (h₀ : 0 ≤ n) (h₁ : n < 2 ^ 64) : IntKind.u64.wrap n = n := by rw [IntKind.wrap_u64]; omega
theorem and_nat (a b : Nat) (ha : a < 2 ^ 64) (hb : b < 2 ^ 64) : Go.bits .and .u64 (a : Int) (b : Int) = ((a &&& b : Nat) : Int) := (bits_nat .u64 64 (by decide) w64 a b ha hb).1
/-- the field's mask -/
def mk (P S : Nat) : Nat := (2 ^ S - 1) * 2 ^ P
theorem tb_mk (P S i : Nat) : (mk P S).testBit i = (decide (P ≤ i) && decide (i < P + S)) := by
  unfold mk
  rw [Nat.testBit_mul_two_pow, Nat.testBit_two_pow_sub_one]
  by_cases h : P ≤ i
  · have : (i - P < S) ↔ (i < P + S) := by omega
    simp [h, this]
  · simp [h]
theorem mk_lt (P S : Nat) (h : P + S ≤ 64) : mk P S < 2 ^ 64 := by
  unfold mk
  have h1 : 0 < 2 ^ S := Nat.two_pow_pos S
  have h2 : (2 ^ S - 1) * 2 ^ P < 2 ^ S * 2 ^ P := Nat.mul_lt_mul_of_pos_right (by omega) (Nat.two_pow_pos P)
  rw [← Nat.pow_add] at h2
  exact Nat.lt_of_lt_of_le h2 (Nat.pow_le_pow_right (by decide) (by omega))
/-- what stands in the field -/
def get (w P S : Nat) : Nat := w / 2 ^ P % 2 ^ S
theorem tb_get (w P S i : Nat) : (get w P S).testBit i = (decide (i < S) && w.testBit (P + i)) := by
  unfold get
  rw [Nat.testBit_mod_two_pow, Nat.testBit_div_two_pow, Nat.add_comm]
theorem and_mk_div (w P S : Nat) : (w &&& mk P S) / 2 ^ P = get w P S := by
  apply Nat.eq_of_testBit_eq
  intro i
  rw [Nat.testBit_div_two_pow, Nat.testBit_and, tb_mk, tb_get, Nat.add_comm i P]
  have : P ≤ P + i := by omega
  have h2 : (P + i < P + S) ↔ i < S := by omega
  simp [this, h2, Bool.and_comm]
/-- a word with a number in the field -/
def put (w P S v : Nat) : Nat := (w &&& (2 ^ 64 - (mk P S + 1))) ||| (v * 2 ^ P % 2 ^ 64 &&& mk P S)
end Go.Proofs.Ytalmemcidbmdgaa.BitsN

namespace Go.Proofs.Ytalmemcidbmdgaa.FieldG
open Go.RowKit Go.Proofs.Ytalmemcidbmdgaa.PM Go.Proofs.Ytalmemcidbmdgaa.BitsN Go.Proofs.YtalmemcidbmdgaaW.PrintWords Go.Proofs.YtalmemcidbmdgaaW.PrintLast Go.Proofs.YtalmemcidbmdgaaW.PrintMore

def May (p s : Int) : Prop := 0 ≤ p ∧ 1 ≤ s ∧ s ≤ 64 ∧ p + s ≤ 64
instance (p s : Int) : Decidable (May p s) := by unfold May; infer_instance
theorem may_eq (p s : Int) : field_May.f p s = some (decide (May p s)) := by
  unfold field_May.f May
  by_cases h1 : p ≥ 0
  · rw [if_pos h1]
    by_cases h2 : s ≥ 1
    · rw [if_pos h2]
      by_cases h3 : s ≤ 64
      · rw [if_pos h3]
        have : wrap64 (64 - s) = 64 - s := by unfold wrap64; omega
        rw [this]
        congr 1
        apply decide_eq_decide.mpr
        omega
      · rw [if_neg h3]; exact congrArg some (decide_eq_false (by omega)).symm
    · rw [if_neg h2]; exact congrArg some (decide_eq_false (by omega)).symm
  · rw [if_neg h1]; exact congrArg some (decide_eq_false (by omega)).symm
theorem may_of {P S : Nat} (h1 : 1 ≤ S) (h : P + S ≤ 64) : May (P : Int) (S : Int) := ⟨by omega, by omega, by omega, by omega⟩
theorem pow_cast (n : Nat) : ((2 : Int) ^ n) = ((2 ^ n : Nat) : Int) := by simp
theorem shr_nat (a n : Nat) (hn : n ≤ 64) : shr .u64 (a : Int) (n : Int) = ((a / 2 ^ n : Nat) : Int) := by
  unfold shr
  have : min (n : Int).toNat IntKind.u64.bits = n := by
    have : IntKind.u64.bits = 64 := rfl
    omega
  rw [this, pow_cast, Int.natCast_ediv]
theorem shl_nat (a n : Nat) (hn : n ≤ 64) : shl .u64 (a : Int) (n : Int) = ((a * 2 ^ n % 2 ^ 64 : Nat) : Int) := by
  unfold shl
  have : min (n : Int).toNat IntKind.u64.bits = n := by
    have : IntKind.u64.bits = 64 := rfl
    omega
  rw [this, pow_cast, IntKind.wrap_u64, ← Int.natCast_mul]
  omega
theorem mask_yes {P S : Nat} (h1 : 1 ≤ S) (h : P + S ≤ 64) : field_Mask.f P S = some ((mk P S : Nat) : Int) := by
  unfold field_Mask.f
  rw [may_eq, decide_eq_true (may_of h1 h)]
  simp only [Option.bind_some, if_true]
  have e : wrap64 (64 - (S : Int)) = ((64 - S : Nat) : Int) := by unfold wrap64; omega
  rw [e, if_pos (by omega), if_pos (by omega)]
  have e2 : (18446744073709551615 : Int) = ((2 ^ 64 - 1 : Nat) : Int) := by simp
  rw [e2, shr_nat _ _ (by omega), shl_nat _ _ (by omega)]
  congr 2
  have hp : (2 : Nat) ^ 64 = 2 ^ S * 2 ^ (64 - S) := by rw [← Nat.pow_add]; congr 1; omega
  have : (2 ^ 64 - 1) / 2 ^ (64 - S) = 2 ^ S - 1 := by
    rw [hp]
    have hq : 0 < 2 ^ (64 - S) := Nat.two_pow_pos _
    have hs : 0 < 2 ^ S := Nat.two_pow_pos _
    have e3 : 2 ^ S * 2 ^ (64 - S) - 1 = (2 ^ S - 1) * 2 ^ (64 - S) + (2 ^ (64 - S) - 1) := by
      have : (2 ^ S - 1) * 2 ^ (64 - S) = 2 ^ S * 2 ^ (64 - S) - 2 ^ (64 - S) := by rw [Nat.sub_mul, Nat.one_mul]
      have : 2 ^ (64 - S) ≤ 2 ^ S * 2 ^ (64 - S) := Nat.le_mul_of_pos_left _ hs
      omega
    rw [e3, Nat.add_comm, Nat.add_mul_div_right _ _ hq, Nat.div_eq_of_lt (by omega)]
    omega
  rw [this]
  exact Nat.mod_eq_of_lt (mk_lt P S h)
theorem get_yes {P S : Nat} (w : Nat) (hw : w < 2 ^ 64) (h1 : 1 ≤ S) (h : P + S ≤ 64) : field_Get.f w P S = some ((get w P S : Nat) : Int) := by
  unfold field_Get.f
  rw [may_eq, decide_eq_true (may_of h1 h)]
  simp only [Option.bind_some, if_true]
  rw [mask_yes h1 h]
  simp only [Option.bind_some]
  rw [if_pos (by omega), and_nat _ _ hw (mk_lt P S h), shr_nat _ _ (by omega), and_mk_div]
end Go.Proofs.Ytalmemcidbmdgaa.FieldG

/- Pages' bases: the program's and the reference's. -/
set_option linter.unusedVariables false
set_option linter.unusedSimpArgs false
namespace Go.Proofs.Ytalmemcidbmdgaa.PageG
open Go.RowKit Go.Proofs.Ytalmemcidbmdgaa.PM Go.Proofs.Ytalmemcidbmdgaa.BitsN Go.Proofs.YtalmemcidbmdgaaW.PrintWords Go.Proofs.YtalmemcidbmdgaaW.PrintLast Go.Proofs.YtalmemcidbmdgaaW.PrintMore
theorem pmay (s : Int) : page_May.f s = some (decide (0 ≤ s ∧ s < 4)) := by
  unfold page_May.f
  split
  · congr 1; rw [Bool.eq_iff_iff]; simp; omega
  · congr 1; rw [Bool.eq_iff_iff]; simp; omega
theorem pbits (s : Nat) (h : s < 4) : page_Bits.f s = some ((13 + 3 * s : Nat) : Int) := by
  have : s = 0 ∨ s = 1 ∨ s = 2 ∨ s = 3 := by omega
  rcases this with rfl | rfl | rfl | rfl <;> decide +kernel
theorem wu (n : Int) (h0 : 0 ≤ n) (h1 : n < 18446744073709551616) : IntKind.u64.wrap n = n := by rw [IntKind.wrap_u64]; omega
/-- Where the page of an address begins. -/
def bs (va s : Nat) : Nat := va / 2 ^ (13 + 3 * s) * 2 ^ (13 + 3 * s)
theorem bs_le (va s : Nat) : bs va s ≤ va := Nat.div_mul_le_self _ _
theorem off_p (va s : Nat) (hv : va < 2 ^ 64) (hs : s < 4) : page_Offset.f va s = some ((va % 2 ^ (13 + 3 * s) : Nat) : Int) := by
  unfold page_Offset.f
  rw [pmay]
  rw [Option.bind_some]
  rw [if_pos (by simp; omega), pbits s hs]
  rw [Option.bind_some]
  have hg := FieldG.get_yes (P := 0) (S := 13 + 3 * s) va hv (by omega) (by omega)
  rw [show ((0 : Nat) : Int) = 0 from rfl] at hg
  rw [hg]
  rw [Option.bind_some]
  unfold BitsN.get
  simp only [Nat.pow_zero, Nat.div_one]
theorem base_p (va s : Nat) (hv : va < 2 ^ 64) (hs : s < 4) : page_Base.f va s = some ((bs va s : Nat) : Int) := by
  unfold page_Base.f
  rw [pmay]
  rw [Option.bind_some]
  rw [if_pos (by simp; omega), off_p va s hv hs]
  rw [Option.bind_some]
  have h1 : bs va s + va % 2 ^ (13 + 3 * s) = va := by unfold bs; rw [Nat.mul_comm]; exact Nat.div_add_mod _ _
  rw [wu _ (by omega) (by omega)]
  congr 1
  omega
theorem in_p (a b s : Nat) (ha : a < 2 ^ 64) (hb : b < 2 ^ 64) (hs : s < 4) : page_In.f a b s = some (decide (bs a s = bs b s)) := by
  unfold page_In.f
  rw [pmay]
  rw [Option.bind_some]
  rw [if_pos (by simp; omega), base_p a s ha hs]
  rw [Option.bind_some]
  rw [base_p b s hb hs]
  rw [Option.bind_some]
  congr 1
  rw [Bool.eq_iff_iff]
  simp
  omega
theorem meet_p (a m b n : Nat) (ha : a < 2 ^ 64) (hb : b < 2 ^ 64) (hm : m < 4) (hn : n < 4) : page_Meet.f a m b n = some (decide (bs a (max m n) = bs b (max m n))) := by
  unfold page_Meet.f
  rw [pmay]
  rw [Option.bind_some]
  rw [if_pos (by simp; omega), pmay]
  rw [Option.bind_some]
  rw [if_pos (by simp; omega)]
  have hmx : mx (m : Int) (n : Int) = ((max m n : Nat) : Int) := by unfold mx; split <;> omega
  rw [hmx, in_p a b (max m n) ha hb (by omega)]
  rw [Option.bind_some]
end Go.Proofs.Ytalmemcidbmdgaa.PageG

/- A model of spaces (layer 16), plain: its pages, which is at an address, and what is done with them. -/
set_option linter.unusedVariables false
set_option linter.unusedSimpArgs false
namespace Go.Proofs.Ytalmemcidbmdgaa.PM
open Go.RowKit Go.Proofs.Ytalmemcidbmdgaa.PageG
abbrev Pg := S50
abbrev Atr := S34
abbrev Ent := S105
abbrev Bt := S114
def vaN (x : Ent) : Nat := x.f1.f0.toNat
def szN (x : Ent) : Nat := x.f1.f1.toNat
structure OkE (x : Ent) : Prop where
  sp0 : 0 ≤ x.f0
  sp1 : x.f0 < 64
  va : x.f1.f0 = (vaN x : Int)
  va1 : vaN x < 2 ^ 64
  sz : x.f1.f1 = (szN x : Int)
  sz1 : szN x < 4
  st : bs (vaN x) (szN x) = vaN x
  pa0 : 0 ≤ x.f1.f2
  pa1 : x.f1.f2 < 1000000
def meets (x y : Ent) : Prop := x.f0 = y.f0 ∧ bs (vaN x) (max (szN x) (szN y)) = bs (vaN y) (max (szN x) (szN y))
structure WfL (L : List Ent) : Prop where
  ok : ∀ x ∈ L, OkE x
  apart : L.Pairwise (fun x y => ¬ meets x y)
def hit (sp : Int) (va : Nat) (x : Ent) : Bool := x.f0 == sp && bs va (szN x) == vaN x
theorem hit_iff {sp : Int} {va : Nat} {x : Ent} : hit sp va x = true ↔ x.f0 = sp ∧ bs va (szN x) = vaN x := by simp [hit]
theorem div_div_pow (v a b : Nat) (h : a ≤ b) : v / 2 ^ a * 2 ^ a / 2 ^ b = v / 2 ^ b := by
  have e : 2 ^ b = 2 ^ a * 2 ^ (b - a) := by rw [← Nat.pow_add]; congr 1; omega
  rw [e, ← Nat.div_div_eq_div_mul, Nat.mul_div_cancel _ (Nat.two_pow_pos a), ← Nat.div_div_eq_div_mul]
theorem bs_bs (v a b : Nat) (h : a ≤ b) : bs (bs v a) b = bs v b := by
  unfold bs
  rw [div_div_pow v _ _ (by omega)]
theorem meets_symm {x y : Ent} (h : meets x y) : meets y x := ⟨h.1.symm, by rw [Nat.max_comm]; exact h.2.symm⟩
theorem hit_meets {sp : Int} {va : Nat} {x y : Ent} (hx : hit sp va x = true) (hy : hit sp va y = true) : meets x y := by
  obtain ⟨h1, h2⟩ := hit_iff.1 hx
  obtain ⟨h3, h4⟩ := hit_iff.1 hy
  refine ⟨h1.trans h3.symm, ?_⟩
  rw [← h2, ← h4, bs_bs _ _ _ (Nat.le_max_left _ _), bs_bs _ _ _ (Nat.le_max_right _ _)]
theorem pw_index {α : Type} {R : α → α → Prop} (hs : ∀ x y, R x y → R y x) : ∀ {l : List α}, l.Pairwise (fun x y => ¬ R x y) → ∀ {i j : Nat} {x y : α}, l[i]? = some x → l[j]? = some y → R x y → i = j
  | [], _, i, j, x, y, hi, _, _ => by simp at hi
  | a :: l, h, 0, 0, x, y, _, _, _ => rfl
  | a :: l, h, 0, j + 1, x, y, hi, hj, hr => by
    simp at hi hj
    subst hi
    exact absurd hr ((List.pairwise_cons.1 h).1 y (List.mem_of_getElem? hj))
  | a :: l, h, i + 1, 0, x, y, hi, hj, hr => by
    simp at hi hj
    subst hj
    exact absurd (hs _ _ hr) ((List.pairwise_cons.1 h).1 x (List.mem_of_getElem? hi))
  | a :: l, h, i + 1, j + 1, x, y, hi, hj, hr => by
    simp at hi hj
    rw [pw_index hs (List.pairwise_cons.1 h).2 hi hj hr]
theorem WfL.one {L : List Ent} (h : WfL L) {i j : Nat} {x y : Ent} (hi : L[i]? = some x) (hj : L[j]? = some y) (hm : meets x y) : i = j := pw_index (fun _ _ => meets_symm) h.apart hi hj hm
/-- Where a space's page at an address stands. -/
def find (L : List Ent) (sp : Int) (va : Nat) : Option Nat := L.findIdx? (hit sp va)
theorem find_some {L : List Ent} {sp : Int} {va i : Nat} (h : find L sp va = some i) : ∃ x, L[i]? = some x ∧ hit sp va x = true := by
  unfold find at h
  rw [List.findIdx?_eq_some_iff_getElem] at h
  obtain ⟨hi, h1, _⟩ := h
  exact ⟨L[i], List.getElem?_eq_getElem hi, h1⟩
theorem find_none {L : List Ent} {sp : Int} {va : Nat} (h : find L sp va = none) : ∀ x ∈ L, hit sp va x = false := by
  unfold find at h
  rw [List.findIdx?_eq_none_iff] at h
  exact h
theorem find_of {L : List Ent} (hw : WfL L) {sp : Int} {va i : Nat} {x : Ent} (hi : L[i]? = some x) (h : hit sp va x = true) : find L sp va = some i := by
  cases hf : find L sp va with
  | none => rw [find_none hf x (List.mem_of_getElem? hi)] at h; cases h
  | some j =>
    obtain ⟨y, hj, hy⟩ := find_some hf
    rw [hw.one hj hi (hit_meets hy h)]
/-- A region's byte. -/
def getB (by_ : List Bt) (r o : Int) : Int := match by_.find? (fun b => b.f0 == r && b.f1 == o) with
  | some b => b.f2
  | none => 0
def putB (by_ : List Bt) (r o v : Int) : List Bt := ⟨r, o, v⟩ :: by_.filter (fun b => !(b.f0 == r && b.f1 == o))
def cutB (by_ : List Bt) (r : Int) : List Bt := by_.filter (fun b => !(b.f0 == r))
theorem find_filter_of {α : Type} {p q : α → Bool} (h : ∀ b, q b = true → p b = true) : ∀ l : List α, (l.filter p).find? q = l.find? q
  | [] => rfl
  | b :: l => by
    cases hq : q b with
    | true => simp [List.filter_cons, h b hq, hq]
    | false =>
      cases hp : p b <;> simp [List.filter_cons, hp, hq, find_filter_of h l]
theorem find_filter_no {α : Type} {p q : α → Bool} (h : ∀ b, q b = true → p b = false) (l : List α) : (l.filter p).find? q = none := by
  rw [List.find?_eq_none]
  intro b hb hq
  have := (List.mem_filter.1 hb).2
  rw [h b hq] at this
  cases this
theorem getB_put (by_ : List Bt) (r o v r' o' : Int) : getB (putB by_ r o v) r' o' = if r' = r ∧ o' = o then v else getB by_ r' o' := by
  unfold getB putB
  by_cases h : r' = r ∧ o' = o
  · obtain ⟨rfl, rfl⟩ := h
    simp
  · rw [if_neg h]
    have h0 : ((r == r') && (o == o')) = false := by
      rw [Bool.and_eq_false_iff]
      by_cases e : r' = r
      · right; simp; intro e2; exact h ⟨e, e2.symm⟩
      · left; simp; exact fun e2 => e e2.symm
    rw [List.find?_cons]
    simp only [h0]
    rw [find_filter_of (fun b hb => ?_)]
    simp only [Bool.and_eq_true, beq_iff_eq] at hb
    cases hc : (b.f0 == r && b.f1 == o) with
    | false => rfl
    | true =>
      simp only [Bool.and_eq_true, beq_iff_eq] at hc
      exact absurd ⟨hb.1.symm.trans hc.1, hb.2.symm.trans hc.2⟩ h
theorem getB_cut (by_ : List Bt) (r r' o' : Int) : getB (cutB by_ r) r' o' = if r' = r then 0 else getB by_ r' o' := by
  unfold getB cutB
  by_cases h : r' = r
  · rw [if_pos h, find_filter_no (fun b hb => ?_)]
    simp only [Bool.and_eq_true, beq_iff_eq] at hb
    simp [hb.1, h]
  · rw [if_neg h, find_filter_of (fun b hb => ?_)]
    simp only [Bool.and_eq_true, beq_iff_eq] at hb
    simp [hb.1, h]
/-- How many pages are on a region. -/
def winN (L : List Ent) (r : Int) : Nat := L.countP (fun x => x.f1.f2 == r)
end Go.Proofs.Ytalmemcidbmdgaa.PM

/- A model of spaces (layer 16) in memory. -/
set_option linter.unusedVariables false
set_option linter.unusedSimpArgs false
namespace Go.Proofs.Ytalmemcidbmdgaa.PM
open Go.RowKit Go.Proofs.YtalmemcidbmdgaaW.PrintWords Go.Proofs.YtalmemcidbmdgaaW.PrintLast Go.Proofs.YtalmemcidbmdgaaW.PrintMore Go.Proofs.Ytalmemcidbmdgaa.PageG
/-- What stays beside some blocks. -/
structure Mv (S : List Nat) (w w' : World) : Prop where
  os : w'.os = w.os
  tape : w'.tape = w.tape
  output : w'.output = w.output
  size : w.heap.size ≤ w'.heap.size
  block : ∀ k, k < w.heap.size → k ∉ S → w'.heap[k]? = w.heap[k]?
theorem Mv.of_below {S : List Nat} {w w' : World} (h : Below w.heap.size w w') : Mv S w w' := ⟨h.os, h.tape, h.output, h.size, fun k hk _ => h.block k hk⟩
theorem Mv.refl (S : List Nat) (w : World) : Mv S w w := Mv.of_below (Below.refl _ _)
theorem Mv.below {S : List Nat} {B : Nat} {w w' : World} (h : Mv S w w') (hB : B ≤ w.heap.size) (hS : ∀ k ∈ S, B ≤ k) : Below B w w' :=
  ⟨h.os, h.tape, h.output, h.size, fun k hk => h.block k (Nat.lt_of_lt_of_le hk hB) (fun hm => Nat.not_lt.2 (hS k hm) hk)⟩
theorem Mv.trans {S S' : List Nat} {w w1 w2 : World} (h : Mv S w w1) (h' : Mv S' w1 w2) (hS : ∀ k ∈ S', k ∈ S ∨ w.heap.size ≤ k) : Mv S w w2 :=
  ⟨h'.os.trans h.os, h'.tape.trans h.tape, h'.output.trans h.output, Nat.le_trans h.size h'.size, fun k hk hn => (h'.block k (Nat.lt_of_lt_of_le hk h.size) (fun hm => (hS k hm).elim hn (fun h => Nat.not_lt.2 h hk))).trans (h.block k hk hn)⟩
theorem Mv.then {S : List Nat} {w w1 w2 : World} (h : Mv S w w1) (h' : Mv S w1 w2) : Mv S w w2 := h.trans h' (fun _ hk => .inl hk)
theorem Mv.set {S : List Nat} {w W : World} {p : Addr} (h : Mv S w W) (hp : p.block ∈ S ∨ w.heap.size ≤ p.block) (u : Value) : Mv S w (W.setCell p u) :=
  ⟨h.os, h.tape, h.output, by have : (W.setCell p u).heap.size = W.heap.size := by simp [World.setCell]
                              rw [this]; exact h.size, fun k hk hn => (Below.heap_setCell W p u k (fun e => hp.elim (fun h => hn (e ▸ h)) (fun h => by omega))).trans (h.block k hk hn)⟩
theorem sb_other {W : World} {b k : Nat} (o : Obj) (e : k ≠ b) : (ChangeMaps.setBlock W b o).heap[k]? = W.heap[k]? := by simp [ChangeMaps.setBlock, Array.getElem?_setIfInBounds, Ne.symm e]
theorem sb_size (W : World) (b : Nat) (o : Obj) : (ChangeMaps.setBlock W b o).heap.size = W.heap.size := by simp [ChangeMaps.setBlock]
theorem Mv.setBlock {S : List Nat} {w W : World} {b : Nat} (h : Mv S w W) (hp : b ∈ S ∨ w.heap.size ≤ b) (o : Obj) : Mv S w (ChangeMaps.setBlock W b o) :=
  ⟨h.os, h.tape, h.output, by rw [sb_size]; exact h.size, fun k hk hn => by
    have e : k ≠ b := fun e => hp.elim (fun h => hn (e ▸ h)) (fun h => by omega)
    exact (sb_other o e).trans (h.block k hk hn)⟩
theorem Mv.cell {S : List Nat} {w w' : World} {p : Addr} {v : Value} (hm : Mv S w w') (hc : w.cell? p = some v) (hn : p.block ∉ S) : w'.cell? p = some v :=
  (World.cell?_of_block (hm.block _ (World.block_lt_of_cell? _ _ hc) hn)).trans hc
theorem cell_up {w0 W : World} {a : Addr} {v : Value} (hb : Below w0.heap.size w0 W) (h : w0.cell? a = some v) : W.cell? a = some v := (hb.cell (World.block_lt_of_cell? _ _ h)).trans h
def pgv (p : Pg) : Value := .agg #[.int .u64 p.f0, .int .i64 p.f1, .int .u64 p.f2, .bool p.f3.f0, .bool p.f3.f1, .bool p.f3.f2, .bool p.f3.f3, .bool p.f3.f4, .bool p.f3.f5, .bool p.f4, .bool p.f5]
def enP (x : Ent) : Value × Value := (kyv x.f0 x.f1.f0 x.f1.f1, pgv x.f1)
theorem undP : Try.prog.underlying 72 = some (.map 84 50) := Try.underlying72
theorem undB : Try.prog.underlying 73 = some (.map 91 5) := Try.underlying73
def z0 : Pg := ⟨0, 0, 0, ⟨false, false, false, false, false, false⟩, false, false⟩
theorem zeroP (w : World) : (zeroValue 50).run Try.prog w = .ok (pgv z0) w := by kernel_rfl
theorem zeroU (w : World) : (zeroValue 5).run Try.prog w = .ok (.int .u8 0) w := by kernel_rfl
/-- The bytes' map, as a function. -/
structure BRel (l : ML.En) (by_ : List Bt) : Prop where
  form : ∀ p ∈ l, ∃ r o v, p = (spv r o, .int .u8 v) ∧ W64 r ∧ U64 o ∧ 0 ≤ v ∧ v < 256
  has : ∀ r o v, (spv r o, Value.int .u8 v) ∈ l → v = getB by_ r o
  hasnt : ∀ r o, (∀ p ∈ l, p.1 ≠ spv r o) → getB by_ r o = 0
def BM (w : World) (bm : Nat) (by_ : List Bt) : Prop := ∃ l, ML.At Try.prog 91 w bm l ∧ BRel l by_
structure MS where
  n : Int
  L : List Ent
  by_ : List Bt
  made : Int
structure Mo (w : World) (B pm bm : Nat) (s : MS) : Prop where
  hb : w.heap[B]? = some (.cells #[.int .i64 s.n, .map (some pm), .map (some bm), .int .i64 s.made] 75 (0, 0))
  hp : ML.At Try.prog 84 w pm (s.L.map enP)
  hm : BM w bm s.by_
  ne : pm ≠ bm
section
variable {w w' : World} {B pm bm : Nat} {s : MS}
theorem Mo.neB (h : Mo w B pm bm s) : B ≠ pm ∧ B ≠ bm := by
  obtain ⟨es, c, h1⟩ := h.hp.block
  obtain ⟨l, h2, _⟩ := h.hm
  obtain ⟨es2, c2, h3⟩ := h2.block
  have hb := h.hb
  constructor
  · rintro rfl
    rw [h1] at hb
    cases hb
  · rintro rfl
    rw [h3] at hb
    cases hb
theorem Mo.lt (h : Mo w B pm bm s) : ∀ k ∈ [B, pm, bm], k < w.heap.size := by
  obtain ⟨l, h2, _⟩ := h.hm
  have h1 := h.hp.lt
  have h3 := h2.lt
  have h0 := blk_lt h.hb
  intro k hk
  simp at hk
  rcases hk with rfl | rfl | rfl <;> assumption
theorem BM.move {by_ : List Bt} (h : BM w bm by_) (hb : w'.heap[bm]? = w.heap[bm]?) : BM w' bm by_ := by
  obtain ⟨l, h1, h2⟩ := h
  exact ⟨l, h1.move hb, h2⟩
theorem Mo.move (h : Mo w B pm bm s) (hm : ∀ k ∈ [B, pm, bm], w'.heap[k]? = w.heap[k]?) : Mo w' B pm bm s :=
  ⟨(hm B (by simp)).trans h.hb, h.hp.move (hm pm (by simp)), h.hm.move (hm bm (by simp)), h.ne⟩
theorem Mo.below (h : Mo w B pm bm s) (hb : Below w.heap.size w w') : Mo w' B pm bm s := h.move (fun k hk => hb.block k (h.lt k hk))
theorem Mo.cells (h : Mo w B pm bm s) : w.cell? ⟨B, 0, none⟩ = some (.int .i64 s.n) ∧ w.cell? ⟨B, 1, none⟩ = some (.map (some pm)) ∧ w.cell? ⟨B, 2, none⟩ = some (.map (some bm)) ∧ w.cell? ⟨B, 3, none⟩ = some (.int .i64 s.made) :=
  ⟨(blk_cell h.hb 0).trans rfl, (blk_cell h.hb 1).trans rfl, (blk_cell h.hb 2).trans rfl, (blk_cell h.hb 3).trans rfl⟩
theorem key_x {x : Ent} (h : OkE x) : ∃ kl, keyOf Try.prog 84 (kyv x.f0 x.f1.f0 x.f1.f1) = some kl := by
  have h1 := h.sp0; have h2 := h.sp1; have h3 := h.va; have h4 := h.va1; have h5 := h.sz; have h6 := h.sz1
  exact key_k ⟨by omega, by omega⟩ ⟨by omega, by omega⟩ ⟨by omega, by omega⟩
/-- m.pages[k], which is there. -/
theorem Mo.look_yes (h : Mo w B pm bm s) (hw : WfL s.L) {x : Ent} (hx : x ∈ s.L) :
    (Instr.lookup 72 (.map (some pm)) (kyv x.f0 x.f1.f0 x.f1.f1) true).run Try.prog w = .ok (.tuple #[pgv x.f1, .bool true]) w ∧ (Instr.lookup 72 (.map (some pm)) (kyv x.f0 x.f1.f0 x.f1.f1) false).run Try.prog w = .ok (pgv x.f1) w := by
  obtain ⟨kl, hkl⟩ := key_x (hw.ok x hx)
  exact h.hp.look_yes keyedK undP hkl (List.mem_map.2 ⟨x, hx, rfl⟩)
/-- m.pages[k], which is not there. -/
theorem Mo.look_no (h : Mo w B pm bm s) {sp va sz : Int} (h1 : W64 sp) (h2 : U64 va) (h3 : W64 sz) (hn : ∀ x ∈ s.L, ¬ (x.f0 = sp ∧ x.f1.f0 = va ∧ x.f1.f1 = sz)) :
    (Instr.lookup 72 (.map (some pm)) (kyv sp va sz) true).run Try.prog w = .ok (.tuple #[pgv z0, .bool false]) w := by
  obtain ⟨kl, hkl⟩ := key_k h1 h2 h3
  refine (h.hp.look_no keyedK undP zeroP hkl (fun p hp => ?_)).1
  obtain ⟨x, hx, rfl⟩ := List.mem_map.1 hp
  exact fun e => hn x hx (kyv_inj e)
/-- m.bytes[s]. -/
theorem Mo.look_b (h : Mo w B pm bm s) {r o : Int} (h1 : W64 r) (h2 : U64 o) :
    (Instr.lookup 73 (.map (some bm)) (spv r o) false).run Try.prog w = .ok (.int .u8 (getB s.by_ r o)) w := by
  obtain ⟨l, hl, hr⟩ := h.hm
  obtain ⟨kl, hkl⟩ := key_s h1 h2
  by_cases hx : ∃ p ∈ l, p.1 = spv r o
  · obtain ⟨p, hp, e⟩ := hx
    obtain ⟨r', o', v, rfl, _⟩ := hr.form p hp
    obtain ⟨rfl, rfl⟩ := spv_inj e
    rw [(hl.look_yes keyedS undB hkl hp).2, hr.has _ _ _ hp]
  · have hx' : ∀ p ∈ l, p.1 ≠ spv r o := fun p hp e => hx ⟨p, hp, e⟩
    rw [(hl.look_no keyedS undB zeroU hkl hx').2, hr.hasnt _ _ hx']
theorem split_map {x : Ent} {L : List Ent} {i : Nat} (hi : L[i]? = some x) : L.map enP = (L.take i).map enP ++ enP x :: (L.drop (i + 1)).map enP := by
  obtain ⟨hlt, he⟩ := List.getElem?_eq_some_iff.1 hi
  have : L = L.take i ++ x :: L.drop (i + 1) := by
    rw [← he, ← List.drop_eq_getElem_cons hlt, List.take_append_drop]
  conv => lhs; rw [this]
  simp
/-- m.pages[k] = p of a page that is there. -/
theorem Mo.set_page (h : Mo w B pm bm s) (hw : WfL s.L) {i : Nat} {x : Ent} (hi : s.L[i]? = some x) (p : Pg) (h0 : p.f0 = x.f1.f0) (h1 : p.f1 = x.f1.f1) :
    ∃ o, (Instr.mapUpdate 72 (.map (some pm)) (kyv x.f0 x.f1.f0 x.f1.f1) (pgv p)).run Try.prog w = .ok () (ChangeMaps.setBlock w pm o) ∧
      Mo (ChangeMaps.setBlock w pm o) B pm bm { s with L := s.L.set i ⟨x.f0, p⟩ } := by
  obtain ⟨kl, hkl⟩ := key_x (hw.ok x (List.mem_of_getElem? hi))
  obtain ⟨o, l', hrun, hput, hat⟩ := h.hp.update keyedK undP hkl (pgv p)
  have hne := h.neB
  have hspl := split_map hi
  have hl' : l' = (s.L.set i ⟨x.f0, p⟩).map enP := by
    have hlt := (List.getElem?_eq_some_iff.1 hi).1
    have hnd := h.hp.nodup
    rcases hput with ⟨l1, v0, l2, e1, e2⟩ | ⟨hno, _⟩
    · rw [hspl] at e1 hnd
      obtain ⟨e3, _, e4⟩ := ML.split_one hnd e1
      rw [e2, ← e3, ← e4, List.set_eq_take_append_cons_drop, if_pos hlt]
      simp [enP, h0, h1]
    · exact absurd rfl (hno (enP x) (List.mem_map.2 ⟨x, List.mem_of_getElem? hi, rfl⟩))
  refine ⟨o, hrun, ⟨(sb_other o hne.1).trans h.hb, hl' ▸ hat, h.hm.move (sb_other o (Ne.symm h.ne)), h.ne⟩⟩
/-- m.pages[k] = p of a new page. -/
theorem Mo.new_page (h : Mo w B pm bm s) (x : Ent) (hx : OkE x) (hn : ∀ y ∈ s.L, ¬ (y.f0 = x.f0 ∧ y.f1.f0 = x.f1.f0 ∧ y.f1.f1 = x.f1.f1)) :
    ∃ o, (Instr.mapUpdate 72 (.map (some pm)) (kyv x.f0 x.f1.f0 x.f1.f1) (pgv x.f1)).run Try.prog w = .ok () (ChangeMaps.setBlock w pm o) ∧
      Mo (ChangeMaps.setBlock w pm o) B pm bm { s with L := s.L ++ [x] } := by
  obtain ⟨kl, hkl⟩ := key_x hx
  obtain ⟨o, l', hrun, hput, hat⟩ := h.hp.update keyedK undP hkl (pgv x.f1)
  have hne := h.neB
  have hl' : l' = (s.L ++ [x]).map enP := by
    rcases hput with ⟨l1, v0, l2, e1, e2⟩ | ⟨_, e⟩
    · have hm : (kyv x.f0 x.f1.f0 x.f1.f1, v0) ∈ s.L.map enP := by rw [e1]; simp
      obtain ⟨y, hy, e⟩ := List.mem_map.1 hm
      exact absurd (kyv_inj (congrArg Prod.fst e)) (hn y hy)
    · rw [e]
      simp [enP]
  exact ⟨o, hrun, ⟨(sb_other o hne.1).trans h.hb, hl' ▸ hat, h.hm.move (sb_other o (Ne.symm h.ne)), h.ne⟩⟩
/-- delete(m.pages, k). -/
theorem Mo.del_page (h : Mo w B pm bm s) (hw : WfL s.L) {i : Nat} {x : Ent} (hi : s.L[i]? = some x) (ty : TypeId) :
    ∃ o, (Builtin.delete_ #[72, 84] ty #[.map (some pm), kyv x.f0 x.f1.f0 x.f1.f1]).run Try.prog w = .ok (.tuple #[]) (ChangeMaps.setBlock w pm o) ∧
      Mo (ChangeMaps.setBlock w pm o) B pm bm { s with L := s.L.eraseIdx i } := by
  obtain ⟨kl, hkl⟩ := key_x (hw.ok x (List.mem_of_getElem? hi))
  have hne := h.neB
  obtain ⟨o, hrun, hat⟩ := h.hp.drop keyedK undP hkl (split_map hi) ty
  refine ⟨o, hrun, ⟨(sb_other o hne.1).trans h.hb, ?_, h.hm.move (sb_other o (Ne.symm h.ne)), h.ne⟩⟩
  have : (s.L.eraseIdx i).map enP = (s.L.take i).map enP ++ (s.L.drop (i + 1)).map enP := by
    rw [List.eraseIdx_eq_take_drop_succ, List.map_append]
  rw [this]
  exact hat
/-- m.bytes[s] = b. -/
theorem Mo.set_byte (h : Mo w B pm bm s) {r o v : Int} (h1 : W64 r) (h2 : U64 o) (h3 : 0 ≤ v) (h4 : v < 256) :
    ∃ ob, (Instr.mapUpdate 73 (.map (some bm)) (spv r o) (.int .u8 v)).run Try.prog w = .ok () (ChangeMaps.setBlock w bm ob) ∧
      Mo (ChangeMaps.setBlock w bm ob) B pm bm { s with by_ := putB s.by_ r o v } := by
  obtain ⟨l, hl, hr⟩ := h.hm
  obtain ⟨kl, hkl⟩ := key_s h1 h2
  have hne := h.neB
  obtain ⟨ob, l', hrun, hput, hat⟩ := hl.update keyedS undB hkl (.int .u8 v)
  have hnd := hl.nodup
  refine ⟨ob, hrun, ⟨(sb_other ob hne.2).trans h.hb, h.hp.move (sb_other ob h.ne), ⟨l', hat, ?_⟩, h.ne⟩⟩
  rcases hput with ⟨l1, v0, l2, rfl, rfl⟩ | ⟨hno, rfl⟩
  · have hnd' : ((l1 ++ (spv r o, Value.int .u8 v) :: l2).map (·.1)).Nodup := by simpa using hnd
    refine ⟨fun p hp => ?_, fun r' o' v' hp => ?_, fun r' o' hp => ?_⟩
    · simp only [List.mem_append, List.mem_cons] at hp
      rcases hp with hp | rfl | hp
      · exact hr.form p (by simp [hp])
      · exact ⟨r, o, v, rfl, h1, h2, h3, h4⟩
      · exact hr.form p (by simp [hp])
    · rw [getB_put]
      by_cases e : r' = r ∧ o' = o
      · obtain ⟨rfl, rfl⟩ := e
        rw [if_pos ⟨rfl, rfl⟩]
        have := ML.mem_one hnd' hp (v' := Value.int .u8 v) (by simp)
        injection this
      · rw [if_neg e]
        refine hr.has _ _ _ ?_
        simp only [List.mem_append, List.mem_cons] at hp ⊢
        rcases hp with hp | hp | hp
        · exact .inl hp
        · exact absurd (spv_inj (congrArg Prod.fst hp)) e
        · exact .inr (.inr hp)
    · rw [getB_put]
      by_cases e : r' = r ∧ o' = o
      · obtain ⟨rfl, rfl⟩ := e
        exact absurd rfl (hp (spv r' o', Value.int .u8 v) (by simp))
      · rw [if_neg e]
        refine hr.hasnt _ _ (fun p hq => ?_)
        simp only [List.mem_append, List.mem_cons] at hq
        rcases hq with hq | rfl | hq
        · exact hp p (by simp [hq])
        · exact fun e2 => e (by have := spv_inj e2; exact ⟨this.1.symm, this.2.symm⟩)
        · exact hp p (by simp [hq])
  · refine ⟨fun p hp => ?_, fun r' o' v' hp => ?_, fun r' o' hp => ?_⟩
    · simp only [List.mem_append, List.mem_singleton] at hp
      rcases hp with hp | rfl
      · exact hr.form p hp
      · exact ⟨r, o, v, rfl, h1, h2, h3, h4⟩
    · rw [getB_put]
      simp only [List.mem_append, List.mem_singleton] at hp
      rcases hp with hp | hp
      · have e : ¬ (r' = r ∧ o' = o) := fun e => hno _ hp (by rw [e.1, e.2])
        rw [if_neg e]
        exact hr.has _ _ _ hp
      · have e := spv_inj (congrArg Prod.fst hp)
        rw [if_pos e]
        have := congrArg Prod.snd hp
        injection this
    · have e : ¬ (r' = r ∧ o' = o) := fun e => hp (spv r o, Value.int .u8 v) (by simp) (by rw [e.1, e.2])
      rw [getB_put, if_neg e]
      exact hr.hasnt _ _ (fun p hq => hp p (by simp [hq]))
end
end Go.Proofs.Ytalmemcidbmdgaa.PM

/- A model (layer 16): New, is, at: the walks. -/
set_option linter.unusedVariables false
set_option linter.unusedSimpArgs false
namespace Go.Proofs.Ytalmemcidbmdgaa.PM
open Go.RowKit Go.Proofs.YtalmemcidbmdgaaW.PrintWords Go.Proofs.YtalmemcidbmdgaaW.PrintLast Go.Proofs.YtalmemcidbmdgaaW.PrintMore Go.Proofs.Ytalmemcidbmdgaa.PageG
attribute [local go_sem] max2_int min2_int max_two min_two max_three min_three max_four min_four   -- for this text's walks alone
theorem results_cct {P : Program} {fn : Func} {p p' u : Tmp} {ty ty' : TypeId} (h : fn.results = #[.cell p ty, .cell p' ty', .tmp u]) (tmps : Array Value) (w : World) (g g' : Nat) (t t' : TypeId) (cs cs' : Array Value) (fr fr' : Nat × Nat) (d d' : TypeDesc)
    (hp : tmps.getD p undef = .pointer (some ⟨g, 0, none⟩)) (hg : w.heap[g]? = some (.cells cs t fr))
    (hu : P.underlying ty = some d) (hd : (match d with | .struct _ | .array _ _ => true | _ => false) = true) (hi : (P.info? ty).map (·.size) = some cs.size)
    (hp' : tmps.getD p' undef = .pointer (some ⟨g', 0, none⟩)) (hg' : w.heap[g']? = some (.cells cs' t' fr'))
    (hu' : P.underlying ty' = some d') (hd' : (match d' with | .struct _ | .array _ _ => true | _ => false) = true) (hi' : (P.info? ty').map (·.size) = some cs'.size) :
    (results fn tmps).run P w = .ok (.tuple #[.agg cs, .agg cs', tmps.getD u undef]) w := by
  have h1 : tmps[p]?.getD undef = .pointer (some ⟨g, 0, none⟩) := by simpa using hp
  have h2 : tmps[p']?.getD undef = .pointer (some ⟨g', 0, none⟩) := by simpa using hp'
  simp [results, h, h1, h2, asAddr, run_loadVar_row w g t ty cs fr d hg hu hd hi, run_loadVar_row w g' t' ty' cs' fr' d' hg' hu' hd' hi']
section
variable {w w' : World} {B pm bm : Nat} {s : MS}
def NewP (w : World) (m : Int) (e : Ending) (w' : World) : Prop := ∃ B pm bm, e = .returned (.pointer (some ⟨B, 0, none⟩)) ∧ Mo w' B pm bm ⟨m, [], [], 0⟩ ∧ Below w.heap.size w w' ∧ ∀ k ∈ [B, pm, bm], w.heap.size ≤ k
theorem BRel.nil : BRel [] [] := ⟨by simp, by simp, fun _ _ _ => rfl⟩
set_option maxHeartbeats 4000000 in
set_option maxRecDepth 100000 in
theorem new_calls (w : World) (n m : Int) (hm : min (max n 0) 64 = m) : Calls Try.prog 10 #[.int .i64 n] w (NewP w m) := by
  have hmk := @run_makeMap Try.prog
  obtain ⟨D, hD⟩ : ∃ D, w.heap.size = D := ⟨_, rfl⟩
  have hfin : NewP w m (.returned (.pointer (some ⟨D + 1 + 1, 0, none⟩))) (((w.alloc (.map #[] 0)).alloc (.map #[] 0)).alloc (.cells #[.int .i64 m, .map (some D), .map (some (D + 1)), .int .i64 0] 75)) := by
    have hs1 : (w.alloc (.map #[] 0)).heap.size = D + 1 := by simp [hD]
    have hs2 : ((w.alloc (.map #[] 0)).alloc (.map #[] 0)).heap.size = D + 1 + 1 := by simp [hD]
    have h1 : ML.At Try.prog 84 (w.alloc (.map #[] 0)) D [] := by rw [← hD]; exact ML.At.new w
    have h2 : ML.At Try.prog 91 ((w.alloc (.map #[] 0)).alloc (.map #[] 0)) (D + 1) [] := by rw [← hs1]; exact ML.At.new _
    have hb := blk_new ((w.alloc (.map #[] 0)).alloc (.map #[] 0)) (.cells #[.int .i64 m, .map (some D), .map (some (D + 1)), .int .i64 0] 75)
    rw [hs2] at hb
    refine ⟨_, D, D + 1, rfl, ⟨hb, ?_, ⟨[], ?_, BRel.nil⟩, by omega⟩, (((Below.refl _ w).alloc (Nat.le_refl _) _).alloc (by simp) _).alloc (by simp; omega) _, fun k hk => ?_⟩
    · exact (h1.move ((Go.MapKept.heap_alloc _ _).2 D (by rw [hs1]; omega))).move ((Go.MapKept.heap_alloc _ _).2 D (by rw [hs2]; omega))
    · exact h2.move ((Go.MapKept.heap_alloc _ _).2 (D + 1) (by rw [hs2]; omega))
    · simp at hk
      omega
  have HF := Aside0.mk hfin
  clear hfin
  have HM := Aside0.mk hm
  clear hm
  go_enter Try.func10, Try.ntmps10
  go_wp2_with fail
  all_goals
    first
    | (obtain rfl : m = 64 := by have := HM.out; omega); (go_ret; exact HF.out)
    | (obtain rfl : m = n := by have := HM.out; omega); (go_ret; exact HF.out)
    | (obtain rfl : m = 0 := by have := HM.out; omega); (go_ret; exact HF.out)
/-- Are there all these spaces? -/
def isAll (n : Int) (xs : List Int) : Bool := xs.all fun x => decide (0 ≤ x) && decide (x < n)
theorem isAll_no {n : Int} {xs : List Int} {x : Int} (h : x ∈ xs) (hx : ¬ (0 ≤ x ∧ x < n)) : isAll n xs = false := by
  unfold isAll
  rw [List.all_eq_false]
  exact ⟨x, h, by simp; omega⟩
theorem isAll_yes {n : Int} {xs : List Int} (h : ∀ x ∈ xs, 0 ≤ x ∧ x < n) : isAll n xs = true := by
  unfold isAll
  rw [List.all_eq_true]
  exact fun x hx => by simpa using h x hx
set_option maxHeartbeats 4000000 in
set_option maxRecDepth 100000 in
theorem is_calls (h : Mo w B pm bm s) (xs : List Int) (A : Option Addr) (c : Nat) (hC : Kd.C (Kd.int .i64) w A xs.length xs) (hsz : xs.length ≤ 1000) :
    Calls Try.prog 66 #[.pointer (some ⟨B, 0, none⟩), .slice A xs.length c] w fun e w' => e = .returned (.bool (isAll s.n xs)) ∧ w = w' := by
  have x0 := h.cells.1
  have HC := Aside0.mk hC
  clear h hC
  go_enter Try.func66, Try.ntmps66
  go_wp2_with fail
  go_loop [9] (fun i => ∃ k : Nat, i = .int .i64 k ∧ k ≤ xs.length ∧ Aside0 (∀ x ∈ xs.take k, 0 ≤ x ∧ x < s.n)) (fun i => xs.length - (intOf i).toNat)
  case atStart => exact ⟨0, rfl, by omega, ⟨by simp⟩⟩
  case round =>
    obtain ⟨k, rfl, hk, HT⟩ := hrel
    by_cases hlt : k < xs.length
    · have hk1 : (k : Int) < (xs.length : Int) := by omega
      have hk0 : (0 : Int) ≤ (k : Int) := by omega
      obtain ⟨ad, hA, y0⟩ := Kd.at_int HC.out (k : Int) hk0 hk1
      subst hA
      have hx : rd xs (k : Int) = xs[k] := by simp [rd, List.getD_eq_getElem?_getD, hlt]
      rw [hx, Int.toNat_natCast] at y0
      have hmem := Aside0.mk (List.getElem_mem hlt)
      have htk := Aside0.mk (List.take_succ_eq_append_getElem hlt)
      clear hx
      generalize xs[k] = x at y0 hmem htk
      by_cases h0 : x < 0
      · have hd0 : decide (x < 0) = true := decide_eq_true h0
        go_wp2
        go_ret
        exact ⟨by rw [isAll_no hmem.out (by omega)]; rfl, rfl⟩
      · by_cases h1 : s.n ≤ x
        · have hx0 : 0 ≤ x := by omega
          have hd1 : decide (s.n ≤ x) = true := decide_eq_true h1
          go_wp2
          go_ret
          exact ⟨by rw [isAll_no hmem.out (by omega)]; rfl, rfl⟩
        · have hx0 : 0 ≤ x := by omega
          have hx1 : x < s.n := by omega
          go_wp2
          go_round
          case rel => exact ⟨k + 1, by go_num, by omega, ⟨fun y hy => by rw [htk.out, List.mem_append, List.mem_singleton] at hy; exact hy.elim (HT.out y) (fun e => by omega)⟩⟩
          case measure => simp [intOf]; omega
    · have hk1 : ¬ (k : Int) < (xs.length : Int) := by omega
      have hd : decide ((k : Int) < (xs.length : Int)) = false := decide_eq_false hk1
      go_wp2
      go_ret
      have hkl : xs.take k = xs := List.take_of_length_le (by omega)
      exact ⟨by rw [isAll_yes (fun x hx => HT.out x (by rw [hkl]; exact hx))]; rfl, rfl⟩
end
end Go.Proofs.Ytalmemcidbmdgaa.PM

/- Whole structs stored in a block. -/
set_option linter.unusedVariables false
set_option linter.unusedSimpArgs false
namespace Go.Proofs.Ytalmemcidbmdgaa.PM
open Go.RowKit Go.Proofs.YtalmemcidbmdgaaW.PrintWords Go.Proofs.YtalmemcidbmdgaaW.PrintLast Go.Proofs.YtalmemcidbmdgaaW.PrintMore Go.Proofs.Ytalmemcidbmdgaa.PageG
attribute [local go_sem] max2_int min2_int max_two min_two max_three min_three max_four min_four   -- for this text's walks alone
open Go.ChangeMaps (setBlock)
theorem setCell_block {W : World} {g i : Nat} {cs cs' : Array Value} {t : TypeId} (h : W.heap[g]? = some (.cells cs t (0, 0))) (v : Value) (e : cs.setIfInBounds i v = cs') : W.setCell ⟨g, i, none⟩ v = setBlock W g (.cells cs' t (0, 0)) := by
  subst e
  have hlt := blk_lt h
  have hg : W.heap[g] = .cells cs t (0, 0) := by
    have := Array.getElem?_eq_getElem hlt
    rw [this] at h
    exact Option.some.inj h
  unfold World.setCell setBlock
  have e : (W.heap.modify g fun
      | .cells c elem frozen => .cells (if (none : Option Nat).isSome then c else c.setIfInBounds i v) elem frozen
      | o => o) = W.heap.setIfInBounds g (.cells (cs.setIfInBounds i v) t (0, 0)) := by
    apply Array.ext
    · simp
    · intro j h1 h2
      have h3 : j < W.heap.size := by simpa using h2
      rw [Array.getElem_modify, Array.getElem_setIfInBounds h3]
      by_cases hj : g = j
      · subst hj
        simp [hg]
      · simp [hj]
  exact congrArg (fun hp => { W with heap := hp }) e
theorem sb_sb (W : World) (g : Nat) (o o' : Obj) : setBlock (setBlock W g o) g o' = setBlock W g o' := by simp [setBlock]
theorem sb_same {W : World} {g : Nat} {o : Obj} (h : W.heap[g]? = some o) (o' : Obj) : (setBlock W g o').heap[g]? = some o' := by
  have hlt := blk_lt h
  simp [setBlock, Array.getElem?_setIfInBounds, hlt]
theorem sb_put {W : World} {g i : Nat} {cs cs' : Array Value} {t : TypeId} {o : Obj} (h : W.heap[g]? = some o) (v : Value) (e : cs.setIfInBounds i v = cs') : (setBlock W g (.cells cs t (0, 0))).setCell ⟨g, i, none⟩ v = setBlock W g (.cells cs' t (0, 0)) := by
  rw [setCell_block (sb_same h _) v e, sb_sb]
theorem set3 {W : World} {g : Nat} {a0 a1 a2 : Value} {t : TypeId} (h : W.heap[g]? = some (.cells #[a0, a1, a2] t (0, 0))) (b0 b1 b2 : Value) :
    ((W.setCell ⟨g, 0, none⟩ b0).setCell ⟨g, 1, none⟩ b1).setCell ⟨g, 2, none⟩ b2 = setBlock W g (.cells #[b0, b1, b2] t (0, 0)) := by
  have s0 := setCell_block (t := t) (i := 0) (cs := #[a0, a1, a2]) (cs' := #[b0, a1, a2]) h b0 rfl
  have s1 := sb_put (t := t) (i := 1) (cs := #[b0, a1, a2]) (cs' := #[b0, b1, a2]) h b1 rfl
  have s2 := sb_put (t := t) (i := 2) (cs := #[b0, b1, a2]) (cs' := #[b0, b1, b2]) h b2 rfl
  rw [s0, s1, s2]
theorem set11 {W : World} {g : Nat} {a0 a1 a2 a3 a4 a5 a6 a7 a8 a9 a10 : Value} {t : TypeId} (h : W.heap[g]? = some (.cells #[a0, a1, a2, a3, a4, a5, a6, a7, a8, a9, a10] t (0, 0))) (b0 b1 b2 b3 b4 b5 b6 b7 b8 b9 b10 : Value) :
    ((((((((((W.setCell ⟨g, 0, none⟩ b0).setCell ⟨g, 1, none⟩ b1).setCell ⟨g, 2, none⟩ b2).setCell ⟨g, 3, none⟩ b3).setCell ⟨g, 4, none⟩ b4).setCell ⟨g, 5, none⟩ b5).setCell ⟨g, 6, none⟩ b6).setCell ⟨g, 7, none⟩ b7).setCell ⟨g, 8, none⟩ b8).setCell ⟨g, 9, none⟩ b9).setCell ⟨g, 10, none⟩ b10 = setBlock W g (.cells #[b0, b1, b2, b3, b4, b5, b6, b7, b8, b9, b10] t (0, 0)) := by
  have s0 := setCell_block (t := t) (i := 0) (cs := #[a0, a1, a2, a3, a4, a5, a6, a7, a8, a9, a10]) (cs' := #[b0, a1, a2, a3, a4, a5, a6, a7, a8, a9, a10]) h b0 rfl
  have s1 := sb_put (t := t) (i := 1) (cs := #[b0, a1, a2, a3, a4, a5, a6, a7, a8, a9, a10]) (cs' := #[b0, b1, a2, a3, a4, a5, a6, a7, a8, a9, a10]) h b1 rfl
  have s2 := sb_put (t := t) (i := 2) (cs := #[b0, b1, a2, a3, a4, a5, a6, a7, a8, a9, a10]) (cs' := #[b0, b1, b2, a3, a4, a5, a6, a7, a8, a9, a10]) h b2 rfl
  have s3 := sb_put (t := t) (i := 3) (cs := #[b0, b1, b2, a3, a4, a5, a6, a7, a8, a9, a10]) (cs' := #[b0, b1, b2, b3, a4, a5, a6, a7, a8, a9, a10]) h b3 rfl
  have s4 := sb_put (t := t) (i := 4) (cs := #[b0, b1, b2, b3, a4, a5, a6, a7, a8, a9, a10]) (cs' := #[b0, b1, b2, b3, b4, a5, a6, a7, a8, a9, a10]) h b4 rfl
  have s5 := sb_put (t := t) (i := 5) (cs := #[b0, b1, b2, b3, b4, a5, a6, a7, a8, a9, a10]) (cs' := #[b0, b1, b2, b3, b4, b5, a6, a7, a8, a9, a10]) h b5 rfl
  have s6 := sb_put (t := t) (i := 6) (cs := #[b0, b1, b2, b3, b4, b5, a6, a7, a8, a9, a10]) (cs' := #[b0, b1, b2, b3, b4, b5, b6, a7, a8, a9, a10]) h b6 rfl
  have s7 := sb_put (t := t) (i := 7) (cs := #[b0, b1, b2, b3, b4, b5, b6, a7, a8, a9, a10]) (cs' := #[b0, b1, b2, b3, b4, b5, b6, b7, a8, a9, a10]) h b7 rfl
  have s8 := sb_put (t := t) (i := 8) (cs := #[b0, b1, b2, b3, b4, b5, b6, b7, a8, a9, a10]) (cs' := #[b0, b1, b2, b3, b4, b5, b6, b7, b8, a9, a10]) h b8 rfl
  have s9 := sb_put (t := t) (i := 9) (cs := #[b0, b1, b2, b3, b4, b5, b6, b7, b8, a9, a10]) (cs' := #[b0, b1, b2, b3, b4, b5, b6, b7, b8, b9, a10]) h b9 rfl
  have s10 := sb_put (t := t) (i := 10) (cs := #[b0, b1, b2, b3, b4, b5, b6, b7, b8, b9, a10]) (cs' := #[b0, b1, b2, b3, b4, b5, b6, b7, b8, b9, b10]) h b10 rfl
  rw [s0, s1, s2, s3, s4, s5, s6, s7, s8, s9, s10]
theorem cells3 {W : World} {g : Nat} {a0 a1 a2 : Value} {t : TypeId} (h : W.heap[g]? = some (.cells #[a0, a1, a2] t (0, 0))) : W.cell? ⟨g, 0, none⟩ = some a0 ∧ W.cell? ⟨g, 1, none⟩ = some a1 ∧ W.cell? ⟨g, 2, none⟩ = some a2 :=
  ⟨(blk_cell h 0).trans rfl, (blk_cell h 1).trans rfl, (blk_cell h 2).trans rfl⟩
theorem cells11 {W : World} {g : Nat} {a0 a1 a2 a3 a4 a5 a6 a7 a8 a9 a10 : Value} {t : TypeId} (h : W.heap[g]? = some (.cells #[a0, a1, a2, a3, a4, a5, a6, a7, a8, a9, a10] t (0, 0))) : W.cell? ⟨g, 0, none⟩ = some a0 ∧ W.cell? ⟨g, 1, none⟩ = some a1 ∧ W.cell? ⟨g, 2, none⟩ = some a2 ∧ W.cell? ⟨g, 3, none⟩ = some a3 ∧ W.cell? ⟨g, 4, none⟩ = some a4 ∧ W.cell? ⟨g, 5, none⟩ = some a5 ∧ W.cell? ⟨g, 6, none⟩ = some a6 ∧ W.cell? ⟨g, 7, none⟩ = some a7 ∧ W.cell? ⟨g, 8, none⟩ = some a8 ∧ W.cell? ⟨g, 9, none⟩ = some a9 ∧ W.cell? ⟨g, 10, none⟩ = some a10 :=
  ⟨(blk_cell h 0).trans rfl, (blk_cell h 1).trans rfl, (blk_cell h 2).trans rfl, (blk_cell h 3).trans rfl, (blk_cell h 4).trans rfl, (blk_cell h 5).trans rfl, (blk_cell h 6).trans rfl, (blk_cell h 7).trans rfl, (blk_cell h 8).trans rfl, (blk_cell h 9).trans rfl, (blk_cell h 10).trans rfl⟩
theorem cells16 {W : World} {g : Nat} {a0 a1 a2 a3 a4 a5 a6 a7 a8 a9 a10 a11 a12 a13 a14 a15 : Value} {t : TypeId} (h : W.heap[g]? = some (.cells #[a0, a1, a2, a3, a4, a5, a6, a7, a8, a9, a10, a11, a12, a13, a14, a15] t (0, 0))) : W.cell? ⟨g, 0, none⟩ = some a0 ∧ W.cell? ⟨g, 1, none⟩ = some a1 ∧ W.cell? ⟨g, 2, none⟩ = some a2 ∧ W.cell? ⟨g, 3, none⟩ = some a3 ∧ W.cell? ⟨g, 4, none⟩ = some a4 ∧ W.cell? ⟨g, 5, none⟩ = some a5 ∧ W.cell? ⟨g, 6, none⟩ = some a6 ∧ W.cell? ⟨g, 7, none⟩ = some a7 ∧ W.cell? ⟨g, 8, none⟩ = some a8 ∧ W.cell? ⟨g, 9, none⟩ = some a9 ∧ W.cell? ⟨g, 10, none⟩ = some a10 ∧ W.cell? ⟨g, 11, none⟩ = some a11 ∧ W.cell? ⟨g, 12, none⟩ = some a12 ∧ W.cell? ⟨g, 13, none⟩ = some a13 ∧ W.cell? ⟨g, 14, none⟩ = some a14 ∧ W.cell? ⟨g, 15, none⟩ = some a15 :=
  ⟨(blk_cell h 0).trans rfl, (blk_cell h 1).trans rfl, (blk_cell h 2).trans rfl, (blk_cell h 3).trans rfl, (blk_cell h 4).trans rfl, (blk_cell h 5).trans rfl, (blk_cell h 6).trans rfl, (blk_cell h 7).trans rfl, (blk_cell h 8).trans rfl, (blk_cell h 9).trans rfl, (blk_cell h 10).trans rfl, (blk_cell h 11).trans rfl, (blk_cell h 12).trans rfl, (blk_cell h 13).trans rfl, (blk_cell h 14).trans rfl, (blk_cell h 15).trans rfl⟩
set_option maxHeartbeats 4000000 in
set_option maxRecDepth 100000 in
theorem run_store_page {W : World} {ev : Operand → Value} {o : Oper} {p v : Operand} {g : Nat} {a0 a1 a2 a3 a4 a5 a6 a7 a8 a9 a10 : Value} {b0 b1 b2 : Int} {b3 b4 b5 b6 b7 b8 b9 b10 : Bool} {tt : TypeId} (ho : o.op = .store 50 p v) (hp : ev p = .pointer (some ⟨g, 0, none⟩)) (hv : ev v = .agg #[.int .u64 b0, .int .i64 b1, .int .u64 b2, .bool b3, .bool b4, .bool b5, .bool b6, .bool b7, .bool b8, .bool b9, .bool b10])
    (h : W.heap[g]? = some (.cells #[a0, a1, a2, a3, a4, a5, a6, a7, a8, a9, a10] tt (0, 0))) : (execOp ev o).run Try.prog W = .ok .skip (setBlock W g (.cells #[.int .u64 b0, .int .i64 b1, .int .u64 b2, .bool b3, .bool b4, .bool b5, .bool b6, .bool b7, .bool b8, .bool b9, .bool b10] tt (0, 0))) := by
  obtain ⟨c0, c1, c2, c3, c4, c5, c6, c7, c8, c9, c10⟩ := cells11 h
  have hf := blk_frozen h
  rw [← set11 h]
  clear h
  go_simp
set_option maxHeartbeats 4000000 in
set_option maxRecDepth 100000 in
theorem run_store_key {W : World} {ev : Operand → Value} {o : Oper} {p v : Operand} {g : Nat} {a0 a1 a2 : Value} {b0 b1 b2 : Int} {tt : TypeId} (ho : o.op = .store 84 p v) (hp : ev p = .pointer (some ⟨g, 0, none⟩)) (hv : ev v = .agg #[.int .i64 b0, .int .u64 b1, .int .i64 b2])
    (h : W.heap[g]? = some (.cells #[a0, a1, a2] tt (0, 0))) : (execOp ev o).run Try.prog W = .ok .skip (setBlock W g (.cells #[.int .i64 b0, .int .u64 b1, .int .i64 b2] tt (0, 0))) := by
  obtain ⟨c0, c1, c2⟩ := cells3 h
  have hf := blk_frozen h
  rw [← set3 h]
  clear h
  go_simp
set_option maxHeartbeats 4000000 in
set_option maxRecDepth 100000 in
theorem run_store_reply {W : World} {ev : Operand → Value} {o : Oper} {p v : Operand} {g : Nat} {a0 a1 a2 : Value} {b0 b1 b2 : Int} {tt : TypeId} (ho : o.op = .store 42 p v) (hp : ev p = .pointer (some ⟨g, 0, none⟩)) (hv : ev v = .agg #[.int .i64 b0, .int .i64 b1, .int .u8 b2])
    (h : W.heap[g]? = some (.cells #[a0, a1, a2] tt (0, 0))) : (execOp ev o).run Try.prog W = .ok .skip (setBlock W g (.cells #[.int .i64 b0, .int .i64 b1, .int .u8 b2] tt (0, 0))) := by
  obtain ⟨c0, c1, c2⟩ := cells3 h
  have hf := blk_frozen h
  rw [← set3 h]
  clear h
  go_simp
theorem below_sb {w0 W : World} {B g : Nat} (h : Below B w0 W) (hg : B ≤ g) (o : Obj) : Below B w0 (setBlock W g o) :=
  ⟨h.os, h.tape, h.output, by rw [sb_size]; exact h.size, fun k hk => (sb_other o (by omega)).trans (h.block k hk)⟩
end Go.Proofs.Ytalmemcidbmdgaa.PM


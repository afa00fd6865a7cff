import Derived.Test.YtalmemcidbmdgaaZSb1
-- written by xprint.py, a program of this session, over the kit's print (functions told by hand: see the texts)
namespace Go.Proofs.Ytalmemcidbmdgaa.PM
open Go.RowKit Go.Proofs.YtalmemcidbmdgaaW.PrintWords Go.Proofs.YtalmemcidbmdgaaW.PrintLast Go.Proofs.YtalmemcidbmdgaaW.PrintMore
attribute [local go_sem] max2_int min2_int max_two min_two max_three min_three max_four min_four   -- for this text's walks alone
set_option linter.unusedVariables false
set_option linter.unusedSimpArgs false

theorem eqA34 (d : Nat) (w : World) (x0 y0 : Bool) (x1 y1 : Bool) (x2 y2 : Bool) (x3 y3 : Bool) (x4 y4 : Bool) (x5 y5 : Bool) :
    (Op.equalIn (d + 2) 34 (.agg #[.bool x0, .bool x1, .bool x2, .bool x3, .bool x4, .bool x5]) (.agg #[.bool y0, .bool y1, .bool y2, .bool y3, .bool y4, .bool y5])).run Try.prog w = .ok (x0 == y0 && (x1 == y1 && (x2 == y2 && (x3 == y3 && (x4 == y4 && (x5 == y5)))))) w := by
  refine eqA_of Try.underlying34 (by kernel_rfl) ?_
  refine eqf_cons (by rfl) (by go_simp; rfl) (by go_simp; rfl) (by go_simp) ?_
  refine eqf_cons (by rfl) (by go_simp; rfl) (by go_simp; rfl) (by go_simp) ?_
  refine eqf_cons (by rfl) (by go_simp; rfl) (by go_simp; rfl) (by go_simp) ?_
  refine eqf_cons (by rfl) (by go_simp; rfl) (by go_simp; rfl) (by go_simp) ?_
  refine eqf_cons (by rfl) (by go_simp; rfl) (by go_simp; rfl) (by go_simp) ?_
  exact eqf_last (by rfl) (by go_simp; rfl) (by go_simp; rfl) (by go_simp)
theorem eqA50 (d : Nat) (w : World) (x0 y0 : Int) (x1 y1 : Int) (x2 y2 : Int) (x3 y3 : Bool) (x4 y4 : Bool) (x5 y5 : Bool) (x6 y6 : Bool) (x7 y7 : Bool) (x8 y8 : Bool) (x9 y9 : Bool) (x10 y10 : Bool) :
    (Op.equalIn (d + 3) 50 (.agg #[.int .u64 x0, .int .i64 x1, .int .u64 x2, .bool x3, .bool x4, .bool x5, .bool x6, .bool x7, .bool x8, .bool x9, .bool x10]) (.agg #[.int .u64 y0, .int .i64 y1, .int .u64 y2, .bool y3, .bool y4, .bool y5, .bool y6, .bool y7, .bool y8, .bool y9, .bool y10])).run Try.prog w = .ok (x0 == y0 && (x1 == y1 && (x2 == y2 && ((x3 == y3 && (x4 == y4 && (x5 == y5 && (x6 == y6 && (x7 == y7 && (x8 == y8)))))) && (x9 == y9 && (x10 == y10)))))) w := by
  refine eqA_of Try.underlying50 (by kernel_rfl) ?_
  refine eqf_cons (by rfl) (by go_simp; rfl) (by go_simp; rfl) (by go_simp) ?_
  refine eqf_cons (by rfl) (by go_simp; rfl) (by go_simp; rfl) (by go_simp) ?_
  refine eqf_cons (by rfl) (by go_simp; rfl) (by go_simp; rfl) (by go_simp) ?_
  refine eqf_cons (by rfl) (by go_simp) (by go_simp) (eqA34 (d + 0) w _ _ _ _ _ _ _ _ _ _ _ _) ?_
  refine eqf_cons (by rfl) (by go_simp; rfl) (by go_simp; rfl) (by go_simp) ?_
  exact eqf_last (by rfl) (by go_simp; rfl) (by go_simp; rfl) (by go_simp)
end Go.Proofs.Ytalmemcidbmdgaa.PM

-- written by xprint.py, a program of this session, over the kit's print (functions told by hand: see the texts)
namespace Go.Proofs.Ytalmemcidbmdgaa.PM
open Go.RowKit Go.Proofs.YtalmemcidbmdgaaW.PrintWords Go.Proofs.YtalmemcidbmdgaaW.PrintLast Go.Proofs.YtalmemcidbmdgaaW.PrintMore
attribute [local go_sem] max2_int min2_int max_two min_two max_three min_three max_four min_four   -- for this text's walks alone
set_option linter.unusedVariables false
set_option linter.unusedSimpArgs false

attribute [local go_sem high] eqA50
/-! ### lookasideref12_Same: function 23 -/
end Go.Proofs.Ytalmemcidbmdgaa.PM

-- written by xprint.py, a program of this session, over the kit's print (functions told by hand: see the texts)
namespace Go.Proofs.Ytalmemcidbmdgaa.PM
open Go.RowKit Go.Proofs.YtalmemcidbmdgaaW.PrintWords Go.Proofs.YtalmemcidbmdgaaW.PrintLast Go.Proofs.YtalmemcidbmdgaaW.PrintMore
attribute [local go_sem] max2_int min2_int max_two min_two max_three min_three max_four min_four   -- for this text's walks alone
set_option linter.unusedVariables false
set_option linter.unusedSimpArgs false

/-! ### lookasideref02_Meet: function 88 -/
def lookasideref02_Meet.j0 : Nat → Int → Int → Int → Int → Bool → Option (Bool)
  | 0, _, _, _, _, _ => none
  | k + 1, x0, x1, x2, x3, x22 => if x22 = true then (some false) else ((lookasideref02_Base.f x0 x1).bind fun t197 => ((lookasideref02_Base.f x2 x3).bind fun t198 => (if t197 ≥ t198 then ((lookasideref02_Bytes.f x3).bind fun t199 => (if (IntKind.u64.wrap (t197 - t198)) < t199 then (some true) else (if t198 ≥ t197 then ((lookasideref02_Bytes.f x1).bind fun t200 => (some (decide ((IntKind.u64.wrap (t198 - t197)) < t200)))) else (some false)))) else (if t198 ≥ t197 then ((lookasideref02_Bytes.f x1).bind fun t201 => (some (decide ((IntKind.u64.wrap (t198 - t197)) < t201)))) else (some false)))))
def lookasideref02_Meet.f (k : Nat) (a0 : Int) (a1 : Int) (a2 : Int) (a3 : Int) : Option (Bool) := (lookasideref02_May.f a1).bind fun t195 => ((lookasideref02_May.f a3).bind fun t196 => (if t195 = true then (lookasideref02_Meet.j0 k a0 a1 a2 a3 (!t196)) else (lookasideref02_Meet.j0 k a0 a1 a2 a3 true)))
set_option maxHeartbeats 8000000 in
set_option maxRecDepth 100000 in
theorem lookasideref02_Meet.calls (k : Nat) (a0 : Int) (a1 : Int) (a2 : Int) (a3 : Int) (r : Bool) (w : World) (h : lookasideref02_Meet.f k a0 a1 a2 a3 = some r) :
    Calls Try.prog 88 #[.int .u64 a0, .int .i64 a1, .int .u64 a2, .int .i64 a3] w fun e w' => e = .returned (.bool r) ∧ Drawn0 w w' := by
  have H : ((lookasideref02_May.f a1).bind fun t195 => ((lookasideref02_May.f a3).bind fun t196 => (if t195 = true then (lookasideref02_Meet.j0 k a0 a1 a2 a3 (!t196)) else (lookasideref02_Meet.j0 k a0 a1 a2 a3 true)))) = some r := h
  clear h
  replace H := Option.bind_eq_some_iff.mp H
  obtain ⟨t195, A50, H⟩ := H
  replace H : ((lookasideref02_May.f a3).bind fun t196 => (if t195 = true then (lookasideref02_Meet.j0 k a0 a1 a2 a3 (!t196)) else (lookasideref02_Meet.j0 k a0 a1 a2 a3 true))) = some r := H
  have A5 := Aside0.mk A50
  clear A50
  replace H := Option.bind_eq_some_iff.mp H
  obtain ⟨t196, A60, H⟩ := H
  replace H : (if t195 = true then (lookasideref02_Meet.j0 k a0 a1 a2 a3 (!t196)) else (lookasideref02_Meet.j0 k a0 a1 a2 a3 true)) = some r := H
  have A6 := Aside0.mk A60
  clear A60
  have HC7 := Aside0.mk H
  clear H
  go_enter Try.func88, Try.ntmps88
  go_upto_region 3 with (first | ((with_reducible refine gate_callee (f := 49) rfl ?_); refine goesL_ (some 14) rfl rfl Try.func49 (by kernel_rfl) rfl #[.int .i64 a1] rfl (by (try simp only [List.map_toArray, List.map_cons, List.map_nil]); first | done | rfl | (simp only [List.length_drop, List.length_take]; rfl)) ?_; (with_reducible refine (lookasideref02_May.calls a1 t195 _ A5.out).mono ?_); rintro e w' ⟨rfl, ⟨nd, rfl⟩⟩; refine ⟨_, rfl, ?_⟩) | ((with_reducible refine gate_callee (f := 49) rfl ?_); refine goesL_ (some 16) rfl rfl Try.func49 (by kernel_rfl) rfl #[.int .i64 a3] rfl (by (try simp only [List.map_toArray, List.map_cons, List.map_nil]); first | done | rfl | (simp only [List.length_drop, List.length_take]; rfl)) ?_; (with_reducible refine (lookasideref02_May.calls a3 t196 _ A6.out).mono ?_); rintro e w' ⟨rfl, ⟨nd, rfl⟩⟩; refine ⟨_, rfl, ?_⟩))
  (try simp only [Act.put, List.setIfInBounds_toArray, List.set_cons_zero, List.set_cons_succ])
  go_cut [22] (fun v22 wc => ∃ (kq : Nat) (x22_6 : Bool), v22 = .bool x22_6 ∧ Aside0 (lookasideref02_Meet.j0 kq a0 a1 a2 a3 x22_6 = some r) ∧ Aside0 (kq ≤ k) ∧ Drawn0 w wc)
  case first =>
    have H := HC7.out
    clear HC7
    by_cases c8 : t195 = true
    · subst c8
      have H1 : (lookasideref02_Meet.j0 k a0 a1 a2 a3 (!t196)) = some r := by rw [if_pos rfl] at H; exact H
      clear H
      have H := H1
      clear H1
      have H' := Aside0.mk H
      clear H
      go_wp2
      go_meet
      case rel => exact ⟨_, (!t196), (by first | rfl | (simp; done) | (simp [*]; done)), H', ⟨by first | omega | exact Nat.le_refl _⟩, by repeat (first | exact Drawn0.refl _ | apply Drawn0.step)⟩
    · replace c8 := Bool.eq_false_iff.mpr c8
      subst c8
      have H1 : (lookasideref02_Meet.j0 k a0 a1 a2 a3 true) = some r := by rw [if_neg (show ¬ (false = true) by decide)] at H; exact H
      clear H
      have H := H1
      clear H1
      have H' := Aside0.mk H
      clear H
      go_wp2
      go_meet
      case rel => exact ⟨_, (true), (by first | rfl | (simp; done) | (simp [*]; done)), H', ⟨by first | omega | exact Nat.le_refl _⟩, by repeat (first | exact Drawn0.refl _ | apply Drawn0.step)⟩
  case rest =>
    clear HC7
    try clear p2
    try clear c4
    try clear c8
    obtain ⟨kq, x22_6, rfl, HA, HJ6, ⟨mc6, rfl⟩⟩ := hcut
    cases kq with
    | zero => exact absurd HA.out (by simp [lookasideref02_Meet.j0])
    | succ kj6 =>
      have H := HA.out
      clear HA
      simp only [lookasideref02_Meet.j0] at H
      by_cases c9 : x22_6 = true
      · subst c9
        have H1 : (some false) = some r := by rw [if_pos rfl] at H; exact H
        clear H
        have H := H1
        clear H1
        obtain rfl := Option.some.inj H
        go_wp2
        go_ret
        exact ⟨by first | rfl | (simp; done) | (simp [*]; done), by repeat (first | exact Drawn0.refl _ | apply Drawn0.step)⟩
      · replace c9 := Bool.eq_false_iff.mpr c9
        subst c9
        have H1 : ((lookasideref02_Base.f a0 a1).bind fun t197 => ((lookasideref02_Base.f a2 a3).bind fun t198 => (if t197 ≥ t198 then ((lookasideref02_Bytes.f a3).bind fun t199 => (if (IntKind.u64.wrap (t197 - t198)) < t199 then (some true) else (if t198 ≥ t197 then ((lookasideref02_Bytes.f a1).bind fun t200 => (some (decide ((IntKind.u64.wrap (t198 - t197)) < t200)))) else (some false)))) else (if t198 ≥ t197 then ((lookasideref02_Bytes.f a1).bind fun t201 => (some (decide ((IntKind.u64.wrap (t198 - t197)) < t201)))) else (some false))))) = some r := by rw [if_neg (show ¬ (false = true) by decide)] at H; exact H
        clear H
        have H := H1
        clear H1
        replace H := Option.bind_eq_some_iff.mp H
        obtain ⟨t197, A100, H⟩ := H
        replace H : ((lookasideref02_Base.f a2 a3).bind fun t198 => (if t197 ≥ t198 then ((lookasideref02_Bytes.f a3).bind fun t199 => (if (IntKind.u64.wrap (t197 - t198)) < t199 then (some true) else (if t198 ≥ t197 then ((lookasideref02_Bytes.f a1).bind fun t200 => (some (decide ((IntKind.u64.wrap (t198 - t197)) < t200)))) else (some false)))) else (if t198 ≥ t197 then ((lookasideref02_Bytes.f a1).bind fun t201 => (some (decide ((IntKind.u64.wrap (t198 - t197)) < t201)))) else (some false)))) = some r := H
        have A10 := Aside0.mk A100
        clear A100
        replace H := Option.bind_eq_some_iff.mp H
        obtain ⟨t198, A110, H⟩ := H
        replace H : (if t197 ≥ t198 then ((lookasideref02_Bytes.f a3).bind fun t199 => (if (IntKind.u64.wrap (t197 - t198)) < t199 then (some true) else (if t198 ≥ t197 then ((lookasideref02_Bytes.f a1).bind fun t200 => (some (decide ((IntKind.u64.wrap (t198 - t197)) < t200)))) else (some false)))) else (if t198 ≥ t197 then ((lookasideref02_Bytes.f a1).bind fun t201 => (some (decide ((IntKind.u64.wrap (t198 - t197)) < t201)))) else (some false))) = some r := H
        have A11 := Aside0.mk A110
        clear A110
        by_cases c12 : t197 ≥ t198
        · rw [if_pos c12] at H
          have c12b0 : decide (t198 ≤ t197) = true := decide_eq_true c12
          clear c12
          replace H := Option.bind_eq_some_iff.mp H
          obtain ⟨t199, A130, H⟩ := H
          replace H : (if (IntKind.u64.wrap (t197 - t198)) < t199 then (some true) else (if t198 ≥ t197 then ((lookasideref02_Bytes.f a1).bind fun t200 => (some (decide ((IntKind.u64.wrap (t198 - t197)) < t200)))) else (some false))) = some r := H
          have A13 := Aside0.mk A130
          clear A130
          by_cases c14 : (IntKind.u64.wrap (t197 - t198)) < t199
          · rw [if_pos c14] at H
            have c14b0 : decide ((IntKind.u64.wrap (t197 - t198)) < t199) = true := decide_eq_true c14
            clear c14
            obtain rfl := Option.some.inj H
            go_wp2_with (first | ((with_reducible refine gate_callee (f := 18) rfl ?_); refine goesL_ (some 25) rfl rfl Try.func18 (by kernel_rfl) rfl #[.int .u64 a0, .int .i64 a1] rfl (by (try simp only [List.map_toArray, List.map_cons, List.map_nil]); first | done | rfl | (simp only [List.length_drop, List.length_take]; rfl)) ?_; (with_reducible refine (lookasideref02_Base.calls a0 a1 t197 _ A10.out).mono ?_); rintro e w' ⟨rfl, ⟨nd, rfl⟩⟩; refine ⟨_, rfl, ?_⟩) | ((with_reducible refine gate_callee (f := 18) rfl ?_); refine goesL_ (some 28) rfl rfl Try.func18 (by kernel_rfl) rfl #[.int .u64 a2, .int .i64 a3] rfl (by (try simp only [List.map_toArray, List.map_cons, List.map_nil]); first | done | rfl | (simp only [List.length_drop, List.length_take]; rfl)) ?_; (with_reducible refine (lookasideref02_Base.calls a2 a3 t198 _ A11.out).mono ?_); rintro e w' ⟨rfl, ⟨nd, rfl⟩⟩; refine ⟨_, rfl, ?_⟩) | (go_at_call 17; (with_reducible refine (lookasideref02_Bytes.calls a3 t199 _ A13.out).mono ?_); rintro e w' ⟨rfl, ⟨nd, rfl⟩⟩))
            go_ret
            exact ⟨by first | rfl | (simp; done) | (simp [*]; done), by repeat (first | exact Drawn0.refl _ | apply Drawn0.step)⟩
          · rw [if_neg c14] at H
            have c14b0 : decide ((IntKind.u64.wrap (t197 - t198)) < t199) = false := decide_eq_false c14
            clear c14
            by_cases c15 : t198 ≥ t197
            · rw [if_pos c15] at H
              have c15b0 : decide (t197 ≤ t198) = true := decide_eq_true c15
              clear c15
              replace H := Option.bind_eq_some_iff.mp H
              obtain ⟨t200, A160, H⟩ := H
              replace H : (some (decide ((IntKind.u64.wrap (t198 - t197)) < t200))) = some r := H
              have A16 := Aside0.mk A160
              clear A160
              obtain rfl := Option.some.inj H
              go_wp2_with (first | ((with_reducible refine gate_callee (f := 18) rfl ?_); refine goesL_ (some 25) rfl rfl Try.func18 (by kernel_rfl) rfl #[.int .u64 a0, .int .i64 a1] rfl (by (try simp only [List.map_toArray, List.map_cons, List.map_nil]); first | done | rfl | (simp only [List.length_drop, List.length_take]; rfl)) ?_; (with_reducible refine (lookasideref02_Base.calls a0 a1 t197 _ A10.out).mono ?_); rintro e w' ⟨rfl, ⟨nd, rfl⟩⟩; refine ⟨_, rfl, ?_⟩) | ((with_reducible refine gate_callee (f := 18) rfl ?_); refine goesL_ (some 28) rfl rfl Try.func18 (by kernel_rfl) rfl #[.int .u64 a2, .int .i64 a3] rfl (by (try simp only [List.map_toArray, List.map_cons, List.map_nil]); first | done | rfl | (simp only [List.length_drop, List.length_take]; rfl)) ?_; (with_reducible refine (lookasideref02_Base.calls a2 a3 t198 _ A11.out).mono ?_); rintro e w' ⟨rfl, ⟨nd, rfl⟩⟩; refine ⟨_, rfl, ?_⟩) | (go_at_call 17; (with_reducible refine (lookasideref02_Bytes.calls a3 t199 _ A13.out).mono ?_); rintro e w' ⟨rfl, ⟨nd, rfl⟩⟩) | (go_at_call 17; (with_reducible refine (lookasideref02_Bytes.calls a1 t200 _ A16.out).mono ?_); rintro e w' ⟨rfl, ⟨nd, rfl⟩⟩))
              go_ret
              exact ⟨by first | rfl | (simp; done) | (simp [*]; done), by repeat (first | exact Drawn0.refl _ | apply Drawn0.step)⟩
            · rw [if_neg c15] at H
              have c15b0 : decide (t197 ≤ t198) = false := decide_eq_false c15
              clear c15
              obtain rfl := Option.some.inj H
              go_wp2_with (first | ((with_reducible refine gate_callee (f := 18) rfl ?_); refine goesL_ (some 25) rfl rfl Try.func18 (by kernel_rfl) rfl #[.int .u64 a0, .int .i64 a1] rfl (by (try simp only [List.map_toArray, List.map_cons, List.map_nil]); first | done | rfl | (simp only [List.length_drop, List.length_take]; rfl)) ?_; (with_reducible refine (lookasideref02_Base.calls a0 a1 t197 _ A10.out).mono ?_); rintro e w' ⟨rfl, ⟨nd, rfl⟩⟩; refine ⟨_, rfl, ?_⟩) | ((with_reducible refine gate_callee (f := 18) rfl ?_); refine goesL_ (some 28) rfl rfl Try.func18 (by kernel_rfl) rfl #[.int .u64 a2, .int .i64 a3] rfl (by (try simp only [List.map_toArray, List.map_cons, List.map_nil]); first | done | rfl | (simp only [List.length_drop, List.length_take]; rfl)) ?_; (with_reducible refine (lookasideref02_Base.calls a2 a3 t198 _ A11.out).mono ?_); rintro e w' ⟨rfl, ⟨nd, rfl⟩⟩; refine ⟨_, rfl, ?_⟩) | (go_at_call 17; (with_reducible refine (lookasideref02_Bytes.calls a3 t199 _ A13.out).mono ?_); rintro e w' ⟨rfl, ⟨nd, rfl⟩⟩))
              go_ret
              exact ⟨by first | rfl | (simp; done) | (simp [*]; done), by repeat (first | exact Drawn0.refl _ | apply Drawn0.step)⟩
        · rw [if_neg c12] at H
          have c12b0 : decide (t198 ≤ t197) = false := decide_eq_false c12
          clear c12
          by_cases c17 : t198 ≥ t197
          · rw [if_pos c17] at H
            have c17b0 : decide (t197 ≤ t198) = true := decide_eq_true c17
            clear c17
            replace H := Option.bind_eq_some_iff.mp H
            obtain ⟨t201, A180, H⟩ := H
            replace H : (some (decide ((IntKind.u64.wrap (t198 - t197)) < t201))) = some r := H
            have A18 := Aside0.mk A180
            clear A180
            obtain rfl := Option.some.inj H
            go_wp2_with (first | ((with_reducible refine gate_callee (f := 18) rfl ?_); refine goesL_ (some 25) rfl rfl Try.func18 (by kernel_rfl) rfl #[.int .u64 a0, .int .i64 a1] rfl (by (try simp only [List.map_toArray, List.map_cons, List.map_nil]); first | done | rfl | (simp only [List.length_drop, List.length_take]; rfl)) ?_; (with_reducible refine (lookasideref02_Base.calls a0 a1 t197 _ A10.out).mono ?_); rintro e w' ⟨rfl, ⟨nd, rfl⟩⟩; refine ⟨_, rfl, ?_⟩) | ((with_reducible refine gate_callee (f := 18) rfl ?_); refine goesL_ (some 28) rfl rfl Try.func18 (by kernel_rfl) rfl #[.int .u64 a2, .int .i64 a3] rfl (by (try simp only [List.map_toArray, List.map_cons, List.map_nil]); first | done | rfl | (simp only [List.length_drop, List.length_take]; rfl)) ?_; (with_reducible refine (lookasideref02_Base.calls a2 a3 t198 _ A11.out).mono ?_); rintro e w' ⟨rfl, ⟨nd, rfl⟩⟩; refine ⟨_, rfl, ?_⟩) | (go_at_call 17; (with_reducible refine (lookasideref02_Bytes.calls a1 t201 _ A18.out).mono ?_); rintro e w' ⟨rfl, ⟨nd, rfl⟩⟩))
            go_ret
            exact ⟨by first | rfl | (simp; done) | (simp [*]; done), by repeat (first | exact Drawn0.refl _ | apply Drawn0.step)⟩
          · rw [if_neg c17] at H
            have c17b0 : decide (t197 ≤ t198) = false := decide_eq_false c17
            clear c17
            obtain rfl := Option.some.inj H
            go_wp2_with (first | ((with_reducible refine gate_callee (f := 18) rfl ?_); refine goesL_ (some 25) rfl rfl Try.func18 (by kernel_rfl) rfl #[.int .u64 a0, .int .i64 a1] rfl (by (try simp only [List.map_toArray, List.map_cons, List.map_nil]); first | done | rfl | (simp only [List.length_drop, List.length_take]; rfl)) ?_; (with_reducible refine (lookasideref02_Base.calls a0 a1 t197 _ A10.out).mono ?_); rintro e w' ⟨rfl, ⟨nd, rfl⟩⟩; refine ⟨_, rfl, ?_⟩) | ((with_reducible refine gate_callee (f := 18) rfl ?_); refine goesL_ (some 28) rfl rfl Try.func18 (by kernel_rfl) rfl #[.int .u64 a2, .int .i64 a3] rfl (by (try simp only [List.map_toArray, List.map_cons, List.map_nil]); first | done | rfl | (simp only [List.length_drop, List.length_take]; rfl)) ?_; (with_reducible refine (lookasideref02_Base.calls a2 a3 t198 _ A11.out).mono ?_); rintro e w' ⟨rfl, ⟨nd, rfl⟩⟩; refine ⟨_, rfl, ?_⟩))
            go_ret
            exact ⟨by first | rfl | (simp; done) | (simp [*]; done), by repeat (first | exact Drawn0.refl _ | apply Drawn0.step)⟩

/-- THE ONE PURE STATEMENT of lookasideref02_Meet: yours. -/
def lookasideref02_Meet.Pure : Prop := ∀ (a0 : Int) (a1 : Int) (a2 : Int) (a3 : Int), (Lit.int .u64 a0).wf = true → (Lit.int .i64 a1).wf = true → (Lit.int .u64 a2).wf = true → (Lit.int .i64 a3).wf = true → ∃ k, lookasideref02_Meet.f k a0 a1 a2 a3 = some true
theorem lookasideref02_Meet.walk (P : lookasideref02_Meet.Pure) (a0 : Int) (a1 : Int) (a2 : Int) (a3 : Int) (w : World) (w0 : (Lit.int .u64 a0).wf = true) (w1 : (Lit.int .i64 a1).wf = true) (w2 : (Lit.int .u64 a2).wf = true) (w3 : (Lit.int .i64 a3).wf = true) :
    Calls Try.prog 88 #[.int .u64 a0, .int .i64 a1, .int .u64 a2, .int .i64 a3] w fun e w' => e = .returned (.bool true) ∧ Below w.heap.size w w' := by
  obtain ⟨k, h⟩ := P a0 a1 a2 a3 w0 w1 w2 w3
  refine (lookasideref02_Meet.calls k a0 a1 a2 a3 true w h).mono ?_
  rintro e w' ⟨rfl, hd⟩
  exact ⟨rfl, hd.below⟩

end Go.Proofs.Ytalmemcidbmdgaa.PM

-- written by xprint.py, a program of this session, over the kit's print (functions told by hand: see the texts)
namespace Go.Proofs.Ytalmemcidbmdgaa.PM
open Go.RowKit Go.Proofs.YtalmemcidbmdgaaW.PrintWords Go.Proofs.YtalmemcidbmdgaaW.PrintLast Go.Proofs.YtalmemcidbmdgaaW.PrintMore
attribute [local go_sem] max2_int min2_int max_two min_two max_three min_three max_four min_four   -- for this text's walks alone
set_option linter.unusedVariables false
set_option linter.unusedSimpArgs false

/-! ### lookasideref02_Hole: function 56 -/
def lookasideref02_Hole.l0 : Nat → Int → Int → Option (Bool)
  | 0, _, _ => none
  | k + 1, x0, x3 => if x3 < 64 then ((lookasideref01_Bit.f k x0 x3).bind fun t202 => ((lookasideref01_Bit.f k x0 43).bind fun t203 => (if t202 = t203 then (lookasideref02_Hole.l0 k x0 (wrap64 (x3 + 1))) else (some true)))) else (some false)
def lookasideref02_Hole.f (k : Nat) (a0 : Int) : Option (Bool) := lookasideref02_Hole.l0 k a0 44
set_option maxHeartbeats 8000000 in
set_option maxRecDepth 100000 in
theorem lookasideref02_Hole.calls (k : Nat) (a0 : Int) (r : Bool) (w : World) (h : lookasideref02_Hole.f k a0 = some r) :
    Calls Try.prog 56 #[.int .u64 a0] w fun e w' => e = .returned (.bool r) ∧ Drawn0 w w' := by
  have H : (lookasideref02_Hole.l0 k a0 44) = some r := h
  clear h
  have H' := Aside0.mk H
  clear H
  go_enter Try.func56, Try.ntmps56
  go_wp2
  go_loopg [3] k (fun kq v3 w' => ∃ (x3_1 : Int), v3 = .int .i64 x3_1 ∧ Aside0 (lookasideref02_Hole.l0 kq a0 x3_1 = some r) ∧ Aside0 (kq ≤ k) ∧ Drawn0 w w')
  case atStart => exact ⟨(44), (by first | rfl | (simp; done) | (simp [*]; done)), H', ⟨Nat.le_refl _⟩, by repeat (first | exact Drawn0.refl _ | apply Drawn0.step)⟩
  case round =>
    clear H'
    obtain ⟨x3_1, rfl, HA, HK1, ⟨m1, rfl⟩⟩ := hrel
    cases gk with
    | zero => exact absurd HA.out (by simp [lookasideref02_Hole.l0])
    | succ k1 =>
      have H := HA.out
      clear HA
      simp only [lookasideref02_Hole.l0] at H
      by_cases c2 : x3_1 < 64
      · rw [if_pos c2] at H
        have c2b0 : decide (x3_1 < 64) = true := decide_eq_true c2
        clear c2
        replace H := Option.bind_eq_some_iff.mp H
        obtain ⟨t202, A30, H⟩ := H
        replace H : ((lookasideref01_Bit.f k1 a0 43).bind fun t203 => (if t202 = t203 then (lookasideref02_Hole.l0 k1 a0 (wrap64 (x3_1 + 1))) else (some true))) = some r := H
        have A3 := Aside0.mk A30
        clear A30
        replace H := Option.bind_eq_some_iff.mp H
        obtain ⟨t203, A40, H⟩ := H
        replace H : (if t202 = t203 then (lookasideref02_Hole.l0 k1 a0 (wrap64 (x3_1 + 1))) else (some true)) = some r := H
        have A4 := Aside0.mk A40
        clear A40
        by_cases c5 : t202 = t203
        · rw [if_pos c5] at H
          have c5b0 : (t202 == t203) = true := beq_iff_eq.mpr c5
          have c5b1 : (t202 != t203) = false := bne_eq_false_iff_eq.mpr c5
          clear c5
          have H' := Aside0.mk H
          clear H
          go_wp2_with (first | ((with_reducible refine gate_callee (f := 50) rfl ?_); refine goesL_ (some 10) rfl rfl Try.func50 (by kernel_rfl) rfl #[.int .u64 a0, .int .i64 x3_1] rfl (by (try simp only [List.map_toArray, List.map_cons, List.map_nil]); first | done | rfl | (simp only [List.length_drop, List.length_take]; rfl)) ?_; (with_reducible refine (lookasideref01_Bit.calls k1 a0 x3_1 t202 _ A3.out).mono ?_); rintro e w' ⟨rfl, ⟨nd, rfl⟩⟩; refine ⟨_, rfl, ?_⟩) | ((with_reducible refine gate_callee (f := 50) rfl ?_); refine goesL_ (some 12) rfl rfl Try.func50 (by kernel_rfl) rfl #[.int .u64 a0, .int .i64 43] rfl (by (try simp only [List.map_toArray, List.map_cons, List.map_nil]); first | done | rfl | (simp only [List.length_drop, List.length_take]; rfl)) ?_; (with_reducible refine (lookasideref01_Bit.calls k1 a0 43 t203 _ A4.out).mono ?_); rintro e w' ⟨rfl, ⟨nd, rfl⟩⟩; refine ⟨_, rfl, ?_⟩))
          go_roundg k1
          case measure => have := HK1.out; omega
          case rel => exact ⟨(wrap64 (x3_1 + 1)), (by first | rfl | (simp; done) | (simp [*]; done)), H', ⟨by have := HK1.out; omega⟩, by repeat (first | exact Drawn0.refl _ | apply Drawn0.step)⟩
        · rw [if_neg c5] at H
          have c5b0 : (t202 == t203) = false := beq_eq_false_iff_ne.mpr c5
          have c5b1 : (t202 != t203) = true := bne_iff_ne.mpr c5
          obtain rfl := Option.some.inj H
          go_wp2_with (first | ((with_reducible refine gate_callee (f := 50) rfl ?_); refine goesL_ (some 10) rfl rfl Try.func50 (by kernel_rfl) rfl #[.int .u64 a0, .int .i64 x3_1] rfl (by (try simp only [List.map_toArray, List.map_cons, List.map_nil]); first | done | rfl | (simp only [List.length_drop, List.length_take]; rfl)) ?_; (with_reducible refine (lookasideref01_Bit.calls k1 a0 x3_1 t202 _ A3.out).mono ?_); rintro e w' ⟨rfl, ⟨nd, rfl⟩⟩; refine ⟨_, rfl, ?_⟩) | ((with_reducible refine gate_callee (f := 50) rfl ?_); refine goesL_ (some 12) rfl rfl Try.func50 (by kernel_rfl) rfl #[.int .u64 a0, .int .i64 43] rfl (by (try simp only [List.map_toArray, List.map_cons, List.map_nil]); first | done | rfl | (simp only [List.length_drop, List.length_take]; rfl)) ?_; (with_reducible refine (lookasideref01_Bit.calls k1 a0 43 t203 _ A4.out).mono ?_); rintro e w' ⟨rfl, ⟨nd, rfl⟩⟩; refine ⟨_, rfl, ?_⟩))
          go_ret
          exact ⟨by first | rfl | (simp; done) | (simp [*]; done), by repeat (first | exact Drawn0.refl _ | apply Drawn0.step)⟩
      · rw [if_neg c2] at H
        have c2b0 : decide (x3_1 < 64) = false := decide_eq_false c2
        clear c2
        obtain rfl := Option.some.inj H
        go_wp2
        go_ret
        exact ⟨by first | rfl | (simp; done) | (simp [*]; done), by repeat (first | exact Drawn0.refl _ | apply Drawn0.step)⟩

/-- THE ONE PURE STATEMENT of lookasideref02_Hole: yours. -/
def lookasideref02_Hole.Pure : Prop := ∀ (a0 : Int), (Lit.int .u64 a0).wf = true → ∃ k, lookasideref02_Hole.f k a0 = some true
theorem lookasideref02_Hole.walk (P : lookasideref02_Hole.Pure) (a0 : Int) (w : World) (w0 : (Lit.int .u64 a0).wf = true) :
    Calls Try.prog 56 #[.int .u64 a0] w fun e w' => e = .returned (.bool true) ∧ Below w.heap.size w w' := by
  obtain ⟨k, h⟩ := P a0 w0
  refine (lookasideref02_Hole.calls k a0 true w h).mono ?_
  rintro e w' ⟨rfl, hd⟩
  exact ⟨rfl, hd.below⟩

/-! ### lookasideref02_Offset: function 59 -/
end Go.Proofs.Ytalmemcidbmdgaa.PM

-- written by xprint.py, a program of this session, over the kit's print (functions told by hand: see the texts)
namespace Go.Proofs.Ytalmemcidbmdgaa.PM
open Go.RowKit Go.Proofs.YtalmemcidbmdgaaW.PrintWords Go.Proofs.YtalmemcidbmdgaaW.PrintLast Go.Proofs.YtalmemcidbmdgaaW.PrintMore
attribute [local go_sem] max2_int min2_int max_two min_two max_three min_three max_four min_four   -- for this text's walks alone
set_option linter.unusedVariables false
set_option linter.unusedSimpArgs false

/-! ### lookasideref09_Judge: function 57 -/
end Go.Proofs.Ytalmemcidbmdgaa.PM

-- written by xprint.py, a program of this session, over the kit's print (functions told by hand: see the texts)
namespace Go.Proofs.Ytalmemcidbmdgaa.PM
open Go.RowKit Go.Proofs.YtalmemcidbmdgaaW.PrintWords Go.Proofs.YtalmemcidbmdgaaW.PrintLast Go.Proofs.YtalmemcidbmdgaaW.PrintMore
attribute [local go_sem] max2_int min2_int max_two min_two max_three min_three max_four min_four   -- for this text's walks alone
set_option linter.unusedVariables false
set_option linter.unusedSimpArgs false

/-! ### field_May: function 109 -/
def field_May.f (a0 : Int) (a1 : Int) : Option (Bool) := if a0 ≥ 0 then (if a1 ≥ 1 then (if a1 ≤ 64 then (some (decide (a0 ≤ (wrap64 (64 - a1))))) else (some false)) else (some false)) else (some false)
set_option maxHeartbeats 8000000 in
set_option maxRecDepth 100000 in
theorem field_May.calls (a0 : Int) (a1 : Int) (r : Bool) (w : World) (h : field_May.f a0 a1 = some r) :
    Calls Try.prog 109 #[.int .i64 a0, .int .i64 a1] w fun e w' => e = .returned (.bool r) ∧ Drawn0 w w' := by
  have H : (if a0 ≥ 0 then (if a1 ≥ 1 then (if a1 ≤ 64 then (some (decide (a0 ≤ (wrap64 (64 - a1))))) else (some false)) else (some false)) else (some false)) = some r := h
  clear h
  by_cases c3 : a0 ≥ 0
  · rw [if_pos c3] at H
    have c3b0 : decide (0 ≤ a0) = true := decide_eq_true c3
    clear c3
    by_cases c4 : a1 ≥ 1
    · rw [if_pos c4] at H
      have c4b0 : decide (1 ≤ a1) = true := decide_eq_true c4
      clear c4
      by_cases c5 : a1 ≤ 64
      · rw [if_pos c5] at H
        have c5b0 : decide (a1 ≤ 64) = true := decide_eq_true c5
        clear c5
        obtain rfl := Option.some.inj H
        go_enter Try.func109, Try.ntmps109
        go_wp2
        go_ret
        exact ⟨by first | rfl | (simp; done) | (simp [*]; done), by repeat (first | exact Drawn0.refl _ | apply Drawn0.step)⟩
      · rw [if_neg c5] at H
        have c5b0 : decide (a1 ≤ 64) = false := decide_eq_false c5
        clear c5
        obtain rfl := Option.some.inj H
        go_enter Try.func109, Try.ntmps109
        go_wp2
        go_ret
        exact ⟨by first | rfl | (simp; done) | (simp [*]; done), by repeat (first | exact Drawn0.refl _ | apply Drawn0.step)⟩
    · rw [if_neg c4] at H
      have c4b0 : decide (1 ≤ a1) = false := decide_eq_false c4
      clear c4
      obtain rfl := Option.some.inj H
      go_enter Try.func109, Try.ntmps109
      go_wp2
      go_ret
      exact ⟨by first | rfl | (simp; done) | (simp [*]; done), by repeat (first | exact Drawn0.refl _ | apply Drawn0.step)⟩
  · rw [if_neg c3] at H
    have c3b0 : decide (0 ≤ a0) = false := decide_eq_false c3
    clear c3
    obtain rfl := Option.some.inj H
    go_enter Try.func109, Try.ntmps109
    go_wp2
    go_ret
    exact ⟨by first | rfl | (simp; done) | (simp [*]; done), by repeat (first | exact Drawn0.refl _ | apply Drawn0.step)⟩

/-! ### field_Mask: function 110 -/
def field_Mask.f (a0 : Int) (a1 : Int) : Option (Int) := (field_May.f a0 a1).bind fun t208 => (if t208 = true then (if 0 ≤ (wrap64 (64 - a1)) then (if 0 ≤ a0 then (some (shl .u64 (shr .u64 18446744073709551615 (wrap64 (64 - a1))) a0)) else (none)) else (none)) else (some 0))
set_option maxHeartbeats 8000000 in
set_option maxRecDepth 100000 in
theorem field_Mask.calls (a0 : Int) (a1 : Int) (r : Int) (w : World) (h : field_Mask.f a0 a1 = some r) :
    Calls Try.prog 110 #[.int .i64 a0, .int .i64 a1] w fun e w' => e = .returned (.int .u64 r) ∧ Drawn0 w w' := by
  have H : ((field_May.f a0 a1).bind fun t208 => (if t208 = true then (if 0 ≤ (wrap64 (64 - a1)) then (if 0 ≤ a0 then (some (shl .u64 (shr .u64 18446744073709551615 (wrap64 (64 - a1))) a0)) else (none)) else (none)) else (some 0))) = some r := h
  clear h
  replace H := Option.bind_eq_some_iff.mp H
  obtain ⟨t208, A30, H⟩ := H
  replace H : (if t208 = true then (if 0 ≤ (wrap64 (64 - a1)) then (if 0 ≤ a0 then (some (shl .u64 (shr .u64 18446744073709551615 (wrap64 (64 - a1))) a0)) else (none)) else (none)) else (some 0)) = some r := H
  have A3 := Aside0.mk A30
  clear A30
  by_cases c4 : t208 = true
  · subst c4
    have H1 : (if 0 ≤ (wrap64 (64 - a1)) then (if 0 ≤ a0 then (some (shl .u64 (shr .u64 18446744073709551615 (wrap64 (64 - a1))) a0)) else (none)) else (none)) = some r := by rw [if_pos rfl] at H; exact H
    clear H
    have H := H1
    clear H1
    obtain ⟨ji5, hji5⟩ : ∃ j_ : Int, (wrap64 (64 - a1)) = j_ := ⟨_, rfl⟩
    replace H : (if 0 ≤ (ji5) then (if 0 ≤ a0 then (some (shl .u64 (shr .u64 18446744073709551615 (ji5)) a0)) else (none)) else (none)) = some r := by first | (rw [hji5] at H; exact H) | (simp only [hji5] at H ⊢; exact H)
    (try rw [hji5] at A3)
    have hji5w : (IntKind.i64.wrap (64 - a1)) = ji5 := (i64_w _).trans hji5
    by_cases c6 : 0 ≤ (ji5)
    · rw [if_pos c6] at H
      have c6b0 := eq_true c6
      have c6b1 : decide (0 ≤ (ji5)) = true := decide_eq_true c6
      clear c6
      obtain ⟨ji7, hji7⟩ : ∃ j_ : Int, (shr .u64 18446744073709551615 (ji5)) = j_ := ⟨_, rfl⟩
      replace H : (if 0 ≤ a0 then (some (shl .u64 (ji7) a0)) else (none)) = some r := by first | (rw [hji7] at H; exact H) | (simp only [hji7] at H ⊢; exact H)
      (try rw [hji7] at A3)
      have hji7_ : (18446744073709551615 / 2 ^ min (ji5).toNat 64) = ji7 := hji7
      have hji7z : (ji5) ≤ 64 → (18446744073709551615 / 2 ^ (ji5).toNat) = ji7 := shr_small hji7
      by_cases c8 : 0 ≤ a0
      · rw [if_pos c8] at H
        have c8b0 := eq_true c8
        have c8b1 : decide (0 ≤ a0) = true := decide_eq_true c8
        clear c8
        obtain ⟨ji9, hji9⟩ : ∃ j_ : Int, (shl .u64 (ji7) a0) = j_ := ⟨_, rfl⟩
        replace H : (some ji9) = some r := by first | (rw [hji9] at H; exact H) | (simp only [hji9] at H ⊢; exact H)
        (try rw [hji9] at A3)
        have hji9_ : (IntKind.u64.wrap ((ji7) * 2 ^ min a0.toNat 64)) = ji9 := hji9
        have hji9z : a0 ≤ 64 → (IntKind.u64.wrap ((ji7) * 2 ^ a0.toNat)) = ji9 := shl_small hji9
        obtain rfl := Option.some.inj H
        go_enter Try.func110, Try.ntmps110
        go_wp2_with (first | ((with_reducible refine gate_callee (f := 109) rfl ?_); refine goesL_ (some 7) rfl rfl Try.func109 (by kernel_rfl) rfl #[.int .i64 a0, .int .i64 a1] rfl (by (try simp only [List.map_toArray, List.map_cons, List.map_nil]); first | done | rfl | (simp only [List.length_drop, List.length_take]; rfl)) ?_; (with_reducible refine (field_May.calls a0 a1 true _ A3.out).mono ?_); rintro e w' ⟨rfl, ⟨nd, rfl⟩⟩; refine ⟨_, rfl, ?_⟩))
        go_ret
        exact ⟨by first | rfl | (simp; done) | (simp only [← hji5, ← hji7, ← hji9] <;> (first | rfl | simp)) | (simp [*]; done), by repeat (first | exact Drawn0.refl _ | apply Drawn0.step)⟩
      · rw [if_neg c8] at H
        exact absurd H (by simp)
    · rw [if_neg c6] at H
      exact absurd H (by simp)
  · replace c4 := Bool.eq_false_iff.mpr c4
    subst c4
    have H1 : (some 0) = some r := by rw [if_neg (show ¬ (false = true) by decide)] at H; exact H
    clear H
    have H := H1
    clear H1
    obtain rfl := Option.some.inj H
    go_enter Try.func110, Try.ntmps110
    go_wp2_with (first | ((with_reducible refine gate_callee (f := 109) rfl ?_); refine goesL_ (some 7) rfl rfl Try.func109 (by kernel_rfl) rfl #[.int .i64 a0, .int .i64 a1] rfl (by (try simp only [List.map_toArray, List.map_cons, List.map_nil]); first | done | rfl | (simp only [List.length_drop, List.length_take]; rfl)) ?_; (with_reducible refine (field_May.calls a0 a1 false _ A3.out).mono ?_); rintro e w' ⟨rfl, ⟨nd, rfl⟩⟩; refine ⟨_, rfl, ?_⟩))
    go_ret
    exact ⟨by first | rfl | (simp; done) | (simp [*]; done), by repeat (first | exact Drawn0.refl _ | apply Drawn0.step)⟩

/-! ### field_Get: function 89 -/
def field_Get.f (a0 : Int) (a1 : Int) (a2 : Int) : Option (Int) := (field_May.f a1 a2).bind fun t209 => (if t209 = true then ((field_Mask.f a1 a2).bind fun t210 => (if 0 ≤ a1 then (some (shr .u64 (Go.bits .and .u64 a0 t210) a1)) else (none))) else (some 0))
set_option maxHeartbeats 8000000 in
set_option maxRecDepth 100000 in
theorem field_Get.calls (a0 : Int) (a1 : Int) (a2 : Int) (r : Int) (w : World) (h : field_Get.f a0 a1 a2 = some r) :
    Calls Try.prog 89 #[.int .u64 a0, .int .i64 a1, .int .i64 a2] w fun e w' => e = .returned (.int .u64 r) ∧ Drawn0 w w' := by
  have H : ((field_May.f a1 a2).bind fun t209 => (if t209 = true then ((field_Mask.f a1 a2).bind fun t210 => (if 0 ≤ a1 then (some (shr .u64 (Go.bits .and .u64 a0 t210) a1)) else (none))) else (some 0))) = some r := h
  clear h
  replace H := Option.bind_eq_some_iff.mp H
  obtain ⟨t209, A40, H⟩ := H
  replace H : (if t209 = true then ((field_Mask.f a1 a2).bind fun t210 => (if 0 ≤ a1 then (some (shr .u64 (Go.bits .and .u64 a0 t210) a1)) else (none))) else (some 0)) = some r := H
  have A4 := Aside0.mk A40
  clear A40
  by_cases c5 : t209 = true
  · subst c5
    have H1 : ((field_Mask.f a1 a2).bind fun t210 => (if 0 ≤ a1 then (some (shr .u64 (Go.bits .and .u64 a0 t210) a1)) else (none))) = some r := by rw [if_pos rfl] at H; exact H
    clear H
    have H := H1
    clear H1
    replace H := Option.bind_eq_some_iff.mp H
    obtain ⟨t210, A60, H⟩ := H
    replace H : (if 0 ≤ a1 then (some (shr .u64 (Go.bits .and .u64 a0 t210) a1)) else (none)) = some r := H
    have A6 := Aside0.mk A60
    clear A60
    by_cases c7 : 0 ≤ a1
    · rw [if_pos c7] at H
      have c7b0 := eq_true c7
      have c7b1 : decide (0 ≤ a1) = true := decide_eq_true c7
      clear c7
      obtain ⟨ji8, hji8⟩ : ∃ j_ : Int, (shr .u64 (Go.bits .and .u64 a0 t210) a1) = j_ := ⟨_, rfl⟩
      replace H : (some ji8) = some r := by first | (rw [hji8] at H; exact H) | (simp only [hji8] at H ⊢; exact H)
      (try rw [hji8] at A4)
      (try rw [hji8] at A6)
      have hji8_ : ((Go.bits .and .u64 a0 t210) / 2 ^ min a1.toNat 64) = ji8 := hji8
      have hji8z : a1 ≤ 64 → ((Go.bits .and .u64 a0 t210) / 2 ^ a1.toNat) = ji8 := shr_small hji8
      obtain rfl := Option.some.inj H
      go_enter Try.func89, Try.ntmps89
      go_wp2_with (first | ((with_reducible refine gate_callee (f := 109) rfl ?_); refine goesL_ (some 9) rfl rfl Try.func109 (by kernel_rfl) rfl #[.int .i64 a1, .int .i64 a2] rfl (by (try simp only [List.map_toArray, List.map_cons, List.map_nil]); first | done | rfl | (simp only [List.length_drop, List.length_take]; rfl)) ?_; (with_reducible refine (field_May.calls a1 a2 true _ A4.out).mono ?_); rintro e w' ⟨rfl, ⟨nd, rfl⟩⟩; refine ⟨_, rfl, ?_⟩) | ((with_reducible refine gate_callee (f := 110) rfl ?_); refine goesL_ (some 14) rfl rfl Try.func110 (by kernel_rfl) rfl #[.int .i64 a1, .int .i64 a2] rfl (by (try simp only [List.map_toArray, List.map_cons, List.map_nil]); first | done | rfl | (simp only [List.length_drop, List.length_take]; rfl)) ?_; (with_reducible refine (field_Mask.calls a1 a2 t210 _ A6.out).mono ?_); rintro e w' ⟨rfl, ⟨nd, rfl⟩⟩; refine ⟨_, rfl, ?_⟩))
      go_ret
      exact ⟨by first | rfl | (simp; done) | (simp only [← hji8] <;> (first | rfl | simp)) | (simp [*]; done), by repeat (first | exact Drawn0.refl _ | apply Drawn0.step)⟩
    · rw [if_neg c7] at H
      exact absurd H (by simp)
  · replace c5 := Bool.eq_false_iff.mpr c5
    subst c5
    have H1 : (some 0) = some r := by rw [if_neg (show ¬ (false = true) by decide)] at H; exact H
    clear H
    have H := H1
    clear H1
    obtain rfl := Option.some.inj H
    go_enter Try.func89, Try.ntmps89
    go_wp2_with (first | ((with_reducible refine gate_callee (f := 109) rfl ?_); refine goesL_ (some 9) rfl rfl Try.func109 (by kernel_rfl) rfl #[.int .i64 a1, .int .i64 a2] rfl (by (try simp only [List.map_toArray, List.map_cons, List.map_nil]); first | done | rfl | (simp only [List.length_drop, List.length_take]; rfl)) ?_; (with_reducible refine (field_May.calls a1 a2 false _ A4.out).mono ?_); rintro e w' ⟨rfl, ⟨nd, rfl⟩⟩; refine ⟨_, rfl, ?_⟩))
    go_ret
    exact ⟨by first | rfl | (simp; done) | (simp [*]; done), by repeat (first | exact Drawn0.refl _ | apply Drawn0.step)⟩

/-! ### page_Hole: function 68 -/
def page_Hole.f (a0 : Int) : Option (Bool) := (field_Get.f a0 43 21).bind fun t211 => (if t211 = 0 then (some false) else (some (t211 != 2097151)))
set_option maxHeartbeats 8000000 in
set_option maxRecDepth 100000 in
theorem page_Hole.calls (a0 : Int) (r : Bool) (w : World) (h : page_Hole.f a0 = some r) :
    Calls Try.prog 68 #[.int .u64 a0] w fun e w' => e = .returned (.bool r) ∧ Drawn0 w w' := by
  have H : ((field_Get.f a0 43 21).bind fun t211 => (if t211 = 0 then (some false) else (some (t211 != 2097151)))) = some r := h
  clear h
  replace H := Option.bind_eq_some_iff.mp H
  obtain ⟨t211, A20, H⟩ := H
  replace H : (if t211 = 0 then (some false) else (some (t211 != 2097151))) = some r := H
  have A2 := Aside0.mk A20
  clear A20
  by_cases c3 : t211 = 0
  · rw [if_pos c3] at H
    have c3b0 : (t211 == 0) = true := beq_iff_eq.mpr c3
    have c3b1 : (t211 != 0) = false := bne_eq_false_iff_eq.mpr c3
    clear c3
    obtain rfl := Option.some.inj H
    go_enter Try.func68, Try.ntmps68
    go_wp2_with (first | ((with_reducible refine gate_callee (f := 89) rfl ?_); refine goesL_ (some 5) rfl rfl Try.func89 (by kernel_rfl) rfl #[.int .u64 a0, .int .i64 43, .int .i64 21] rfl (by (try simp only [List.map_toArray, List.map_cons, List.map_nil]); first | done | rfl | (simp only [List.length_drop, List.length_take]; rfl)) ?_; (with_reducible refine (field_Get.calls a0 43 21 t211 _ A2.out).mono ?_); rintro e w' ⟨rfl, ⟨nd, rfl⟩⟩; refine ⟨_, rfl, ?_⟩))
    go_ret
    exact ⟨by first | rfl | (simp; done) | (simp [*]; done), by repeat (first | exact Drawn0.refl _ | apply Drawn0.step)⟩
  · rw [if_neg c3] at H
    have c3b0 : (t211 == 0) = false := beq_eq_false_iff_ne.mpr c3
    have c3b1 : (t211 != 0) = true := bne_iff_ne.mpr c3
    obtain rfl := Option.some.inj H
    go_enter Try.func68, Try.ntmps68
    go_wp2_with (first | ((with_reducible refine gate_callee (f := 89) rfl ?_); refine goesL_ (some 5) rfl rfl Try.func89 (by kernel_rfl) rfl #[.int .u64 a0, .int .i64 43, .int .i64 21] rfl (by (try simp only [List.map_toArray, List.map_cons, List.map_nil]); first | done | rfl | (simp only [List.length_drop, List.length_take]; rfl)) ?_; (with_reducible refine (field_Get.calls a0 43 21 t211 _ A2.out).mono ?_); rintro e w' ⟨rfl, ⟨nd, rfl⟩⟩; refine ⟨_, rfl, ?_⟩))
    go_ret
    exact ⟨by first | rfl | (simp; done) | (simp [*]; done), by repeat (first | exact Drawn0.refl _ | apply Drawn0.step)⟩

/-- THE ONE PURE STATEMENT of page_Hole: yours. -/
def page_Hole.Pure : Prop := ∀ (a0 : Int), (Lit.int .u64 a0).wf = true → page_Hole.f a0 = some true
theorem page_Hole.walk (P : page_Hole.Pure) (a0 : Int) (w : World) (w0 : (Lit.int .u64 a0).wf = true) :
    Calls Try.prog 68 #[.int .u64 a0] w fun e w' => e = .returned (.bool true) ∧ Below w.heap.size w w' := by
  have h := P a0 w0
  refine (page_Hole.calls a0 true w h).mono ?_
  rintro e w' ⟨rfl, hd⟩
  exact ⟨rfl, hd.below⟩

/-! ### page_May: function 69 -/
def page_May.f (a0 : Int) : Option (Bool) := if a0 ≥ 0 then (some (decide (a0 < 4))) else (some false)
set_option maxHeartbeats 8000000 in
set_option maxRecDepth 100000 in
theorem page_May.calls (a0 : Int) (r : Bool) (w : World) (h : page_May.f a0 = some r) :
    Calls Try.prog 69 #[.int .i64 a0] w fun e w' => e = .returned (.bool r) ∧ Drawn0 w w' := by
  have H : (if a0 ≥ 0 then (some (decide (a0 < 4))) else (some false)) = some r := h
  clear h
  by_cases c2 : a0 ≥ 0
  · rw [if_pos c2] at H
    have c2b0 : decide (0 ≤ a0) = true := decide_eq_true c2
    clear c2
    obtain rfl := Option.some.inj H
    go_enter Try.func69, Try.ntmps69
    go_wp2
    go_ret
    exact ⟨by first | rfl | (simp; done) | (simp [*]; done), by repeat (first | exact Drawn0.refl _ | apply Drawn0.step)⟩
  · rw [if_neg c2] at H
    have c2b0 : decide (0 ≤ a0) = false := decide_eq_false c2
    clear c2
    obtain rfl := Option.some.inj H
    go_enter Try.func69, Try.ntmps69
    go_wp2
    go_ret
    exact ⟨by first | rfl | (simp; done) | (simp [*]; done), by repeat (first | exact Drawn0.refl _ | apply Drawn0.step)⟩

end Go.Proofs.Ytalmemcidbmdgaa.PM

-- written by xprint.py, a program of this session, over the kit's print (functions told by hand: see the texts)
namespace Go.Proofs.Ytalmemcidbmdgaa.PM
open Go.RowKit Go.Proofs.YtalmemcidbmdgaaW.PrintWords Go.Proofs.YtalmemcidbmdgaaW.PrintLast Go.Proofs.YtalmemcidbmdgaaW.PrintMore
attribute [local go_sem] max2_int min2_int max_two min_two max_three min_three max_four min_four   -- for this text's walks alone
set_option linter.unusedVariables false
set_option linter.unusedSimpArgs false

/-! ### page_Bits: function 106 -/
def page_Bits.f (a0 : Int) : Option (Int) := (page_May.f a0).bind fun t212 => (if t212 = true then (some (wrap64 (13 + (wrap64 (3 * a0))))) else (some 0))
set_option maxHeartbeats 8000000 in
set_option maxRecDepth 100000 in
theorem page_Bits.calls (a0 : Int) (r : Int) (w : World) (h : page_Bits.f a0 = some r) :
    Calls Try.prog 106 #[.int .i64 a0] w fun e w' => e = .returned (.int .i64 r) ∧ Drawn0 w w' := by
  have H : ((page_May.f a0).bind fun t212 => (if t212 = true then (some (wrap64 (13 + (wrap64 (3 * a0))))) else (some 0))) = some r := h
  clear h
  replace H := Option.bind_eq_some_iff.mp H
  obtain ⟨t212, A20, H⟩ := H
  replace H : (if t212 = true then (some (wrap64 (13 + (wrap64 (3 * a0))))) else (some 0)) = some r := H
  have A2 := Aside0.mk A20
  clear A20
  by_cases c3 : t212 = true
  · subst c3
    have H1 : (some (wrap64 (13 + (wrap64 (3 * a0))))) = some r := by rw [if_pos rfl] at H; exact H
    clear H
    have H := H1
    clear H1
    obtain rfl := Option.some.inj H
    go_enter Try.func106, Try.ntmps106
    go_wp2_with (first | ((with_reducible refine gate_callee (f := 69) rfl ?_); refine goesL_ (some 4) rfl rfl Try.func69 (by kernel_rfl) rfl #[.int .i64 a0] rfl (by (try simp only [List.map_toArray, List.map_cons, List.map_nil]); first | done | rfl | (simp only [List.length_drop, List.length_take]; rfl)) ?_; (with_reducible refine (page_May.calls a0 true _ A2.out).mono ?_); rintro e w' ⟨rfl, ⟨nd, rfl⟩⟩; refine ⟨_, rfl, ?_⟩))
    go_ret
    exact ⟨by first | rfl | (simp; done) | (simp [*]; done), by repeat (first | exact Drawn0.refl _ | apply Drawn0.step)⟩
  · replace c3 := Bool.eq_false_iff.mpr c3
    subst c3
    have H1 : (some 0) = some r := by rw [if_neg (show ¬ (false = true) by decide)] at H; exact H
    clear H
    have H := H1
    clear H1
    obtain rfl := Option.some.inj H
    go_enter Try.func106, Try.ntmps106
    go_wp2_with (first | ((with_reducible refine gate_callee (f := 69) rfl ?_); refine goesL_ (some 4) rfl rfl Try.func69 (by kernel_rfl) rfl #[.int .i64 a0] rfl (by (try simp only [List.map_toArray, List.map_cons, List.map_nil]); first | done | rfl | (simp only [List.length_drop, List.length_take]; rfl)) ?_; (with_reducible refine (page_May.calls a0 false _ A2.out).mono ?_); rintro e w' ⟨rfl, ⟨nd, rfl⟩⟩; refine ⟨_, rfl, ?_⟩))
    go_ret
    exact ⟨by first | rfl | (simp; done) | (simp [*]; done), by repeat (first | exact Drawn0.refl _ | apply Drawn0.step)⟩

/-! ### page_Offset: function 80 -/
def page_Offset.f (a0 : Int) (a1 : Int) : Option (Int) := (page_May.f a1).bind fun t213 => (if t213 = true then ((page_Bits.f a1).bind fun t214 => ((field_Get.f a0 0 t214).bind fun t215 => (some t215))) else (some 0))
set_option maxHeartbeats 8000000 in
set_option maxRecDepth 100000 in
theorem page_Offset.calls (a0 : Int) (a1 : Int) (r : Int) (w : World) (h : page_Offset.f a0 a1 = some r) :
    Calls Try.prog 80 #[.int .u64 a0, .int .i64 a1] w fun e w' => e = .returned (.int .u64 r) ∧ Drawn0 w w' := by
  have H : ((page_May.f a1).bind fun t213 => (if t213 = true then ((page_Bits.f a1).bind fun t214 => ((field_Get.f a0 0 t214).bind fun t215 => (some t215))) else (some 0))) = some r := h
  clear h
  replace H := Option.bind_eq_some_iff.mp H
  obtain ⟨t213, A30, H⟩ := H
  replace H : (if t213 = true then ((page_Bits.f a1).bind fun t214 => ((field_Get.f a0 0 t214).bind fun t215 => (some t215))) else (some 0)) = some r := H
  have A3 := Aside0.mk A30
  clear A30
  by_cases c4 : t213 = true
  · subst c4
    have H1 : ((page_Bits.f a1).bind fun t214 => ((field_Get.f a0 0 t214).bind fun t215 => (some t215))) = some r := by rw [if_pos rfl] at H; exact H
    clear H
    have H := H1
    clear H1
    replace H := Option.bind_eq_some_iff.mp H
    obtain ⟨t214, A50, H⟩ := H
    replace H : ((field_Get.f a0 0 t214).bind fun t215 => (some t215)) = some r := H
    have A5 := Aside0.mk A50
    clear A50
    replace H := Option.bind_eq_some_iff.mp H
    obtain ⟨t215, A60, H⟩ := H
    replace H : (some t215) = some r := H
    have A6 := Aside0.mk A60
    clear A60
    obtain rfl := Option.some.inj H
    go_enter Try.func80, Try.ntmps80
    go_wp2_with (first | ((with_reducible refine gate_callee (f := 69) rfl ?_); refine goesL_ (some 6) rfl rfl Try.func69 (by kernel_rfl) rfl #[.int .i64 a1] rfl (by (try simp only [List.map_toArray, List.map_cons, List.map_nil]); first | done | rfl | (simp only [List.length_drop, List.length_take]; rfl)) ?_; (with_reducible refine (page_May.calls a1 true _ A3.out).mono ?_); rintro e w' ⟨rfl, ⟨nd, rfl⟩⟩; refine ⟨_, rfl, ?_⟩) | ((with_reducible refine gate_callee (f := 106) rfl ?_); refine goesL_ (some 10) rfl rfl Try.func106 (by kernel_rfl) rfl #[.int .i64 a1] rfl (by (try simp only [List.map_toArray, List.map_cons, List.map_nil]); first | done | rfl | (simp only [List.length_drop, List.length_take]; rfl)) ?_; (with_reducible refine (page_Bits.calls a1 t214 _ A5.out).mono ?_); rintro e w' ⟨rfl, ⟨nd, rfl⟩⟩; refine ⟨_, rfl, ?_⟩) | ((with_reducible refine gate_callee (f := 89) rfl ?_); refine goesL_ (some 11) rfl rfl Try.func89 (by kernel_rfl) rfl #[.int .u64 a0, .int .i64 0, .int .i64 t214] rfl (by (try simp only [List.map_toArray, List.map_cons, List.map_nil]); first | done | rfl | (simp only [List.length_drop, List.length_take]; rfl)) ?_; (with_reducible refine (field_Get.calls a0 0 t214 t215 _ A6.out).mono ?_); rintro e w' ⟨rfl, ⟨nd, rfl⟩⟩; refine ⟨_, rfl, ?_⟩))
    go_ret
    exact ⟨by first | rfl | (simp; done) | (simp [*]; done), by repeat (first | exact Drawn0.refl _ | apply Drawn0.step)⟩
  · replace c4 := Bool.eq_false_iff.mpr c4
    subst c4
    have H1 : (some 0) = some r := by rw [if_neg (show ¬ (false = true) by decide)] at H; exact H
    clear H
    have H := H1
    clear H1
    obtain rfl := Option.some.inj H
    go_enter Try.func80, Try.ntmps80
    go_wp2_with (first | ((with_reducible refine gate_callee (f := 69) rfl ?_); refine goesL_ (some 6) rfl rfl Try.func69 (by kernel_rfl) rfl #[.int .i64 a1] rfl (by (try simp only [List.map_toArray, List.map_cons, List.map_nil]); first | done | rfl | (simp only [List.length_drop, List.length_take]; rfl)) ?_; (with_reducible refine (page_May.calls a1 false _ A3.out).mono ?_); rintro e w' ⟨rfl, ⟨nd, rfl⟩⟩; refine ⟨_, rfl, ?_⟩))
    go_ret
    exact ⟨by first | rfl | (simp; done) | (simp [*]; done), by repeat (first | exact Drawn0.refl _ | apply Drawn0.step)⟩

/-! ### page_Base: function 79 -/
def page_Base.f (a0 : Int) (a1 : Int) : Option (Int) := (page_May.f a1).bind fun t216 => (if t216 = true then ((page_Offset.f a0 a1).bind fun t217 => (some (IntKind.u64.wrap (a0 - t217)))) else (some 0))
set_option maxHeartbeats 8000000 in
set_option maxRecDepth 100000 in
theorem page_Base.calls (a0 : Int) (a1 : Int) (r : Int) (w : World) (h : page_Base.f a0 a1 = some r) :
    Calls Try.prog 79 #[.int .u64 a0, .int .i64 a1] w fun e w' => e = .returned (.int .u64 r) ∧ Drawn0 w w' := by
  have H : ((page_May.f a1).bind fun t216 => (if t216 = true then ((page_Offset.f a0 a1).bind fun t217 => (some (IntKind.u64.wrap (a0 - t217)))) else (some 0))) = some r := h
  clear h
  replace H := Option.bind_eq_some_iff.mp H
  obtain ⟨t216, A30, H⟩ := H
  replace H : (if t216 = true then ((page_Offset.f a0 a1).bind fun t217 => (some (IntKind.u64.wrap (a0 - t217)))) else (some 0)) = some r := H
  have A3 := Aside0.mk A30
  clear A30
  by_cases c4 : t216 = true
  · subst c4
    have H1 : ((page_Offset.f a0 a1).bind fun t217 => (some (IntKind.u64.wrap (a0 - t217)))) = some r := by rw [if_pos rfl] at H; exact H
    clear H
    have H := H1
    clear H1
    replace H := Option.bind_eq_some_iff.mp H
    obtain ⟨t217, A50, H⟩ := H
    replace H : (some (IntKind.u64.wrap (a0 - t217))) = some r := H
    have A5 := Aside0.mk A50
    clear A50
    obtain rfl := Option.some.inj H
    go_enter Try.func79, Try.ntmps79
    go_wp2_with (first | ((with_reducible refine gate_callee (f := 69) rfl ?_); refine goesL_ (some 6) rfl rfl Try.func69 (by kernel_rfl) rfl #[.int .i64 a1] rfl (by (try simp only [List.map_toArray, List.map_cons, List.map_nil]); first | done | rfl | (simp only [List.length_drop, List.length_take]; rfl)) ?_; (with_reducible refine (page_May.calls a1 true _ A3.out).mono ?_); rintro e w' ⟨rfl, ⟨nd, rfl⟩⟩; refine ⟨_, rfl, ?_⟩) | ((with_reducible refine gate_callee (f := 80) rfl ?_); refine goesL_ (some 11) rfl rfl Try.func80 (by kernel_rfl) rfl #[.int .u64 a0, .int .i64 a1] rfl (by (try simp only [List.map_toArray, List.map_cons, List.map_nil]); first | done | rfl | (simp only [List.length_drop, List.length_take]; rfl)) ?_; (with_reducible refine (page_Offset.calls a0 a1 t217 _ A5.out).mono ?_); rintro e w' ⟨rfl, ⟨nd, rfl⟩⟩; refine ⟨_, rfl, ?_⟩))
    go_ret
    exact ⟨by first | rfl | (simp; done) | (simp [*]; done), by repeat (first | exact Drawn0.refl _ | apply Drawn0.step)⟩
  · replace c4 := Bool.eq_false_iff.mpr c4
    subst c4
    have H1 : (some 0) = some r := by rw [if_neg (show ¬ (false = true) by decide)] at H; exact H
    clear H
    have H := H1
    clear H1
    obtain rfl := Option.some.inj H
    go_enter Try.func79, Try.ntmps79
    go_wp2_with (first | ((with_reducible refine gate_callee (f := 69) rfl ?_); refine goesL_ (some 6) rfl rfl Try.func69 (by kernel_rfl) rfl #[.int .i64 a1] rfl (by (try simp only [List.map_toArray, List.map_cons, List.map_nil]); first | done | rfl | (simp only [List.length_drop, List.length_take]; rfl)) ?_; (with_reducible refine (page_May.calls a1 false _ A3.out).mono ?_); rintro e w' ⟨rfl, ⟨nd, rfl⟩⟩; refine ⟨_, rfl, ?_⟩))
    go_ret
    exact ⟨by first | rfl | (simp; done) | (simp [*]; done), by repeat (first | exact Drawn0.refl _ | apply Drawn0.step)⟩

/-! ### page_In: function 111 -/
def page_In.f (a0 : Int) (a1 : Int) (a2 : Int) : Option (Bool) := (page_May.f a2).bind fun t218 => (if t218 = true then ((page_Base.f a0 a2).bind fun t219 => ((page_Base.f a1 a2).bind fun t220 => (some (t219 == t220)))) else (some false))
set_option maxHeartbeats 8000000 in
set_option maxRecDepth 100000 in
theorem page_In.calls (a0 : Int) (a1 : Int) (a2 : Int) (r : Bool) (w : World) (h : page_In.f a0 a1 a2 = some r) :
    Calls Try.prog 111 #[.int .u64 a0, .int .u64 a1, .int .i64 a2] w fun e w' => e = .returned (.bool r) ∧ Drawn0 w w' := by
  have H : ((page_May.f a2).bind fun t218 => (if t218 = true then ((page_Base.f a0 a2).bind fun t219 => ((page_Base.f a1 a2).bind fun t220 => (some (t219 == t220)))) else (some false))) = some r := h
  clear h
  replace H := Option.bind_eq_some_iff.mp H
  obtain ⟨t218, A40, H⟩ := H
  replace H : (if t218 = true then ((page_Base.f a0 a2).bind fun t219 => ((page_Base.f a1 a2).bind fun t220 => (some (t219 == t220)))) else (some false)) = some r := H
  have A4 := Aside0.mk A40
  clear A40
  by_cases c5 : t218 = true
  · subst c5
    have H1 : ((page_Base.f a0 a2).bind fun t219 => ((page_Base.f a1 a2).bind fun t220 => (some (t219 == t220)))) = some r := by rw [if_pos rfl] at H; exact H
    clear H
    have H := H1
    clear H1
    replace H := Option.bind_eq_some_iff.mp H
    obtain ⟨t219, A60, H⟩ := H
    replace H : ((page_Base.f a1 a2).bind fun t220 => (some (t219 == t220))) = some r := H
    have A6 := Aside0.mk A60
    clear A60
    replace H := Option.bind_eq_some_iff.mp H
    obtain ⟨t220, A70, H⟩ := H
    replace H : (some (t219 == t220)) = some r := H
    have A7 := Aside0.mk A70
    clear A70
    obtain rfl := Option.some.inj H
    go_enter Try.func111, Try.ntmps111
    go_wp2_with (first | ((with_reducible refine gate_callee (f := 69) rfl ?_); refine goesL_ (some 8) rfl rfl Try.func69 (by kernel_rfl) rfl #[.int .i64 a2] rfl (by (try simp only [List.map_toArray, List.map_cons, List.map_nil]); first | done | rfl | (simp only [List.length_drop, List.length_take]; rfl)) ?_; (with_reducible refine (page_May.calls a2 true _ A4.out).mono ?_); rintro e w' ⟨rfl, ⟨nd, rfl⟩⟩; refine ⟨_, rfl, ?_⟩) | (go_at_call 79; (with_reducible refine (page_Base.calls a0 a2 t219 _ A6.out).mono ?_); rintro e w' ⟨rfl, ⟨nd, rfl⟩⟩) | (go_at_call 79; (with_reducible refine (page_Base.calls a1 a2 t220 _ A7.out).mono ?_); rintro e w' ⟨rfl, ⟨nd, rfl⟩⟩))
    go_ret
    exact ⟨by first | rfl | (simp; done) | (simp [*]; done), by repeat (first | exact Drawn0.refl _ | apply Drawn0.step)⟩
  · replace c5 := Bool.eq_false_iff.mpr c5
    subst c5
    have H1 : (some false) = some r := by rw [if_neg (show ¬ (false = true) by decide)] at H; exact H
    clear H
    have H := H1
    clear H1
    obtain rfl := Option.some.inj H
    go_enter Try.func111, Try.ntmps111
    go_wp2_with (first | ((with_reducible refine gate_callee (f := 69) rfl ?_); refine goesL_ (some 8) rfl rfl Try.func69 (by kernel_rfl) rfl #[.int .i64 a2] rfl (by (try simp only [List.map_toArray, List.map_cons, List.map_nil]); first | done | rfl | (simp only [List.length_drop, List.length_take]; rfl)) ?_; (with_reducible refine (page_May.calls a2 false _ A4.out).mono ?_); rintro e w' ⟨rfl, ⟨nd, rfl⟩⟩; refine ⟨_, rfl, ?_⟩))
    go_ret
    exact ⟨by first | rfl | (simp; done) | (simp [*]; done), by repeat (first | exact Drawn0.refl _ | apply Drawn0.step)⟩

/-! ### page_Meet: function 91 -/
def page_Meet.f (a0 : Int) (a1 : Int) (a2 : Int) (a3 : Int) : Option (Bool) := (page_May.f a1).bind fun t221 => (if t221 = true then ((page_May.f a3).bind fun t222 => (if t222 = true then ((page_In.f a0 a2 (mx a1 a3)).bind fun t223 => (some t223)) else (some false))) else (some false))
set_option maxHeartbeats 8000000 in
set_option maxRecDepth 100000 in
theorem page_Meet.calls (a0 : Int) (a1 : Int) (a2 : Int) (a3 : Int) (r : Bool) (w : World) (h : page_Meet.f a0 a1 a2 a3 = some r) :
    Calls Try.prog 91 #[.int .u64 a0, .int .i64 a1, .int .u64 a2, .int .i64 a3] w fun e w' => e = .returned (.bool r) ∧ Below w.heap.size w w' := by
  have HB := Aside0.mk (Below.refl w.heap.size w)
  have H : ((page_May.f a1).bind fun t221 => (if t221 = true then ((page_May.f a3).bind fun t222 => (if t222 = true then ((page_In.f a0 a2 (mx a1 a3)).bind fun t223 => (some t223)) else (some false))) else (some false))) = some r := h
  clear h
  replace H := Option.bind_eq_some_iff.mp H
  obtain ⟨t221, A50, H⟩ := H
  replace H : (if t221 = true then ((page_May.f a3).bind fun t222 => (if t222 = true then ((page_In.f a0 a2 (mx a1 a3)).bind fun t223 => (some t223)) else (some false))) else (some false)) = some r := H
  have A5 := Aside0.mk A50
  clear A50
  by_cases c6 : t221 = true
  · subst c6
    have H1 : ((page_May.f a3).bind fun t222 => (if t222 = true then ((page_In.f a0 a2 (mx a1 a3)).bind fun t223 => (some t223)) else (some false))) = some r := by rw [if_pos rfl] at H; exact H
    clear H
    have H := H1
    clear H1
    replace H := Option.bind_eq_some_iff.mp H
    obtain ⟨t222, A70, H⟩ := H
    replace H : (if t222 = true then ((page_In.f a0 a2 (mx a1 a3)).bind fun t223 => (some t223)) else (some false)) = some r := H
    have A7 := Aside0.mk A70
    clear A70
    by_cases c8 : t222 = true
    · subst c8
      have H1 : ((page_In.f a0 a2 (mx a1 a3)).bind fun t223 => (some t223)) = some r := by rw [if_pos rfl] at H; exact H
      clear H
      have H := H1
      clear H1
      obtain ⟨ji9, hji9⟩ : ∃ j_ : Int, (mx a1 a3) = j_ := ⟨_, rfl⟩
      replace H : ((page_In.f a0 a2 (ji9)).bind fun t223 => (some t223)) = some r := by first | (rw [hji9] at H; exact H) | (simp only [hji9] at H ⊢; exact H)
      (try rw [hji9] at A5)
      (try rw [hji9] at A7)
      have hji9_ : (if a1 < a3 then a3 else a1) = ji9 := hji9
      replace H := Option.bind_eq_some_iff.mp H
      obtain ⟨t223, A100, H⟩ := H
      replace H : (some t223) = some r := H
      have A10 := Aside0.mk A100
      clear A100
      obtain rfl := Option.some.inj H
      go_enter Try.func91, Try.ntmps91
      go_wp2_with (first | ((with_reducible refine gate_callee (f := 69) rfl ?_); refine goesL_ (some 10) rfl rfl Try.func69 (by kernel_rfl) rfl #[.int .i64 a1] rfl (by (try simp only [List.map_toArray, List.map_cons, List.map_nil]); first | done | rfl | (simp only [List.length_drop, List.length_take]; rfl)) ?_; (with_reducible refine (page_May.calls a1 true _ A5.out).mono ?_); rintro e w' ⟨rfl, ⟨nd, rfl⟩⟩; refine ⟨_, rfl, ?_⟩) | (go_at_call 69; (with_reducible refine (page_May.calls a3 true _ A7.out).mono ?_); rintro e w' ⟨rfl, ⟨nd, rfl⟩⟩) | (go_at_call 111; (with_reducible refine (page_In.calls a0 a2 ji9 t223 _ A10.out).mono ?_); rintro e w' ⟨rfl, ⟨nd, rfl⟩⟩))
      go_ret
      exact ⟨by first | rfl | (simp [errW_none, errW_some] <;> rfl) | (simp only [← hji9]; first | rfl | (simp [errW_none, errW_some] <;> rfl)) | (simp [*, errW_none, errW_some] <;> rfl), by repeat (first | (with_reducible first | exact HB.out | apply below_alloc | apply pw_below_drewN | apply below_drew1) | exact HB.out)⟩
    · replace c8 := Bool.eq_false_iff.mpr c8
      subst c8
      have H1 : (some false) = some r := by rw [if_neg (show ¬ (false = true) by decide)] at H; exact H
      clear H
      have H := H1
      clear H1
      obtain rfl := Option.some.inj H
      go_enter Try.func91, Try.ntmps91
      go_wp2_with (first | ((with_reducible refine gate_callee (f := 69) rfl ?_); refine goesL_ (some 10) rfl rfl Try.func69 (by kernel_rfl) rfl #[.int .i64 a1] rfl (by (try simp only [List.map_toArray, List.map_cons, List.map_nil]); first | done | rfl | (simp only [List.length_drop, List.length_take]; rfl)) ?_; (with_reducible refine (page_May.calls a1 true _ A5.out).mono ?_); rintro e w' ⟨rfl, ⟨nd, rfl⟩⟩; refine ⟨_, rfl, ?_⟩) | (go_at_call 69; (with_reducible refine (page_May.calls a3 false _ A7.out).mono ?_); rintro e w' ⟨rfl, ⟨nd, rfl⟩⟩))
      go_ret
      exact ⟨by first | rfl | (simp [errW_none, errW_some] <;> rfl) | (simp [*, errW_none, errW_some] <;> rfl), by repeat (first | (with_reducible first | exact HB.out | apply below_alloc | apply pw_below_drewN | apply below_drew1) | exact HB.out)⟩
  · replace c6 := Bool.eq_false_iff.mpr c6
    subst c6
    have H1 : (some false) = some r := by rw [if_neg (show ¬ (false = true) by decide)] at H; exact H
    clear H
    have H := H1
    clear H1
    obtain rfl := Option.some.inj H
    go_enter Try.func91, Try.ntmps91
    go_wp2_with (first | ((with_reducible refine gate_callee (f := 69) rfl ?_); refine goesL_ (some 10) rfl rfl Try.func69 (by kernel_rfl) rfl #[.int .i64 a1] rfl (by (try simp only [List.map_toArray, List.map_cons, List.map_nil]); first | done | rfl | (simp only [List.length_drop, List.length_take]; rfl)) ?_; (with_reducible refine (page_May.calls a1 false _ A5.out).mono ?_); rintro e w' ⟨rfl, ⟨nd, rfl⟩⟩; refine ⟨_, rfl, ?_⟩))
    go_ret
    exact ⟨by first | rfl | (simp [errW_none, errW_some] <;> rfl) | (simp [*, errW_none, errW_some] <;> rfl), by repeat (first | (with_reducible first | exact HB.out | apply below_alloc | apply pw_below_drewN | apply below_drew1) | exact HB.out)⟩

/-- THE ONE PURE STATEMENT of page_Meet: yours. -/
def page_Meet.Pure : Prop := ∀ (a0 : Int) (a1 : Int) (a2 : Int) (a3 : Int), (Lit.int .u64 a0).wf = true → (Lit.int .i64 a1).wf = true → (Lit.int .u64 a2).wf = true → (Lit.int .i64 a3).wf = true → page_Meet.f a0 a1 a2 a3 = some true
theorem page_Meet.walk (P : page_Meet.Pure) (a0 : Int) (a1 : Int) (a2 : Int) (a3 : Int) (w : World) (w0 : (Lit.int .u64 a0).wf = true) (w1 : (Lit.int .i64 a1).wf = true) (w2 : (Lit.int .u64 a2).wf = true) (w3 : (Lit.int .i64 a3).wf = true) :
    Calls Try.prog 91 #[.int .u64 a0, .int .i64 a1, .int .u64 a2, .int .i64 a3] w fun e w' => e = .returned (.bool true) ∧ Below w.heap.size w w' := by
  have h := P a0 a1 a2 a3 w0 w1 w2 w3
  refine (page_Meet.calls a0 a1 a2 a3 true w h).mono ?_
  rintro e w' ⟨rfl, hd⟩
  exact ⟨rfl, hd⟩

end Go.Proofs.Ytalmemcidbmdgaa.PM

-- written by xprint.py, a program of this session, over the kit's print (functions told by hand: see the texts)
namespace Go.Proofs.Ytalmemcidbmdgaa.PM
open Go.RowKit Go.Proofs.YtalmemcidbmdgaaW.PrintWords Go.Proofs.YtalmemcidbmdgaaW.PrintLast Go.Proofs.YtalmemcidbmdgaaW.PrintMore
attribute [local go_sem] max2_int min2_int max_two min_two max_three min_three max_four min_four   -- for this text's walks alone
set_option linter.unusedVariables false
set_option linter.unusedSimpArgs false

/-! ### page_Starts: function 92 -/
def page_Starts.f (a0 : Int) (a1 : Int) : Option (Bool) := (page_May.f a1).bind fun t224 => (if t224 = true then ((page_Offset.f a0 a1).bind fun t225 => (some (t225 == 0))) else (some false))
set_option maxHeartbeats 8000000 in
set_option maxRecDepth 100000 in
theorem page_Starts.calls (a0 : Int) (a1 : Int) (r : Bool) (w : World) (h : page_Starts.f a0 a1 = some r) :
    Calls Try.prog 92 #[.int .u64 a0, .int .i64 a1] w fun e w' => e = .returned (.bool r) ∧ Drawn0 w w' := by
  have H : ((page_May.f a1).bind fun t224 => (if t224 = true then ((page_Offset.f a0 a1).bind fun t225 => (some (t225 == 0))) else (some false))) = some r := h
  clear h
  replace H := Option.bind_eq_some_iff.mp H
  obtain ⟨t224, A30, H⟩ := H
  replace H : (if t224 = true then ((page_Offset.f a0 a1).bind fun t225 => (some (t225 == 0))) else (some false)) = some r := H
  have A3 := Aside0.mk A30
  clear A30
  by_cases c4 : t224 = true
  · subst c4
    have H1 : ((page_Offset.f a0 a1).bind fun t225 => (some (t225 == 0))) = some r := by rw [if_pos rfl] at H; exact H
    clear H
    have H := H1
    clear H1
    replace H := Option.bind_eq_some_iff.mp H
    obtain ⟨t225, A50, H⟩ := H
    replace H : (some (t225 == 0)) = some r := H
    have A5 := Aside0.mk A50
    clear A50
    obtain rfl := Option.some.inj H
    go_enter Try.func92, Try.ntmps92
    go_wp2_with (first | ((with_reducible refine gate_callee (f := 69) rfl ?_); refine goesL_ (some 6) rfl rfl Try.func69 (by kernel_rfl) rfl #[.int .i64 a1] rfl (by (try simp only [List.map_toArray, List.map_cons, List.map_nil]); first | done | rfl | (simp only [List.length_drop, List.length_take]; rfl)) ?_; (with_reducible refine (page_May.calls a1 true _ A3.out).mono ?_); rintro e w' ⟨rfl, ⟨nd, rfl⟩⟩; refine ⟨_, rfl, ?_⟩) | (go_at_call 80; (with_reducible refine (page_Offset.calls a0 a1 t225 _ A5.out).mono ?_); rintro e w' ⟨rfl, ⟨nd, rfl⟩⟩))
    go_ret
    exact ⟨by first | rfl | (simp; done) | (simp [*]; done), by repeat (first | exact Drawn0.refl _ | apply Drawn0.step)⟩
  · replace c4 := Bool.eq_false_iff.mpr c4
    subst c4
    have H1 : (some false) = some r := by rw [if_neg (show ¬ (false = true) by decide)] at H; exact H
    clear H
    have H := H1
    clear H1
    obtain rfl := Option.some.inj H
    go_enter Try.func92, Try.ntmps92
    go_wp2_with (first | ((with_reducible refine gate_callee (f := 69) rfl ?_); refine goesL_ (some 6) rfl rfl Try.func69 (by kernel_rfl) rfl #[.int .i64 a1] rfl (by (try simp only [List.map_toArray, List.map_cons, List.map_nil]); first | done | rfl | (simp only [List.length_drop, List.length_take]; rfl)) ?_; (with_reducible refine (page_May.calls a1 false _ A3.out).mono ?_); rintro e w' ⟨rfl, ⟨nd, rfl⟩⟩; refine ⟨_, rfl, ?_⟩))
    go_ret
    exact ⟨by first | rfl | (simp; done) | (simp [*]; done), by repeat (first | exact Drawn0.refl _ | apply Drawn0.step)⟩

/-- THE ONE PURE STATEMENT of page_Starts: yours. -/
def page_Starts.Pure : Prop := ∀ (a0 : Int) (a1 : Int), (Lit.int .u64 a0).wf = true → (Lit.int .i64 a1).wf = true → page_Starts.f a0 a1 = some true
theorem page_Starts.walk (P : page_Starts.Pure) (a0 : Int) (a1 : Int) (w : World) (w0 : (Lit.int .u64 a0).wf = true) (w1 : (Lit.int .i64 a1).wf = true) :
    Calls Try.prog 92 #[.int .u64 a0, .int .i64 a1] w fun e w' => e = .returned (.bool true) ∧ Below w.heap.size w w' := by
  have h := P a0 a1 w0 w1
  refine (page_Starts.calls a0 a1 true w h).mono ?_
  rintro e w' ⟨rfl, hd⟩
  exact ⟨rfl, hd.below⟩

end Go.Proofs.Ytalmemcidbmdgaa.PM

-- written by xprint.py, a program of this session, over the kit's print (functions told by hand: see the texts)
namespace Go.Proofs.Ytalmemcidbmdgaa.PM
open Go.RowKit Go.Proofs.YtalmemcidbmdgaaW.PrintWords Go.Proofs.YtalmemcidbmdgaaW.PrintLast Go.Proofs.YtalmemcidbmdgaaW.PrintMore
attribute [local go_sem] max2_int min2_int max_two min_two max_three min_three max_four min_four   -- for this text's walks alone
set_option linter.unusedVariables false
set_option linter.unusedSimpArgs false

/-! ### fault_Judge: function 65 -/
mutual
def fault_Judge.j0 : Nat → Bool → Bool → Bool → Bool → Bool → Bool → Bool → Int → Bool → Int → Option (Int)
  | 0, _, _, _, _, _, _, _, _, _, _ => none
  | k + 1, x5, x227000, x227001, x227002, x227003, x227004, x227005, x228000, x228001, x228002 => if x5 = true then (some 3) else (if x227005 = true then (fault_Judge.j1 k (x228000 != 3) x227000 x227001 x227002 x227003 x227004 x227005 x228000 x228001 x228002) else (fault_Judge.j1 k false x227000 x227001 x227002 x227003 x227004 x227005 x228000 x228001 x228002))
def fault_Judge.j1 : Nat → Bool → Bool → Bool → Bool → Bool → Bool → Bool → Int → Bool → Int → Option (Int)
  | 0, _, _, _, _, _, _, _, _, _, _ => none
  | k + 1, x13, x227000, x227001, x227002, x227003, x227004, x227005, x228000, x228001, x228002 => if x13 = true then (some 4) else (if x228000 = 1 then (fault_Judge.j2 k (!x227000) x227000 x227001 x227002 x227003 x227004 x227005 x228000 x228001 x228002) else (fault_Judge.j2 k false x227000 x227001 x227002 x227003 x227004 x227005 x228000 x228001 x228002))
def fault_Judge.j2 : Nat → Bool → Bool → Bool → Bool → Bool → Bool → Bool → Int → Bool → Int → Option (Int)
  | 0, _, _, _, _, _, _, _, _, _, _ => none
  | k + 1, x21, x227000, x227001, x227002, x227003, x227004, x227005, x228000, x228001, x228002 => if x21 = true then (some 5) else (if x228000 = 2 then (if x227002 = true then (some 0) else (some 6)) else (some 0))
end
def fault_Judge.f (k : Nat) (a0_0 : Bool) (a0_1 : Bool) (a0_2 : Bool) (a0_3 : Bool) (a0_4 : Bool) (a0_5 : Bool) (a1_0 : Int) (a1_1 : Bool) (a1_2 : Int) : Option (Int) := if a0_1 = true then (fault_Judge.j0 k (!a1_1) a0_0 a0_1 a0_2 a0_3 a0_4 a0_5 a1_0 a1_1 a1_2) else (fault_Judge.j0 k false a0_0 a0_1 a0_2 a0_3 a0_4 a0_5 a1_0 a1_1 a1_2)
set_option maxHeartbeats 8000000 in
set_option maxRecDepth 100000 in
theorem fault_Judge.calls (k : Nat) (a0_0 : Bool) (a0_1 : Bool) (a0_2 : Bool) (a0_3 : Bool) (a0_4 : Bool) (a0_5 : Bool) (a1_0 : Int) (a1_1 : Bool) (a1_2 : Int) (r : Int) (w : World) (h : fault_Judge.f k a0_0 a0_1 a0_2 a0_3 a0_4 a0_5 a1_0 a1_1 a1_2 = some r) :
    Calls Try.prog 65 #[.agg #[.bool a0_0, .bool a0_1, .bool a0_2, .bool a0_3, .bool a0_4, .bool a0_5], .agg #[.int .i64 a1_0, .bool a1_1, .int .u64 a1_2]] w fun e w' => e = .returned (.int .i64 r) ∧ Below w.heap.size w w' := by
  have hu34 := Try.underlying34
  have hu32 := Try.underlying32
  have HB := Aside0.mk (Below.refl w.heap.size w)
  have H : (if a0_1 = true then (fault_Judge.j0 k (!a1_1) a0_0 a0_1 a0_2 a0_3 a0_4 a0_5 a1_0 a1_1 a1_2) else (fault_Judge.j0 k false a0_0 a0_1 a0_2 a0_3 a0_4 a0_5 a1_0 a1_1 a1_2)) = some r := h
  clear h
  have HC3 := Aside0.mk H
  clear H
  go_enter Try.func65, Try.ntmps65
  go_upto_region 1 with (first | ((with_reducible refine gate_dst (N := 2) rfl ?_); refine box_event ?hg (N := 2) ?hd (cs := #[.bool a0_0, .bool a0_1, .bool a0_2, .bool a0_3, .bool a0_4, .bool a0_5]) (t := 34) ?hr ?_; (case hd => rfl); (case hg => rfl); (case hr => first | (go_simp; done) | (go_simp; rfl)); intro gb226 hg w4 hbox hb; have n0_ := Aside0.mk (below_step (by repeat (first | (with_reducible first | exact HB.out | apply below_alloc | apply pw_below_drewN | apply below_drew1) | exact HB.out)) hb); have n1_ := Aside0.mk (hbox); have n2_ := Aside0.mk ((by rw [hg]; exact (below_size (by repeat (first | (with_reducible first | exact HB.out | apply below_alloc | apply pw_below_drewN | apply below_drew1) | exact HB.out))) : w.heap.size ≤ gb226)); have n3_ := Aside0.mk ((by rw [hg]; exact (below_size (by repeat (first | (with_reducible first | exact HB.out | apply below_alloc | apply pw_below_drewN | apply below_drew1) | exact HB.out))) : w.heap.size ≤ gb226)); clear HB; have HB := n0_; have BK226 := n1_; have GW226 := n2_; have GE226 := n3_; clear n0_ n1_ n2_ n3_; clear hb hbox hg) | ((with_reducible refine gate_dst (N := 3) rfl ?_); refine box_event ?hg (N := 3) ?hd (cs := #[.int .i64 a1_0, .bool a1_1, .int .u64 a1_2]) (t := 32) ?hr ?_; (case hd => rfl); (case hg => rfl); (case hr => first | (go_simp; done) | (go_simp; rfl)); intro gb227 hg w5 hbox hb; have n0_ := Aside0.mk (blk_below (g := gb226) (o := .cells #[.bool a0_0, .bool a0_1, .bool a0_2, .bool a0_3, .bool a0_4, .bool a0_5] 34 (0, 0)) (by (with_reducible repeat (first | refine blk_drewN ?_ _ | refine blk_drew ?_ | refine blk_alloc ?_ _)); exact BK226.out) hb); have n1_ := Aside0.mk (below_step (by repeat (first | (with_reducible first | exact HB.out | apply below_alloc | apply pw_below_drewN | apply below_drew1 | refine below_set ?_ GE226.out) | exact HB.out)) hb); have n2_ := Aside0.mk (hbox); have n3_ := Aside0.mk ((by rw [hg]; exact (below_size (by repeat (first | (with_reducible first | exact HB.out | apply below_alloc | apply pw_below_drewN | apply below_drew1 | refine below_set ?_ GE226.out) | exact HB.out))) : w.heap.size ≤ gb227)); have n4_ := Aside0.mk ((by rw [hg]; exact (below_size (by repeat (first | (with_reducible first | exact HB.out | apply below_alloc | apply pw_below_drewN | apply below_drew1 | refine below_set ?_ GE226.out) | exact HB.out))) : w.heap.size ≤ gb227)); have n5_ := Aside0.mk ((by rw [hg]; exact Nat.ne_of_lt (blk_lt (g := gb226) (o := .cells #[.bool a0_0, .bool a0_1, .bool a0_2, .bool a0_3, .bool a0_4, .bool a0_5] 34 (0, 0)) (by (with_reducible repeat (first | refine blk_drewN ?_ _ | refine blk_drew ?_ | refine blk_alloc ?_ _)); exact BK226.out)) : gb226 ≠ gb227)); have n6_ := Aside0.mk ((by rw [hg]; exact Nat.ne_of_gt (blk_lt (g := gb226) (o := .cells #[.bool a0_0, .bool a0_1, .bool a0_2, .bool a0_3, .bool a0_4, .bool a0_5] 34 (0, 0)) (by (with_reducible repeat (first | refine blk_drewN ?_ _ | refine blk_drew ?_ | refine blk_alloc ?_ _)); exact BK226.out)) : gb227 ≠ gb226)); clear BK226; clear HB; have BK226 := n0_; have HB := n1_; have BK227 := n2_; have GW227 := n3_; have GE227 := n4_; have NB226_227 := n5_; have NB227_226 := n6_; clear n0_ n1_ n2_ n3_ n4_ n5_ n6_; clear hb hbox hg))
  (try simp only [Act.put, List.setIfInBounds_toArray, List.set_cons_zero, List.set_cons_succ])
  go_cut [5] (fun v5 wc => ∃ (kq : Nat) (x5_2 : Bool), v5 = .bool x5_2 ∧ Aside0 (fault_Judge.j0 kq x5_2 a0_0 a0_1 a0_2 a0_3 a0_4 a0_5 a1_0 a1_1 a1_2 = some r) ∧ Aside0 (kq ≤ k) ∧ Aside0 (wc.heap[gb226]? = some (.cells #[.bool a0_0, .bool a0_1, .bool a0_2, .bool a0_3, .bool a0_4, .bool a0_5] 34 (0, 0))) ∧ Aside0 (wc.heap[gb227]? = some (.cells #[.int .i64 a1_0, .bool a1_1, .int .u64 a1_2] 32 (0, 0))) ∧ Aside0 (Below w.heap.size w wc))
  case first =>
    have H := HC3.out
    clear HC3
    by_cases c6 : a0_1 = true
    · subst c6
      have H1 : (fault_Judge.j0 k (!a1_1) a0_0 true a0_2 a0_3 a0_4 a0_5 a1_0 a1_1 a1_2) = some r := by rw [if_pos rfl] at H; exact H
      clear H
      have H := H1
      clear H1
      have H' := Aside0.mk H
      clear H
      have hnb7 := NB226_227.out
      have hnc7 := NB227_226.out
      have hcz8_0 : w5.cell? ⟨gb226, 0, none⟩ = some (.bool a0_0) := (blk_cell BK226.out 0).trans rfl
      have hcz8_1 : w5.cell? ⟨gb226, 1, none⟩ = some (.bool true) := (blk_cell BK226.out 1).trans rfl
      have hcz8_2 : w5.cell? ⟨gb226, 2, none⟩ = some (.bool a0_2) := (blk_cell BK226.out 2).trans rfl
      have hcz8_3 : w5.cell? ⟨gb226, 3, none⟩ = some (.bool a0_3) := (blk_cell BK226.out 3).trans rfl
      have hcz8_4 : w5.cell? ⟨gb226, 4, none⟩ = some (.bool a0_4) := (blk_cell BK226.out 4).trans rfl
      have hcz8_5 : w5.cell? ⟨gb226, 5, none⟩ = some (.bool a0_5) := (blk_cell BK226.out 5).trans rfl
      have hfz8_0 := blk_frozen BK226.out 0
      have hfz8_1 := blk_frozen BK226.out 1
      have hfz8_2 := blk_frozen BK226.out 2
      have hfz8_3 := blk_frozen BK226.out 3
      have hfz8_4 := blk_frozen BK226.out 4
      have hfz8_5 := blk_frozen BK226.out 5
      have hcz9_0 : w5.cell? ⟨gb227, 0, none⟩ = some (.int .i64 a1_0) := (blk_cell BK227.out 0).trans rfl
      have hcz9_1 : w5.cell? ⟨gb227, 1, none⟩ = some (.bool a1_1) := (blk_cell BK227.out 1).trans rfl
      have hcz9_2 : w5.cell? ⟨gb227, 2, none⟩ = some (.int .u64 a1_2) := (blk_cell BK227.out 2).trans rfl
      have hfz9_0 := blk_frozen BK227.out 0
      have hfz9_1 := blk_frozen BK227.out 1
      have hfz9_2 := blk_frozen BK227.out 2
      go_wp2
      go_meet
      case rel => exact ⟨_, (!a1_1), (by first | rfl | (simp; done) | (simp [*]; done)), H', ⟨by first | omega | exact Nat.le_refl _⟩, ⟨by (with_reducible repeat (first | refine blk_drewN ?_ _ | refine blk_drew ?_ | refine blk_alloc ?_ _)); exact BK226.out⟩, ⟨by (with_reducible repeat (first | refine blk_drewN ?_ _ | refine blk_drew ?_ | refine blk_alloc ?_ _)); exact BK227.out⟩, ⟨by repeat (first | (with_reducible first | exact HB.out | apply below_alloc | apply pw_below_drewN | apply below_drew1 | refine below_set ?_ GE226.out | refine below_set ?_ GE227.out) | exact HB.out)⟩⟩
    · replace c6 := Bool.eq_false_iff.mpr c6
      subst c6
      have H1 : (fault_Judge.j0 k false a0_0 false a0_2 a0_3 a0_4 a0_5 a1_0 a1_1 a1_2) = some r := by rw [if_neg (show ¬ (false = true) by decide)] at H; exact H
      clear H
      have H := H1
      clear H1
      have H' := Aside0.mk H
      clear H
      have hnb10 := NB226_227.out
      have hnc10 := NB227_226.out
      have hcz11_0 : w5.cell? ⟨gb226, 0, none⟩ = some (.bool a0_0) := (blk_cell BK226.out 0).trans rfl
      have hcz11_1 : w5.cell? ⟨gb226, 1, none⟩ = some (.bool false) := (blk_cell BK226.out 1).trans rfl
      have hcz11_2 : w5.cell? ⟨gb226, 2, none⟩ = some (.bool a0_2) := (blk_cell BK226.out 2).trans rfl
      have hcz11_3 : w5.cell? ⟨gb226, 3, none⟩ = some (.bool a0_3) := (blk_cell BK226.out 3).trans rfl
      have hcz11_4 : w5.cell? ⟨gb226, 4, none⟩ = some (.bool a0_4) := (blk_cell BK226.out 4).trans rfl
      have hcz11_5 : w5.cell? ⟨gb226, 5, none⟩ = some (.bool a0_5) := (blk_cell BK226.out 5).trans rfl
      have hfz11_0 := blk_frozen BK226.out 0
      have hfz11_1 := blk_frozen BK226.out 1
      have hfz11_2 := blk_frozen BK226.out 2
      have hfz11_3 := blk_frozen BK226.out 3
      have hfz11_4 := blk_frozen BK226.out 4
      have hfz11_5 := blk_frozen BK226.out 5
      go_wp2
      go_meet
      case rel => exact ⟨_, (false), (by first | rfl | (simp; done) | (simp [*]; done)), H', ⟨by first | omega | exact Nat.le_refl _⟩, ⟨by (with_reducible repeat (first | refine blk_drewN ?_ _ | refine blk_drew ?_ | refine blk_alloc ?_ _)); exact BK226.out⟩, ⟨by (with_reducible repeat (first | refine blk_drewN ?_ _ | refine blk_drew ?_ | refine blk_alloc ?_ _)); exact BK227.out⟩, ⟨by repeat (first | (with_reducible first | exact HB.out | apply below_alloc | apply pw_below_drewN | apply below_drew1 | refine below_set ?_ GE226.out | refine below_set ?_ GE227.out) | exact HB.out)⟩⟩
  case rest =>
    clear HC3
    try clear c1
    try clear p2
    try clear c6
    try clear c7
    try clear c10
    try clear hcz11_0
    try clear hcz11_1
    try clear hcz11_2
    try clear hcz11_3
    try clear hcz11_4
    try clear hcz11_5
    try clear hcz8_0
    try clear hcz8_1
    try clear hcz8_2
    try clear hcz8_3
    try clear hcz8_4
    try clear hcz8_5
    try clear hcz9_0
    try clear hcz9_1
    try clear hcz9_2
    try clear hfz11_0
    try clear hfz11_1
    try clear hfz11_2
    try clear hfz11_3
    try clear hfz11_4
    try clear hfz11_5
    try clear hfz8_0
    try clear hfz8_1
    try clear hfz8_2
    try clear hfz8_3
    try clear hfz8_4
    try clear hfz8_5
    try clear hfz9_0
    try clear hfz9_1
    try clear hfz9_2
    obtain ⟨kq, x5_2, rfl, HA, HJ2, BK226, BK227, HB⟩ := hcut
    cases kq with
    | zero => exact absurd HA.out (by simp [fault_Judge.j0])
    | succ kj2 =>
      have H := HA.out
      clear HA
      simp only [fault_Judge.j0] at H
      by_cases c12 : x5_2 = true
      · subst c12
        have H1 : (some 3) = some r := by rw [if_pos rfl] at H; exact H
        clear H
        have H := H1
        clear H1
        obtain rfl := Option.some.inj H
        go_wp2
        go_ret
        exact ⟨by first | rfl | (simp [errW_none, errW_some] <;> rfl) | (simp [*, errW_none, errW_some] <;> rfl), by repeat (first | (with_reducible first | exact HB.out | apply below_alloc | apply pw_below_drewN | apply below_drew1 | refine below_set ?_ GE226.out | refine below_set ?_ GE227.out) | exact HB.out)⟩
      · replace c12 := Bool.eq_false_iff.mpr c12
        subst c12
        have H1 : (if a0_5 = true then (fault_Judge.j1 kj2 (a1_0 != 3) a0_0 a0_1 a0_2 a0_3 a0_4 a0_5 a1_0 a1_1 a1_2) else (fault_Judge.j1 kj2 false a0_0 a0_1 a0_2 a0_3 a0_4 a0_5 a1_0 a1_1 a1_2)) = some r := by rw [if_neg (show ¬ (false = true) by decide)] at H; exact H
        clear H
        have H := H1
        clear H1
        have HC13 := Aside0.mk H
        clear H
        go_upto_region 3 with (fail)
        go_cut [13] (fun v13 wc => ∃ (kq : Nat) (x13_12 : Bool), v13 = .bool x13_12 ∧ Aside0 (fault_Judge.j1 kq x13_12 a0_0 a0_1 a0_2 a0_3 a0_4 a0_5 a1_0 a1_1 a1_2 = some r) ∧ Aside0 (kq ≤ kj2) ∧ Aside0 (wc.heap[gb226]? = some (.cells #[.bool a0_0, .bool a0_1, .bool a0_2, .bool a0_3, .bool a0_4, .bool a0_5] 34 (0, 0))) ∧ Aside0 (wc.heap[gb227]? = some (.cells #[.int .i64 a1_0, .bool a1_1, .int .u64 a1_2] 32 (0, 0))) ∧ Aside0 (Below w.heap.size w wc))
        case first =>
          have H := HC13.out
          clear HC13
          by_cases c14 : a0_5 = true
          · subst c14
            have H1 : (fault_Judge.j1 kj2 (a1_0 != 3) a0_0 a0_1 a0_2 a0_3 a0_4 true a1_0 a1_1 a1_2) = some r := by rw [if_pos rfl] at H; exact H
            clear H
            have H := H1
            clear H1
            have H' := Aside0.mk H
            clear H
            have hnb15 := NB226_227.out
            have hnc15 := NB227_226.out
            have hcz16_0 : wc.cell? ⟨gb226, 0, none⟩ = some (.bool a0_0) := (blk_cell BK226.out 0).trans rfl
            have hcz16_1 : wc.cell? ⟨gb226, 1, none⟩ = some (.bool a0_1) := (blk_cell BK226.out 1).trans rfl
            have hcz16_2 : wc.cell? ⟨gb226, 2, none⟩ = some (.bool a0_2) := (blk_cell BK226.out 2).trans rfl
            have hcz16_3 : wc.cell? ⟨gb226, 3, none⟩ = some (.bool a0_3) := (blk_cell BK226.out 3).trans rfl
            have hcz16_4 : wc.cell? ⟨gb226, 4, none⟩ = some (.bool a0_4) := (blk_cell BK226.out 4).trans rfl
            have hcz16_5 : wc.cell? ⟨gb226, 5, none⟩ = some (.bool true) := (blk_cell BK226.out 5).trans rfl
            have hfz16_0 := blk_frozen BK226.out 0
            have hfz16_1 := blk_frozen BK226.out 1
            have hfz16_2 := blk_frozen BK226.out 2
            have hfz16_3 := blk_frozen BK226.out 3
            have hfz16_4 := blk_frozen BK226.out 4
            have hfz16_5 := blk_frozen BK226.out 5
            have hcz17_0 : wc.cell? ⟨gb227, 0, none⟩ = some (.int .i64 a1_0) := (blk_cell BK227.out 0).trans rfl
            have hcz17_1 : wc.cell? ⟨gb227, 1, none⟩ = some (.bool a1_1) := (blk_cell BK227.out 1).trans rfl
            have hcz17_2 : wc.cell? ⟨gb227, 2, none⟩ = some (.int .u64 a1_2) := (blk_cell BK227.out 2).trans rfl
            have hfz17_0 := blk_frozen BK227.out 0
            have hfz17_1 := blk_frozen BK227.out 1
            have hfz17_2 := blk_frozen BK227.out 2
            go_wp2
            go_meet
            case rel => exact ⟨_, ((a1_0 != 3)), (by first | rfl | (simp; done) | (simp [*]; done)), H', ⟨by have := HJ2.out; first | omega | exact Nat.le_refl _⟩, ⟨by (with_reducible repeat (first | refine blk_drewN ?_ _ | refine blk_drew ?_ | refine blk_alloc ?_ _)); exact BK226.out⟩, ⟨by (with_reducible repeat (first | refine blk_drewN ?_ _ | refine blk_drew ?_ | refine blk_alloc ?_ _)); exact BK227.out⟩, ⟨by repeat (first | (with_reducible first | exact HB.out | apply below_alloc | apply pw_below_drewN | apply below_drew1 | refine below_set ?_ GE226.out | refine below_set ?_ GE227.out) | exact HB.out)⟩⟩
          · replace c14 := Bool.eq_false_iff.mpr c14
            subst c14
            have H1 : (fault_Judge.j1 kj2 false a0_0 a0_1 a0_2 a0_3 a0_4 false a1_0 a1_1 a1_2) = some r := by rw [if_neg (show ¬ (false = true) by decide)] at H; exact H
            clear H
            have H := H1
            clear H1
            have H' := Aside0.mk H
            clear H
            have hnb18 := NB226_227.out
            have hnc18 := NB227_226.out
            have hcz19_0 : wc.cell? ⟨gb226, 0, none⟩ = some (.bool a0_0) := (blk_cell BK226.out 0).trans rfl
            have hcz19_1 : wc.cell? ⟨gb226, 1, none⟩ = some (.bool a0_1) := (blk_cell BK226.out 1).trans rfl
            have hcz19_2 : wc.cell? ⟨gb226, 2, none⟩ = some (.bool a0_2) := (blk_cell BK226.out 2).trans rfl
            have hcz19_3 : wc.cell? ⟨gb226, 3, none⟩ = some (.bool a0_3) := (blk_cell BK226.out 3).trans rfl
            have hcz19_4 : wc.cell? ⟨gb226, 4, none⟩ = some (.bool a0_4) := (blk_cell BK226.out 4).trans rfl
            have hcz19_5 : wc.cell? ⟨gb226, 5, none⟩ = some (.bool false) := (blk_cell BK226.out 5).trans rfl
            have hfz19_0 := blk_frozen BK226.out 0
            have hfz19_1 := blk_frozen BK226.out 1
            have hfz19_2 := blk_frozen BK226.out 2
            have hfz19_3 := blk_frozen BK226.out 3
            have hfz19_4 := blk_frozen BK226.out 4
            have hfz19_5 := blk_frozen BK226.out 5
            go_wp2
            go_meet
            case rel => exact ⟨_, (false), (by first | rfl | (simp; done) | (simp [*]; done)), H', ⟨by have := HJ2.out; first | omega | exact Nat.le_refl _⟩, ⟨by (with_reducible repeat (first | refine blk_drewN ?_ _ | refine blk_drew ?_ | refine blk_alloc ?_ _)); exact BK226.out⟩, ⟨by (with_reducible repeat (first | refine blk_drewN ?_ _ | refine blk_drew ?_ | refine blk_alloc ?_ _)); exact BK227.out⟩, ⟨by repeat (first | (with_reducible first | exact HB.out | apply below_alloc | apply pw_below_drewN | apply below_drew1 | refine below_set ?_ GE226.out | refine below_set ?_ GE227.out) | exact HB.out)⟩⟩
        case rest =>
          clear HC13
          try clear c1
          try clear p2
          try clear c6
          try clear c7
          try clear c10
          try clear c12
          try clear c14
          try clear c15
          try clear c18
          try clear hcz11_0
          try clear hcz11_1
          try clear hcz11_2
          try clear hcz11_3
          try clear hcz11_4
          try clear hcz11_5
          try clear hcz16_0
          try clear hcz16_1
          try clear hcz16_2
          try clear hcz16_3
          try clear hcz16_4
          try clear hcz16_5
          try clear hcz17_0
          try clear hcz17_1
          try clear hcz17_2
          try clear hcz19_0
          try clear hcz19_1
          try clear hcz19_2
          try clear hcz19_3
          try clear hcz19_4
          try clear hcz19_5
          try clear hcz8_0
          try clear hcz8_1
          try clear hcz8_2
          try clear hcz8_3
          try clear hcz8_4
          try clear hcz8_5
          try clear hcz9_0
          try clear hcz9_1
          try clear hcz9_2
          try clear hfz11_0
          try clear hfz11_1
          try clear hfz11_2
          try clear hfz11_3
          try clear hfz11_4
          try clear hfz11_5
          try clear hfz16_0
          try clear hfz16_1
          try clear hfz16_2
          try clear hfz16_3
          try clear hfz16_4
          try clear hfz16_5
          try clear hfz17_0
          try clear hfz17_1
          try clear hfz17_2
          try clear hfz19_0
          try clear hfz19_1
          try clear hfz19_2
          try clear hfz19_3
          try clear hfz19_4
          try clear hfz19_5
          try clear hfz8_0
          try clear hfz8_1
          try clear hfz8_2
          try clear hfz8_3
          try clear hfz8_4
          try clear hfz8_5
          try clear hfz9_0
          try clear hfz9_1
          try clear hfz9_2
          try clear p2
          obtain ⟨kq, x13_12, rfl, HA, HJ12, BK226, BK227, HB⟩ := hcut
          cases kq with
          | zero => exact absurd HA.out (by simp [fault_Judge.j1])
          | succ kj12 =>
            have H := HA.out
            clear HA
            simp only [fault_Judge.j1] at H
            by_cases c20 : x13_12 = true
            · subst c20
              have H1 : (some 4) = some r := by rw [if_pos rfl] at H; exact H
              clear H
              have H := H1
              clear H1
              obtain rfl := Option.some.inj H
              go_wp2
              go_ret
              exact ⟨by first | rfl | (simp [errW_none, errW_some] <;> rfl) | (simp [*, errW_none, errW_some] <;> rfl), by repeat (first | (with_reducible first | exact HB.out | apply below_alloc | apply pw_below_drewN | apply below_drew1 | refine below_set ?_ GE226.out | refine below_set ?_ GE227.out) | exact HB.out)⟩
            · replace c20 := Bool.eq_false_iff.mpr c20
              subst c20
              have H1 : (if a1_0 = 1 then (fault_Judge.j2 kj12 (!a0_0) a0_0 a0_1 a0_2 a0_3 a0_4 a0_5 a1_0 a1_1 a1_2) else (fault_Judge.j2 kj12 false a0_0 a0_1 a0_2 a0_3 a0_4 a0_5 a1_0 a1_1 a1_2)) = some r := by rw [if_neg (show ¬ (false = true) by decide)] at H; exact H
              clear H
              have H := H1
              clear H1
              have HC21 := Aside0.mk H
              clear H
              go_upto_region 5 with (fail)
              go_cut [21] (fun v21 wc => ∃ (kq : Nat) (x21_20 : Bool), v21 = .bool x21_20 ∧ Aside0 (fault_Judge.j2 kq x21_20 a0_0 a0_1 a0_2 a0_3 a0_4 a0_5 a1_0 a1_1 a1_2 = some r) ∧ Aside0 (kq ≤ kj12) ∧ Aside0 (wc.heap[gb226]? = some (.cells #[.bool a0_0, .bool a0_1, .bool a0_2, .bool a0_3, .bool a0_4, .bool a0_5] 34 (0, 0))) ∧ Aside0 (wc.heap[gb227]? = some (.cells #[.int .i64 a1_0, .bool a1_1, .int .u64 a1_2] 32 (0, 0))) ∧ Aside0 (Below w.heap.size w wc))
              case first =>
                have H := HC21.out
                clear HC21
                by_cases c22 : a1_0 = 1
                · rw [if_pos c22] at H
                  have c22b0 : (a1_0 == 1) = true := beq_iff_eq.mpr c22
                  have c22b1 : (a1_0 != 1) = false := bne_eq_false_iff_eq.mpr c22
                  clear c22
                  (first | rw [c22b0] | (simp only [i64_w, i32_w]; rw [c22b0]) | skip)
                  have H' := Aside0.mk H
                  clear H
                  have hnb23 := NB227_226.out
                  have hnc23 := NB226_227.out
                  have hcz24_0 : wc.cell? ⟨gb227, 0, none⟩ = some (.int .i64 a1_0) := (blk_cell BK227.out 0).trans rfl
                  have hcz24_1 : wc.cell? ⟨gb227, 1, none⟩ = some (.bool a1_1) := (blk_cell BK227.out 1).trans rfl
                  have hcz24_2 : wc.cell? ⟨gb227, 2, none⟩ = some (.int .u64 a1_2) := (blk_cell BK227.out 2).trans rfl
                  have hfz24_0 := blk_frozen BK227.out 0
                  have hfz24_1 := blk_frozen BK227.out 1
                  have hfz24_2 := blk_frozen BK227.out 2
                  have hcz25_0 : wc.cell? ⟨gb226, 0, none⟩ = some (.bool a0_0) := (blk_cell BK226.out 0).trans rfl
                  have hcz25_1 : wc.cell? ⟨gb226, 1, none⟩ = some (.bool a0_1) := (blk_cell BK226.out 1).trans rfl
                  have hcz25_2 : wc.cell? ⟨gb226, 2, none⟩ = some (.bool a0_2) := (blk_cell BK226.out 2).trans rfl
                  have hcz25_3 : wc.cell? ⟨gb226, 3, none⟩ = some (.bool a0_3) := (blk_cell BK226.out 3).trans rfl
                  have hcz25_4 : wc.cell? ⟨gb226, 4, none⟩ = some (.bool a0_4) := (blk_cell BK226.out 4).trans rfl
                  have hcz25_5 : wc.cell? ⟨gb226, 5, none⟩ = some (.bool a0_5) := (blk_cell BK226.out 5).trans rfl
                  have hfz25_0 := blk_frozen BK226.out 0
                  have hfz25_1 := blk_frozen BK226.out 1
                  have hfz25_2 := blk_frozen BK226.out 2
                  have hfz25_3 := blk_frozen BK226.out 3
                  have hfz25_4 := blk_frozen BK226.out 4
                  have hfz25_5 := blk_frozen BK226.out 5
                  go_wp2
                  go_meet
                  case rel => exact ⟨_, (!a0_0), (by first | rfl | (simp; done) | (simp [*]; done)), H', ⟨by have := HJ2.out; have := HJ12.out; first | omega | exact Nat.le_refl _⟩, ⟨by (with_reducible repeat (first | refine blk_drewN ?_ _ | refine blk_drew ?_ | refine blk_alloc ?_ _)); exact BK226.out⟩, ⟨by (with_reducible repeat (first | refine blk_drewN ?_ _ | refine blk_drew ?_ | refine blk_alloc ?_ _)); exact BK227.out⟩, ⟨by repeat (first | (with_reducible first | exact HB.out | apply below_alloc | apply pw_below_drewN | apply below_drew1 | refine below_set ?_ GE226.out | refine below_set ?_ GE227.out) | exact HB.out)⟩⟩
                · rw [if_neg c22] at H
                  have c22b0 : (a1_0 == 1) = false := beq_eq_false_iff_ne.mpr c22
                  have c22b1 : (a1_0 != 1) = true := bne_iff_ne.mpr c22
                  (first | rw [c22b0] | (simp only [i64_w, i32_w]; rw [c22b0]) | skip)
                  have H' := Aside0.mk H
                  clear H
                  have hnb26 := NB227_226.out
                  have hnc26 := NB226_227.out
                  have hcz27_0 : wc.cell? ⟨gb227, 0, none⟩ = some (.int .i64 a1_0) := (blk_cell BK227.out 0).trans rfl
                  have hcz27_1 : wc.cell? ⟨gb227, 1, none⟩ = some (.bool a1_1) := (blk_cell BK227.out 1).trans rfl
                  have hcz27_2 : wc.cell? ⟨gb227, 2, none⟩ = some (.int .u64 a1_2) := (blk_cell BK227.out 2).trans rfl
                  have hfz27_0 := blk_frozen BK227.out 0
                  have hfz27_1 := blk_frozen BK227.out 1
                  have hfz27_2 := blk_frozen BK227.out 2
                  go_wp2
                  go_meet
                  case rel => exact ⟨_, (false), (by first | rfl | (simp; done) | (simp [*]; done)), H', ⟨by have := HJ2.out; have := HJ12.out; first | omega | exact Nat.le_refl _⟩, ⟨by (with_reducible repeat (first | refine blk_drewN ?_ _ | refine blk_drew ?_ | refine blk_alloc ?_ _)); exact BK226.out⟩, ⟨by (with_reducible repeat (first | refine blk_drewN ?_ _ | refine blk_drew ?_ | refine blk_alloc ?_ _)); exact BK227.out⟩, ⟨by repeat (first | (with_reducible first | exact HB.out | apply below_alloc | apply pw_below_drewN | apply below_drew1 | refine below_set ?_ GE226.out | refine below_set ?_ GE227.out) | exact HB.out)⟩⟩
              case rest =>
                clear HC21
                try clear c1
                try clear c2
                try clear p2
                try clear c6
                try clear c7
                try clear c10
                try clear c12
                try clear c14
                try clear c15
                try clear c18
                try clear c20
                try clear c22
                try clear c22b0
                try clear c22b1
                try clear c23
                try clear c26
                try clear hcz11_0
                try clear hcz11_1
                try clear hcz11_2
                try clear hcz11_3
                try clear hcz11_4
                try clear hcz11_5
                try clear hcz16_0
                try clear hcz16_1
                try clear hcz16_2
                try clear hcz16_3
                try clear hcz16_4
                try clear hcz16_5
                try clear hcz17_0
                try clear hcz17_1
                try clear hcz17_2
                try clear hcz19_0
                try clear hcz19_1
                try clear hcz19_2
                try clear hcz19_3
                try clear hcz19_4
                try clear hcz19_5
                try clear hcz24_0
                try clear hcz24_1
                try clear hcz24_2
                try clear hcz25_0
                try clear hcz25_1
                try clear hcz25_2
                try clear hcz25_3
                try clear hcz25_4
                try clear hcz25_5
                try clear hcz27_0
                try clear hcz27_1
                try clear hcz27_2
                try clear hcz8_0
                try clear hcz8_1
                try clear hcz8_2
                try clear hcz8_3
                try clear hcz8_4
                try clear hcz8_5
                try clear hcz9_0
                try clear hcz9_1
                try clear hcz9_2
                try clear hfz11_0
                try clear hfz11_1
                try clear hfz11_2
                try clear hfz11_3
                try clear hfz11_4
                try clear hfz11_5
                try clear hfz16_0
                try clear hfz16_1
                try clear hfz16_2
                try clear hfz16_3
                try clear hfz16_4
                try clear hfz16_5
                try clear hfz17_0
                try clear hfz17_1
                try clear hfz17_2
                try clear hfz19_0
                try clear hfz19_1
                try clear hfz19_2
                try clear hfz19_3
                try clear hfz19_4
                try clear hfz19_5
                try clear hfz24_0
                try clear hfz24_1
                try clear hfz24_2
                try clear hfz25_0
                try clear hfz25_1
                try clear hfz25_2
                try clear hfz25_3
                try clear hfz25_4
                try clear hfz25_5
                try clear hfz27_0
                try clear hfz27_1
                try clear hfz27_2
                try clear hfz8_0
                try clear hfz8_1
                try clear hfz8_2
                try clear hfz8_3
                try clear hfz8_4
                try clear hfz8_5
                try clear hfz9_0
                try clear hfz9_1
                try clear hfz9_2
                try clear p2
                obtain ⟨kq, x21_20, rfl, HA, HJ20, BK226, BK227, HB⟩ := hcut
                cases kq with
                | zero => exact absurd HA.out (by simp [fault_Judge.j2])
                | succ kj20 =>
                  have H := HA.out
                  clear HA
                  simp only [fault_Judge.j2] at H
                  by_cases c28 : x21_20 = true
                  · subst c28
                    have H1 : (some 5) = some r := by rw [if_pos rfl] at H; exact H
                    clear H
                    have H := H1
                    clear H1
                    obtain rfl := Option.some.inj H
                    go_wp2
                    go_ret
                    exact ⟨by first | rfl | (simp [errW_none, errW_some] <;> rfl) | (simp [*, errW_none, errW_some] <;> rfl), by repeat (first | (with_reducible first | exact HB.out | apply below_alloc | apply pw_below_drewN | apply below_drew1 | refine below_set ?_ GE226.out | refine below_set ?_ GE227.out) | exact HB.out)⟩
                  · replace c28 := Bool.eq_false_iff.mpr c28
                    subst c28
                    have H1 : (if a1_0 = 2 then (if a0_2 = true then (some 0) else (some 6)) else (some 0)) = some r := by rw [if_neg (show ¬ (false = true) by decide)] at H; exact H
                    clear H
                    have H := H1
                    clear H1
                    by_cases c29 : a1_0 = 2
                    · rw [if_pos c29] at H
                      have c29b0 : (a1_0 == 2) = true := beq_iff_eq.mpr c29
                      have c29b1 : (a1_0 != 2) = false := bne_eq_false_iff_eq.mpr c29
                      clear c29
                      by_cases c30 : a0_2 = true
                      · subst c30
                        have H1 : (some 0) = some r := by rw [if_pos rfl] at H; exact H
                        clear H
                        have H := H1
                        clear H1
                        obtain rfl := Option.some.inj H
                        have hnb31 := NB227_226.out
                        have hnc31 := NB226_227.out
                        have hcz32_0 : wc.cell? ⟨gb227, 0, none⟩ = some (.int .i64 a1_0) := (blk_cell BK227.out 0).trans rfl
                        have hcz32_1 : wc.cell? ⟨gb227, 1, none⟩ = some (.bool a1_1) := (blk_cell BK227.out 1).trans rfl
                        have hcz32_2 : wc.cell? ⟨gb227, 2, none⟩ = some (.int .u64 a1_2) := (blk_cell BK227.out 2).trans rfl
                        have hfz32_0 := blk_frozen BK227.out 0
                        have hfz32_1 := blk_frozen BK227.out 1
                        have hfz32_2 := blk_frozen BK227.out 2
                        have hcz33_0 : wc.cell? ⟨gb226, 0, none⟩ = some (.bool a0_0) := (blk_cell BK226.out 0).trans rfl
                        have hcz33_1 : wc.cell? ⟨gb226, 1, none⟩ = some (.bool a0_1) := (blk_cell BK226.out 1).trans rfl
                        have hcz33_2 : wc.cell? ⟨gb226, 2, none⟩ = some (.bool true) := (blk_cell BK226.out 2).trans rfl
                        have hcz33_3 : wc.cell? ⟨gb226, 3, none⟩ = some (.bool a0_3) := (blk_cell BK226.out 3).trans rfl
                        have hcz33_4 : wc.cell? ⟨gb226, 4, none⟩ = some (.bool a0_4) := (blk_cell BK226.out 4).trans rfl
                        have hcz33_5 : wc.cell? ⟨gb226, 5, none⟩ = some (.bool a0_5) := (blk_cell BK226.out 5).trans rfl
                        have hfz33_0 := blk_frozen BK226.out 0
                        have hfz33_1 := blk_frozen BK226.out 1
                        have hfz33_2 := blk_frozen BK226.out 2
                        have hfz33_3 := blk_frozen BK226.out 3
                        have hfz33_4 := blk_frozen BK226.out 4
                        have hfz33_5 := blk_frozen BK226.out 5
                        go_wp2
                        go_ret
                        exact ⟨by first | rfl | (simp [errW_none, errW_some] <;> rfl) | (simp [*, errW_none, errW_some] <;> rfl), by repeat (first | (with_reducible first | exact HB.out | apply below_alloc | apply pw_below_drewN | apply below_drew1 | refine below_set ?_ GE226.out | refine below_set ?_ GE227.out) | exact HB.out)⟩
                      · replace c30 := Bool.eq_false_iff.mpr c30
                        subst c30
                        have H1 : (some 6) = some r := by rw [if_neg (show ¬ (false = true) by decide)] at H; exact H
                        clear H
                        have H := H1
                        clear H1
                        obtain rfl := Option.some.inj H
                        have hnb34 := NB227_226.out
                        have hnc34 := NB226_227.out
                        have hcz35_0 : wc.cell? ⟨gb227, 0, none⟩ = some (.int .i64 a1_0) := (blk_cell BK227.out 0).trans rfl
                        have hcz35_1 : wc.cell? ⟨gb227, 1, none⟩ = some (.bool a1_1) := (blk_cell BK227.out 1).trans rfl
                        have hcz35_2 : wc.cell? ⟨gb227, 2, none⟩ = some (.int .u64 a1_2) := (blk_cell BK227.out 2).trans rfl
                        have hfz35_0 := blk_frozen BK227.out 0
                        have hfz35_1 := blk_frozen BK227.out 1
                        have hfz35_2 := blk_frozen BK227.out 2
                        have hcz36_0 : wc.cell? ⟨gb226, 0, none⟩ = some (.bool a0_0) := (blk_cell BK226.out 0).trans rfl
                        have hcz36_1 : wc.cell? ⟨gb226, 1, none⟩ = some (.bool a0_1) := (blk_cell BK226.out 1).trans rfl
                        have hcz36_2 : wc.cell? ⟨gb226, 2, none⟩ = some (.bool false) := (blk_cell BK226.out 2).trans rfl
                        have hcz36_3 : wc.cell? ⟨gb226, 3, none⟩ = some (.bool a0_3) := (blk_cell BK226.out 3).trans rfl
                        have hcz36_4 : wc.cell? ⟨gb226, 4, none⟩ = some (.bool a0_4) := (blk_cell BK226.out 4).trans rfl
                        have hcz36_5 : wc.cell? ⟨gb226, 5, none⟩ = some (.bool a0_5) := (blk_cell BK226.out 5).trans rfl
                        have hfz36_0 := blk_frozen BK226.out 0
                        have hfz36_1 := blk_frozen BK226.out 1
                        have hfz36_2 := blk_frozen BK226.out 2
                        have hfz36_3 := blk_frozen BK226.out 3
                        have hfz36_4 := blk_frozen BK226.out 4
                        have hfz36_5 := blk_frozen BK226.out 5
                        go_wp2
                        go_ret
                        exact ⟨by first | rfl | (simp [errW_none, errW_some] <;> rfl) | (simp [*, errW_none, errW_some] <;> rfl), by repeat (first | (with_reducible first | exact HB.out | apply below_alloc | apply pw_below_drewN | apply below_drew1 | refine below_set ?_ GE226.out | refine below_set ?_ GE227.out) | exact HB.out)⟩
                    · rw [if_neg c29] at H
                      have c29b0 : (a1_0 == 2) = false := beq_eq_false_iff_ne.mpr c29
                      have c29b1 : (a1_0 != 2) = true := bne_iff_ne.mpr c29
                      obtain rfl := Option.some.inj H
                      have hnb37 := NB227_226.out
                      have hnc37 := NB226_227.out
                      have hcz38_0 : wc.cell? ⟨gb227, 0, none⟩ = some (.int .i64 a1_0) := (blk_cell BK227.out 0).trans rfl
                      have hcz38_1 : wc.cell? ⟨gb227, 1, none⟩ = some (.bool a1_1) := (blk_cell BK227.out 1).trans rfl
                      have hcz38_2 : wc.cell? ⟨gb227, 2, none⟩ = some (.int .u64 a1_2) := (blk_cell BK227.out 2).trans rfl
                      have hfz38_0 := blk_frozen BK227.out 0
                      have hfz38_1 := blk_frozen BK227.out 1
                      have hfz38_2 := blk_frozen BK227.out 2
                      go_wp2
                      go_ret
                      exact ⟨by first | rfl | (simp [errW_none, errW_some] <;> rfl) | (simp [*, errW_none, errW_some] <;> rfl), by repeat (first | (with_reducible first | exact HB.out | apply below_alloc | apply pw_below_drewN | apply below_drew1 | refine below_set ?_ GE226.out | refine below_set ?_ GE227.out) | exact HB.out)⟩

end Go.Proofs.Ytalmemcidbmdgaa.PM


-- written by xprint.py, a program of this session, over the kit's print (functions told by hand: see the texts)
import Derived.Test.YtlkojjkgbcpjjaaPAx0
import Derived.Test.YtlkojjkgbcpjjaaPAx1
import Derived.Test.YtlkojjkgbcpjjaaPAx4
import Derived.Test.YtlkojjkgbcpjjaaPAx5
import Derived.Test.YtlkojjkgbcpjjaaPAx6
namespace Go.Proofs.Ytlkojjkgbcpjjaa.PA
open Go.RowKit Go.Proofs.YtlkojjkgbcpjjaaW.PrintWords Go.Proofs.YtlkojjkgbcpjjaaW.PrintLast Go.Proofs.YtlkojjkgbcpjjaaW.PrintMore
attribute [local go_sem] max2_int min2_int max_two min_two max_three min_three max_four min_four   -- for this text's walks alone
set_option linter.unusedVariables false
set_option linter.unusedSimpArgs false

/-! ### lookasidelaw01_FieldFits: function 12 -/
def lookasidelaw01_FieldFits.f (k : Nat) (a0 : Int) (a1 : Int) : Option (Bool) := (field_Fits.f a0 a1).bind fun t214 => ((lookasideref01_Fits.f k a0 a1).bind fun t215 => (if (t214 == t215) = true then ((lookasidelaw01_lives.f).bind fun t216 => (some t216)) else (some false)))
theorem lookasidelaw01_FieldFits.mono : ∀ a0 a1 k, LeO (lookasidelaw01_FieldFits.f k a0 a1) (lookasidelaw01_FieldFits.f (k + 1) a0 a1) := by
  intro a0 a1 k
  unfold lookasidelaw01_FieldFits.f
  repeat' first
      | (with_reducible exact lookasideref01_Fits.mono _ _ _)
      | (with_reducible exact LeO.refl _)
      | (with_reducible exact LeO.none _)
      | (with_reducible refine LeO.ite ?_ ?_)
      | (with_reducible refine LeO.bind ?_ (fun _ => ?_))
      | exact lookasideref01_Fits.mono _ _ _
      | exact LeO.none _
      | refine LeO.ite ?_ ?_
      | refine LeO.bind ?_ (fun _ => ?_)
set_option maxHeartbeats 8000000 in
set_option maxRecDepth 100000 in
theorem lookasidelaw01_FieldFits.calls (k : Nat) (a0 : Int) (a1 : Int) (r : Bool) (w : World) (h : lookasidelaw01_FieldFits.f k a0 a1 = some r) :
    Calls Try.prog 12 #[.int .u64 a0, .int .i64 a1] w fun e w' => e = .returned (.bool r) ∧ Below w.heap.size w w' := by
  have HB := Aside0.mk (Below.refl w.heap.size w)
  have H : ((field_Fits.f a0 a1).bind fun t214 => ((lookasideref01_Fits.f k a0 a1).bind fun t215 => (if (t214 == t215) = true then ((lookasidelaw01_lives.f).bind fun t216 => (some t216)) else (some false)))) = some r := h
  clear h
  replace H := Option.bind_eq_some_iff.mp H
  obtain ⟨t214, A30, H⟩ := H
  replace H : ((lookasideref01_Fits.f k a0 a1).bind fun t215 => (if (t214 == t215) = true then ((lookasidelaw01_lives.f).bind fun t216 => (some t216)) else (some false))) = some r := H
  have A3 := Aside0.mk A30
  clear A30
  replace H := Option.bind_eq_some_iff.mp H
  obtain ⟨t215, A40, H⟩ := H
  replace H : (if (t214 == t215) = true then ((lookasidelaw01_lives.f).bind fun t216 => (some t216)) else (some false)) = some r := H
  have A4 := Aside0.mk A40
  clear A40
  by_cases c5 : (t214 == t215) = true
  · rw [if_pos c5] at H
    have c5b0 : (t214 == t215) = true := c5
    (try (have c5b1 : decide (t214 = t215) = true := by simpa using c5))
    (try (have c5b2 : (t214 == t215) = true := by simpa using c5))
    clear c5
    replace H := Option.bind_eq_some_iff.mp H
    obtain ⟨t216, A60, H⟩ := H
    replace H : (some t216) = some r := H
    have A6 := Aside0.mk A60
    clear A60
    obtain rfl := Option.some.inj H
    go_enter Try.func12, Try.ntmps12
    go_wp2_with (first | ((with_reducible refine gate_callee (f := 41) rfl ?_); refine goesL_ (some 7) rfl rfl Try.func41 (by kernel_rfl) rfl #[.int .u64 a0, .int .i64 a1] rfl (by (try simp only [List.map_toArray, List.map_cons, List.map_nil]); first | done | rfl | (simp only [List.length_drop, List.length_take]; rfl)) ?_; (with_reducible refine (field_Fits.calls a0 a1 t214 _ A3.out).mono ?_); rintro e w' ⟨rfl, ⟨nd, rfl⟩⟩; refine ⟨_, rfl, ?_⟩) | ((with_reducible refine gate_callee (f := 42) rfl ?_); refine goesL_ (some 10) rfl rfl Try.func42 (by kernel_rfl) rfl #[.int .u64 a0, .int .i64 a1] rfl (by (try simp only [List.map_toArray, List.map_cons, List.map_nil]); first | done | rfl | (simp only [List.length_drop, List.length_take]; rfl)) ?_; (with_reducible refine (lookasideref01_Fits.calls k a0 a1 t215 _ A4.out).mono ?_); rintro e w' ⟨rfl, ⟨nd, rfl⟩⟩; refine ⟨_, rfl, ?_⟩) | (go_at_call 40; (with_reducible refine (lookasidelaw01_lives.calls  t216 _ A6.out).mono ?_); rintro e w7 ⟨rfl, hb⟩; have n0_ := Aside0.mk (below_step (by repeat (first | (with_reducible first | exact HB.out | apply below_alloc | apply pw_below_drewN | apply below_drew1) | exact HB.out)) hb); clear HB; have HB := n0_; clear n0_; (try clear hb); (try clear hb2); (try clear hk); (try clear hi)))
    go_ret
    exact ⟨by first | rfl | (simp [errW_none, errW_some] <;> rfl) | (simp [*, errW_none, errW_some] <;> rfl), by repeat (first | (with_reducible first | exact HB.out | apply below_alloc | apply pw_below_drewN | apply below_drew1) | exact HB.out)⟩
  · rw [if_neg c5] at H
    have c5b0 : (t214 == t215) = false := by simpa using c5
    (try (have c5b1 : decide (t214 = t215) = false := by simpa using c5))
    (try (have c5b2 : (t214 == t215) = false := by simpa using c5))
    (try (have c5b3 : ¬ (t214 = t215) := by simpa using c5))
    clear c5
    obtain rfl := Option.some.inj H
    go_enter Try.func12, Try.ntmps12
    go_wp2_with (first | ((with_reducible refine gate_callee (f := 41) rfl ?_); refine goesL_ (some 7) rfl rfl Try.func41 (by kernel_rfl) rfl #[.int .u64 a0, .int .i64 a1] rfl (by (try simp only [List.map_toArray, List.map_cons, List.map_nil]); first | done | rfl | (simp only [List.length_drop, List.length_take]; rfl)) ?_; (with_reducible refine (field_Fits.calls a0 a1 t214 _ A3.out).mono ?_); rintro e w' ⟨rfl, ⟨nd, rfl⟩⟩; refine ⟨_, rfl, ?_⟩) | ((with_reducible refine gate_callee (f := 42) rfl ?_); refine goesL_ (some 10) rfl rfl Try.func42 (by kernel_rfl) rfl #[.int .u64 a0, .int .i64 a1] rfl (by (try simp only [List.map_toArray, List.map_cons, List.map_nil]); first | done | rfl | (simp only [List.length_drop, List.length_take]; rfl)) ?_; (with_reducible refine (lookasideref01_Fits.calls k a0 a1 t215 _ A4.out).mono ?_); rintro e w' ⟨rfl, ⟨nd, rfl⟩⟩; refine ⟨_, rfl, ?_⟩))
    go_ret
    exact ⟨by first | rfl | (simp [errW_none, errW_some] <;> rfl) | (simp [*, errW_none, errW_some] <;> rfl), by repeat (first | (with_reducible first | exact HB.out | apply below_alloc | apply pw_below_drewN | apply below_drew1) | exact HB.out)⟩

/-- THE ONE PURE STATEMENT of lookasidelaw01_FieldFits: yours. -/
def lookasidelaw01_FieldFits.Pure : Prop := ∀ (a0 : Int) (a1 : Int), (Lit.int .u64 a0).wf = true → (Lit.int .i64 a1).wf = true → ∃ k, lookasidelaw01_FieldFits.f k a0 a1 = some true
theorem lookasidelaw01_FieldFits.walk (P : lookasidelaw01_FieldFits.Pure) (a0 : Int) (a1 : Int) (w : World) (w0 : (Lit.int .u64 a0).wf = true) (w1 : (Lit.int .i64 a1).wf = true) :
    Calls Try.prog 12 #[.int .u64 a0, .int .i64 a1] w fun e w' => e = .returned (.bool true) ∧ Below w.heap.size w w' := by
  obtain ⟨k, h⟩ := P a0 a1 w0 w1
  refine (lookasidelaw01_FieldFits.calls k a0 a1 true w h).mono ?_
  rintro e w' ⟨rfl, hd⟩
  exact ⟨rfl, hd⟩

/-! ### field_Set: function 43 -/
def field_Set.f (a0 : Int) (a1 : Int) (a2 : Bool) : Option (Int) := if a2 = true then ((field_Put.f a0 a1 1 1).bind fun t217 => (some t217)) else ((field_Put.f a0 a1 1 0).bind fun t218 => (some t218))
set_option maxHeartbeats 8000000 in
set_option maxRecDepth 100000 in
theorem field_Set.calls (a0 : Int) (a1 : Int) (a2 : Bool) (r : Int) (w : World) (h : field_Set.f a0 a1 a2 = some r) :
    Calls Try.prog 43 #[.int .u64 a0, .int .i64 a1, .bool a2] w fun e w' => e = .returned (.int .u64 r) ∧ Drawn0 w w' := by
  have H : (if a2 = true then ((field_Put.f a0 a1 1 1).bind fun t217 => (some t217)) else ((field_Put.f a0 a1 1 0).bind fun t218 => (some t218))) = some r := h
  clear h
  by_cases c4 : a2 = true
  · subst c4
    have H1 : ((field_Put.f a0 a1 1 1).bind fun t217 => (some t217)) = some r := by rw [if_pos rfl] at H; exact H
    clear H
    have H := H1
    clear H1
    replace H := Option.bind_eq_some_iff.mp H
    obtain ⟨t217, A50, H⟩ := H
    replace H : (some t217) = some r := H
    have A5 := Aside0.mk A50
    clear A50
    obtain rfl := Option.some.inj H
    go_enter Try.func43, Try.ntmps43
    go_wp2_with (first | ((with_reducible refine gate_callee (f := 38) rfl ?_); refine goesL_ (some 12) rfl rfl Try.func38 (by kernel_rfl) rfl #[.int .u64 a0, .int .i64 a1, .int .i64 1, .int .u64 1] rfl (by (try simp only [List.map_toArray, List.map_cons, List.map_nil]); first | done | rfl | (simp only [List.length_drop, List.length_take]; rfl)) ?_; (with_reducible refine (field_Put.calls a0 a1 1 1 t217 _ A5.out).mono ?_); rintro e w' ⟨rfl, ⟨nd, rfl⟩⟩; refine ⟨_, rfl, ?_⟩))
    go_ret
    exact ⟨by first | rfl | (simp; done) | (simp [*]; done), by repeat (first | exact Drawn0.refl _ | apply Drawn0.step)⟩
  · replace c4 := Bool.eq_false_iff.mpr c4
    subst c4
    have H1 : ((field_Put.f a0 a1 1 0).bind fun t218 => (some t218)) = some r := by rw [if_neg (show ¬ (false = true) by decide)] at H; exact H
    clear H
    have H := H1
    clear H1
    replace H := Option.bind_eq_some_iff.mp H
    obtain ⟨t218, A60, H⟩ := H
    replace H : (some t218) = some r := H
    have A6 := Aside0.mk A60
    clear A60
    obtain rfl := Option.some.inj H
    go_enter Try.func43, Try.ntmps43
    go_wp2_with (first | ((with_reducible refine gate_callee (f := 38) rfl ?_); refine goesL_ (some 12) rfl rfl Try.func38 (by kernel_rfl) rfl #[.int .u64 a0, .int .i64 a1, .int .i64 1, .int .u64 0] rfl (by (try simp only [List.map_toArray, List.map_cons, List.map_nil]); first | done | rfl | (simp only [List.length_drop, List.length_take]; rfl)) ?_; (with_reducible refine (field_Put.calls a0 a1 1 0 t218 _ A6.out).mono ?_); rintro e w' ⟨rfl, ⟨nd, rfl⟩⟩; refine ⟨_, rfl, ?_⟩))
    go_ret
    exact ⟨by first | rfl | (simp; done) | (simp [*]; done), by repeat (first | exact Drawn0.refl _ | apply Drawn0.step)⟩

/-! ### lookasidelaw01_FieldBits: function 13 -/
def lookasidelaw01_FieldBits.j0 : Nat → Int → Int → Bool → Int → Option (Bool)
  | 0, _, _, _, _ => none
  | k + 1, x0, x1, x2, x7 => (field_Set.f x0 x1 x2).bind fun t219 => ((lookasideref01_May.f x1 1).bind fun t220 => ((lookasideref01_Put.f k x0 x1 1 x7).bind fun t221 => (if t219 = t221 then ((field_Bit.f x0 x1).bind fun t222 => ((lookasideref01_Get.f k x0 x1 1).bind fun t223 => (if (t222 == (t223 == 1)) = true then (if t220 = true then ((field_Bit.f t219 x1).bind fun t224 => (if (t224 == x2) = true then ((lookasidelaw01_lives.f).bind fun t225 => (some t225)) else (some false))) else ((lookasidelaw01_lives.f).bind fun t226 => (some t226))) else (some false)))) else (some false))))
def lookasidelaw01_FieldBits.f (k : Nat) (a0 : Int) (a1 : Int) (a2 : Bool) : Option (Bool) := if a2 = true then (lookasidelaw01_FieldBits.j0 k a0 a1 a2 1) else (lookasidelaw01_FieldBits.j0 k a0 a1 a2 0)
theorem lookasidelaw01_FieldBits.mono_l : ∀ k, (∀ y0 y1 y2 y3, LeO (lookasidelaw01_FieldBits.j0 k y0 y1 y2 y3) (lookasidelaw01_FieldBits.j0 (k + 1) y0 y1 y2 y3))
  | 0 => fun _ _ _ _ r h => by simp [lookasidelaw01_FieldBits.j0] at h
  | k + 1 => by
    have ih0 := lookasidelaw01_FieldBits.mono_l k
    · intro y0 y1 y2 y3
      unfold lookasidelaw01_FieldBits.j0
      repeat' first
      | (with_reducible exact ih0 _ _ _ _)
      | (with_reducible exact lookasideref01_Get.mono _ _ _ _)
      | (with_reducible exact lookasideref01_Put.mono _ _ _ _ _)
      | (with_reducible exact LeO.refl _)
      | (with_reducible exact LeO.none _)
      | (with_reducible refine LeO.ite ?_ ?_)
      | (with_reducible refine LeO.bind ?_ (fun _ => ?_))
      | exact ih0 _ _ _ _
      | exact lookasideref01_Get.mono _ _ _ _
      | exact lookasideref01_Put.mono _ _ _ _ _
      | exact LeO.none _
      | refine LeO.ite ?_ ?_
      | refine LeO.bind ?_ (fun _ => ?_)
theorem lookasidelaw01_FieldBits.mono : ∀ a0 a1 a2 k, LeO (lookasidelaw01_FieldBits.f k a0 a1 a2) (lookasidelaw01_FieldBits.f (k + 1) a0 a1 a2) := by
  intro a0 a1 a2 k
  have ih0 := lookasidelaw01_FieldBits.mono_l k
  unfold lookasidelaw01_FieldBits.f
  repeat' first
      | (with_reducible exact ih0 _ _ _ _)
      | (with_reducible exact lookasideref01_Get.mono _ _ _ _)
      | (with_reducible exact lookasideref01_Put.mono _ _ _ _ _)
      | (with_reducible exact LeO.refl _)
      | (with_reducible exact LeO.none _)
      | (with_reducible refine LeO.ite ?_ ?_)
      | (with_reducible refine LeO.bind ?_ (fun _ => ?_))
      | exact ih0 _ _ _ _
      | exact lookasideref01_Get.mono _ _ _ _
      | exact lookasideref01_Put.mono _ _ _ _ _
      | exact LeO.none _
      | refine LeO.ite ?_ ?_
      | refine LeO.bind ?_ (fun _ => ?_)
set_option maxHeartbeats 8000000 in
set_option maxRecDepth 100000 in
theorem lookasidelaw01_FieldBits.calls (k : Nat) (a0 : Int) (a1 : Int) (a2 : Bool) (r : Bool) (w : World) (h : lookasidelaw01_FieldBits.f k a0 a1 a2 = some r) :
    Calls Try.prog 13 #[.int .u64 a0, .int .i64 a1, .bool a2] w fun e w' => e = .returned (.bool r) ∧ Below w.heap.size w w' := by
  have HB := Aside0.mk (Below.refl w.heap.size w)
  have H : (if a2 = true then (lookasidelaw01_FieldBits.j0 k a0 a1 a2 1) else (lookasidelaw01_FieldBits.j0 k a0 a1 a2 0)) = some r := h
  clear h
  have HC4 := Aside0.mk H
  clear H
  go_enter Try.func13, Try.ntmps13
  go_upto_if 10 with (fail)
  go_cut [7] (fun v7 wc => ∃ (kq : Nat) (x7_3 : Int), v7 = .int .u64 x7_3 ∧ Aside0 (lookasidelaw01_FieldBits.j0 kq a0 a1 a2 x7_3 = some r) ∧ Aside0 (kq ≤ k) ∧ Aside0 (Below w.heap.size w wc))
  case first =>
    have H := HC4.out
    clear HC4
    by_cases c5 : a2 = true
    · subst c5
      have H1 : (lookasidelaw01_FieldBits.j0 k a0 a1 true 1) = some r := by rw [if_pos rfl] at H; exact H
      clear H
      have H := H1
      clear H1
      have H' := Aside0.mk H
      clear H
      go_wp2
      go_meet
      case rel => exact ⟨_, (1), (by first | rfl | (simp; done) | (simp [*]; done)), H', ⟨by first | omega | exact Nat.le_refl _⟩, ⟨by repeat (first | (with_reducible first | exact HB.out | apply below_alloc | apply pw_below_drewN | apply below_drew1) | exact HB.out)⟩⟩
    · replace c5 := Bool.eq_false_iff.mpr c5
      subst c5
      have H1 : (lookasidelaw01_FieldBits.j0 k a0 a1 false 0) = some r := by rw [if_neg (show ¬ (false = true) by decide)] at H; exact H
      clear H
      have H := H1
      clear H1
      have H' := Aside0.mk H
      clear H
      go_wp2
      go_meet
      case rel => exact ⟨_, (0), (by first | rfl | (simp; done) | (simp [*]; done)), H', ⟨by first | omega | exact Nat.le_refl _⟩, ⟨by repeat (first | (with_reducible first | exact HB.out | apply below_alloc | apply pw_below_drewN | apply below_drew1) | exact HB.out)⟩⟩
  case rest =>
    clear HC4
    try clear c1
    try clear p2
    try clear c5
    obtain ⟨kq, x7_3, rfl, HA, HJ3, HB⟩ := hcut
    cases kq with
    | zero => exact absurd HA.out (by simp [lookasidelaw01_FieldBits.j0])
    | succ kj3 =>
      have H := HA.out
      clear HA
      simp only [lookasidelaw01_FieldBits.j0] at H
      replace H := Option.bind_eq_some_iff.mp H
      obtain ⟨t219, A60, H⟩ := H
      replace H : ((lookasideref01_May.f a1 1).bind fun t220 => ((lookasideref01_Put.f kj3 a0 a1 1 x7_3).bind fun t221 => (if t219 = t221 then ((field_Bit.f a0 a1).bind fun t222 => ((lookasideref01_Get.f kj3 a0 a1 1).bind fun t223 => (if (t222 == (t223 == 1)) = true then (if t220 = true then ((field_Bit.f t219 a1).bind fun t224 => (if (t224 == a2) = true then ((lookasidelaw01_lives.f).bind fun t225 => (some t225)) else (some false))) else ((lookasidelaw01_lives.f).bind fun t226 => (some t226))) else (some false)))) else (some false)))) = some r := H
      have A6 := Aside0.mk A60
      clear A60
      replace H := Option.bind_eq_some_iff.mp H
      obtain ⟨t220, A70, H⟩ := H
      replace H : ((lookasideref01_Put.f kj3 a0 a1 1 x7_3).bind fun t221 => (if t219 = t221 then ((field_Bit.f a0 a1).bind fun t222 => ((lookasideref01_Get.f kj3 a0 a1 1).bind fun t223 => (if (t222 == (t223 == 1)) = true then (if t220 = true then ((field_Bit.f t219 a1).bind fun t224 => (if (t224 == a2) = true then ((lookasidelaw01_lives.f).bind fun t225 => (some t225)) else (some false))) else ((lookasidelaw01_lives.f).bind fun t226 => (some t226))) else (some false)))) else (some false))) = some r := H
      have A7 := Aside0.mk A70
      clear A70
      replace H := Option.bind_eq_some_iff.mp H
      obtain ⟨t221, A80, H⟩ := H
      replace H : (if t219 = t221 then ((field_Bit.f a0 a1).bind fun t222 => ((lookasideref01_Get.f kj3 a0 a1 1).bind fun t223 => (if (t222 == (t223 == 1)) = true then (if t220 = true then ((field_Bit.f t219 a1).bind fun t224 => (if (t224 == a2) = true then ((lookasidelaw01_lives.f).bind fun t225 => (some t225)) else (some false))) else ((lookasidelaw01_lives.f).bind fun t226 => (some t226))) else (some false)))) else (some false)) = some r := H
      have A8 := Aside0.mk A80
      clear A80
      by_cases c9 : t219 = t221
      · rw [if_pos c9] at H
        have c9b0 : (t219 == t221) = true := beq_iff_eq.mpr c9
        have c9b1 : (t219 != t221) = false := bne_eq_false_iff_eq.mpr c9
        clear c9
        replace H := Option.bind_eq_some_iff.mp H
        obtain ⟨t222, A100, H⟩ := H
        replace H : ((lookasideref01_Get.f kj3 a0 a1 1).bind fun t223 => (if (t222 == (t223 == 1)) = true then (if t220 = true then ((field_Bit.f t219 a1).bind fun t224 => (if (t224 == a2) = true then ((lookasidelaw01_lives.f).bind fun t225 => (some t225)) else (some false))) else ((lookasidelaw01_lives.f).bind fun t226 => (some t226))) else (some false))) = some r := H
        have A10 := Aside0.mk A100
        clear A100
        replace H := Option.bind_eq_some_iff.mp H
        obtain ⟨t223, A110, H⟩ := H
        replace H : (if (t222 == (t223 == 1)) = true then (if t220 = true then ((field_Bit.f t219 a1).bind fun t224 => (if (t224 == a2) = true then ((lookasidelaw01_lives.f).bind fun t225 => (some t225)) else (some false))) else ((lookasidelaw01_lives.f).bind fun t226 => (some t226))) else (some false)) = some r := H
        have A11 := Aside0.mk A110
        clear A110
        by_cases c12 : (t222 == (t223 == 1)) = true
        · rw [if_pos c12] at H
          have c12b0 : (t222 == (t223 == 1)) = true := c12
          (try (have c12b1 : decide (t222 = (t223 == 1)) = true := by simpa using c12))
          (try (have c12b2 : (t222 == (t223 == 1)) = true := by simpa using c12))
          clear c12
          by_cases c13 : t220 = true
          · subst c13
            have H1 : ((field_Bit.f t219 a1).bind fun t224 => (if (t224 == a2) = true then ((lookasidelaw01_lives.f).bind fun t225 => (some t225)) else (some false))) = some r := by rw [if_pos rfl] at H; exact H
            clear H
            have H := H1
            clear H1
            replace H := Option.bind_eq_some_iff.mp H
            obtain ⟨t224, A140, H⟩ := H
            replace H : (if (t224 == a2) = true then ((lookasidelaw01_lives.f).bind fun t225 => (some t225)) else (some false)) = some r := H
            have A14 := Aside0.mk A140
            clear A140
            by_cases c15 : (t224 == a2) = true
            · rw [if_pos c15] at H
              have c15b0 : (t224 == a2) = true := c15
              (try (have c15b1 : decide (t224 = a2) = true := by simpa using c15))
              (try (have c15b2 : (t224 == a2) = true := by simpa using c15))
              clear c15
              replace H := Option.bind_eq_some_iff.mp H
              obtain ⟨t225, A160, H⟩ := H
              replace H : (some t225) = some r := H
              have A16 := Aside0.mk A160
              clear A160
              obtain rfl := Option.some.inj H
              go_wp2_with (first | ((with_reducible refine gate_callee (f := 43) rfl ?_); refine goesL_ (some 14) rfl rfl Try.func43 (by kernel_rfl) rfl #[.int .u64 a0, .int .i64 a1, .bool a2] rfl (by (try simp only [List.map_toArray, List.map_cons, List.map_nil]); first | done | rfl | (simp only [List.length_drop, List.length_take]; rfl)) ?_; (with_reducible refine (field_Set.calls a0 a1 a2 t219 _ A6.out).mono ?_); rintro e w' ⟨rfl, ⟨nd, rfl⟩⟩; refine ⟨_, rfl, ?_⟩) | ((with_reducible refine gate_callee (f := 35) rfl ?_); refine goesL_ (some 16) rfl rfl Try.func35 (by kernel_rfl) rfl #[.int .i64 a1, .int .i64 1] rfl (by (try simp only [List.map_toArray, List.map_cons, List.map_nil]); first | done | rfl | (simp only [List.length_drop, List.length_take]; rfl)) ?_; (with_reducible refine (lookasideref01_May.calls a1 1 true _ A7.out).mono ?_); rintro e w' ⟨rfl, ⟨nd, rfl⟩⟩; refine ⟨_, rfl, ?_⟩) | ((with_reducible refine gate_callee (f := 33) rfl ?_); refine goesL_ (some 21) rfl rfl Try.func33 (by kernel_rfl) rfl #[.int .u64 a0, .int .i64 a1, .int .i64 1, .int .u64 x7_3] rfl (by (try simp only [List.map_toArray, List.map_cons, List.map_nil]); first | done | rfl | (simp only [List.length_drop, List.length_take]; rfl)) ?_; (with_reducible refine (lookasideref01_Put.calls kj3 a0 a1 1 x7_3 t221 _ A8.out).mono ?_); rintro e w' ⟨rfl, ⟨nd, rfl⟩⟩; refine ⟨_, rfl, ?_⟩) | (go_at_call 44; (with_reducible refine (field_Bit.calls a0 a1 t222 _ A10.out).mono ?_); rintro e w' ⟨rfl, ⟨nd, rfl⟩⟩) | (go_at_call 37; (with_reducible refine (lookasideref01_Get.calls kj3 a0 a1 1 t223 _ A11.out).mono ?_); rintro e w' ⟨rfl, ⟨nd, rfl⟩⟩) | (go_at_call 44; (with_reducible refine (field_Bit.calls t219 a1 t224 _ A14.out).mono ?_); rintro e w' ⟨rfl, ⟨nd, rfl⟩⟩) | (go_at_call 40; (with_reducible refine (lookasidelaw01_lives.calls  t225 _ A16.out).mono ?_); rintro e w17 ⟨rfl, hb⟩; have n0_ := Aside0.mk (below_step (by repeat (first | (with_reducible first | exact HB.out | apply below_alloc | apply pw_below_drewN | apply below_drew1) | exact HB.out)) hb); clear HB; have HB := n0_; clear n0_; (try clear hb); (try clear hb2); (try clear hk); (try clear hi)))
              go_ret
              exact ⟨by first | rfl | (simp [errW_none, errW_some] <;> rfl) | (simp [*, errW_none, errW_some] <;> rfl), by repeat (first | (with_reducible first | exact HB.out | apply below_alloc | apply pw_below_drewN | apply below_drew1) | exact HB.out)⟩
            · rw [if_neg c15] at H
              have c15b0 : (t224 == a2) = false := by simpa using c15
              (try (have c15b1 : decide (t224 = a2) = false := by simpa using c15))
              (try (have c15b2 : (t224 == a2) = false := by simpa using c15))
              (try (have c15b3 : ¬ (t224 = a2) := by simpa using c15))
              clear c15
              obtain rfl := Option.some.inj H
              go_wp2_with (first | ((with_reducible refine gate_callee (f := 43) rfl ?_); refine goesL_ (some 14) rfl rfl Try.func43 (by kernel_rfl) rfl #[.int .u64 a0, .int .i64 a1, .bool a2] rfl (by (try simp only [List.map_toArray, List.map_cons, List.map_nil]); first | done | rfl | (simp only [List.length_drop, List.length_take]; rfl)) ?_; (with_reducible refine (field_Set.calls a0 a1 a2 t219 _ A6.out).mono ?_); rintro e w' ⟨rfl, ⟨nd, rfl⟩⟩; refine ⟨_, rfl, ?_⟩) | ((with_reducible refine gate_callee (f := 35) rfl ?_); refine goesL_ (some 16) rfl rfl Try.func35 (by kernel_rfl) rfl #[.int .i64 a1, .int .i64 1] rfl (by (try simp only [List.map_toArray, List.map_cons, List.map_nil]); first | done | rfl | (simp only [List.length_drop, List.length_take]; rfl)) ?_; (with_reducible refine (lookasideref01_May.calls a1 1 true _ A7.out).mono ?_); rintro e w' ⟨rfl, ⟨nd, rfl⟩⟩; refine ⟨_, rfl, ?_⟩) | ((with_reducible refine gate_callee (f := 33) rfl ?_); refine goesL_ (some 21) rfl rfl Try.func33 (by kernel_rfl) rfl #[.int .u64 a0, .int .i64 a1, .int .i64 1, .int .u64 x7_3] rfl (by (try simp only [List.map_toArray, List.map_cons, List.map_nil]); first | done | rfl | (simp only [List.length_drop, List.length_take]; rfl)) ?_; (with_reducible refine (lookasideref01_Put.calls kj3 a0 a1 1 x7_3 t221 _ A8.out).mono ?_); rintro e w' ⟨rfl, ⟨nd, rfl⟩⟩; refine ⟨_, rfl, ?_⟩) | (go_at_call 44; (with_reducible refine (field_Bit.calls a0 a1 t222 _ A10.out).mono ?_); rintro e w' ⟨rfl, ⟨nd, rfl⟩⟩) | (go_at_call 37; (with_reducible refine (lookasideref01_Get.calls kj3 a0 a1 1 t223 _ A11.out).mono ?_); rintro e w' ⟨rfl, ⟨nd, rfl⟩⟩) | (go_at_call 44; (with_reducible refine (field_Bit.calls t219 a1 t224 _ A14.out).mono ?_); rintro e w' ⟨rfl, ⟨nd, rfl⟩⟩))
              go_ret
              exact ⟨by first | rfl | (simp [errW_none, errW_some] <;> rfl) | (simp [*, errW_none, errW_some] <;> rfl), by repeat (first | (with_reducible first | exact HB.out | apply below_alloc | apply pw_below_drewN | apply below_drew1) | exact HB.out)⟩
          · replace c13 := Bool.eq_false_iff.mpr c13
            subst c13
            have H1 : ((lookasidelaw01_lives.f).bind fun t226 => (some t226)) = some r := by rw [if_neg (show ¬ (false = true) by decide)] at H; exact H
            clear H
            have H := H1
            clear H1
            replace H := Option.bind_eq_some_iff.mp H
            obtain ⟨t226, A180, H⟩ := H
            replace H : (some t226) = some r := H
            have A18 := Aside0.mk A180
            clear A180
            obtain rfl := Option.some.inj H
            go_wp2_with (first | ((with_reducible refine gate_callee (f := 43) rfl ?_); refine goesL_ (some 14) rfl rfl Try.func43 (by kernel_rfl) rfl #[.int .u64 a0, .int .i64 a1, .bool a2] rfl (by (try simp only [List.map_toArray, List.map_cons, List.map_nil]); first | done | rfl | (simp only [List.length_drop, List.length_take]; rfl)) ?_; (with_reducible refine (field_Set.calls a0 a1 a2 t219 _ A6.out).mono ?_); rintro e w' ⟨rfl, ⟨nd, rfl⟩⟩; refine ⟨_, rfl, ?_⟩) | ((with_reducible refine gate_callee (f := 35) rfl ?_); refine goesL_ (some 16) rfl rfl Try.func35 (by kernel_rfl) rfl #[.int .i64 a1, .int .i64 1] rfl (by (try simp only [List.map_toArray, List.map_cons, List.map_nil]); first | done | rfl | (simp only [List.length_drop, List.length_take]; rfl)) ?_; (with_reducible refine (lookasideref01_May.calls a1 1 false _ A7.out).mono ?_); rintro e w' ⟨rfl, ⟨nd, rfl⟩⟩; refine ⟨_, rfl, ?_⟩) | ((with_reducible refine gate_callee (f := 33) rfl ?_); refine goesL_ (some 21) rfl rfl Try.func33 (by kernel_rfl) rfl #[.int .u64 a0, .int .i64 a1, .int .i64 1, .int .u64 x7_3] rfl (by (try simp only [List.map_toArray, List.map_cons, List.map_nil]); first | done | rfl | (simp only [List.length_drop, List.length_take]; rfl)) ?_; (with_reducible refine (lookasideref01_Put.calls kj3 a0 a1 1 x7_3 t221 _ A8.out).mono ?_); rintro e w' ⟨rfl, ⟨nd, rfl⟩⟩; refine ⟨_, rfl, ?_⟩) | (go_at_call 44; (with_reducible refine (field_Bit.calls a0 a1 t222 _ A10.out).mono ?_); rintro e w' ⟨rfl, ⟨nd, rfl⟩⟩) | (go_at_call 37; (with_reducible refine (lookasideref01_Get.calls kj3 a0 a1 1 t223 _ A11.out).mono ?_); rintro e w' ⟨rfl, ⟨nd, rfl⟩⟩) | (go_at_call 40; (with_reducible refine (lookasidelaw01_lives.calls  t226 _ A18.out).mono ?_); rintro e w19 ⟨rfl, hb⟩; have n0_ := Aside0.mk (below_step (by repeat (first | (with_reducible first | exact HB.out | apply below_alloc | apply pw_below_drewN | apply below_drew1) | exact HB.out)) hb); clear HB; have HB := n0_; clear n0_; (try clear hb); (try clear hb2); (try clear hk); (try clear hi)))
            go_ret
            exact ⟨by first | rfl | (simp [errW_none, errW_some] <;> rfl) | (simp [*, errW_none, errW_some] <;> rfl), by repeat (first | (with_reducible first | exact HB.out | apply below_alloc | apply pw_below_drewN | apply below_drew1) | exact HB.out)⟩
        · rw [if_neg c12] at H
          have c12b0 : (t222 == (t223 == 1)) = false := by simpa using c12
          (try (have c12b1 : decide (t222 = (t223 == 1)) = false := by simpa using c12))
          (try (have c12b2 : (t222 == (t223 == 1)) = false := by simpa using c12))
          (try (have c12b3 : ¬ (t222 = (t223 == 1)) := by simpa using c12))
          clear c12
          obtain rfl := Option.some.inj H
          go_wp2_with (first | ((with_reducible refine gate_callee (f := 43) rfl ?_); refine goesL_ (some 14) rfl rfl Try.func43 (by kernel_rfl) rfl #[.int .u64 a0, .int .i64 a1, .bool a2] rfl (by (try simp only [List.map_toArray, List.map_cons, List.map_nil]); first | done | rfl | (simp only [List.length_drop, List.length_take]; rfl)) ?_; (with_reducible refine (field_Set.calls a0 a1 a2 t219 _ A6.out).mono ?_); rintro e w' ⟨rfl, ⟨nd, rfl⟩⟩; refine ⟨_, rfl, ?_⟩) | ((with_reducible refine gate_callee (f := 35) rfl ?_); refine goesL_ (some 16) rfl rfl Try.func35 (by kernel_rfl) rfl #[.int .i64 a1, .int .i64 1] rfl (by (try simp only [List.map_toArray, List.map_cons, List.map_nil]); first | done | rfl | (simp only [List.length_drop, List.length_take]; rfl)) ?_; (with_reducible refine (lookasideref01_May.calls a1 1 t220 _ A7.out).mono ?_); rintro e w' ⟨rfl, ⟨nd, rfl⟩⟩; refine ⟨_, rfl, ?_⟩) | ((with_reducible refine gate_callee (f := 33) rfl ?_); refine goesL_ (some 21) rfl rfl Try.func33 (by kernel_rfl) rfl #[.int .u64 a0, .int .i64 a1, .int .i64 1, .int .u64 x7_3] rfl (by (try simp only [List.map_toArray, List.map_cons, List.map_nil]); first | done | rfl | (simp only [List.length_drop, List.length_take]; rfl)) ?_; (with_reducible refine (lookasideref01_Put.calls kj3 a0 a1 1 x7_3 t221 _ A8.out).mono ?_); rintro e w' ⟨rfl, ⟨nd, rfl⟩⟩; refine ⟨_, rfl, ?_⟩) | (go_at_call 44; (with_reducible refine (field_Bit.calls a0 a1 t222 _ A10.out).mono ?_); rintro e w' ⟨rfl, ⟨nd, rfl⟩⟩) | (go_at_call 37; (with_reducible refine (lookasideref01_Get.calls kj3 a0 a1 1 t223 _ A11.out).mono ?_); rintro e w' ⟨rfl, ⟨nd, rfl⟩⟩))
          go_ret
          exact ⟨by first | rfl | (simp [errW_none, errW_some] <;> rfl) | (simp [*, errW_none, errW_some] <;> rfl), by repeat (first | (with_reducible first | exact HB.out | apply below_alloc | apply pw_below_drewN | apply below_drew1) | exact HB.out)⟩
      · rw [if_neg c9] at H
        have c9b0 : (t219 == t221) = false := beq_eq_false_iff_ne.mpr c9
        have c9b1 : (t219 != t221) = true := bne_iff_ne.mpr c9
        obtain rfl := Option.some.inj H
        go_wp2_with (first | ((with_reducible refine gate_callee (f := 43) rfl ?_); refine goesL_ (some 14) rfl rfl Try.func43 (by kernel_rfl) rfl #[.int .u64 a0, .int .i64 a1, .bool a2] rfl (by (try simp only [List.map_toArray, List.map_cons, List.map_nil]); first | done | rfl | (simp only [List.length_drop, List.length_take]; rfl)) ?_; (with_reducible refine (field_Set.calls a0 a1 a2 t219 _ A6.out).mono ?_); rintro e w' ⟨rfl, ⟨nd, rfl⟩⟩; refine ⟨_, rfl, ?_⟩) | ((with_reducible refine gate_callee (f := 35) rfl ?_); refine goesL_ (some 16) rfl rfl Try.func35 (by kernel_rfl) rfl #[.int .i64 a1, .int .i64 1] rfl (by (try simp only [List.map_toArray, List.map_cons, List.map_nil]); first | done | rfl | (simp only [List.length_drop, List.length_take]; rfl)) ?_; (with_reducible refine (lookasideref01_May.calls a1 1 t220 _ A7.out).mono ?_); rintro e w' ⟨rfl, ⟨nd, rfl⟩⟩; refine ⟨_, rfl, ?_⟩) | ((with_reducible refine gate_callee (f := 33) rfl ?_); refine goesL_ (some 21) rfl rfl Try.func33 (by kernel_rfl) rfl #[.int .u64 a0, .int .i64 a1, .int .i64 1, .int .u64 x7_3] rfl (by (try simp only [List.map_toArray, List.map_cons, List.map_nil]); first | done | rfl | (simp only [List.length_drop, List.length_take]; rfl)) ?_; (with_reducible refine (lookasideref01_Put.calls kj3 a0 a1 1 x7_3 t221 _ A8.out).mono ?_); rintro e w' ⟨rfl, ⟨nd, rfl⟩⟩; refine ⟨_, rfl, ?_⟩))
        go_ret
        exact ⟨by first | rfl | (simp [errW_none, errW_some] <;> rfl) | (simp [*, errW_none, errW_some] <;> rfl), by repeat (first | (with_reducible first | exact HB.out | apply below_alloc | apply pw_below_drewN | apply below_drew1) | exact HB.out)⟩

/-- THE ONE PURE STATEMENT of lookasidelaw01_FieldBits: yours. -/
def lookasidelaw01_FieldBits.Pure : Prop := ∀ (a0 : Int) (a1 : Int) (a2 : Bool), (Lit.int .u64 a0).wf = true → (Lit.int .i64 a1).wf = true → ∃ k, lookasidelaw01_FieldBits.f k a0 a1 a2 = some true
theorem lookasidelaw01_FieldBits.walk (P : lookasidelaw01_FieldBits.Pure) (a0 : Int) (a1 : Int) (a2 : Bool) (w : World) (w0 : (Lit.int .u64 a0).wf = true) (w1 : (Lit.int .i64 a1).wf = true) :
    Calls Try.prog 13 #[.int .u64 a0, .int .i64 a1, .bool a2] w fun e w' => e = .returned (.bool true) ∧ Below w.heap.size w w' := by
  obtain ⟨k, h⟩ := P a0 a1 a2 w0 w1
  refine (lookasidelaw01_FieldBits.calls k a0 a1 a2 true w h).mono ?_
  rintro e w' ⟨rfl, hd⟩
  exact ⟨rfl, hd⟩

end Go.Proofs.Ytlkojjkgbcpjjaa.PA

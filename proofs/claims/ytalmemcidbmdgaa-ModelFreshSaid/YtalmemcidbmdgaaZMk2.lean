import Derived.Test.YtalmemcidbmdgaaZMk1
import Derived.Laws.BitsLemmas
import Derived.Laws.Bits64
import Derived.Test.YtalmemcidbmdgaaZMk0
import Derived.Maps.OwnSet
import Derived.Deep.RegionHeld3
import Derived.Deep.DeepCutAuto
import Derived.Deep.Light
-- written by xprint.py, a program of this session, over the kit's print (functions told by hand: see the texts)
namespace Go.Proofs.Ytalmemcidbmdgaa.PM
open Go.RowKit Go.Proofs.YtalmemcidbmdgaaW.PrintWords Go.Proofs.YtalmemcidbmdgaaW.PrintLast Go.Proofs.YtalmemcidbmdgaaW.PrintMore
attribute [local go_sem] max2_int min2_int max_two min_two max_three min_three max_four min_four   -- for this text's walks alone
set_option linter.unusedVariables false
set_option linter.unusedSimpArgs false

/-! ### lookasideref09_Judge: function 57 -/
mutual
def lookasideref09_Judge.j0 : Nat → Bool → Bool → Bool → Bool → Bool → Bool → Bool → Int → Bool → Int → Option (Int)
  | 0, _, _, _, _, _, _, _, _, _, _ => none
  | k + 1, x11, x207000, x207001, x207002, x207003, x207004, x207005, x208000, x208001, x208002 => if x11 = true then (some 3) else (if x207005 = true then (lookasideref09_Judge.j1 k (x208000 != 3) x207000 x207001 x207002 x207003 x207004 x207005 x208000 x208001 x208002) else (lookasideref09_Judge.j1 k false x207000 x207001 x207002 x207003 x207004 x207005 x208000 x208001 x208002))
def lookasideref09_Judge.j1 : Nat → Bool → Bool → Bool → Bool → Bool → Bool → Bool → Int → Bool → Int → Option (Int)
  | 0, _, _, _, _, _, _, _, _, _, _ => none
  | k + 1, x18, x207000, x207001, x207002, x207003, x207004, x207005, x208000, x208001, x208002 => if x18 = true then (some 4) else (if x208000 = 1 then (lookasideref09_Judge.j2 k (!x207000) x207000 x207001 x207002 x207003 x207004 x207005 x208000 x208001 x208002) else (lookasideref09_Judge.j2 k false x207000 x207001 x207002 x207003 x207004 x207005 x208000 x208001 x208002))
def lookasideref09_Judge.j2 : Nat → Bool → Bool → Bool → Bool → Bool → Bool → Bool → Int → Bool → Int → Option (Int)
  | 0, _, _, _, _, _, _, _, _, _, _ => none
  | k + 1, x26, x207000, x207001, x207002, x207003, x207004, x207005, x208000, x208001, x208002 => if x26 = true then (some 5) else (if x208000 = 2 then (if x207002 = true then (some 0) else (some 6)) else (some 0))
end
def lookasideref09_Judge.f (k : Nat) (a0_0 : Bool) (a0_1 : Bool) (a0_2 : Bool) (a0_3 : Bool) (a0_4 : Bool) (a0_5 : Bool) (a1_0 : Int) (a1_1 : Bool) (a1_2 : Int) : Option (Int) := if a0_1 = true then (lookasideref09_Judge.j0 k (!a1_1) a0_0 a0_1 a0_2 a0_3 a0_4 a0_5 a1_0 a1_1 a1_2) else (lookasideref09_Judge.j0 k false a0_0 a0_1 a0_2 a0_3 a0_4 a0_5 a1_0 a1_1 a1_2)
set_option maxHeartbeats 8000000 in
set_option maxRecDepth 100000 in
theorem lookasideref09_Judge.calls (k : Nat) (a0_0 : Bool) (a0_1 : Bool) (a0_2 : Bool) (a0_3 : Bool) (a0_4 : Bool) (a0_5 : Bool) (a1_0 : Int) (a1_1 : Bool) (a1_2 : Int) (r : Int) (w : World) (h : lookasideref09_Judge.f k a0_0 a0_1 a0_2 a0_3 a0_4 a0_5 a1_0 a1_1 a1_2 = some r) :
    Calls Try.prog 57 #[.agg #[.bool a0_0, .bool a0_1, .bool a0_2, .bool a0_3, .bool a0_4, .bool a0_5], .agg #[.int .i64 a1_0, .bool a1_1, .int .u64 a1_2]] w fun e w' => e = .returned (.int .i64 r) ∧ Below w.heap.size w w' := by
  obtain ⟨D, hD⟩ : ∃ D, w.heap.size = D := ⟨_, rfl⟩
  go_enter Try.func57, Try.ntmps57
  go_upto_region 1 with fail
  have hz := blk_alloc (blk_new w (.cells #[.bool a0_0, .bool a0_1, .bool a0_2, .bool a0_3, .bool a0_4, .bool a0_5] 34)) (.cells #[.int .i64 a1_0, .bool a1_1, .int .u64 a1_2] 32)
  have hl := blk_new (w.alloc (.cells #[.bool a0_0, .bool a0_1, .bool a0_2, .bool a0_3, .bool a0_4, .bool a0_5] 34)) (.cells #[.int .i64 a1_0, .bool a1_1, .int .u64 a1_2] 32)
  have HB := Aside0.mk (((Below.refl _ w).alloc (Nat.le_refl _) (.cells #[.bool a0_0, .bool a0_1, .bool a0_2, .bool a0_3, .bool a0_4, .bool a0_5] 34)).alloc (by simp) (.cells #[.int .i64 a1_0, .bool a1_1, .int .u64 a1_2] 32))
  rw [World.size_alloc] at hl
  rw [hD] at hz hl
  generalize (w.alloc (.cells #[.bool a0_0, .bool a0_1, .bool a0_2, .bool a0_3, .bool a0_4, .bool a0_5] 34)).alloc (.cells #[.int .i64 a1_0, .bool a1_1, .int .u64 a1_2] 32) = w1 at *
  have x0 : w1.cell? ⟨D, 0, none⟩ = some (.bool a0_0) := (blk_cell hz 0).trans rfl
  have x1 : w1.cell? ⟨D, 1, none⟩ = some (.bool a0_1) := (blk_cell hz 1).trans rfl
  have x2 : w1.cell? ⟨D, 2, none⟩ = some (.bool a0_2) := (blk_cell hz 2).trans rfl
  have x5 : w1.cell? ⟨D, 5, none⟩ = some (.bool a0_5) := (blk_cell hz 5).trans rfl
  have y0 : w1.cell? ⟨D + 1, 0, none⟩ = some (.int .i64 a1_0) := (blk_cell hl 0).trans rfl
  have y1 : w1.cell? ⟨D + 1, 1, none⟩ = some (.bool a1_1) := (blk_cell hl 1).trans rfl
  clear hz hl hD
  by_cases h1 : a1_0 = 1
  · subst h1
    cases a0_0 <;> cases a0_1 <;> cases a0_5 <;> cases a1_1 <;> (go_wp2_with fail; go_ret; refine ⟨?_, HB.out⟩; rcases k with _ | _ | _ | k <;> (simp [lookasideref09_Judge.f, lookasideref09_Judge.j0, lookasideref09_Judge.j1, lookasideref09_Judge.j2, *] at h) <;> (subst h; rfl))
  · by_cases h2 : a1_0 = 2
    · subst h2
      cases a0_2 <;> cases a0_1 <;> cases a0_5 <;> cases a1_1 <;> (go_wp2_with fail; go_ret; refine ⟨?_, HB.out⟩; rcases k with _ | _ | _ | k <;> (simp [lookasideref09_Judge.f, lookasideref09_Judge.j0, lookasideref09_Judge.j1, lookasideref09_Judge.j2, *] at h) <;> (subst h; rfl))
    · by_cases h3 : a1_0 = 3
      · subst h3
        cases a0_1 <;> cases a0_5 <;> cases a1_1 <;> (go_wp2_with fail; go_ret; refine ⟨?_, HB.out⟩; rcases k with _ | _ | _ | k <;> (simp [lookasideref09_Judge.f, lookasideref09_Judge.j0, lookasideref09_Judge.j1, lookasideref09_Judge.j2, *] at h) <;> (subst h; rfl))
      · have b1 : (a1_0 == 1) = false := beq_eq_false_iff_ne.2 h1
        have b2 : (a1_0 == 2) = false := beq_eq_false_iff_ne.2 h2
        have b3 : (a1_0 != 3) = true := by simp [h3]
        cases a0_1 <;> cases a0_5 <;> cases a1_1 <;> (go_wp2_with fail; go_ret; refine ⟨?_, HB.out⟩; rcases k with _ | _ | _ | k <;> (simp [lookasideref09_Judge.f, lookasideref09_Judge.j0, lookasideref09_Judge.j1, lookasideref09_Judge.j2, *] at h) <;> (subst h; rfl))
end Go.Proofs.Ytalmemcidbmdgaa.PM

-- written by xprint.py, a program of this session, over the kit's print (functions told by hand: see the texts)
namespace Go.Proofs.Ytalmemcidbmdgaa.PM
open Go.RowKit Go.Proofs.YtalmemcidbmdgaaW.PrintWords Go.Proofs.YtalmemcidbmdgaaW.PrintLast Go.Proofs.YtalmemcidbmdgaaW.PrintMore
attribute [local go_sem] max2_int min2_int max_two min_two max_three min_three max_four min_four   -- for this text's walks alone
set_option linter.unusedVariables false
set_option linter.unusedSimpArgs false

/-! ### field_May: function 109 -/
def field_May.f (a0 : Int) (a1 : Int) : Option (Bool) := if a0 ≥ 0 then (if a1 ≥ 1 then (if a1 ≤ 64 then (some (decide (a0 ≤ (wrap64 (64 - a1))))) else (some false)) else (some false)) else (some false)
set_option maxHeartbeats 8000000 in
set_option maxRecDepth 100000 in
theorem field_May.calls (a0 : Int) (a1 : Int) (r : Bool) (w : World) (h : field_May.f a0 a1 = some r) :
    Calls Try.prog 109 #[.int .i64 a0, .int .i64 a1] w fun e w' => e = .returned (.bool r) ∧ Drawn0 w w' := by
  have H : (if a0 ≥ 0 then (if a1 ≥ 1 then (if a1 ≤ 64 then (some (decide (a0 ≤ (wrap64 (64 - a1))))) else (some false)) else (some false)) else (some false)) = some r := h
  clear h
  by_cases c3 : a0 ≥ 0
  · rw [if_pos c3] at H
    have c3b0 : decide (0 ≤ a0) = true := decide_eq_true c3
    clear c3
    by_cases c4 : a1 ≥ 1
    · rw [if_pos c4] at H
      have c4b0 : decide (1 ≤ a1) = true := decide_eq_true c4
      clear c4
      by_cases c5 : a1 ≤ 64
      · rw [if_pos c5] at H
        have c5b0 : decide (a1 ≤ 64) = true := decide_eq_true c5
        clear c5
        obtain rfl := Option.some.inj H
        go_enter Try.func109, Try.ntmps109
        go_wp2
        go_ret
        exact ⟨by first | rfl | (simp; done) | (simp [*]; done), by repeat (first | exact Drawn0.refl _ | apply Drawn0.step)⟩
      · rw [if_neg c5] at H
        have c5b0 : decide (a1 ≤ 64) = false := decide_eq_false c5
        clear c5
        obtain rfl := Option.some.inj H
        go_enter Try.func109, Try.ntmps109
        go_wp2
        go_ret
        exact ⟨by first | rfl | (simp; done) | (simp [*]; done), by repeat (first | exact Drawn0.refl _ | apply Drawn0.step)⟩
    · rw [if_neg c4] at H
      have c4b0 : decide (1 ≤ a1) = false := decide_eq_false c4
      clear c4
      obtain rfl := Option.some.inj H
      go_enter Try.func109, Try.ntmps109
      go_wp2
      go_ret
      exact ⟨by first | rfl | (simp; done) | (simp [*]; done), by repeat (first | exact Drawn0.refl _ | apply Drawn0.step)⟩
  · rw [if_neg c3] at H
    have c3b0 : decide (0 ≤ a0) = false := decide_eq_false c3
    clear c3
    obtain rfl := Option.some.inj H
    go_enter Try.func109, Try.ntmps109
    go_wp2
    go_ret
    exact ⟨by first | rfl | (simp; done) | (simp [*]; done), by repeat (first | exact Drawn0.refl _ | apply Drawn0.step)⟩

/-! ### field_Mask: function 110 -/
def field_Mask.f (a0 : Int) (a1 : Int) : Option (Int) := (field_May.f a0 a1).bind fun t208 => (if t208 = true then (if 0 ≤ (wrap64 (64 - a1)) then (if 0 ≤ a0 then (some (shl .u64 (shr .u64 18446744073709551615 (wrap64 (64 - a1))) a0)) else (none)) else (none)) else (some 0))
set_option maxHeartbeats 8000000 in
set_option maxRecDepth 100000 in
theorem field_Mask.calls (a0 : Int) (a1 : Int) (r : Int) (w : World) (h : field_Mask.f a0 a1 = some r) :
    Calls Try.prog 110 #[.int .i64 a0, .int .i64 a1] w fun e w' => e = .returned (.int .u64 r) ∧ Drawn0 w w' := by
  have H : ((field_May.f a0 a1).bind fun t208 => (if t208 = true then (if 0 ≤ (wrap64 (64 - a1)) then (if 0 ≤ a0 then (some (shl .u64 (shr .u64 18446744073709551615 (wrap64 (64 - a1))) a0)) else (none)) else (none)) else (some 0))) = some r := h
  clear h
  replace H := Option.bind_eq_some_iff.mp H
  obtain ⟨t208, A30, H⟩ := H
  replace H : (if t208 = true then (if 0 ≤ (wrap64 (64 - a1)) then (if 0 ≤ a0 then (some (shl .u64 (shr .u64 18446744073709551615 (wrap64 (64 - a1))) a0)) else (none)) else (none)) else (some 0)) = some r := H
  have A3 := Aside0.mk A30
  clear A30
  by_cases c4 : t208 = true
  · subst c4
    have H1 : (if 0 ≤ (wrap64 (64 - a1)) then (if 0 ≤ a0 then (some (shl .u64 (shr .u64 18446744073709551615 (wrap64 (64 - a1))) a0)) else (none)) else (none)) = some r := by rw [if_pos rfl] at H; exact H
    clear H
    have H := H1
    clear H1
    obtain ⟨ji5, hji5⟩ : ∃ j_ : Int, (wrap64 (64 - a1)) = j_ := ⟨_, rfl⟩
    replace H : (if 0 ≤ (ji5) then (if 0 ≤ a0 then (some (shl .u64 (shr .u64 18446744073709551615 (ji5)) a0)) else (none)) else (none)) = some r := by first | (rw [hji5] at H; exact H) | (simp only [hji5] at H ⊢; exact H)
    (try rw [hji5] at A3)
    have hji5w : (IntKind.i64.wrap (64 - a1)) = ji5 := (i64_w _).trans hji5
    by_cases c6 : 0 ≤ (ji5)
    · rw [if_pos c6] at H
      have c6b0 := eq_true c6
      have c6b1 : decide (0 ≤ (ji5)) = true := decide_eq_true c6
      clear c6
      obtain ⟨ji7, hji7⟩ : ∃ j_ : Int, (shr .u64 18446744073709551615 (ji5)) = j_ := ⟨_, rfl⟩
      replace H : (if 0 ≤ a0 then (some (shl .u64 (ji7) a0)) else (none)) = some r := by first | (rw [hji7] at H; exact H) | (simp only [hji7] at H ⊢; exact H)
      (try rw [hji7] at A3)
      have hji7_ : (18446744073709551615 / 2 ^ min (ji5).toNat 64) = ji7 := hji7
      have hji7z : (ji5) ≤ 64 → (18446744073709551615 / 2 ^ (ji5).toNat) = ji7 := shr_small hji7
      by_cases c8 : 0 ≤ a0
      · rw [if_pos c8] at H
        have c8b0 := eq_true c8
        have c8b1 : decide (0 ≤ a0) = true := decide_eq_true c8
        clear c8
        obtain ⟨ji9, hji9⟩ : ∃ j_ : Int, (shl .u64 (ji7) a0) = j_ := ⟨_, rfl⟩
        replace H : (some ji9) = some r := by first | (rw [hji9] at H; exact H) | (simp only [hji9] at H ⊢; exact H)
        (try rw [hji9] at A3)
        have hji9_ : (IntKind.u64.wrap ((ji7) * 2 ^ min a0.toNat 64)) = ji9 := hji9
        have hji9z : a0 ≤ 64 → (IntKind.u64.wrap ((ji7) * 2 ^ a0.toNat)) = ji9 := shl_small hji9
        obtain rfl := Option.some.inj H
        go_enter Try.func110, Try.ntmps110
        go_wp2_with (first | ((with_reducible refine gate_callee (f := 109) rfl ?_); refine goesL_ (some 7) rfl rfl Try.func109 (by kernel_rfl) rfl #[.int .i64 a0, .int .i64 a1] rfl (by (try simp only [List.map_toArray, List.map_cons, List.map_nil]); first | done | rfl | (simp only [List.length_drop, List.length_take]; rfl)) ?_; (with_reducible refine (field_May.calls a0 a1 true _ A3.out).mono ?_); rintro e w' ⟨rfl, ⟨nd, rfl⟩⟩; refine ⟨_, rfl, ?_⟩))
        go_ret
        exact ⟨by first | rfl | (simp; done) | (simp only [← hji5, ← hji7, ← hji9] <;> (first | rfl | simp)) | (simp [*]; done), by repeat (first | exact Drawn0.refl _ | apply Drawn0.step)⟩
      · rw [if_neg c8] at H
        exact absurd H (by simp)
    · rw [if_neg c6] at H
      exact absurd H (by simp)
  · replace c4 := Bool.eq_false_iff.mpr c4
    subst c4
    have H1 : (some 0) = some r := by rw [if_neg (show ¬ (false = true) by decide)] at H; exact H
    clear H
    have H := H1
    clear H1
    obtain rfl := Option.some.inj H
    go_enter Try.func110, Try.ntmps110
    go_wp2_with (first | ((with_reducible refine gate_callee (f := 109) rfl ?_); refine goesL_ (some 7) rfl rfl Try.func109 (by kernel_rfl) rfl #[.int .i64 a0, .int .i64 a1] rfl (by (try simp only [List.map_toArray, List.map_cons, List.map_nil]); first | done | rfl | (simp only [List.length_drop, List.length_take]; rfl)) ?_; (with_reducible refine (field_May.calls a0 a1 false _ A3.out).mono ?_); rintro e w' ⟨rfl, ⟨nd, rfl⟩⟩; refine ⟨_, rfl, ?_⟩))
    go_ret
    exact ⟨by first | rfl | (simp; done) | (simp [*]; done), by repeat (first | exact Drawn0.refl _ | apply Drawn0.step)⟩

/-! ### field_Get: function 89 -/
def field_Get.f (a0 : Int) (a1 : Int) (a2 : Int) : Option (Int) := (field_May.f a1 a2).bind fun t209 => (if t209 = true then ((field_Mask.f a1 a2).bind fun t210 => (if 0 ≤ a1 then (some (shr .u64 (Go.bits .and .u64 a0 t210) a1)) else (none))) else (some 0))
set_option maxHeartbeats 8000000 in
set_option maxRecDepth 100000 in
theorem field_Get.calls (a0 : Int) (a1 : Int) (a2 : Int) (r : Int) (w : World) (h : field_Get.f a0 a1 a2 = some r) :
    Calls Try.prog 89 #[.int .u64 a0, .int .i64 a1, .int .i64 a2] w fun e w' => e = .returned (.int .u64 r) ∧ Drawn0 w w' := by
  have H : ((field_May.f a1 a2).bind fun t209 => (if t209 = true then ((field_Mask.f a1 a2).bind fun t210 => (if 0 ≤ a1 then (some (shr .u64 (Go.bits .and .u64 a0 t210) a1)) else (none))) else (some 0))) = some r := h
  clear h
  replace H := Option.bind_eq_some_iff.mp H
  obtain ⟨t209, A40, H⟩ := H
  replace H : (if t209 = true then ((field_Mask.f a1 a2).bind fun t210 => (if 0 ≤ a1 then (some (shr .u64 (Go.bits .and .u64 a0 t210) a1)) else (none))) else (some 0)) = some r := H
  have A4 := Aside0.mk A40
  clear A40
  by_cases c5 : t209 = true
  · subst c5
    have H1 : ((field_Mask.f a1 a2).bind fun t210 => (if 0 ≤ a1 then (some (shr .u64 (Go.bits .and .u64 a0 t210) a1)) else (none))) = some r := by rw [if_pos rfl] at H; exact H
    clear H
    have H := H1
    clear H1
    replace H := Option.bind_eq_some_iff.mp H
    obtain ⟨t210, A60, H⟩ := H
    replace H : (if 0 ≤ a1 then (some (shr .u64 (Go.bits .and .u64 a0 t210) a1)) else (none)) = some r := H
    have A6 := Aside0.mk A60
    clear A60
    by_cases c7 : 0 ≤ a1
    · rw [if_pos c7] at H
      have c7b0 := eq_true c7
      have c7b1 : decide (0 ≤ a1) = true := decide_eq_true c7
      clear c7
      obtain ⟨ji8, hji8⟩ : ∃ j_ : Int, (shr .u64 (Go.bits .and .u64 a0 t210) a1) = j_ := ⟨_, rfl⟩
      replace H : (some ji8) = some r := by first | (rw [hji8] at H; exact H) | (simp only [hji8] at H ⊢; exact H)
      (try rw [hji8] at A4)
      (try rw [hji8] at A6)
      have hji8_ : ((Go.bits .and .u64 a0 t210) / 2 ^ min a1.toNat 64) = ji8 := hji8
      have hji8z : a1 ≤ 64 → ((Go.bits .and .u64 a0 t210) / 2 ^ a1.toNat) = ji8 := shr_small hji8
      obtain rfl := Option.some.inj H
      go_enter Try.func89, Try.ntmps89
      go_wp2_with (first | ((with_reducible refine gate_callee (f := 109) rfl ?_); refine goesL_ (some 9) rfl rfl Try.func109 (by kernel_rfl) rfl #[.int .i64 a1, .int .i64 a2] rfl (by (try simp only [List.map_toArray, List.map_cons, List.map_nil]); first | done | rfl | (simp only [List.length_drop, List.length_take]; rfl)) ?_; (with_reducible refine (field_May.calls a1 a2 true _ A4.out).mono ?_); rintro e w' ⟨rfl, ⟨nd, rfl⟩⟩; refine ⟨_, rfl, ?_⟩) | ((with_reducible refine gate_callee (f := 110) rfl ?_); refine goesL_ (some 14) rfl rfl Try.func110 (by kernel_rfl) rfl #[.int .i64 a1, .int .i64 a2] rfl (by (try simp only [List.map_toArray, List.map_cons, List.map_nil]); first | done | rfl | (simp only [List.length_drop, List.length_take]; rfl)) ?_; (with_reducible refine (field_Mask.calls a1 a2 t210 _ A6.out).mono ?_); rintro e w' ⟨rfl, ⟨nd, rfl⟩⟩; refine ⟨_, rfl, ?_⟩))
      go_ret
      exact ⟨by first | rfl | (simp; done) | (simp only [← hji8] <;> (first | rfl | simp)) | (simp [*]; done), by repeat (first | exact Drawn0.refl _ | apply Drawn0.step)⟩
    · rw [if_neg c7] at H
      exact absurd H (by simp)
  · replace c5 := Bool.eq_false_iff.mpr c5
    subst c5
    have H1 : (some 0) = some r := by rw [if_neg (show ¬ (false = true) by decide)] at H; exact H
    clear H
    have H := H1
    clear H1
    obtain rfl := Option.some.inj H
    go_enter Try.func89, Try.ntmps89
    go_wp2_with (first | ((with_reducible refine gate_callee (f := 109) rfl ?_); refine goesL_ (some 9) rfl rfl Try.func109 (by kernel_rfl) rfl #[.int .i64 a1, .int .i64 a2] rfl (by (try simp only [List.map_toArray, List.map_cons, List.map_nil]); first | done | rfl | (simp only [List.length_drop, List.length_take]; rfl)) ?_; (with_reducible refine (field_May.calls a1 a2 false _ A4.out).mono ?_); rintro e w' ⟨rfl, ⟨nd, rfl⟩⟩; refine ⟨_, rfl, ?_⟩))
    go_ret
    exact ⟨by first | rfl | (simp; done) | (simp [*]; done), by repeat (first | exact Drawn0.refl _ | apply Drawn0.step)⟩

/-! ### page_Hole: function 68 -/
def page_Hole.f (a0 : Int) : Option (Bool) := (field_Get.f a0 43 21).bind fun t211 => (if t211 = 0 then (some false) else (some (t211 != 2097151)))
set_option maxHeartbeats 8000000 in
set_option maxRecDepth 100000 in
theorem page_Hole.calls (a0 : Int) (r : Bool) (w : World) (h : page_Hole.f a0 = some r) :
    Calls Try.prog 68 #[.int .u64 a0] w fun e w' => e = .returned (.bool r) ∧ Drawn0 w w' := by
  have H : ((field_Get.f a0 43 21).bind fun t211 => (if t211 = 0 then (some false) else (some (t211 != 2097151)))) = some r := h
  clear h
  replace H := Option.bind_eq_some_iff.mp H
  obtain ⟨t211, A20, H⟩ := H
  replace H : (if t211 = 0 then (some false) else (some (t211 != 2097151))) = some r := H
  have A2 := Aside0.mk A20
  clear A20
  by_cases c3 : t211 = 0
  · rw [if_pos c3] at H
    have c3b0 : (t211 == 0) = true := beq_iff_eq.mpr c3
    have c3b1 : (t211 != 0) = false := bne_eq_false_iff_eq.mpr c3
    clear c3
    obtain rfl := Option.some.inj H
    go_enter Try.func68, Try.ntmps68
    go_wp2_with (first | ((with_reducible refine gate_callee (f := 89) rfl ?_); refine goesL_ (some 5) rfl rfl Try.func89 (by kernel_rfl) rfl #[.int .u64 a0, .int .i64 43, .int .i64 21] rfl (by (try simp only [List.map_toArray, List.map_cons, List.map_nil]); first | done | rfl | (simp only [List.length_drop, List.length_take]; rfl)) ?_; (with_reducible refine (field_Get.calls a0 43 21 t211 _ A2.out).mono ?_); rintro e w' ⟨rfl, ⟨nd, rfl⟩⟩; refine ⟨_, rfl, ?_⟩))
    go_ret
    exact ⟨by first | rfl | (simp; done) | (simp [*]; done), by repeat (first | exact Drawn0.refl _ | apply Drawn0.step)⟩
  · rw [if_neg c3] at H
    have c3b0 : (t211 == 0) = false := beq_eq_false_iff_ne.mpr c3
    have c3b1 : (t211 != 0) = true := bne_iff_ne.mpr c3
    obtain rfl := Option.some.inj H
    go_enter Try.func68, Try.ntmps68
    go_wp2_with (first | ((with_reducible refine gate_callee (f := 89) rfl ?_); refine goesL_ (some 5) rfl rfl Try.func89 (by kernel_rfl) rfl #[.int .u64 a0, .int .i64 43, .int .i64 21] rfl (by (try simp only [List.map_toArray, List.map_cons, List.map_nil]); first | done | rfl | (simp only [List.length_drop, List.length_take]; rfl)) ?_; (with_reducible refine (field_Get.calls a0 43 21 t211 _ A2.out).mono ?_); rintro e w' ⟨rfl, ⟨nd, rfl⟩⟩; refine ⟨_, rfl, ?_⟩))
    go_ret
    exact ⟨by first | rfl | (simp; done) | (simp [*]; done), by repeat (first | exact Drawn0.refl _ | apply Drawn0.step)⟩

/-- THE ONE PURE STATEMENT of page_Hole: yours. -/
def page_Hole.Pure : Prop := ∀ (a0 : Int), (Lit.int .u64 a0).wf = true → page_Hole.f a0 = some true
theorem page_Hole.walk (P : page_Hole.Pure) (a0 : Int) (w : World) (w0 : (Lit.int .u64 a0).wf = true) :
    Calls Try.prog 68 #[.int .u64 a0] w fun e w' => e = .returned (.bool true) ∧ Below w.heap.size w w' := by
  have h := P a0 w0
  refine (page_Hole.calls a0 true w h).mono ?_
  rintro e w' ⟨rfl, hd⟩
  exact ⟨rfl, hd.below⟩

/-! ### page_May: function 69 -/
def page_May.f (a0 : Int) : Option (Bool) := if a0 ≥ 0 then (some (decide (a0 < 4))) else (some false)
set_option maxHeartbeats 8000000 in
set_option maxRecDepth 100000 in
theorem page_May.calls (a0 : Int) (r : Bool) (w : World) (h : page_May.f a0 = some r) :
    Calls Try.prog 69 #[.int .i64 a0] w fun e w' => e = .returned (.bool r) ∧ Drawn0 w w' := by
  have H : (if a0 ≥ 0 then (some (decide (a0 < 4))) else (some false)) = some r := h
  clear h
  by_cases c2 : a0 ≥ 0
  · rw [if_pos c2] at H
    have c2b0 : decide (0 ≤ a0) = true := decide_eq_true c2
    clear c2
    obtain rfl := Option.some.inj H
    go_enter Try.func69, Try.ntmps69
    go_wp2
    go_ret
    exact ⟨by first | rfl | (simp; done) | (simp [*]; done), by repeat (first | exact Drawn0.refl _ | apply Drawn0.step)⟩
  · rw [if_neg c2] at H
    have c2b0 : decide (0 ≤ a0) = false := decide_eq_false c2
    clear c2
    obtain rfl := Option.some.inj H
    go_enter Try.func69, Try.ntmps69
    go_wp2
    go_ret
    exact ⟨by first | rfl | (simp; done) | (simp [*]; done), by repeat (first | exact Drawn0.refl _ | apply Drawn0.step)⟩

end Go.Proofs.Ytalmemcidbmdgaa.PM

-- written by xprint.py, a program of this session, over the kit's print (functions told by hand: see the texts)
namespace Go.Proofs.Ytalmemcidbmdgaa.PM
open Go.RowKit Go.Proofs.YtalmemcidbmdgaaW.PrintWords Go.Proofs.YtalmemcidbmdgaaW.PrintLast Go.Proofs.YtalmemcidbmdgaaW.PrintMore
attribute [local go_sem] max2_int min2_int max_two min_two max_three min_three max_four min_four   -- for this text's walks alone
set_option linter.unusedVariables false
set_option linter.unusedSimpArgs false

/-! ### page_Bits: function 106 -/
def page_Bits.f (a0 : Int) : Option (Int) := (page_May.f a0).bind fun t212 => (if t212 = true then (some (wrap64 (13 + (wrap64 (3 * a0))))) else (some 0))
set_option maxHeartbeats 8000000 in
set_option maxRecDepth 100000 in
theorem page_Bits.calls (a0 : Int) (r : Int) (w : World) (h : page_Bits.f a0 = some r) :
    Calls Try.prog 106 #[.int .i64 a0] w fun e w' => e = .returned (.int .i64 r) ∧ Drawn0 w w' := by
  have H : ((page_May.f a0).bind fun t212 => (if t212 = true then (some (wrap64 (13 + (wrap64 (3 * a0))))) else (some 0))) = some r := h
  clear h
  replace H := Option.bind_eq_some_iff.mp H
  obtain ⟨t212, A20, H⟩ := H
  replace H : (if t212 = true then (some (wrap64 (13 + (wrap64 (3 * a0))))) else (some 0)) = some r := H
  have A2 := Aside0.mk A20
  clear A20
  by_cases c3 : t212 = true
  · subst c3
    have H1 : (some (wrap64 (13 + (wrap64 (3 * a0))))) = some r := by rw [if_pos rfl] at H; exact H
    clear H
    have H := H1
    clear H1
    obtain rfl := Option.some.inj H
    go_enter Try.func106, Try.ntmps106
    go_wp2_with (first | ((with_reducible refine gate_callee (f := 69) rfl ?_); refine goesL_ (some 4) rfl rfl Try.func69 (by kernel_rfl) rfl #[.int .i64 a0] rfl (by (try simp only [List.map_toArray, List.map_cons, List.map_nil]); first | done | rfl | (simp only [List.length_drop, List.length_take]; rfl)) ?_; (with_reducible refine (page_May.calls a0 true _ A2.out).mono ?_); rintro e w' ⟨rfl, ⟨nd, rfl⟩⟩; refine ⟨_, rfl, ?_⟩))
    go_ret
    exact ⟨by first | rfl | (simp; done) | (simp [*]; done), by repeat (first | exact Drawn0.refl _ | apply Drawn0.step)⟩
  · replace c3 := Bool.eq_false_iff.mpr c3
    subst c3
    have H1 : (some 0) = some r := by rw [if_neg (show ¬ (false = true) by decide)] at H; exact H
    clear H
    have H := H1
    clear H1
    obtain rfl := Option.some.inj H
    go_enter Try.func106, Try.ntmps106
    go_wp2_with (first | ((with_reducible refine gate_callee (f := 69) rfl ?_); refine goesL_ (some 4) rfl rfl Try.func69 (by kernel_rfl) rfl #[.int .i64 a0] rfl (by (try simp only [List.map_toArray, List.map_cons, List.map_nil]); first | done | rfl | (simp only [List.length_drop, List.length_take]; rfl)) ?_; (with_reducible refine (page_May.calls a0 false _ A2.out).mono ?_); rintro e w' ⟨rfl, ⟨nd, rfl⟩⟩; refine ⟨_, rfl, ?_⟩))
    go_ret
    exact ⟨by first | rfl | (simp; done) | (simp [*]; done), by repeat (first | exact Drawn0.refl _ | apply Drawn0.step)⟩

/-! ### page_Offset: function 80 -/
def page_Offset.f (a0 : Int) (a1 : Int) : Option (Int) := (page_May.f a1).bind fun t213 => (if t213 = true then ((page_Bits.f a1).bind fun t214 => ((field_Get.f a0 0 t214).bind fun t215 => (some t215))) else (some 0))
set_option maxHeartbeats 8000000 in
set_option maxRecDepth 100000 in
theorem page_Offset.calls (a0 : Int) (a1 : Int) (r : Int) (w : World) (h : page_Offset.f a0 a1 = some r) :
    Calls Try.prog 80 #[.int .u64 a0, .int .i64 a1] w fun e w' => e = .returned (.int .u64 r) ∧ Drawn0 w w' := by
  have H : ((page_May.f a1).bind fun t213 => (if t213 = true then ((page_Bits.f a1).bind fun t214 => ((field_Get.f a0 0 t214).bind fun t215 => (some t215))) else (some 0))) = some r := h
  clear h
  replace H := Option.bind_eq_some_iff.mp H
  obtain ⟨t213, A30, H⟩ := H
  replace H : (if t213 = true then ((page_Bits.f a1).bind fun t214 => ((field_Get.f a0 0 t214).bind fun t215 => (some t215))) else (some 0)) = some r := H
  have A3 := Aside0.mk A30
  clear A30
  by_cases c4 : t213 = true
  · subst c4
    have H1 : ((page_Bits.f a1).bind fun t214 => ((field_Get.f a0 0 t214).bind fun t215 => (some t215))) = some r := by rw [if_pos rfl] at H; exact H
    clear H
    have H := H1
    clear H1
    replace H := Option.bind_eq_some_iff.mp H
    obtain ⟨t214, A50, H⟩ := H
    replace H : ((field_Get.f a0 0 t214).bind fun t215 => (some t215)) = some r := H
    have A5 := Aside0.mk A50
    clear A50
    replace H := Option.bind_eq_some_iff.mp H
    obtain ⟨t215, A60, H⟩ := H
    replace H : (some t215) = some r := H
    have A6 := Aside0.mk A60
    clear A60
    obtain rfl := Option.some.inj H
    go_enter Try.func80, Try.ntmps80
    go_wp2_with (first | ((with_reducible refine gate_callee (f := 69) rfl ?_); refine goesL_ (some 6) rfl rfl Try.func69 (by kernel_rfl) rfl #[.int .i64 a1] rfl (by (try simp only [List.map_toArray, List.map_cons, List.map_nil]); first | done | rfl | (simp only [List.length_drop, List.length_take]; rfl)) ?_; (with_reducible refine (page_May.calls a1 true _ A3.out).mono ?_); rintro e w' ⟨rfl, ⟨nd, rfl⟩⟩; refine ⟨_, rfl, ?_⟩) | ((with_reducible refine gate_callee (f := 106) rfl ?_); refine goesL_ (some 10) rfl rfl Try.func106 (by kernel_rfl) rfl #[.int .i64 a1] rfl (by (try simp only [List.map_toArray, List.map_cons, List.map_nil]); first | done | rfl | (simp only [List.length_drop, List.length_take]; rfl)) ?_; (with_reducible refine (page_Bits.calls a1 t214 _ A5.out).mono ?_); rintro e w' ⟨rfl, ⟨nd, rfl⟩⟩; refine ⟨_, rfl, ?_⟩) | ((with_reducible refine gate_callee (f := 89) rfl ?_); refine goesL_ (some 11) rfl rfl Try.func89 (by kernel_rfl) rfl #[.int .u64 a0, .int .i64 0, .int .i64 t214] rfl (by (try simp only [List.map_toArray, List.map_cons, List.map_nil]); first | done | rfl | (simp only [List.length_drop, List.length_take]; rfl)) ?_; (with_reducible refine (field_Get.calls a0 0 t214 t215 _ A6.out).mono ?_); rintro e w' ⟨rfl, ⟨nd, rfl⟩⟩; refine ⟨_, rfl, ?_⟩))
    go_ret
    exact ⟨by first | rfl | (simp; done) | (simp [*]; done), by repeat (first | exact Drawn0.refl _ | apply Drawn0.step)⟩
  · replace c4 := Bool.eq_false_iff.mpr c4
    subst c4
    have H1 : (some 0) = some r := by rw [if_neg (show ¬ (false = true) by decide)] at H; exact H
    clear H
    have H := H1
    clear H1
    obtain rfl := Option.some.inj H
    go_enter Try.func80, Try.ntmps80
    go_wp2_with (first | ((with_reducible refine gate_callee (f := 69) rfl ?_); refine goesL_ (some 6) rfl rfl Try.func69 (by kernel_rfl) rfl #[.int .i64 a1] rfl (by (try simp only [List.map_toArray, List.map_cons, List.map_nil]); first | done | rfl | (simp only [List.length_drop, List.length_take]; rfl)) ?_; (with_reducible refine (page_May.calls a1 false _ A3.out).mono ?_); rintro e w' ⟨rfl, ⟨nd, rfl⟩⟩; refine ⟨_, rfl, ?_⟩))
    go_ret
    exact ⟨by first | rfl | (simp; done) | (simp [*]; done), by repeat (first | exact Drawn0.refl _ | apply Drawn0.step)⟩

/-! ### page_Base: function 79 -/
def page_Base.f (a0 : Int) (a1 : Int) : Option (Int) := (page_May.f a1).bind fun t216 => (if t216 = true then ((page_Offset.f a0 a1).bind fun t217 => (some (IntKind.u64.wrap (a0 - t217)))) else (some 0))
set_option maxHeartbeats 8000000 in
set_option maxRecDepth 100000 in
theorem page_Base.calls (a0 : Int) (a1 : Int) (r : Int) (w : World) (h : page_Base.f a0 a1 = some r) :
    Calls Try.prog 79 #[.int .u64 a0, .int .i64 a1] w fun e w' => e = .returned (.int .u64 r) ∧ Drawn0 w w' := by
  have H : ((page_May.f a1).bind fun t216 => (if t216 = true then ((page_Offset.f a0 a1).bind fun t217 => (some (IntKind.u64.wrap (a0 - t217)))) else (some 0))) = some r := h
  clear h
  replace H := Option.bind_eq_some_iff.mp H
  obtain ⟨t216, A30, H⟩ := H
  replace H : (if t216 = true then ((page_Offset.f a0 a1).bind fun t217 => (some (IntKind.u64.wrap (a0 - t217)))) else (some 0)) = some r := H
  have A3 := Aside0.mk A30
  clear A30
  by_cases c4 : t216 = true
  · subst c4
    have H1 : ((page_Offset.f a0 a1).bind fun t217 => (some (IntKind.u64.wrap (a0 - t217)))) = some r := by rw [if_pos rfl] at H; exact H
    clear H
    have H := H1
    clear H1
    replace H := Option.bind_eq_some_iff.mp H
    obtain ⟨t217, A50, H⟩ := H
    replace H : (some (IntKind.u64.wrap (a0 - t217))) = some r := H
    have A5 := Aside0.mk A50
    clear A50
    obtain rfl := Option.some.inj H
    go_enter Try.func79, Try.ntmps79
    go_wp2_with (first | ((with_reducible refine gate_callee (f := 69) rfl ?_); refine goesL_ (some 6) rfl rfl Try.func69 (by kernel_rfl) rfl #[.int .i64 a1] rfl (by (try simp only [List.map_toArray, List.map_cons, List.map_nil]); first | done | rfl | (simp only [List.length_drop, List.length_take]; rfl)) ?_; (with_reducible refine (page_May.calls a1 true _ A3.out).mono ?_); rintro e w' ⟨rfl, ⟨nd, rfl⟩⟩; refine ⟨_, rfl, ?_⟩) | ((with_reducible refine gate_callee (f := 80) rfl ?_); refine goesL_ (some 11) rfl rfl Try.func80 (by kernel_rfl) rfl #[.int .u64 a0, .int .i64 a1] rfl (by (try simp only [List.map_toArray, List.map_cons, List.map_nil]); first | done | rfl | (simp only [List.length_drop, List.length_take]; rfl)) ?_; (with_reducible refine (page_Offset.calls a0 a1 t217 _ A5.out).mono ?_); rintro e w' ⟨rfl, ⟨nd, rfl⟩⟩; refine ⟨_, rfl, ?_⟩))
    go_ret
    exact ⟨by first | rfl | (simp; done) | (simp [*]; done), by repeat (first | exact Drawn0.refl _ | apply Drawn0.step)⟩
  · replace c4 := Bool.eq_false_iff.mpr c4
    subst c4
    have H1 : (some 0) = some r := by rw [if_neg (show ¬ (false = true) by decide)] at H; exact H
    clear H
    have H := H1
    clear H1
    obtain rfl := Option.some.inj H
    go_enter Try.func79, Try.ntmps79
    go_wp2_with (first | ((with_reducible refine gate_callee (f := 69) rfl ?_); refine goesL_ (some 6) rfl rfl Try.func69 (by kernel_rfl) rfl #[.int .i64 a1] rfl (by (try simp only [List.map_toArray, List.map_cons, List.map_nil]); first | done | rfl | (simp only [List.length_drop, List.length_take]; rfl)) ?_; (with_reducible refine (page_May.calls a1 false _ A3.out).mono ?_); rintro e w' ⟨rfl, ⟨nd, rfl⟩⟩; refine ⟨_, rfl, ?_⟩))
    go_ret
    exact ⟨by first | rfl | (simp; done) | (simp [*]; done), by repeat (first | exact Drawn0.refl _ | apply Drawn0.step)⟩

/-! ### page_In: function 111 -/
def page_In.f (a0 : Int) (a1 : Int) (a2 : Int) : Option (Bool) := (page_May.f a2).bind fun t218 => (if t218 = true then ((page_Base.f a0 a2).bind fun t219 => ((page_Base.f a1 a2).bind fun t220 => (some (t219 == t220)))) else (some false))
set_option maxHeartbeats 8000000 in
set_option maxRecDepth 100000 in
theorem page_In.calls (a0 : Int) (a1 : Int) (a2 : Int) (r : Bool) (w : World) (h : page_In.f a0 a1 a2 = some r) :
    Calls Try.prog 111 #[.int .u64 a0, .int .u64 a1, .int .i64 a2] w fun e w' => e = .returned (.bool r) ∧ Drawn0 w w' := by
  have H : ((page_May.f a2).bind fun t218 => (if t218 = true then ((page_Base.f a0 a2).bind fun t219 => ((page_Base.f a1 a2).bind fun t220 => (some (t219 == t220)))) else (some false))) = some r := h
  clear h
  replace H := Option.bind_eq_some_iff.mp H
  obtain ⟨t218, A40, H⟩ := H
  replace H : (if t218 = true then ((page_Base.f a0 a2).bind fun t219 => ((page_Base.f a1 a2).bind fun t220 => (some (t219 == t220)))) else (some false)) = some r := H
  have A4 := Aside0.mk A40
  clear A40
  by_cases c5 : t218 = true
  · subst c5
    have H1 : ((page_Base.f a0 a2).bind fun t219 => ((page_Base.f a1 a2).bind fun t220 => (some (t219 == t220)))) = some r := by rw [if_pos rfl] at H; exact H
    clear H
    have H := H1
    clear H1
    replace H := Option.bind_eq_some_iff.mp H
    obtain ⟨t219, A60, H⟩ := H
    replace H : ((page_Base.f a1 a2).bind fun t220 => (some (t219 == t220))) = some r := H
    have A6 := Aside0.mk A60
    clear A60
    replace H := Option.bind_eq_some_iff.mp H
    obtain ⟨t220, A70, H⟩ := H
    replace H : (some (t219 == t220)) = some r := H
    have A7 := Aside0.mk A70
    clear A70
    obtain rfl := Option.some.inj H
    go_enter Try.func111, Try.ntmps111
    go_wp2_with (first | ((with_reducible refine gate_callee (f := 69) rfl ?_); refine goesL_ (some 8) rfl rfl Try.func69 (by kernel_rfl) rfl #[.int .i64 a2] rfl (by (try simp only [List.map_toArray, List.map_cons, List.map_nil]); first | done | rfl | (simp only [List.length_drop, List.length_take]; rfl)) ?_; (with_reducible refine (page_May.calls a2 true _ A4.out).mono ?_); rintro e w' ⟨rfl, ⟨nd, rfl⟩⟩; refine ⟨_, rfl, ?_⟩) | (go_at_call 79; (with_reducible refine (page_Base.calls a0 a2 t219 _ A6.out).mono ?_); rintro e w' ⟨rfl, ⟨nd, rfl⟩⟩) | (go_at_call 79; (with_reducible refine (page_Base.calls a1 a2 t220 _ A7.out).mono ?_); rintro e w' ⟨rfl, ⟨nd, rfl⟩⟩))
    go_ret
    exact ⟨by first | rfl | (simp; done) | (simp [*]; done), by repeat (first | exact Drawn0.refl _ | apply Drawn0.step)⟩
  · replace c5 := Bool.eq_false_iff.mpr c5
    subst c5
    have H1 : (some false) = some r := by rw [if_neg (show ¬ (false = true) by decide)] at H; exact H
    clear H
    have H := H1
    clear H1
    obtain rfl := Option.some.inj H
    go_enter Try.func111, Try.ntmps111
    go_wp2_with (first | ((with_reducible refine gate_callee (f := 69) rfl ?_); refine goesL_ (some 8) rfl rfl Try.func69 (by kernel_rfl) rfl #[.int .i64 a2] rfl (by (try simp only [List.map_toArray, List.map_cons, List.map_nil]); first | done | rfl | (simp only [List.length_drop, List.length_take]; rfl)) ?_; (with_reducible refine (page_May.calls a2 false _ A4.out).mono ?_); rintro e w' ⟨rfl, ⟨nd, rfl⟩⟩; refine ⟨_, rfl, ?_⟩))
    go_ret
    exact ⟨by first | rfl | (simp; done) | (simp [*]; done), by repeat (first | exact Drawn0.refl _ | apply Drawn0.step)⟩

/-! ### page_Meet: function 91 -/
def page_Meet.f (a0 : Int) (a1 : Int) (a2 : Int) (a3 : Int) : Option (Bool) := (page_May.f a1).bind fun t221 => (if t221 = true then ((page_May.f a3).bind fun t222 => (if t222 = true then ((page_In.f a0 a2 (mx a1 a3)).bind fun t223 => (some t223)) else (some false))) else (some false))
set_option maxHeartbeats 8000000 in
set_option maxRecDepth 100000 in
theorem page_Meet.calls (a0 : Int) (a1 : Int) (a2 : Int) (a3 : Int) (r : Bool) (w : World) (h : page_Meet.f a0 a1 a2 a3 = some r) :
    Calls Try.prog 91 #[.int .u64 a0, .int .i64 a1, .int .u64 a2, .int .i64 a3] w fun e w' => e = .returned (.bool r) ∧ Below w.heap.size w w' := by
  have HB := Aside0.mk (Below.refl w.heap.size w)
  have H : ((page_May.f a1).bind fun t221 => (if t221 = true then ((page_May.f a3).bind fun t222 => (if t222 = true then ((page_In.f a0 a2 (mx a1 a3)).bind fun t223 => (some t223)) else (some false))) else (some false))) = some r := h
  clear h
  replace H := Option.bind_eq_some_iff.mp H
  obtain ⟨t221, A50, H⟩ := H
  replace H : (if t221 = true then ((page_May.f a3).bind fun t222 => (if t222 = true then ((page_In.f a0 a2 (mx a1 a3)).bind fun t223 => (some t223)) else (some false))) else (some false)) = some r := H
  have A5 := Aside0.mk A50
  clear A50
  by_cases c6 : t221 = true
  · subst c6
    have H1 : ((page_May.f a3).bind fun t222 => (if t222 = true then ((page_In.f a0 a2 (mx a1 a3)).bind fun t223 => (some t223)) else (some false))) = some r := by rw [if_pos rfl] at H; exact H
    clear H
    have H := H1
    clear H1
    replace H := Option.bind_eq_some_iff.mp H
    obtain ⟨t222, A70, H⟩ := H
    replace H : (if t222 = true then ((page_In.f a0 a2 (mx a1 a3)).bind fun t223 => (some t223)) else (some false)) = some r := H
    have A7 := Aside0.mk A70
    clear A70
    by_cases c8 : t222 = true
    · subst c8
      have H1 : ((page_In.f a0 a2 (mx a1 a3)).bind fun t223 => (some t223)) = some r := by rw [if_pos rfl] at H; exact H
      clear H
      have H := H1
      clear H1
      obtain ⟨ji9, hji9⟩ : ∃ j_ : Int, (mx a1 a3) = j_ := ⟨_, rfl⟩
      replace H : ((page_In.f a0 a2 (ji9)).bind fun t223 => (some t223)) = some r := by first | (rw [hji9] at H; exact H) | (simp only [hji9] at H ⊢; exact H)
      (try rw [hji9] at A5)
      (try rw [hji9] at A7)
      have hji9_ : (if a1 < a3 then a3 else a1) = ji9 := hji9
      replace H := Option.bind_eq_some_iff.mp H
      obtain ⟨t223, A100, H⟩ := H
      replace H : (some t223) = some r := H
      have A10 := Aside0.mk A100
      clear A100
      obtain rfl := Option.some.inj H
      go_enter Try.func91, Try.ntmps91
      go_wp2_with (first | ((with_reducible refine gate_callee (f := 69) rfl ?_); refine goesL_ (some 10) rfl rfl Try.func69 (by kernel_rfl) rfl #[.int .i64 a1] rfl (by (try simp only [List.map_toArray, List.map_cons, List.map_nil]); first | done | rfl | (simp only [List.length_drop, List.length_take]; rfl)) ?_; (with_reducible refine (page_May.calls a1 true _ A5.out).mono ?_); rintro e w' ⟨rfl, ⟨nd, rfl⟩⟩; refine ⟨_, rfl, ?_⟩) | (go_at_call 69; (with_reducible refine (page_May.calls a3 true _ A7.out).mono ?_); rintro e w' ⟨rfl, ⟨nd, rfl⟩⟩) | (go_at_call 111; (with_reducible refine (page_In.calls a0 a2 ji9 t223 _ A10.out).mono ?_); rintro e w' ⟨rfl, ⟨nd, rfl⟩⟩))
      go_ret
      exact ⟨by first | rfl | (simp [errW_none, errW_some] <;> rfl) | (simp only [← hji9]; first | rfl | (simp [errW_none, errW_some] <;> rfl)) | (simp [*, errW_none, errW_some] <;> rfl), by repeat (first | (with_reducible first | exact HB.out | apply below_alloc | apply pw_below_drewN | apply below_drew1) | exact HB.out)⟩
    · replace c8 := Bool.eq_false_iff.mpr c8
      subst c8
      have H1 : (some false) = some r := by rw [if_neg (show ¬ (false = true) by decide)] at H; exact H
      clear H
      have H := H1
      clear H1
      obtain rfl := Option.some.inj H
      go_enter Try.func91, Try.ntmps91
      go_wp2_with (first | ((with_reducible refine gate_callee (f := 69) rfl ?_); refine goesL_ (some 10) rfl rfl Try.func69 (by kernel_rfl) rfl #[.int .i64 a1] rfl (by (try simp only [List.map_toArray, List.map_cons, List.map_nil]); first | done | rfl | (simp only [List.length_drop, List.length_take]; rfl)) ?_; (with_reducible refine (page_May.calls a1 true _ A5.out).mono ?_); rintro e w' ⟨rfl, ⟨nd, rfl⟩⟩; refine ⟨_, rfl, ?_⟩) | (go_at_call 69; (with_reducible refine (page_May.calls a3 false _ A7.out).mono ?_); rintro e w' ⟨rfl, ⟨nd, rfl⟩⟩))
      go_ret
      exact ⟨by first | rfl | (simp [errW_none, errW_some] <;> rfl) | (simp [*, errW_none, errW_some] <;> rfl), by repeat (first | (with_reducible first | exact HB.out | apply below_alloc | apply pw_below_drewN | apply below_drew1) | exact HB.out)⟩
  · replace c6 := Bool.eq_false_iff.mpr c6
    subst c6
    have H1 : (some false) = some r := by rw [if_neg (show ¬ (false = true) by decide)] at H; exact H
    clear H
    have H := H1
    clear H1
    obtain rfl := Option.some.inj H
    go_enter Try.func91, Try.ntmps91
    go_wp2_with (first | ((with_reducible refine gate_callee (f := 69) rfl ?_); refine goesL_ (some 10) rfl rfl Try.func69 (by kernel_rfl) rfl #[.int .i64 a1] rfl (by (try simp only [List.map_toArray, List.map_cons, List.map_nil]); first | done | rfl | (simp only [List.length_drop, List.length_take]; rfl)) ?_; (with_reducible refine (page_May.calls a1 false _ A5.out).mono ?_); rintro e w' ⟨rfl, ⟨nd, rfl⟩⟩; refine ⟨_, rfl, ?_⟩))
    go_ret
    exact ⟨by first | rfl | (simp [errW_none, errW_some] <;> rfl) | (simp [*, errW_none, errW_some] <;> rfl), by repeat (first | (with_reducible first | exact HB.out | apply below_alloc | apply pw_below_drewN | apply below_drew1) | exact HB.out)⟩

/-- THE ONE PURE STATEMENT of page_Meet: yours. -/
def page_Meet.Pure : Prop := ∀ (a0 : Int) (a1 : Int) (a2 : Int) (a3 : Int), (Lit.int .u64 a0).wf = true → (Lit.int .i64 a1).wf = true → (Lit.int .u64 a2).wf = true → (Lit.int .i64 a3).wf = true → page_Meet.f a0 a1 a2 a3 = some true
theorem page_Meet.walk (P : page_Meet.Pure) (a0 : Int) (a1 : Int) (a2 : Int) (a3 : Int) (w : World) (w0 : (Lit.int .u64 a0).wf = true) (w1 : (Lit.int .i64 a1).wf = true) (w2 : (Lit.int .u64 a2).wf = true) (w3 : (Lit.int .i64 a3).wf = true) :
    Calls Try.prog 91 #[.int .u64 a0, .int .i64 a1, .int .u64 a2, .int .i64 a3] w fun e w' => e = .returned (.bool true) ∧ Below w.heap.size w w' := by
  have h := P a0 a1 a2 a3 w0 w1 w2 w3
  refine (page_Meet.calls a0 a1 a2 a3 true w h).mono ?_
  rintro e w' ⟨rfl, hd⟩
  exact ⟨rfl, hd⟩

end Go.Proofs.Ytalmemcidbmdgaa.PM

-- written by xprint.py, a program of this session, over the kit's print (functions told by hand: see the texts)
namespace Go.Proofs.Ytalmemcidbmdgaa.PM
open Go.RowKit Go.Proofs.YtalmemcidbmdgaaW.PrintWords Go.Proofs.YtalmemcidbmdgaaW.PrintLast Go.Proofs.YtalmemcidbmdgaaW.PrintMore
attribute [local go_sem] max2_int min2_int max_two min_two max_three min_three max_four min_four   -- for this text's walks alone
set_option linter.unusedVariables false
set_option linter.unusedSimpArgs false

/-! ### page_Starts: function 92 -/
def page_Starts.f (a0 : Int) (a1 : Int) : Option (Bool) := (page_May.f a1).bind fun t224 => (if t224 = true then ((page_Offset.f a0 a1).bind fun t225 => (some (t225 == 0))) else (some false))
set_option maxHeartbeats 8000000 in
set_option maxRecDepth 100000 in
theorem page_Starts.calls (a0 : Int) (a1 : Int) (r : Bool) (w : World) (h : page_Starts.f a0 a1 = some r) :
    Calls Try.prog 92 #[.int .u64 a0, .int .i64 a1] w fun e w' => e = .returned (.bool r) ∧ Drawn0 w w' := by
  have H : ((page_May.f a1).bind fun t224 => (if t224 = true then ((page_Offset.f a0 a1).bind fun t225 => (some (t225 == 0))) else (some false))) = some r := h
  clear h
  replace H := Option.bind_eq_some_iff.mp H
  obtain ⟨t224, A30, H⟩ := H
  replace H : (if t224 = true then ((page_Offset.f a0 a1).bind fun t225 => (some (t225 == 0))) else (some false)) = some r := H
  have A3 := Aside0.mk A30
  clear A30
  by_cases c4 : t224 = true
  · subst c4
    have H1 : ((page_Offset.f a0 a1).bind fun t225 => (some (t225 == 0))) = some r := by rw [if_pos rfl] at H; exact H
    clear H
    have H := H1
    clear H1
    replace H := Option.bind_eq_some_iff.mp H
    obtain ⟨t225, A50, H⟩ := H
    replace H : (some (t225 == 0)) = some r := H
    have A5 := Aside0.mk A50
    clear A50
    obtain rfl := Option.some.inj H
    go_enter Try.func92, Try.ntmps92
    go_wp2_with (first | ((with_reducible refine gate_callee (f := 69) rfl ?_); refine goesL_ (some 6) rfl rfl Try.func69 (by kernel_rfl) rfl #[.int .i64 a1] rfl (by (try simp only [List.map_toArray, List.map_cons, List.map_nil]); first | done | rfl | (simp only [List.length_drop, List.length_take]; rfl)) ?_; (with_reducible refine (page_May.calls a1 true _ A3.out).mono ?_); rintro e w' ⟨rfl, ⟨nd, rfl⟩⟩; refine ⟨_, rfl, ?_⟩) | (go_at_call 80; (with_reducible refine (page_Offset.calls a0 a1 t225 _ A5.out).mono ?_); rintro e w' ⟨rfl, ⟨nd, rfl⟩⟩))
    go_ret
    exact ⟨by first | rfl | (simp; done) | (simp [*]; done), by repeat (first | exact Drawn0.refl _ | apply Drawn0.step)⟩
  · replace c4 := Bool.eq_false_iff.mpr c4
    subst c4
    have H1 : (some false) = some r := by rw [if_neg (show ¬ (false = true) by decide)] at H; exact H
    clear H
    have H := H1
    clear H1
    obtain rfl := Option.some.inj H
    go_enter Try.func92, Try.ntmps92
    go_wp2_with (first | ((with_reducible refine gate_callee (f := 69) rfl ?_); refine goesL_ (some 6) rfl rfl Try.func69 (by kernel_rfl) rfl #[.int .i64 a1] rfl (by (try simp only [List.map_toArray, List.map_cons, List.map_nil]); first | done | rfl | (simp only [List.length_drop, List.length_take]; rfl)) ?_; (with_reducible refine (page_May.calls a1 false _ A3.out).mono ?_); rintro e w' ⟨rfl, ⟨nd, rfl⟩⟩; refine ⟨_, rfl, ?_⟩))
    go_ret
    exact ⟨by first | rfl | (simp; done) | (simp [*]; done), by repeat (first | exact Drawn0.refl _ | apply Drawn0.step)⟩

/-- THE ONE PURE STATEMENT of page_Starts: yours. -/
def page_Starts.Pure : Prop := ∀ (a0 : Int) (a1 : Int), (Lit.int .u64 a0).wf = true → (Lit.int .i64 a1).wf = true → page_Starts.f a0 a1 = some true
theorem page_Starts.walk (P : page_Starts.Pure) (a0 : Int) (a1 : Int) (w : World) (w0 : (Lit.int .u64 a0).wf = true) (w1 : (Lit.int .i64 a1).wf = true) :
    Calls Try.prog 92 #[.int .u64 a0, .int .i64 a1] w fun e w' => e = .returned (.bool true) ∧ Below w.heap.size w w' := by
  have h := P a0 a1 w0 w1
  refine (page_Starts.calls a0 a1 true w h).mono ?_
  rintro e w' ⟨rfl, hd⟩
  exact ⟨rfl, hd.below⟩

end Go.Proofs.Ytalmemcidbmdgaa.PM

-- written by xprint.py, a program of this session, over the kit's print (functions told by hand: see the texts)
namespace Go.Proofs.Ytalmemcidbmdgaa.PM
open Go.RowKit Go.Proofs.YtalmemcidbmdgaaW.PrintWords Go.Proofs.YtalmemcidbmdgaaW.PrintLast Go.Proofs.YtalmemcidbmdgaaW.PrintMore
attribute [local go_sem] max2_int min2_int max_two min_two max_three min_three max_four min_four   -- for this text's walks alone
set_option linter.unusedVariables false
set_option linter.unusedSimpArgs false

/-! ### fault_Judge: function 65 -/
mutual
def fault_Judge.j0 : Nat → Bool → Bool → Bool → Bool → Bool → Bool → Bool → Int → Bool → Int → Option (Int)
  | 0, _, _, _, _, _, _, _, _, _, _ => none
  | k + 1, x5, x227000, x227001, x227002, x227003, x227004, x227005, x228000, x228001, x228002 => if x5 = true then (some 3) else (if x227005 = true then (fault_Judge.j1 k (x228000 != 3) x227000 x227001 x227002 x227003 x227004 x227005 x228000 x228001 x228002) else (fault_Judge.j1 k false x227000 x227001 x227002 x227003 x227004 x227005 x228000 x228001 x228002))
def fault_Judge.j1 : Nat → Bool → Bool → Bool → Bool → Bool → Bool → Bool → Int → Bool → Int → Option (Int)
  | 0, _, _, _, _, _, _, _, _, _, _ => none
  | k + 1, x13, x227000, x227001, x227002, x227003, x227004, x227005, x228000, x228001, x228002 => if x13 = true then (some 4) else (if x228000 = 1 then (fault_Judge.j2 k (!x227000) x227000 x227001 x227002 x227003 x227004 x227005 x228000 x228001 x228002) else (fault_Judge.j2 k false x227000 x227001 x227002 x227003 x227004 x227005 x228000 x228001 x228002))
def fault_Judge.j2 : Nat → Bool → Bool → Bool → Bool → Bool → Bool → Bool → Int → Bool → Int → Option (Int)
  | 0, _, _, _, _, _, _, _, _, _, _ => none
  | k + 1, x21, x227000, x227001, x227002, x227003, x227004, x227005, x228000, x228001, x228002 => if x21 = true then (some 5) else (if x228000 = 2 then (if x227002 = true then (some 0) else (some 6)) else (some 0))
end
def fault_Judge.f (k : Nat) (a0_0 : Bool) (a0_1 : Bool) (a0_2 : Bool) (a0_3 : Bool) (a0_4 : Bool) (a0_5 : Bool) (a1_0 : Int) (a1_1 : Bool) (a1_2 : Int) : Option (Int) := if a0_1 = true then (fault_Judge.j0 k (!a1_1) a0_0 a0_1 a0_2 a0_3 a0_4 a0_5 a1_0 a1_1 a1_2) else (fault_Judge.j0 k false a0_0 a0_1 a0_2 a0_3 a0_4 a0_5 a1_0 a1_1 a1_2)
set_option maxHeartbeats 8000000 in
set_option maxRecDepth 100000 in
theorem fault_Judge.calls (k : Nat) (a0_0 : Bool) (a0_1 : Bool) (a0_2 : Bool) (a0_3 : Bool) (a0_4 : Bool) (a0_5 : Bool) (a1_0 : Int) (a1_1 : Bool) (a1_2 : Int) (r : Int) (w : World) (h : fault_Judge.f k a0_0 a0_1 a0_2 a0_3 a0_4 a0_5 a1_0 a1_1 a1_2 = some r) :
    Calls Try.prog 65 #[.agg #[.bool a0_0, .bool a0_1, .bool a0_2, .bool a0_3, .bool a0_4, .bool a0_5], .agg #[.int .i64 a1_0, .bool a1_1, .int .u64 a1_2]] w fun e w' => e = .returned (.int .i64 r) ∧ Below w.heap.size w w' := by
  obtain ⟨D, hD⟩ : ∃ D, w.heap.size = D := ⟨_, rfl⟩
  go_enter Try.func65, Try.ntmps65
  go_upto_region 1 with fail
  have hz := blk_alloc (blk_new w (.cells #[.bool a0_0, .bool a0_1, .bool a0_2, .bool a0_3, .bool a0_4, .bool a0_5] 34)) (.cells #[.int .i64 a1_0, .bool a1_1, .int .u64 a1_2] 32)
  have hl := blk_new (w.alloc (.cells #[.bool a0_0, .bool a0_1, .bool a0_2, .bool a0_3, .bool a0_4, .bool a0_5] 34)) (.cells #[.int .i64 a1_0, .bool a1_1, .int .u64 a1_2] 32)
  have HB := Aside0.mk (((Below.refl _ w).alloc (Nat.le_refl _) (.cells #[.bool a0_0, .bool a0_1, .bool a0_2, .bool a0_3, .bool a0_4, .bool a0_5] 34)).alloc (by simp) (.cells #[.int .i64 a1_0, .bool a1_1, .int .u64 a1_2] 32))
  rw [World.size_alloc] at hl
  rw [hD] at hz hl
  generalize (w.alloc (.cells #[.bool a0_0, .bool a0_1, .bool a0_2, .bool a0_3, .bool a0_4, .bool a0_5] 34)).alloc (.cells #[.int .i64 a1_0, .bool a1_1, .int .u64 a1_2] 32) = w1 at *
  have x0 : w1.cell? ⟨D, 0, none⟩ = some (.bool a0_0) := (blk_cell hz 0).trans rfl
  have x1 : w1.cell? ⟨D, 1, none⟩ = some (.bool a0_1) := (blk_cell hz 1).trans rfl
  have x2 : w1.cell? ⟨D, 2, none⟩ = some (.bool a0_2) := (blk_cell hz 2).trans rfl
  have x5 : w1.cell? ⟨D, 5, none⟩ = some (.bool a0_5) := (blk_cell hz 5).trans rfl
  have y0 : w1.cell? ⟨D + 1, 0, none⟩ = some (.int .i64 a1_0) := (blk_cell hl 0).trans rfl
  have y1 : w1.cell? ⟨D + 1, 1, none⟩ = some (.bool a1_1) := (blk_cell hl 1).trans rfl
  clear hz hl hD
  by_cases h1 : a1_0 = 1
  · subst h1
    cases a0_0 <;> cases a0_1 <;> cases a0_5 <;> cases a1_1 <;> (go_wp2_with fail; go_ret; refine ⟨?_, HB.out⟩; rcases k with _ | _ | _ | k <;> (simp [fault_Judge.f, fault_Judge.j0, fault_Judge.j1, fault_Judge.j2, *] at h) <;> (subst h; rfl))
  · by_cases h2 : a1_0 = 2
    · subst h2
      cases a0_2 <;> cases a0_1 <;> cases a0_5 <;> cases a1_1 <;> (go_wp2_with fail; go_ret; refine ⟨?_, HB.out⟩; rcases k with _ | _ | _ | k <;> (simp [fault_Judge.f, fault_Judge.j0, fault_Judge.j1, fault_Judge.j2, *] at h) <;> (subst h; rfl))
    · by_cases h3 : a1_0 = 3
      · subst h3
        cases a0_1 <;> cases a0_5 <;> cases a1_1 <;> (go_wp2_with fail; go_ret; refine ⟨?_, HB.out⟩; rcases k with _ | _ | _ | k <;> (simp [fault_Judge.f, fault_Judge.j0, fault_Judge.j1, fault_Judge.j2, *] at h) <;> (subst h; rfl))
      · have b1 : (a1_0 == 1) = false := beq_eq_false_iff_ne.2 h1
        have b2 : (a1_0 == 2) = false := beq_eq_false_iff_ne.2 h2
        have b3 : (a1_0 != 3) = true := by simp [h3]
        cases a0_1 <;> cases a0_5 <;> cases a1_1 <;> (go_wp2_with fail; go_ret; refine ⟨?_, HB.out⟩; rcases k with _ | _ | _ | k <;> (simp [fault_Judge.f, fault_Judge.j0, fault_Judge.j1, fault_Judge.j2, *] at h) <;> (subst h; rfl))
end Go.Proofs.Ytalmemcidbmdgaa.PM

-- written by xprint.py, a program of this session, over the kit's print (functions told by hand: see the texts)
namespace Go.Proofs.Ytalmemcidbmdgaa.PM
open Go.RowKit Go.Proofs.YtalmemcidbmdgaaW.PrintWords Go.Proofs.YtalmemcidbmdgaaW.PrintLast Go.Proofs.YtalmemcidbmdgaaW.PrintMore
attribute [local go_sem] max2_int min2_int max_two min_two max_three min_three max_four min_four   -- for this text's walks alone
set_option linter.unusedVariables false
set_option linter.unusedSimpArgs false

/-! ### fault_May: function 67 -/
def fault_May.f (a0_0 : Int) (a0_1 : Bool) (a0_2 : Int) : Option (Bool) := if a0_0 ≥ 0 then (some (decide (a0_0 < 4))) else (some false)
set_option maxHeartbeats 8000000 in
set_option maxRecDepth 100000 in
theorem fault_May.calls (a0_0 : Int) (a0_1 : Bool) (a0_2 : Int) (r : Bool) (w : World) (h : fault_May.f a0_0 a0_1 a0_2 = some r) :
    Calls Try.prog 67 #[.agg #[.int .i64 a0_0, .bool a0_1, .int .u64 a0_2]] w fun e w' => e = .returned (.bool r) ∧ Below w.heap.size w w' := by
  have hu32 := Try.underlying32
  have HB := Aside0.mk (Below.refl w.heap.size w)
  have H : (if a0_0 ≥ 0 then (some (decide (a0_0 < 4))) else (some false)) = some r := h
  clear h
  by_cases c2 : a0_0 ≥ 0
  · rw [if_pos c2] at H
    have c2b0 : decide (0 ≤ a0_0) = true := decide_eq_true c2
    clear c2
    obtain rfl := Option.some.inj H
    go_enter Try.func67, Try.ntmps67
    go_wp2_with (first | ((with_reducible refine gate_dst (N := 1) rfl ?_); refine box_event ?hg (N := 1) ?hd (cs := #[.int .i64 a0_0, .bool a0_1, .int .u64 a0_2]) (t := 32) ?hr ?_; (case hd => rfl); (case hg => rfl); (case hr => first | (go_simp; done) | (go_simp; rfl)); intro gb228 hg w3 hbox hb; have n0_ := Aside0.mk (below_step (by repeat (first | (with_reducible first | exact HB.out | apply below_alloc | apply pw_below_drewN | apply below_drew1) | exact HB.out)) hb); have n1_ := Aside0.mk (hbox); have n2_ := Aside0.mk ((by rw [hg]; exact (below_size (by repeat (first | (with_reducible first | exact HB.out | apply below_alloc | apply pw_below_drewN | apply below_drew1) | exact HB.out))) : w.heap.size ≤ gb228)); have n3_ := Aside0.mk ((by rw [hg]; exact (below_size (by repeat (first | (with_reducible first | exact HB.out | apply below_alloc | apply pw_below_drewN | apply below_drew1) | exact HB.out))) : w.heap.size ≤ gb228)); clear HB; have HB := n0_; have BK228 := n1_; have GW228 := n2_; have GE228 := n3_; clear n0_ n1_ n2_ n3_; clear hb hbox hg; have hcz4_0 : w3.cell? ⟨gb228, 0, none⟩ = some (.int .i64 a0_0) := (blk_cell BK228.out 0).trans rfl; have hcz4_1 : w3.cell? ⟨gb228, 1, none⟩ = some (.bool a0_1) := (blk_cell BK228.out 1).trans rfl; have hcz4_2 : w3.cell? ⟨gb228, 2, none⟩ = some (.int .u64 a0_2) := (blk_cell BK228.out 2).trans rfl; have hfz4_0 := blk_frozen BK228.out 0; have hfz4_1 := blk_frozen BK228.out 1; have hfz4_2 := blk_frozen BK228.out 2))
    go_ret
    exact ⟨by first | rfl | (simp [errW_none, errW_some] <;> rfl) | (simp [*, errW_none, errW_some] <;> rfl), by repeat (first | (with_reducible first | exact HB.out | apply below_alloc | apply pw_below_drewN | apply below_drew1 | refine below_set ?_ GE228.out) | exact HB.out)⟩
  · rw [if_neg c2] at H
    have c2b0 : decide (0 ≤ a0_0) = false := decide_eq_false c2
    clear c2
    obtain rfl := Option.some.inj H
    go_enter Try.func67, Try.ntmps67
    go_wp2_with (first | ((with_reducible refine gate_dst (N := 1) rfl ?_); refine box_event ?hg (N := 1) ?hd (cs := #[.int .i64 a0_0, .bool a0_1, .int .u64 a0_2]) (t := 32) ?hr ?_; (case hd => rfl); (case hg => rfl); (case hr => first | (go_simp; done) | (go_simp; rfl)); intro gb228 hg w5 hbox hb; have n0_ := Aside0.mk (below_step (by repeat (first | (with_reducible first | exact HB.out | apply below_alloc | apply pw_below_drewN | apply below_drew1) | exact HB.out)) hb); have n1_ := Aside0.mk (hbox); have n2_ := Aside0.mk ((by rw [hg]; exact (below_size (by repeat (first | (with_reducible first | exact HB.out | apply below_alloc | apply pw_below_drewN | apply below_drew1) | exact HB.out))) : w.heap.size ≤ gb228)); have n3_ := Aside0.mk ((by rw [hg]; exact (below_size (by repeat (first | (with_reducible first | exact HB.out | apply below_alloc | apply pw_below_drewN | apply below_drew1) | exact HB.out))) : w.heap.size ≤ gb228)); clear HB; have HB := n0_; have BK228 := n1_; have GW228 := n2_; have GE228 := n3_; clear n0_ n1_ n2_ n3_; clear hb hbox hg; have hcz6_0 : w5.cell? ⟨gb228, 0, none⟩ = some (.int .i64 a0_0) := (blk_cell BK228.out 0).trans rfl; have hcz6_1 : w5.cell? ⟨gb228, 1, none⟩ = some (.bool a0_1) := (blk_cell BK228.out 1).trans rfl; have hcz6_2 : w5.cell? ⟨gb228, 2, none⟩ = some (.int .u64 a0_2) := (blk_cell BK228.out 2).trans rfl; have hfz6_0 := blk_frozen BK228.out 0; have hfz6_1 := blk_frozen BK228.out 1; have hfz6_2 := blk_frozen BK228.out 2))
    go_ret
    exact ⟨by first | rfl | (simp [errW_none, errW_some] <;> rfl) | (simp [*, errW_none, errW_some] <;> rfl), by repeat (first | (with_reducible first | exact HB.out | apply below_alloc | apply pw_below_drewN | apply below_drew1 | refine below_set ?_ GE228.out) | exact HB.out)⟩

/-! ### model_told: function 37 -/
def model_told.f (a0 : Int) : Option (Int × Int × Int) := some (a0, 0, 0)
set_option maxHeartbeats 8000000 in
set_option maxRecDepth 100000 in
theorem model_told.calls (a0 : Int) (r1 : Int) (r2 : Int) (r3 : Int) (w : World) (h : model_told.f a0 = some (r1, r2, r3)) :
    Calls Try.prog 37 #[.int .i64 a0] w fun e w' => e = .returned (.agg #[.int .i64 r1, .int .i64 r2, .int .u8 r3]) ∧ Below w.heap.size w w' := by
  have hu42 := Try.underlying42
  have HB := Aside0.mk (Below.refl w.heap.size w)
  have H : (some (a0, 0, 0)) = some (r1, r2, r3) := h
  clear h
  simp only [Option.some.injEq, Prod.mk.injEq] at H
  obtain ⟨rfl, rfl, rfl⟩ := H
  go_enter Try.func37, Try.ntmps37
  go_wp2_with (first | ((with_reducible refine gate_dst (N := 2) rfl ?_); refine box_event ?hg (N := 2) ?hd (cs := #[.int .i64 0, .int .i64 0, .int .u8 0]) (t := 42) ?hr ?_; (case hd => rfl); (case hg => rfl); (case hr => first | (go_simp; done) | (go_simp; rfl)); intro gb229 hg w2 hbox hb; have n0_ := Aside0.mk (below_step (by repeat (first | (with_reducible first | exact HB.out | apply below_alloc | apply pw_below_drewN | apply below_drew1) | exact HB.out)) hb); have n1_ := Aside0.mk (hbox); have n2_ := Aside0.mk ((by rw [hg]; exact (below_size (by repeat (first | (with_reducible first | exact HB.out | apply below_alloc | apply pw_below_drewN | apply below_drew1) | exact HB.out))) : w.heap.size ≤ gb229)); have n3_ := Aside0.mk ((by rw [hg]; exact (below_size (by repeat (first | (with_reducible first | exact HB.out | apply below_alloc | apply pw_below_drewN | apply below_drew1) | exact HB.out))) : w.heap.size ≤ gb229)); clear HB; have HB := n0_; have BK229 := n1_; have GW229 := n2_; have GE229 := n3_; clear n0_ n1_ n2_ n3_; clear hb hbox hg; have hcz3_0 : w2.cell? ⟨gb229, 0, none⟩ = some (.int .i64 0) := (blk_cell BK229.out 0).trans rfl; have hcz3_1 : w2.cell? ⟨gb229, 1, none⟩ = some (.int .i64 0) := (blk_cell BK229.out 1).trans rfl; have hcz3_2 : w2.cell? ⟨gb229, 2, none⟩ = some (.int .u8 0) := (blk_cell BK229.out 2).trans rfl; have hfz3_0 := blk_frozen BK229.out 0; have hfz3_1 := blk_frozen BK229.out 1; have hfz3_2 := blk_frozen BK229.out 2))
  refine bodyPost_ret (results_cell_row rfl _ _ gb229 42 #[.int .i64 a0, .int .i64 0, .int .u8 0] (0, 0) _ rfl (by (with_reducible repeat (first | refine blk_drewN ?_ _ | refine blk_drew ?_ | refine blk_alloc ?_ _)); refine blk_put (cs := #[.int .i64 a0, .int .i64 0, .int .u8 0]) ?_ 2 _ rfl; (with_reducible repeat (first | refine blk_drewN ?_ _ | refine blk_drew ?_ | refine blk_alloc ?_ _)); refine blk_put (cs := #[.int .i64 a0, .int .i64 0, .int .u8 0]) ?_ 1 _ rfl; (with_reducible repeat (first | refine blk_drewN ?_ _ | refine blk_drew ?_ | refine blk_alloc ?_ _)); refine blk_put (cs := #[.int .i64 0, .int .i64 0, .int .u8 0]) ?_ 0 _ rfl; (with_reducible repeat (first | refine blk_drewN ?_ _ | refine blk_drew ?_ | refine blk_alloc ?_ _)); exact BK229.out) Try.underlying42 rfl (by kernel_rfl)) rfl ?_
  exact ⟨by first | rfl | (simp [errW_none, errW_some] <;> rfl) | (simp [*, errW_none, errW_some] <;> rfl), by repeat (first | (with_reducible first | exact HB.out | apply below_alloc | apply pw_below_drewN | apply below_drew1 | refine below_set ?_ GE229.out) | exact HB.out)⟩

/-! ### model_spotOf: function 52 -/
def model_spotOf.f (a0_0 : Int) (a0_1 : Int) (a0_2 : Int) (a0_3 : Bool) (a0_4 : Bool) (a0_5 : Bool) (a0_6 : Bool) (a0_7 : Bool) (a0_8 : Bool) (a0_9 : Bool) (a0_10 : Bool) (a1 : Int) : Option (Int × Int) := (page_Offset.f a1 a0_1).bind fun t232 => (some (wrap64 (a0_2), t232))
def model_spotOf.T1 : Bool × List (List Nat × List Nat) := (true, [([], []), ([0], [0]), ([1], [1]), ([], []), ([], []), ([4], [4]), ([3, 5], [3, 5]), ([2, 6], [2, 6]), ([7, 6, 0, 1, 2, 3, 4, 5, 6, 7], [7])])
def model_spotOf.B1 : List Nat := [0, 1, 3, 0, 0, 16, 56, 127, 255]
theorem model_spotOf.tab1 : rtab .any (opsOf Try.f52 1) = model_spotOf.T1 := by kernel_rfl
theorem model_spotOf.bits1 : waitsOk model_spotOf.T1.2 model_spotOf.B1 = true := by kernel_rfl
set_option maxHeartbeats 8000000 in
set_option maxRecDepth 100000 in
theorem model_spotOf.calls (a0_0 : Int) (a0_1 : Int) (a0_2 : Int) (a0_3 : Bool) (a0_4 : Bool) (a0_5 : Bool) (a0_6 : Bool) (a0_7 : Bool) (a0_8 : Bool) (a0_9 : Bool) (a0_10 : Bool) (a1 : Int) (r1 : Int) (r2 : Int) (w : World) (h : model_spotOf.f a0_0 a0_1 a0_2 a0_3 a0_4 a0_5 a0_6 a0_7 a0_8 a0_9 a0_10 a1 = some (r1, r2)) :
    Calls Try.prog 52 #[.agg #[.int .u64 a0_0, .int .i64 a0_1, .int .u64 a0_2, .bool a0_3, .bool a0_4, .bool a0_5, .bool a0_6, .bool a0_7, .bool a0_8, .bool a0_9, .bool a0_10], .int .u64 a1] w fun e w' => e = .returned (.agg #[.int .i64 r1, .int .u64 r2]) ∧ Below w.heap.size w w' := by
  have hu50 := Try.underlying50
  have hu91 := Try.underlying91
  have HB := Aside0.mk (Below.refl w.heap.size w)
  have H : ((page_Offset.f a1 a0_1).bind fun t232 => (some (wrap64 (a0_2), t232))) = some (r1, r2) := h
  clear h
  replace H := Option.bind_eq_some_iff.mp H
  obtain ⟨t232, A30, H⟩ := H
  replace H : (some (wrap64 (a0_2), t232)) = some (r1, r2) := H
  have A3 := Aside0.mk A30
  clear A30
  simp only [Option.some.injEq, Prod.mk.injEq] at H
  obtain ⟨rfl, rfl⟩ := H
  go_enter Try.func52, Try.ntmps52
  try go_wp2_with (first | ((with_reducible refine gate_dst (N := 2) rfl ?_); refine box_event ?hg (N := 2) ?hd (cs := #[.int .u64 a0_0, .int .i64 a0_1, .int .u64 a0_2, .bool a0_3, .bool a0_4, .bool a0_5, .bool a0_6, .bool a0_7, .bool a0_8, .bool a0_9, .bool a0_10]) (t := 50) ?hr ?_; (case hd => rfl); (case hg => rfl); (case hr => first | (go_simp; done) | (go_simp; rfl)); intro gb230 hg w4 hbox hb; have n0_ := Aside0.mk (below_step (by repeat (first | (with_reducible first | exact HB.out | apply below_alloc | apply pw_below_drewN | apply below_drew1) | exact HB.out)) hb); have n1_ := Aside0.mk (hbox); have n2_ := Aside0.mk ((by rw [hg]; exact (below_size (by repeat (first | (with_reducible first | exact HB.out | apply below_alloc | apply pw_below_drewN | apply below_drew1) | exact HB.out))) : w.heap.size ≤ gb230)); have n3_ := Aside0.mk ((by rw [hg]; exact (below_size (by repeat (first | (with_reducible first | exact HB.out | apply below_alloc | apply pw_below_drewN | apply below_drew1) | exact HB.out))) : w.heap.size ≤ gb230)); clear HB; have HB := n0_; have BK230 := n1_; have GW230 := n2_; have GE230 := n3_; clear n0_ n1_ n2_ n3_; clear hb hbox hg) | ((with_reducible refine gate_dst (N := 4) rfl ?_); refine box_event ?hg (N := 4) ?hd (cs := #[.int .i64 0, .int .u64 0]) (t := 91) ?hr ?_; (case hd => rfl); (case hg => rfl); (case hr => first | (go_simp; done) | (go_simp; rfl)); intro gb231 hg w5 hbox hb; have n0_ := Aside0.mk (blk_below (g := gb230) (o := .cells #[.int .u64 a0_0, .int .i64 a0_1, .int .u64 a0_2, .bool a0_3, .bool a0_4, .bool a0_5, .bool a0_6, .bool a0_7, .bool a0_8, .bool a0_9, .bool a0_10] 50 (0, 0)) (by (with_reducible repeat (first | refine blk_drewN ?_ _ | refine blk_drew ?_ | refine blk_alloc ?_ _)); exact BK230.out) hb); have n1_ := Aside0.mk (below_step (by repeat (first | (with_reducible first | exact HB.out | apply below_alloc | apply pw_below_drewN | apply below_drew1 | refine below_set ?_ GE230.out) | exact HB.out)) hb); have n2_ := Aside0.mk (hbox); have n3_ := Aside0.mk ((by rw [hg]; exact (below_size (by repeat (first | (with_reducible first | exact HB.out | apply below_alloc | apply pw_below_drewN | apply below_drew1 | refine below_set ?_ GE230.out) | exact HB.out))) : w.heap.size ≤ gb231)); have n4_ := Aside0.mk ((by rw [hg]; exact (below_size (by repeat (first | (with_reducible first | exact HB.out | apply below_alloc | apply pw_below_drewN | apply below_drew1 | refine below_set ?_ GE230.out) | exact HB.out))) : w.heap.size ≤ gb231)); have n5_ := Aside0.mk ((by rw [hg]; exact Nat.ne_of_lt (blk_lt (g := gb230) (o := .cells #[.int .u64 a0_0, .int .i64 a0_1, .int .u64 a0_2, .bool a0_3, .bool a0_4, .bool a0_5, .bool a0_6, .bool a0_7, .bool a0_8, .bool a0_9, .bool a0_10] 50 (0, 0)) (by (with_reducible repeat (first | refine blk_drewN ?_ _ | refine blk_drew ?_ | refine blk_alloc ?_ _)); exact BK230.out)) : gb230 ≠ gb231)); have n6_ := Aside0.mk ((by rw [hg]; exact Nat.ne_of_gt (blk_lt (g := gb230) (o := .cells #[.int .u64 a0_0, .int .i64 a0_1, .int .u64 a0_2, .bool a0_3, .bool a0_4, .bool a0_5, .bool a0_6, .bool a0_7, .bool a0_8, .bool a0_9, .bool a0_10] 50 (0, 0)) (by (with_reducible repeat (first | refine blk_drewN ?_ _ | refine blk_drew ?_ | refine blk_alloc ?_ _)); exact BK230.out)) : gb231 ≠ gb230)); clear BK230; clear HB; have BK230 := n0_; have HB := n1_; have BK231 := n2_; have GW231 := n3_; have GE231 := n4_; have NB230_231 := n5_; have NB231_230 := n6_; clear n0_ n1_ n2_ n3_ n4_ n5_ n6_; clear hb hbox hg))
  have n0_ := Aside0.mk (blk_drew BK230.out)
  have n1_ := Aside0.mk (blk_drew BK231.out)
  have n2_ := Aside0.mk (below_drew1 HB.out)
  clear BK230
  clear BK231
  clear HB
  have BK230 := n0_
  have BK231 := n1_
  have HB := n2_
  clear n0_ n1_ n2_
  refine start_ (n := 9) (S := fun w' => w'.cell? ⟨gb230, 0, none⟩ = some (.int .u64 a0_0) ∧ w'.cell? ⟨gb230, 1, none⟩ = some (.int .i64 a0_1) ∧ w'.cell? ⟨gb230, 2, none⟩ = some (.int .u64 a0_2) ∧ w'.cell? ⟨gb230, 3, none⟩ = some (.bool a0_3) ∧ w'.cell? ⟨gb230, 4, none⟩ = some (.bool a0_4) ∧ w'.cell? ⟨gb230, 5, none⟩ = some (.bool a0_5) ∧ w'.cell? ⟨gb230, 6, none⟩ = some (.bool a0_6) ∧ w'.cell? ⟨gb230, 7, none⟩ = some (.bool a0_7) ∧ w'.cell? ⟨gb230, 8, none⟩ = some (.bool a0_8) ∧ w'.cell? ⟨gb230, 9, none⟩ = some (.bool a0_9) ∧ w'.cell? ⟨gb230, 10, none⟩ = some (.bool a0_10)) (ds := []) #[false, false, false, false, false, false, false, false, false] (by kernel_rfl) rfl rfl ⟨(blk_cell BK230.out 0).trans rfl, (blk_cell BK230.out 1).trans rfl, (blk_cell BK230.out 2).trans rfl, (blk_cell BK230.out 3).trans rfl, (blk_cell BK230.out 4).trans rfl, (blk_cell BK230.out 5).trans rfl, (blk_cell BK230.out 6).trans rfl, (blk_cell BK230.out 7).trans rfl, (blk_cell BK230.out 8).trans rfl, (blk_cell BK230.out 9).trans rfl, (blk_cell BK230.out 10).trans rfl⟩ (fun hHeld => ?_); refine with_tabW model_spotOf.tab1 model_spotOf.bits1 (fun HT_ HW_ => ?_)
  generalize w5.drew = w6 at BK230 BK231 HB hHeld ⊢
  refine pure_ (i := 0) (N := some 5) (v := ?_) (a' := ?_) #[true, false, false, false, false, false, false, false, false] rfl rfl (any_of HT_.out (by kernel_rfl)) (fun _ _ _ h => h) (Or.inl ⟨by rfl, ?_⟩) ?_ ?_
  rotate_left
  · intro w'
    go_simp
    with_reducible rfl
  rotate_left
  · simp only [Act.put, List.setIfInBounds_toArray, List.set_cons_zero, List.set_cons_succ, i64_w, i32_w]
    rfl
  refine pure_ (i := 3) (N := some 8) (v := ?_) (a' := ?_) #[true, false, false, true, false, false, false, false, false] rfl rfl (any_of HT_.out (by kernel_rfl)) (fun _ _ _ h => h) (Or.inl ⟨by rfl, ?_⟩) ?_ ?_
  rotate_left
  · intro w'
    go_simp
    with_reducible rfl
  rotate_left
  · simp only [Act.put, List.setIfInBounds_toArray, List.set_cons_zero, List.set_cons_succ, i64_w, i32_w]
    rfl
  refine pure_ (i := 4) (N := some 9) (v := ?_) (a' := ?_) #[true, false, false, true, true, false, false, false, false] rfl rfl (any_of HT_.out (by kernel_rfl)) (fun _ _ _ h => h) (Or.inl ⟨by rfl, ?_⟩) ?_ ?_
  rotate_left
  · intro w'
    go_simp
    with_reducible rfl
  rotate_left
  · simp only [Act.put, List.setIfInBounds_toArray, List.set_cons_zero, List.set_cons_succ, i64_w, i32_w]
    rfl
  refine take_ (i := 1) (N := some 6) (v := ?_) (a' := ?_) #[true, true, false, true, true, false, false, false, false] rfl rfl (take_ofW HT_.out HW_.out (by kernel_rfl)) (fun _ _ _ h => h) (Or.inl ⟨by rfl, ?_⟩) hHeld ?_ ?_
  rotate_left
  · rintro w' ⟨s0, s1, s2, s3, s4, s5, s6, s7, s8, s9, s10⟩
    go_simp
    with_reducible rfl
  rotate_left
  · simp only [Act.put, List.setIfInBounds_toArray, List.set_cons_zero, List.set_cons_succ, i64_w, i32_w]
    rfl
  refine pure_ (i := 2) (N := some 7) (v := ?_) (a' := ?_) #[true, true, true, true, true, false, false, false, false] rfl rfl (any_of HT_.out (by kernel_rfl)) (fun _ _ _ h => h) (Or.inl ⟨by rfl, ?_⟩) ?_ ?_
  rotate_left
  · intro w'
    go_simp
    with_reducible rfl
  rotate_left
  · simp only [Act.put, List.setIfInBounds_toArray, List.set_cons_zero, List.set_cons_succ, i64_w, i32_w]
    rfl
  refine take_ (i := 5) (N := some 10) (v := ?_) (a' := ?_) #[true, true, true, true, true, true, false, false, false] rfl rfl (take_ofW HT_.out HW_.out (by kernel_rfl)) (fun _ _ _ h => h) (Or.inl ⟨by rfl, ?_⟩) hHeld ?_ ?_
  rotate_left
  · rintro w' ⟨s0, s1, s2, s3, s4, s5, s6, s7, s8, s9, s10⟩
    go_simp
    with_reducible rfl
  rotate_left
  · simp only [Act.put, List.setIfInBounds_toArray, List.set_cons_zero, List.set_cons_succ, i64_w, i32_w]
    rfl
  refine one_ (i := 6) (N := some 11) #[true, true, true, true, true, true, true, false, false] rfl rfl (one_of HT_.out (by kernel_rfl)) (by decide) (fun K hK => ?_)
  refine goes_ Try.func80 (by kernel_rfl) rfl #[.int .u64 a1, .int .i64 a0_1] (by rfl) rfl rfl (by (try simp only [List.map_toArray, List.map_cons, List.map_nil]); first | done | rfl | (simp only [List.length_drop, List.length_take]; rfl)) ?_
  with_reducible refine (page_Offset.calls a1 a0_1 t232 _ A3.out).mono ?_
  rintro e w' ⟨rfl, ⟨nd, rfl⟩⟩
  refine ⟨_, rfl, ?_⟩
  refine hK.out _ _ ⟨(blk_cell BK230.out 0).trans rfl, (blk_cell BK230.out 1).trans rfl, (blk_cell BK230.out 2).trans rfl, (blk_cell BK230.out 3).trans rfl, (blk_cell BK230.out 4).trans rfl, (blk_cell BK230.out 5).trans rfl, (blk_cell BK230.out 6).trans rfl, (blk_cell BK230.out 7).trans rfl, (blk_cell BK230.out 8).trans rfl, (blk_cell BK230.out 9).trans rfl, (blk_cell BK230.out 10).trans rfl⟩ (fun hHeld => ?_)
  clear hK K
  refine norm_ (a' := ?_) ?_ ?_
  rotate_left
  · show Act.put _ (some 11) _ = _
    simp only [Act.put, List.setIfInBounds_toArray, List.set_cons_zero, List.set_cons_succ, i64_w, i32_w]
    rfl
  refine pure_ (i := 7) (N := some 12) (v := ?_) (a' := ?_) #[true, true, true, true, true, true, true, true, false] rfl rfl (any_of HT_.out (by kernel_rfl)) (fun _ _ _ h => h) (Or.inl ⟨by rfl, ?_⟩) ?_ ?_
  rotate_left
  · intro w'
    go_simp
    with_reducible rfl
  rotate_left
  · simp only [Act.put, List.setIfInBounds_toArray, List.set_cons_zero, List.set_cons_succ, i64_w, i32_w]
    rfl
  refine one_ (i := 8) (N := none) #[true, true, true, true, true, true, true, true, true] rfl rfl (one_of HT_.out (by kernel_rfl)) (by decide) (fun K hK => ?_)
  have hs7 : w6.cell? ⟨gb231, 0, none⟩ = some (.int .i64 0) := (blk_cell BK231.out 0).trans rfl
  have hfs7 := blk_frozen BK231.out 0
  have hns7_0 := NB230_231.out
  have hms7_0 := NB231_230.out
  have hs8 : w6.cell? ⟨gb231, 1, none⟩ = some (.int .u64 0) := (blk_cell BK231.out 1).trans rfl
  have hfs8 := blk_frozen BK231.out 1
  have hns8_0 := NB230_231.out
  have hms8_0 := NB231_230.out
  refine skip_ (w1 := ?_) (by rfl) rfl ?_ ?_
  rotate_left
  · go_simp
    rfl
  refine hK.out _ _ ⟨((cell_far (p := ⟨gb231, _, none⟩) NB230_231.out _).trans (((cell_far (p := ⟨gb231, _, none⟩) NB230_231.out _).trans (hHeld.1)))), ((cell_far (p := ⟨gb231, _, none⟩) NB230_231.out _).trans (((cell_far (p := ⟨gb231, _, none⟩) NB230_231.out _).trans (hHeld.2.1)))), ((cell_far (p := ⟨gb231, _, none⟩) NB230_231.out _).trans (((cell_far (p := ⟨gb231, _, none⟩) NB230_231.out _).trans (hHeld.2.2.1)))), ((cell_far (p := ⟨gb231, _, none⟩) NB230_231.out _).trans (((cell_far (p := ⟨gb231, _, none⟩) NB230_231.out _).trans (hHeld.2.2.2.1)))), ((cell_far (p := ⟨gb231, _, none⟩) NB230_231.out _).trans (((cell_far (p := ⟨gb231, _, none⟩) NB230_231.out _).trans (hHeld.2.2.2.2.1)))), ((cell_far (p := ⟨gb231, _, none⟩) NB230_231.out _).trans (((cell_far (p := ⟨gb231, _, none⟩) NB230_231.out _).trans (hHeld.2.2.2.2.2.1)))), ((cell_far (p := ⟨gb231, _, none⟩) NB230_231.out _).trans (((cell_far (p := ⟨gb231, _, none⟩) NB230_231.out _).trans (hHeld.2.2.2.2.2.2.1)))), ((cell_far (p := ⟨gb231, _, none⟩) NB230_231.out _).trans (((cell_far (p := ⟨gb231, _, none⟩) NB230_231.out _).trans (hHeld.2.2.2.2.2.2.2.1)))), ((cell_far (p := ⟨gb231, _, none⟩) NB230_231.out _).trans (((cell_far (p := ⟨gb231, _, none⟩) NB230_231.out _).trans (hHeld.2.2.2.2.2.2.2.2.1)))), ((cell_far (p := ⟨gb231, _, none⟩) NB230_231.out _).trans (((cell_far (p := ⟨gb231, _, none⟩) NB230_231.out _).trans (hHeld.2.2.2.2.2.2.2.2.2.1)))), ((cell_far (p := ⟨gb231, _, none⟩) NB230_231.out _).trans (((cell_far (p := ⟨gb231, _, none⟩) NB230_231.out _).trans (hHeld.2.2.2.2.2.2.2.2.2.2))))⟩ (fun hHeld => ?_)
  clear hK K
  refine done_ (done_of HT_.out (by kernel_rfl)) ?_
  try go_wp2
  refine bodyPost_ret (results_cell_row rfl _ _ gb231 91 #[.int .i64 (wrap64 (a0_2)), .int .u64 t232] (0, 0) _ rfl (by (with_reducible repeat (first | refine blk_drewN ?_ _ | refine blk_drew ?_ | refine blk_alloc ?_ _)); refine blk_put (cs := #[.int .i64 (wrap64 (a0_2)), .int .u64 0]) ?_ 1 _ rfl; (with_reducible repeat (first | refine blk_drewN ?_ _ | refine blk_drew ?_ | refine blk_alloc ?_ _)); refine blk_put (cs := #[.int .i64 0, .int .u64 0]) ?_ 0 _ rfl; (with_reducible repeat (first | refine blk_drewN ?_ _ | refine blk_drew ?_ | refine blk_alloc ?_ _)); exact BK231.out) Try.underlying91 rfl (by kernel_rfl)) rfl ?_
  exact ⟨by first | rfl | (simp [errW_none, errW_some] <;> rfl) | (simp [*, errW_none, errW_some] <;> rfl), by repeat (first | (with_reducible first | exact HB.out | apply below_alloc | apply pw_below_drewN | apply below_drew1 | refine below_set ?_ GE230.out | refine below_set ?_ GE231.out) | exact HB.out)⟩

/-! ### model_Frees: function 24 -/
def model_Frees.f (a0 : Int) : Option (Bool) := if a0 = 6 then (some true) else (if a0 = 7 then (some true) else (some (a0 == 8)))
set_option maxHeartbeats 8000000 in
set_option maxRecDepth 100000 in
theorem model_Frees.calls (a0 : Int) (r : Bool) (w : World) (h : model_Frees.f a0 = some r) :
    Calls Try.prog 24 #[.int .i64 a0] w fun e w' => e = .returned (.bool r) ∧ Drawn0 w w' := by
  have H : (if a0 = 6 then (some true) else (if a0 = 7 then (some true) else (some (a0 == 8)))) = some r := h
  clear h
  by_cases c2 : a0 = 6
  · rw [if_pos c2] at H
    have c2b0 : (a0 == 6) = true := beq_iff_eq.mpr c2
    have c2b1 : (a0 != 6) = false := bne_eq_false_iff_eq.mpr c2
    clear c2
    obtain rfl := Option.some.inj H
    go_enter Try.func24, Try.ntmps24
    go_wp2
    go_ret
    exact ⟨by first | rfl | (simp; done) | (simp [*]; done), by repeat (first | exact Drawn0.refl _ | apply Drawn0.step)⟩
  · rw [if_neg c2] at H
    have c2b0 : (a0 == 6) = false := beq_eq_false_iff_ne.mpr c2
    have c2b1 : (a0 != 6) = true := bne_iff_ne.mpr c2
    by_cases c3 : a0 = 7
    · rw [if_pos c3] at H
      have c3b0 : (a0 == 7) = true := beq_iff_eq.mpr c3
      have c3b1 : (a0 != 7) = false := bne_eq_false_iff_eq.mpr c3
      clear c3
      obtain rfl := Option.some.inj H
      go_enter Try.func24, Try.ntmps24
      go_wp2
      go_ret
      exact ⟨by first | rfl | (simp; done) | (simp [*]; done), by repeat (first | exact Drawn0.refl _ | apply Drawn0.step)⟩
    · rw [if_neg c3] at H
      have c3b0 : (a0 == 7) = false := beq_eq_false_iff_ne.mpr c3
      have c3b1 : (a0 != 7) = true := bne_iff_ne.mpr c3
      obtain rfl := Option.some.inj H
      go_enter Try.func24, Try.ntmps24
      go_wp2
      go_ret
      exact ⟨by first | rfl | (simp; done) | (simp [*]; done), by repeat (first | exact Drawn0.refl _ | apply Drawn0.step)⟩

/-- THE ONE PURE STATEMENT of model_Frees: yours. -/
def model_Frees.Pure : Prop := ∀ (a0 : Int), (Lit.int .i64 a0).wf = true → model_Frees.f a0 = some true
theorem model_Frees.walk (P : model_Frees.Pure) (a0 : Int) (w : World) (w0 : (Lit.int .i64 a0).wf = true) :
    Calls Try.prog 24 #[.int .i64 a0] w fun e w' => e = .returned (.bool true) ∧ Below w.heap.size w w' := by
  have h := P a0 w0
  refine (model_Frees.calls a0 true w h).mono ?_
  rintro e w' ⟨rfl, hd⟩
  exact ⟨rfl, hd.below⟩

end Go.Proofs.Ytalmemcidbmdgaa.PM

-- written by xprint.py, a program of this session, over the kit's print (functions told by hand: see the texts)
namespace Go.Proofs.Ytalmemcidbmdgaa.PM
open Go.RowKit Go.Proofs.YtalmemcidbmdgaaW.PrintWords Go.Proofs.YtalmemcidbmdgaaW.PrintLast Go.Proofs.YtalmemcidbmdgaaW.PrintMore
attribute [local go_sem] max2_int min2_int max_two min_two max_three min_three max_four min_four   -- for this text's walks alone
set_option linter.unusedVariables false
set_option linter.unusedSimpArgs false

attribute [local go_sem high] eqA42
/-! ### story_Room: function 25 -/
end Go.Proofs.Ytalmemcidbmdgaa.PM

-- written by xprint.py, a program of this session, over the kit's print (functions told by hand: see the texts)
namespace Go.Proofs.Ytalmemcidbmdgaa.PM
open Go.RowKit Go.Proofs.YtalmemcidbmdgaaW.PrintWords Go.Proofs.YtalmemcidbmdgaaW.PrintLast Go.Proofs.YtalmemcidbmdgaaW.PrintMore
attribute [local go_sem] max2_int min2_int max_two min_two max_three min_three max_four min_four   -- for this text's walks alone
set_option linter.unusedVariables false
set_option linter.unusedSimpArgs false

/-! ### lookasideref18_Free: function 26 -/
end Go.Proofs.Ytalmemcidbmdgaa.PM

-- written by xprint.py, a program of this session, over the kit's print (functions told by hand: see the texts)
namespace Go.Proofs.Ytalmemcidbmdgaa.PM
open Go.RowKit Go.Proofs.YtalmemcidbmdgaaW.PrintWords Go.Proofs.YtalmemcidbmdgaaW.PrintLast Go.Proofs.YtalmemcidbmdgaaW.PrintMore
attribute [local go_sem] max2_int min2_int max_two min_two max_three min_three max_four min_four   -- for this text's walks alone
set_option linter.unusedVariables false
set_option linter.unusedSimpArgs false

/-! ### story_Ahead: function 28 -/
/-! ### lookasideref09_Good: function 54 -/
end Go.Proofs.Ytalmemcidbmdgaa.PM

-- written by xprint.py, a program of this session, over the kit's print (functions told by hand: see the texts)
namespace Go.Proofs.Ytalmemcidbmdgaa.PM
open Go.RowKit Go.Proofs.YtalmemcidbmdgaaW.PrintWords Go.Proofs.YtalmemcidbmdgaaW.PrintLast Go.Proofs.YtalmemcidbmdgaaW.PrintMore
attribute [local go_sem] max2_int min2_int max_two min_two max_three min_three max_four min_four   -- for this text's walks alone
set_option linter.unusedVariables false
set_option linter.unusedSimpArgs false

/-! ### lookasideref16_New: function 11 -/
def lookasideref16_New.f (a0 : Int) : Option (Int × (List (S105)) × (List (S114)) × Int) := some (mn (mx a0 0) 64, ([] : List (S105)), ([] : List (S114)), 0)
set_option maxHeartbeats 8000000 in
set_option maxRecDepth 100000 in
theorem lookasideref16_New.calls (a0 : Int) (r1 : Int) (r2 : List (S105)) (r3 : List (S114)) (r4 : Int) (w : World) (h : lookasideref16_New.f a0 = some (r1, r2, r3, r4)) :
    Calls Try.prog 11 #[.int .i64 a0] w fun e w' => ∃ v1_ v2_ : Value, e = .returned (.agg #[.int .i64 r1, v1_, v2_, .int .i64 r4]) ∧ Kd.R k105 105 w' w.heap.size (fun _ => True) v1_ r2 ∧ Kd.R k114 114 w' w.heap.size (fun _ => True) v2_ r3 ∧ Below w.heap.size w w' := by
  have hu29 := Try.underlying29
  have HB := Aside0.mk (Below.refl w.heap.size w)
  have H : (some (mn (mx a0 0) 64, ([] : List (S105)), ([] : List (S114)), 0)) = some (r1, r2, r3, r4) := h
  clear h
  obtain ⟨ji2, hji2⟩ : ∃ j_ : Int, (mx a0 0) = j_ := ⟨_, rfl⟩
  replace H : (some (mn (ji2) 64, ([] : List (S105)), ([] : List (S114)), 0)) = some (r1, r2, r3, r4) := by first | (rw [hji2] at H; exact H) | (simp only [hji2] at H ⊢; exact H)
  (try (have hji2l : 0 ≤ ji2 := by (rw [← hji2]; unfold mx; (repeat' split) <;> omega)))
  (try (have hji2m : 0 ≤ ji2 := by omega))
  have hji2_ : (if a0 < 0 then 0 else a0) = ji2 := hji2
  obtain ⟨ji3, hji3⟩ : ∃ j_ : Int, (mn (ji2) 64) = j_ := ⟨_, rfl⟩
  replace H : (some (ji3, ([] : List (S105)), ([] : List (S114)), 0)) = some (r1, r2, r3, r4) := by first | (rw [hji3] at H; exact H) | (simp only [hji3] at H ⊢; exact H)
  have hji3_ : (if 64 < (ji2) then 64 else (ji2)) = ji3 := hji3
  simp only [Option.some.injEq, Prod.mk.injEq] at H
  obtain ⟨rfl, rfl, rfl, rfl⟩ := H
  go_enter Try.func11, Try.ntmps11
  go_wp2_with (first | ((with_reducible refine gate_dst (N := 2) rfl ?_); refine box_event ?hg (N := 2) ?hd (cs := #[.int .i64 0, .slice none 0 0, .slice none 0 0, .int .i64 0]) (t := 29) ?hr ?_; (case hd => rfl); (case hg => rfl); (case hr => first | (go_simp; done) | (go_simp; rfl)); intro gb101 hg w4 hbox hb; have n0_ := Aside0.mk (below_step (by repeat (first | (with_reducible first | exact HB.out | apply below_alloc | apply pw_below_drewN | apply below_drew1) | exact HB.out)) hb); have n1_ := Aside0.mk (hbox); have n2_ := Aside0.mk ((by rw [hg]; exact (below_size (by repeat (first | (with_reducible first | exact HB.out | apply below_alloc | apply pw_below_drewN | apply below_drew1) | exact HB.out))) : w.heap.size ≤ gb101)); have n3_ := Aside0.mk ((by rw [hg]; exact (below_size (by repeat (first | (with_reducible first | exact HB.out | apply below_alloc | apply pw_below_drewN | apply below_drew1) | exact HB.out))) : w.heap.size ≤ gb101)); clear HB; have HB := n0_; have BK101 := n1_; have GW101 := n2_; have GE101 := n3_; clear n0_ n1_ n2_ n3_; clear hb hbox hg; have hcz5_0 : w4.cell? ⟨gb101, 0, none⟩ = some (.int .i64 0) := (blk_cell BK101.out 0).trans rfl; have hcz5_1 : w4.cell? ⟨gb101, 1, none⟩ = some (.slice none 0 0) := (blk_cell BK101.out 1).trans rfl; have hcz5_2 : w4.cell? ⟨gb101, 2, none⟩ = some (.slice none 0 0) := (blk_cell BK101.out 2).trans rfl; have hcz5_3 : w4.cell? ⟨gb101, 3, none⟩ = some (.int .i64 0) := (blk_cell BK101.out 3).trans rfl; have hfz5_0 := blk_frozen BK101.out 0; have hfz5_1 := blk_frozen BK101.out 1; have hfz5_2 := blk_frozen BK101.out 2; have hfz5_3 := blk_frozen BK101.out 3))
  refine bodyPost_ret (results_cell_row rfl _ _ gb101 29 #[.int .i64 ji3, .slice none 0 0, .slice none 0 0, .int .i64 0] (0, 0) _ rfl (by (with_reducible repeat (first | refine blk_drewN ?_ _ | refine blk_drew ?_ | refine blk_alloc ?_ _)); refine blk_put (cs := #[.int .i64 ji3, .slice none 0 0, .slice none 0 0, .int .i64 0]) ?_ 3 _ rfl; (with_reducible repeat (first | refine blk_drewN ?_ _ | refine blk_drew ?_ | refine blk_alloc ?_ _)); refine blk_put (cs := #[.int .i64 ji3, .slice none 0 0, .slice none 0 0, .int .i64 0]) ?_ 2 _ rfl; (with_reducible repeat (first | refine blk_drewN ?_ _ | refine blk_drew ?_ | refine blk_alloc ?_ _)); refine blk_put (cs := #[.int .i64 ji3, .slice none 0 0, .slice none 0 0, .int .i64 0]) ?_ 1 _ rfl; (with_reducible repeat (first | refine blk_drewN ?_ _ | refine blk_drew ?_ | refine blk_alloc ?_ _)); refine blk_put (cs := #[.int .i64 0, .slice none 0 0, .slice none 0 0, .int .i64 0]) ?_ 0 _ rfl; (with_reducible repeat (first | refine blk_drewN ?_ _ | refine blk_drew ?_ | refine blk_alloc ?_ _)); exact BK101.out) Try.underlying29 rfl (by kernel_rfl)) rfl ?_
  exact ⟨_, _, by first | rfl | (simp [errW_none, errW_some] <;> rfl) | (simp only [← hji2, ← hji3]; first | rfl | (simp [errW_none, errW_some] <;> rfl)) | (simp [*, errW_none, errW_some] <;> rfl), by first | exact Kd.R_nil _ _ _ _ _ | exact Kd.N_nil _ _ _ _ _ | exact Kd.V_nil _ _ _ _ _ | exact Kd.Q_nil _ _ _ _ _ | exact Kd.S_nil _ _ _ _ _, by first | exact Kd.R_nil _ _ _ _ _ | exact Kd.N_nil _ _ _ _ _ | exact Kd.V_nil _ _ _ _ _ | exact Kd.Q_nil _ _ _ _ _ | exact Kd.S_nil _ _ _ _ _, by repeat (first | (with_reducible first | exact HB.out | apply below_alloc | apply pw_below_drewN | apply below_drew1 | refine below_set ?_ GE101.out) | exact HB.out)⟩

end Go.Proofs.Ytalmemcidbmdgaa.PM

-- written by xprint.py, a program of this session, over the kit's print (functions told by hand: see the texts)
namespace Go.Proofs.Ytalmemcidbmdgaa.PM
open Go.RowKit Go.Proofs.YtalmemcidbmdgaaW.PrintWords Go.Proofs.YtalmemcidbmdgaaW.PrintLast Go.Proofs.YtalmemcidbmdgaaW.PrintMore
attribute [local go_sem] max2_int min2_int max_two min_two max_three min_three max_four min_four   -- for this text's walks alone
set_option linter.unusedVariables false
set_option linter.unusedSimpArgs false

/-! ### lookasideref12_At: function 64 -/
def lookasideref12_At.l0 : Nat → Int → Int → Int → Int → List (S105) → Int → List (List (S196)) → Option (Int)
  | 0, _, _, _, _, _, _, _ => none
  | k + 1, x1, x2, x7, x151000, x151001, x151002, x151003 => if x7 < (x151001.length : Int) then (if 0 ≤ x7 then (if ((rd_T105 x151001 x7).f0) = x1 then ((lookasideref02_Base.f x2 ((rd_T105 x151001 x7).f1.f1)).bind fun t153 => (if t153 = ((rd_T105 x151001 x7).f1.f0) then (some x7) else (lookasideref12_At.l0 k x1 x2 (wrap64 (x7 + 1)) x151000 x151001 x151002 x151003))) else (lookasideref12_At.l0 k x1 x2 (wrap64 (x7 + 1)) x151000 x151001 x151002 x151003)) else (none)) else (some (-1))
def lookasideref12_At.f (k : Nat) (a0_0 : Int) (l0_1 : List (S105)) (a0_2 : Int) (l0_3 : List (List (S196))) (a1 : Int) (a2 : Int) : Option (Int) := lookasideref12_At.l0 k a1 a2 0 a0_0 l0_1 a0_2 l0_3
set_option maxHeartbeats 8000000 in
set_option maxRecDepth 100000 in
theorem lookasideref12_At.calls (k : Nat) (a0_0 : Int) (A0_1 : Option Addr) (c0_1 : Nat) (l0_1 : List (S105)) (a0_2 : Int) (A0_3 : Option Addr) (c0_3 : Nat) (l0_3 : List (List (S196))) (a1 : Int) (a2 : Int) (r : Int) (w : World) (hr0_1 : Kd.C k105 w A0_1 l0_1.length l0_1) (hc0_1 : l0_1.length ≤ c0_1) (hr0_3 : Kd.C (Kd.slice 196 k196) w A0_3 l0_3.length l0_3) (hc0_3 : l0_3.length ≤ c0_3) (h : lookasideref12_At.f k a0_0 l0_1 a0_2 l0_3 a1 a2 = some r) :
    Calls Try.prog 64 #[.agg #[.int .i64 a0_0, .slice A0_1 l0_1.length c0_1, .int .i64 a0_2, .slice A0_3 l0_3.length c0_3], .int .i64 a1, .int .u64 a2] w fun e w' => e = .returned (.int .i64 r) ∧ Below w.heap.size w w' := by
  have hu102 := Try.underlying102
  have hu105 := Try.underlying105
  have HR0_1 := Aside0.mk hr0_1
  have HC0_1 := Aside0.mk hc0_1
  clear hr0_1 hc0_1
  have HR0_3 := Aside0.mk hr0_3
  have HC0_3 := Aside0.mk hc0_3
  clear hr0_3 hc0_3
  have HB := Aside0.mk (Below.refl w.heap.size w)
  have H : (lookasideref12_At.l0 k a1 a2 0 a0_0 l0_1 a0_2 l0_3) = some r := h
  clear h
  have H' := Aside0.mk H
  clear H
  go_enter Try.func64, Try.ntmps64
  go_wp2_with (first | ((with_reducible refine gate_dst (N := 3) rfl ?_); refine box_event ?hg (N := 3) ?hd (cs := #[.int .i64 a0_0, .slice A0_1 l0_1.length c0_1, .int .i64 a0_2, .slice A0_3 l0_3.length c0_3]) (t := 102) ?hr ?_; (case hd => rfl); (case hg => rfl); (case hr => first | (go_simp; done) | (go_simp; rfl)); intro gb150 hg w4 hbox hb; have n0_ := Aside0.mk (below_step (by repeat (first | (with_reducible first | exact HB.out | apply below_alloc | apply pw_below_drewN | apply below_drew1) | exact HB.out)) hb); have n1_ := Aside0.mk (hbox); have n2_ := Aside0.mk ((by rw [hg]; exact (below_size (by repeat (first | (with_reducible first | exact HB.out | apply below_alloc | apply pw_below_drewN | apply below_drew1) | exact HB.out))) : w.heap.size ≤ gb150)); have n3_ := Aside0.mk ((by rw [hg]; exact (below_size (by repeat (first | (with_reducible first | exact HB.out | apply below_alloc | apply pw_below_drewN | apply below_drew1) | exact HB.out))) : w.heap.size ≤ gb150)); clear HB; have HB := n0_; have BK150 := n1_; have GW150 := n2_; have GE150 := n3_; clear n0_ n1_ n2_ n3_; clear hb hbox hg))
  go_loopg [7] k (fun kq v7 w' => ∃ (x7_1 : Int), v7 = .int .i64 x7_1 ∧ Aside0 (lookasideref12_At.l0 kq a1 a2 x7_1 a0_0 l0_1 a0_2 l0_3 = some r) ∧ Aside0 (kq ≤ k) ∧ Aside0 (w'.heap[gb150]? = some (.cells #[.int .i64 a0_0, (.slice A0_1 l0_1.length c0_1), .int .i64 a0_2, (.slice A0_3 l0_3.length c0_3)] 102 (0, 0))) ∧ Aside0 (Below w.heap.size w w'))
  case atStart => exact ⟨(0), (by first | rfl | (simp; done) | (simp [*]; done)), H', ⟨Nat.le_refl _⟩, ⟨by (with_reducible repeat (first | refine blk_drewN ?_ _ | refine blk_drew ?_ | refine blk_alloc ?_ _)); exact BK150.out⟩, ⟨by repeat (first | (with_reducible first | exact HB.out | apply below_alloc | apply pw_below_drewN | apply below_drew1 | refine below_set ?_ GE150.out) | exact HB.out)⟩⟩
  case round =>
    clear H'
    try clear p2
    obtain ⟨x7_1, rfl, HA, HK1, BK150, HB⟩ := hrel
    cases gk with
    | zero => exact absurd HA.out (by simp [lookasideref12_At.l0])
    | succ k1 =>
      have H := HA.out
      clear HA
      simp only [lookasideref12_At.l0] at H
      by_cases c5 : x7_1 < (l0_1.length : Int)
      · rw [if_pos c5] at H
        have c5b0 : decide (x7_1 < (l0_1.length : Int)) = true := decide_eq_true c5
        clear c5
        by_cases c6 : 0 ≤ x7_1
        · rw [if_pos c6] at H
          have c6b0 : decide (0 ≤ x7_1) = true := decide_eq_true c6
          clear c6
          by_cases c7 : ((rd_T105 l0_1 x7_1).f0) = a1
          · rw [if_pos c7] at H
            have c7b0 : (((rd_T105 l0_1 x7_1).f0) == a1) = true := beq_iff_eq.mpr c7
            have c7b1 : (((rd_T105 l0_1 x7_1).f0) != a1) = false := bne_eq_false_iff_eq.mpr c7
            clear c7
            replace H := Option.bind_eq_some_iff.mp H
            obtain ⟨t153, A80, H⟩ := H
            replace H : (if t153 = ((rd_T105 l0_1 x7_1).f1.f0) then (some x7_1) else (lookasideref12_At.l0 k1 a1 a2 (wrap64 (x7_1 + 1)) a0_0 l0_1 a0_2 l0_3)) = some r := H
            have A8 := Aside0.mk A80
            clear A80
            by_cases c9 : t153 = ((rd_T105 l0_1 x7_1).f1.f0)
            · rw [if_pos c9] at H
              have c9b0 : (t153 == ((rd_T105 l0_1 x7_1).f1.f0)) = true := beq_iff_eq.mpr c9
              have c9b1 : (t153 != ((rd_T105 l0_1 x7_1).f1.f0)) = false := bne_eq_false_iff_eq.mpr c9
              clear c9
              obtain rfl := Option.some.inj H
              have hcz10_0 : wr.cell? ⟨gb150, 0, none⟩ = some (.int .i64 a0_0) := (blk_cell BK150.out 0).trans rfl
              have hcz10_1 : wr.cell? ⟨gb150, 1, none⟩ = some (.slice A0_1 l0_1.length c0_1) := (blk_cell BK150.out 1).trans rfl
              have hcz10_2 : wr.cell? ⟨gb150, 2, none⟩ = some (.int .i64 a0_2) := (blk_cell BK150.out 2).trans rfl
              have hcz10_3 : wr.cell? ⟨gb150, 3, none⟩ = some (.slice A0_3 l0_3.length c0_3) := (blk_cell BK150.out 3).trans rfl
              have hfz10_0 := blk_frozen BK150.out 0
              have hfz10_1 := blk_frozen BK150.out 1
              have hfz10_2 := blk_frozen BK150.out 2
              have hfz10_3 := blk_frozen BK150.out 3
              have p151 : 0 ≤ (x7_1 : Int) := of_decide_eq_true (by first | (with_reducible assumption) | assumption)
              have q151 : x7_1 < (l0_1.length : Int) := of_decide_eq_true (by first | (with_reducible assumption) | assumption)
              obtain ⟨ad151, e151, hx151_0, hx151_1, hx151_2, hx151_3, hx151_4, hx151_5, hx151_6, hx151_7, hx151_8, hx151_9, hx151_10, hx151_11⟩ := at_T105 HR0_1.out x7_1 p151 q151
              cases e151
              replace hx151_0 := (HB.out.cell (World.block_lt_of_cell? w _ hx151_0)).trans hx151_0
              replace hx151_1 := (HB.out.cell (World.block_lt_of_cell? w _ hx151_1)).trans hx151_1
              replace hx151_2 := (HB.out.cell (World.block_lt_of_cell? w _ hx151_2)).trans hx151_2
              replace hx151_3 := (HB.out.cell (World.block_lt_of_cell? w _ hx151_3)).trans hx151_3
              replace hx151_4 := (HB.out.cell (World.block_lt_of_cell? w _ hx151_4)).trans hx151_4
              replace hx151_5 := (HB.out.cell (World.block_lt_of_cell? w _ hx151_5)).trans hx151_5
              replace hx151_6 := (HB.out.cell (World.block_lt_of_cell? w _ hx151_6)).trans hx151_6
              replace hx151_7 := (HB.out.cell (World.block_lt_of_cell? w _ hx151_7)).trans hx151_7
              replace hx151_8 := (HB.out.cell (World.block_lt_of_cell? w _ hx151_8)).trans hx151_8
              replace hx151_9 := (HB.out.cell (World.block_lt_of_cell? w _ hx151_9)).trans hx151_9
              replace hx151_10 := (HB.out.cell (World.block_lt_of_cell? w _ hx151_10)).trans hx151_10
              replace hx151_11 := (HB.out.cell (World.block_lt_of_cell? w _ hx151_11)).trans hx151_11
              replace p151 := eq_true p151
              replace q151 := eq_true q151
              go_wp2_with fail
              repeat (go_quiet (first | (go_at_call 18; (with_reducible refine (lookasideref02_Base.calls a2 ((rd_T105 l0_1 x7_1).f1.f1) t153 _ A8.out).mono ?_); rintro e w' ⟨rfl, ⟨nd, rfl⟩⟩; (try first | exact ⟨rfl, _, World.drewN_drewN _ _ _⟩ | exact ⟨rfl, _, Eq.trans (World.drewN_drewN _ _ _) (congrArg (World.drewN _) (Nat.add_assoc _ _ _))⟩))); try go_wp2_with fail)
              go_ret
              exact ⟨by first | rfl | (simp [errW_none, errW_some] <;> rfl) | (simp [*, errW_none, errW_some] <;> rfl), by repeat (first | (with_reducible first | exact HB.out | apply below_alloc | apply pw_below_drewN | apply below_drew1 | refine below_set ?_ GE150.out | refine below_set ?_ GE152.out) | exact HB.out)⟩
            · rw [if_neg c9] at H
              have c9b0 : (t153 == ((rd_T105 l0_1 x7_1).f1.f0)) = false := beq_eq_false_iff_ne.mpr c9
              have c9b1 : (t153 != ((rd_T105 l0_1 x7_1).f1.f0)) = true := bne_iff_ne.mpr c9
              have H' := Aside0.mk H
              clear H
              have hcz14_0 : wr.cell? ⟨gb150, 0, none⟩ = some (.int .i64 a0_0) := (blk_cell BK150.out 0).trans rfl
              have hcz14_1 : wr.cell? ⟨gb150, 1, none⟩ = some (.slice A0_1 l0_1.length c0_1) := (blk_cell BK150.out 1).trans rfl
              have hcz14_2 : wr.cell? ⟨gb150, 2, none⟩ = some (.int .i64 a0_2) := (blk_cell BK150.out 2).trans rfl
              have hcz14_3 : wr.cell? ⟨gb150, 3, none⟩ = some (.slice A0_3 l0_3.length c0_3) := (blk_cell BK150.out 3).trans rfl
              have hfz14_0 := blk_frozen BK150.out 0
              have hfz14_1 := blk_frozen BK150.out 1
              have hfz14_2 := blk_frozen BK150.out 2
              have hfz14_3 := blk_frozen BK150.out 3
              have p151 : 0 ≤ (x7_1 : Int) := of_decide_eq_true (by first | (with_reducible assumption) | assumption)
              have q151 : x7_1 < (l0_1.length : Int) := of_decide_eq_true (by first | (with_reducible assumption) | assumption)
              obtain ⟨ad151, e151, hx151_0, hx151_1, hx151_2, hx151_3, hx151_4, hx151_5, hx151_6, hx151_7, hx151_8, hx151_9, hx151_10, hx151_11⟩ := at_T105 HR0_1.out x7_1 p151 q151
              cases e151
              replace hx151_0 := (HB.out.cell (World.block_lt_of_cell? w _ hx151_0)).trans hx151_0
              replace hx151_1 := (HB.out.cell (World.block_lt_of_cell? w _ hx151_1)).trans hx151_1
              replace hx151_2 := (HB.out.cell (World.block_lt_of_cell? w _ hx151_2)).trans hx151_2
              replace hx151_3 := (HB.out.cell (World.block_lt_of_cell? w _ hx151_3)).trans hx151_3
              replace hx151_4 := (HB.out.cell (World.block_lt_of_cell? w _ hx151_4)).trans hx151_4
              replace hx151_5 := (HB.out.cell (World.block_lt_of_cell? w _ hx151_5)).trans hx151_5
              replace hx151_6 := (HB.out.cell (World.block_lt_of_cell? w _ hx151_6)).trans hx151_6
              replace hx151_7 := (HB.out.cell (World.block_lt_of_cell? w _ hx151_7)).trans hx151_7
              replace hx151_8 := (HB.out.cell (World.block_lt_of_cell? w _ hx151_8)).trans hx151_8
              replace hx151_9 := (HB.out.cell (World.block_lt_of_cell? w _ hx151_9)).trans hx151_9
              replace hx151_10 := (HB.out.cell (World.block_lt_of_cell? w _ hx151_10)).trans hx151_10
              replace hx151_11 := (HB.out.cell (World.block_lt_of_cell? w _ hx151_11)).trans hx151_11
              replace p151 := eq_true p151
              replace q151 := eq_true q151
              go_wp2_with (first | ((with_reducible refine gate_dst (N := 8) rfl ?_); refine box_event ?hg (N := 8) ?hd (cs := #[.int .i64 0, .int .u64 0, .int .i64 0, .int .u64 0, .bool false, .bool false, .bool false, .bool false, .bool false, .bool false, .bool false, .bool false]) (t := 105) ?hr ?_; (case hd => rfl); (case hg => rfl); (case hr => first | (go_simp; done) | (go_simp; rfl)); intro gb152 hg w15 hbox hb; have n0_ := Aside0.mk (blk_below (g := gb150) (o := .cells #[.int .i64 a0_0, .slice (some ad151) l0_1.length c0_1, .int .i64 a0_2, .slice A0_3 l0_3.length c0_3] 102 (0, 0)) (by (with_reducible repeat (first | refine blk_drewN ?_ _ | refine blk_drew ?_ | refine blk_alloc ?_ _)); exact BK150.out) hb); have n1_ := Aside0.mk (below_step (by repeat (first | (with_reducible first | exact HB.out | apply below_alloc | apply pw_below_drewN | apply below_drew1 | refine below_set ?_ GE150.out) | exact HB.out)) hb); have n2_ := Aside0.mk (hbox); have n3_ := Aside0.mk ((by rw [hg]; exact (below_size (by repeat (first | (with_reducible first | exact HB.out | apply below_alloc | apply pw_below_drewN | apply below_drew1 | refine below_set ?_ GE150.out) | exact HB.out))) : w.heap.size ≤ gb152)); have n4_ := Aside0.mk ((by rw [hg]; exact (below_size (by repeat (first | (with_reducible first | exact HB.out | apply below_alloc | apply pw_below_drewN | apply below_drew1 | refine below_set ?_ GE150.out) | exact HB.out))) : w.heap.size ≤ gb152)); have n5_ := Aside0.mk ((by rw [hg]; exact Nat.ne_of_lt (blk_lt (g := gb150) (o := .cells #[.int .i64 a0_0, .slice (some ad151) l0_1.length c0_1, .int .i64 a0_2, .slice A0_3 l0_3.length c0_3] 102 (0, 0)) (by (with_reducible repeat (first | refine blk_drewN ?_ _ | refine blk_drew ?_ | refine blk_alloc ?_ _)); exact BK150.out)) : gb150 ≠ gb152)); have n6_ := Aside0.mk ((by rw [hg]; exact Nat.ne_of_gt (blk_lt (g := gb150) (o := .cells #[.int .i64 a0_0, .slice (some ad151) l0_1.length c0_1, .int .i64 a0_2, .slice A0_3 l0_3.length c0_3] 102 (0, 0)) (by (with_reducible repeat (first | refine blk_drewN ?_ _ | refine blk_drew ?_ | refine blk_alloc ?_ _)); exact BK150.out)) : gb152 ≠ gb150)); clear BK150; clear HB; have BK150 := n0_; have HB := n1_; have BK152 := n2_; have GW152 := n3_; have GE152 := n4_; have NB150_152 := n5_; have NB152_150 := n6_; clear n0_ n1_ n2_ n3_ n4_ n5_ n6_; clear hb hbox hg; have hnb16 := NB152_150.out; have hnc16 := NB150_152.out; have hcz17_0 : w15.cell? ⟨gb152, 0, none⟩ = some (.int .i64 0) := (blk_cell BK152.out 0).trans rfl; have hcz17_1 : w15.cell? ⟨gb152, 1, none⟩ = some (.int .u64 0) := (blk_cell BK152.out 1).trans rfl; have hcz17_2 : w15.cell? ⟨gb152, 2, none⟩ = some (.int .i64 0) := (blk_cell BK152.out 2).trans rfl; have hcz17_3 : w15.cell? ⟨gb152, 3, none⟩ = some (.int .u64 0) := (blk_cell BK152.out 3).trans rfl; have hcz17_4 : w15.cell? ⟨gb152, 4, none⟩ = some (.bool false) := (blk_cell BK152.out 4).trans rfl; have hcz17_5 : w15.cell? ⟨gb152, 5, none⟩ = some (.bool false) := (blk_cell BK152.out 5).trans rfl; have hcz17_6 : w15.cell? ⟨gb152, 6, none⟩ = some (.bool false) := (blk_cell BK152.out 6).trans rfl; have hcz17_7 : w15.cell? ⟨gb152, 7, none⟩ = some (.bool false) := (blk_cell BK152.out 7).trans rfl; have hcz17_8 : w15.cell? ⟨gb152, 8, none⟩ = some (.bool false) := (blk_cell BK152.out 8).trans rfl; have hcz17_9 : w15.cell? ⟨gb152, 9, none⟩ = some (.bool false) := (blk_cell BK152.out 9).trans rfl; have hcz17_10 : w15.cell? ⟨gb152, 10, none⟩ = some (.bool false) := (blk_cell BK152.out 10).trans rfl; have hcz17_11 : w15.cell? ⟨gb152, 11, none⟩ = some (.bool false) := (blk_cell BK152.out 11).trans rfl; have hfz17_0 := blk_frozen BK152.out 0; have hfz17_1 := blk_frozen BK152.out 1; have hfz17_2 := blk_frozen BK152.out 2; have hfz17_3 := blk_frozen BK152.out 3; have hfz17_4 := blk_frozen BK152.out 4; have hfz17_5 := blk_frozen BK152.out 5; have hfz17_6 := blk_frozen BK152.out 6; have hfz17_7 := blk_frozen BK152.out 7; have hfz17_8 := blk_frozen BK152.out 8; have hfz17_9 := blk_frozen BK152.out 9; have hfz17_10 := blk_frozen BK152.out 10; have hfz17_11 := blk_frozen BK152.out 11))
              repeat (go_quiet (first | (go_at_call 18; (with_reducible refine (lookasideref02_Base.calls a2 ((rd_T105 l0_1 x7_1).f1.f1) t153 _ A8.out).mono ?_); rintro e w' ⟨rfl, ⟨nd, rfl⟩⟩; (try first | exact ⟨rfl, _, World.drewN_drewN _ _ _⟩ | exact ⟨rfl, _, Eq.trans (World.drewN_drewN _ _ _) (congrArg (World.drewN _) (Nat.add_assoc _ _ _))⟩))); try go_wp2_with fail)
              go_roundg k1
              case measure => have := HK1.out; omega
              case rel => exact ⟨(wrap64 (x7_1 + 1)), (by first | rfl | (simp; done) | (simp [*]; done)), H', ⟨by have := HK1.out; omega⟩, ⟨by (with_reducible repeat (first | refine blk_drewN ?_ _ | refine blk_drew ?_ | refine blk_alloc ?_ _)); refine blk_far ?_ NB150_152.out _; (with_reducible repeat (first | refine blk_drewN ?_ _ | refine blk_drew ?_ | refine blk_alloc ?_ _)); refine blk_far ?_ NB150_152.out _; (with_reducible repeat (first | refine blk_drewN ?_ _ | refine blk_drew ?_ | refine blk_alloc ?_ _)); refine blk_far ?_ NB150_152.out _; (with_reducible repeat (first | refine blk_drewN ?_ _ | refine blk_drew ?_ | refine blk_alloc ?_ _)); refine blk_far ?_ NB150_152.out _; (with_reducible repeat (first | refine blk_drewN ?_ _ | refine blk_drew ?_ | refine blk_alloc ?_ _)); refine blk_far ?_ NB150_152.out _; (with_reducible repeat (first | refine blk_drewN ?_ _ | refine blk_drew ?_ | refine blk_alloc ?_ _)); refine blk_far ?_ NB150_152.out _; (with_reducible repeat (first | refine blk_drewN ?_ _ | refine blk_drew ?_ | refine blk_alloc ?_ _)); refine blk_far ?_ NB150_152.out _; (with_reducible repeat (first | refine blk_drewN ?_ _ | refine blk_drew ?_ | refine blk_alloc ?_ _)); refine blk_far ?_ NB150_152.out _; (with_reducible repeat (first | refine blk_drewN ?_ _ | refine blk_drew ?_ | refine blk_alloc ?_ _)); refine blk_far ?_ NB150_152.out _; (with_reducible repeat (first | refine blk_drewN ?_ _ | refine blk_drew ?_ | refine blk_alloc ?_ _)); refine blk_far ?_ NB150_152.out _; (with_reducible repeat (first | refine blk_drewN ?_ _ | refine blk_drew ?_ | refine blk_alloc ?_ _)); refine blk_far ?_ NB150_152.out _; (with_reducible repeat (first | refine blk_drewN ?_ _ | refine blk_drew ?_ | refine blk_alloc ?_ _)); refine blk_far ?_ NB150_152.out _; (with_reducible repeat (first | refine blk_drewN ?_ _ | refine blk_drew ?_ | refine blk_alloc ?_ _)); exact BK150.out⟩, ⟨by repeat (first | (with_reducible first | exact HB.out | apply below_alloc | apply pw_below_drewN | apply below_drew1 | refine below_set ?_ GE150.out | refine below_set ?_ GE152.out) | exact HB.out)⟩⟩
          · rw [if_neg c7] at H
            have c7b0 : (((rd_T105 l0_1 x7_1).f0) == a1) = false := beq_eq_false_iff_ne.mpr c7
            have c7b1 : (((rd_T105 l0_1 x7_1).f0) != a1) = true := bne_iff_ne.mpr c7
            have H' := Aside0.mk H
            clear H
            have hcz18_0 : wr.cell? ⟨gb150, 0, none⟩ = some (.int .i64 a0_0) := (blk_cell BK150.out 0).trans rfl
            have hcz18_1 : wr.cell? ⟨gb150, 1, none⟩ = some (.slice A0_1 l0_1.length c0_1) := (blk_cell BK150.out 1).trans rfl
            have hcz18_2 : wr.cell? ⟨gb150, 2, none⟩ = some (.int .i64 a0_2) := (blk_cell BK150.out 2).trans rfl
            have hcz18_3 : wr.cell? ⟨gb150, 3, none⟩ = some (.slice A0_3 l0_3.length c0_3) := (blk_cell BK150.out 3).trans rfl
            have hfz18_0 := blk_frozen BK150.out 0
            have hfz18_1 := blk_frozen BK150.out 1
            have hfz18_2 := blk_frozen BK150.out 2
            have hfz18_3 := blk_frozen BK150.out 3
            have p151 : 0 ≤ (x7_1 : Int) := of_decide_eq_true (by first | (with_reducible assumption) | assumption)
            have q151 : x7_1 < (l0_1.length : Int) := of_decide_eq_true (by first | (with_reducible assumption) | assumption)
            obtain ⟨ad151, e151, hx151_0, hx151_1, hx151_2, hx151_3, hx151_4, hx151_5, hx151_6, hx151_7, hx151_8, hx151_9, hx151_10, hx151_11⟩ := at_T105 HR0_1.out x7_1 p151 q151
            cases e151
            replace hx151_0 := (HB.out.cell (World.block_lt_of_cell? w _ hx151_0)).trans hx151_0
            replace hx151_1 := (HB.out.cell (World.block_lt_of_cell? w _ hx151_1)).trans hx151_1
            replace hx151_2 := (HB.out.cell (World.block_lt_of_cell? w _ hx151_2)).trans hx151_2
            replace hx151_3 := (HB.out.cell (World.block_lt_of_cell? w _ hx151_3)).trans hx151_3
            replace hx151_4 := (HB.out.cell (World.block_lt_of_cell? w _ hx151_4)).trans hx151_4
            replace hx151_5 := (HB.out.cell (World.block_lt_of_cell? w _ hx151_5)).trans hx151_5
            replace hx151_6 := (HB.out.cell (World.block_lt_of_cell? w _ hx151_6)).trans hx151_6
            replace hx151_7 := (HB.out.cell (World.block_lt_of_cell? w _ hx151_7)).trans hx151_7
            replace hx151_8 := (HB.out.cell (World.block_lt_of_cell? w _ hx151_8)).trans hx151_8
            replace hx151_9 := (HB.out.cell (World.block_lt_of_cell? w _ hx151_9)).trans hx151_9
            replace hx151_10 := (HB.out.cell (World.block_lt_of_cell? w _ hx151_10)).trans hx151_10
            replace hx151_11 := (HB.out.cell (World.block_lt_of_cell? w _ hx151_11)).trans hx151_11
            replace p151 := eq_true p151
            replace q151 := eq_true q151
            go_wp2_with (first | ((with_reducible refine gate_dst (N := 8) rfl ?_); refine box_event ?hg (N := 8) ?hd (cs := #[.int .i64 0, .int .u64 0, .int .i64 0, .int .u64 0, .bool false, .bool false, .bool false, .bool false, .bool false, .bool false, .bool false, .bool false]) (t := 105) ?hr ?_; (case hd => rfl); (case hg => rfl); (case hr => first | (go_simp; done) | (go_simp; rfl)); intro gb152 hg w19 hbox hb; have n0_ := Aside0.mk (blk_below (g := gb150) (o := .cells #[.int .i64 a0_0, .slice (some ad151) l0_1.length c0_1, .int .i64 a0_2, .slice A0_3 l0_3.length c0_3] 102 (0, 0)) (by (with_reducible repeat (first | refine blk_drewN ?_ _ | refine blk_drew ?_ | refine blk_alloc ?_ _)); exact BK150.out) hb); have n1_ := Aside0.mk (below_step (by repeat (first | (with_reducible first | exact HB.out | apply below_alloc | apply pw_below_drewN | apply below_drew1 | refine below_set ?_ GE150.out) | exact HB.out)) hb); have n2_ := Aside0.mk (hbox); have n3_ := Aside0.mk ((by rw [hg]; exact (below_size (by repeat (first | (with_reducible first | exact HB.out | apply below_alloc | apply pw_below_drewN | apply below_drew1 | refine below_set ?_ GE150.out) | exact HB.out))) : w.heap.size ≤ gb152)); have n4_ := Aside0.mk ((by rw [hg]; exact (below_size (by repeat (first | (with_reducible first | exact HB.out | apply below_alloc | apply pw_below_drewN | apply below_drew1 | refine below_set ?_ GE150.out) | exact HB.out))) : w.heap.size ≤ gb152)); have n5_ := Aside0.mk ((by rw [hg]; exact Nat.ne_of_lt (blk_lt (g := gb150) (o := .cells #[.int .i64 a0_0, .slice (some ad151) l0_1.length c0_1, .int .i64 a0_2, .slice A0_3 l0_3.length c0_3] 102 (0, 0)) (by (with_reducible repeat (first | refine blk_drewN ?_ _ | refine blk_drew ?_ | refine blk_alloc ?_ _)); exact BK150.out)) : gb150 ≠ gb152)); have n6_ := Aside0.mk ((by rw [hg]; exact Nat.ne_of_gt (blk_lt (g := gb150) (o := .cells #[.int .i64 a0_0, .slice (some ad151) l0_1.length c0_1, .int .i64 a0_2, .slice A0_3 l0_3.length c0_3] 102 (0, 0)) (by (with_reducible repeat (first | refine blk_drewN ?_ _ | refine blk_drew ?_ | refine blk_alloc ?_ _)); exact BK150.out)) : gb152 ≠ gb150)); clear BK150; clear HB; have BK150 := n0_; have HB := n1_; have BK152 := n2_; have GW152 := n3_; have GE152 := n4_; have NB150_152 := n5_; have NB152_150 := n6_; clear n0_ n1_ n2_ n3_ n4_ n5_ n6_; clear hb hbox hg; have hnb20 := NB152_150.out; have hnc20 := NB150_152.out; have hcz21_0 : w19.cell? ⟨gb152, 0, none⟩ = some (.int .i64 0) := (blk_cell BK152.out 0).trans rfl; have hcz21_1 : w19.cell? ⟨gb152, 1, none⟩ = some (.int .u64 0) := (blk_cell BK152.out 1).trans rfl; have hcz21_2 : w19.cell? ⟨gb152, 2, none⟩ = some (.int .i64 0) := (blk_cell BK152.out 2).trans rfl; have hcz21_3 : w19.cell? ⟨gb152, 3, none⟩ = some (.int .u64 0) := (blk_cell BK152.out 3).trans rfl; have hcz21_4 : w19.cell? ⟨gb152, 4, none⟩ = some (.bool false) := (blk_cell BK152.out 4).trans rfl; have hcz21_5 : w19.cell? ⟨gb152, 5, none⟩ = some (.bool false) := (blk_cell BK152.out 5).trans rfl; have hcz21_6 : w19.cell? ⟨gb152, 6, none⟩ = some (.bool false) := (blk_cell BK152.out 6).trans rfl; have hcz21_7 : w19.cell? ⟨gb152, 7, none⟩ = some (.bool false) := (blk_cell BK152.out 7).trans rfl; have hcz21_8 : w19.cell? ⟨gb152, 8, none⟩ = some (.bool false) := (blk_cell BK152.out 8).trans rfl; have hcz21_9 : w19.cell? ⟨gb152, 9, none⟩ = some (.bool false) := (blk_cell BK152.out 9).trans rfl; have hcz21_10 : w19.cell? ⟨gb152, 10, none⟩ = some (.bool false) := (blk_cell BK152.out 10).trans rfl; have hcz21_11 : w19.cell? ⟨gb152, 11, none⟩ = some (.bool false) := (blk_cell BK152.out 11).trans rfl; have hfz21_0 := blk_frozen BK152.out 0; have hfz21_1 := blk_frozen BK152.out 1; have hfz21_2 := blk_frozen BK152.out 2; have hfz21_3 := blk_frozen BK152.out 3; have hfz21_4 := blk_frozen BK152.out 4; have hfz21_5 := blk_frozen BK152.out 5; have hfz21_6 := blk_frozen BK152.out 6; have hfz21_7 := blk_frozen BK152.out 7; have hfz21_8 := blk_frozen BK152.out 8; have hfz21_9 := blk_frozen BK152.out 9; have hfz21_10 := blk_frozen BK152.out 10; have hfz21_11 := blk_frozen BK152.out 11))
            repeat (go_quiet (first | ((with_reducible refine gate_dst (N := 8) rfl ?_); refine box_event ?hg (N := 8) ?hd (cs := #[.int .i64 0, .int .u64 0, .int .i64 0, .int .u64 0, .bool false, .bool false, .bool false, .bool false, .bool false, .bool false, .bool false, .bool false]) (t := 105) ?hr ?_; (case hd => rfl); (case hg => rfl); (case hr => first | (go_simp; done) | (go_simp; rfl)); intro gb152 hg w19 hbox hb; have n0_ := Aside0.mk (blk_below (g := gb150) (o := .cells #[.int .i64 a0_0, .slice (some ad151) l0_1.length c0_1, .int .i64 a0_2, .slice A0_3 l0_3.length c0_3] 102 (0, 0)) (by (with_reducible repeat (first | refine blk_drewN ?_ _ | refine blk_drew ?_ | refine blk_alloc ?_ _)); exact BK150.out) hb); have n1_ := Aside0.mk (below_step (by repeat (first | (with_reducible first | exact HB.out | apply below_alloc | apply pw_below_drewN | apply below_drew1 | refine below_set ?_ GE150.out) | exact HB.out)) hb); have n2_ := Aside0.mk (hbox); have n3_ := Aside0.mk ((by rw [hg]; exact (below_size (by repeat (first | (with_reducible first | exact HB.out | apply below_alloc | apply pw_below_drewN | apply below_drew1 | refine below_set ?_ GE150.out) | exact HB.out))) : w.heap.size ≤ gb152)); have n4_ := Aside0.mk ((by rw [hg]; exact (below_size (by repeat (first | (with_reducible first | exact HB.out | apply below_alloc | apply pw_below_drewN | apply below_drew1 | refine below_set ?_ GE150.out) | exact HB.out))) : w.heap.size ≤ gb152)); have n5_ := Aside0.mk ((by rw [hg]; exact Nat.ne_of_lt (blk_lt (g := gb150) (o := .cells #[.int .i64 a0_0, .slice (some ad151) l0_1.length c0_1, .int .i64 a0_2, .slice A0_3 l0_3.length c0_3] 102 (0, 0)) (by (with_reducible repeat (first | refine blk_drewN ?_ _ | refine blk_drew ?_ | refine blk_alloc ?_ _)); exact BK150.out)) : gb150 ≠ gb152)); have n6_ := Aside0.mk ((by rw [hg]; exact Nat.ne_of_gt (blk_lt (g := gb150) (o := .cells #[.int .i64 a0_0, .slice (some ad151) l0_1.length c0_1, .int .i64 a0_2, .slice A0_3 l0_3.length c0_3] 102 (0, 0)) (by (with_reducible repeat (first | refine blk_drewN ?_ _ | refine blk_drew ?_ | refine blk_alloc ?_ _)); exact BK150.out)) : gb152 ≠ gb150)); clear BK150; clear HB; have BK150 := n0_; have HB := n1_; have BK152 := n2_; have GW152 := n3_; have GE152 := n4_; have NB150_152 := n5_; have NB152_150 := n6_; clear n0_ n1_ n2_ n3_ n4_ n5_ n6_; clear hb hbox hg; have hnb20 := NB152_150.out; have hnc20 := NB150_152.out; have hcz21_0 : w19.cell? ⟨gb152, 0, none⟩ = some (.int .i64 0) := (blk_cell BK152.out 0).trans rfl; have hcz21_1 : w19.cell? ⟨gb152, 1, none⟩ = some (.int .u64 0) := (blk_cell BK152.out 1).trans rfl; have hcz21_2 : w19.cell? ⟨gb152, 2, none⟩ = some (.int .i64 0) := (blk_cell BK152.out 2).trans rfl; have hcz21_3 : w19.cell? ⟨gb152, 3, none⟩ = some (.int .u64 0) := (blk_cell BK152.out 3).trans rfl; have hcz21_4 : w19.cell? ⟨gb152, 4, none⟩ = some (.bool false) := (blk_cell BK152.out 4).trans rfl; have hcz21_5 : w19.cell? ⟨gb152, 5, none⟩ = some (.bool false) := (blk_cell BK152.out 5).trans rfl; have hcz21_6 : w19.cell? ⟨gb152, 6, none⟩ = some (.bool false) := (blk_cell BK152.out 6).trans rfl; have hcz21_7 : w19.cell? ⟨gb152, 7, none⟩ = some (.bool false) := (blk_cell BK152.out 7).trans rfl; have hcz21_8 : w19.cell? ⟨gb152, 8, none⟩ = some (.bool false) := (blk_cell BK152.out 8).trans rfl; have hcz21_9 : w19.cell? ⟨gb152, 9, none⟩ = some (.bool false) := (blk_cell BK152.out 9).trans rfl; have hcz21_10 : w19.cell? ⟨gb152, 10, none⟩ = some (.bool false) := (blk_cell BK152.out 10).trans rfl; have hcz21_11 : w19.cell? ⟨gb152, 11, none⟩ = some (.bool false) := (blk_cell BK152.out 11).trans rfl; have hfz21_0 := blk_frozen BK152.out 0; have hfz21_1 := blk_frozen BK152.out 1; have hfz21_2 := blk_frozen BK152.out 2; have hfz21_3 := blk_frozen BK152.out 3; have hfz21_4 := blk_frozen BK152.out 4; have hfz21_5 := blk_frozen BK152.out 5; have hfz21_6 := blk_frozen BK152.out 6; have hfz21_7 := blk_frozen BK152.out 7; have hfz21_8 := blk_frozen BK152.out 8; have hfz21_9 := blk_frozen BK152.out 9; have hfz21_10 := blk_frozen BK152.out 10; have hfz21_11 := blk_frozen BK152.out 11)); try go_wp2_with fail)
            go_roundg k1
            case measure => have := HK1.out; omega
            case rel => exact ⟨(wrap64 (x7_1 + 1)), (by first | rfl | (simp; done) | (simp [*]; done)), H', ⟨by have := HK1.out; omega⟩, ⟨by (with_reducible repeat (first | refine blk_drewN ?_ _ | refine blk_drew ?_ | refine blk_alloc ?_ _)); refine blk_far ?_ NB150_152.out _; (with_reducible repeat (first | refine blk_drewN ?_ _ | refine blk_drew ?_ | refine blk_alloc ?_ _)); refine blk_far ?_ NB150_152.out _; (with_reducible repeat (first | refine blk_drewN ?_ _ | refine blk_drew ?_ | refine blk_alloc ?_ _)); refine blk_far ?_ NB150_152.out _; (with_reducible repeat (first | refine blk_drewN ?_ _ | refine blk_drew ?_ | refine blk_alloc ?_ _)); refine blk_far ?_ NB150_152.out _; (with_reducible repeat (first | refine blk_drewN ?_ _ | refine blk_drew ?_ | refine blk_alloc ?_ _)); refine blk_far ?_ NB150_152.out _; (with_reducible repeat (first | refine blk_drewN ?_ _ | refine blk_drew ?_ | refine blk_alloc ?_ _)); refine blk_far ?_ NB150_152.out _; (with_reducible repeat (first | refine blk_drewN ?_ _ | refine blk_drew ?_ | refine blk_alloc ?_ _)); refine blk_far ?_ NB150_152.out _; (with_reducible repeat (first | refine blk_drewN ?_ _ | refine blk_drew ?_ | refine blk_alloc ?_ _)); refine blk_far ?_ NB150_152.out _; (with_reducible repeat (first | refine blk_drewN ?_ _ | refine blk_drew ?_ | refine blk_alloc ?_ _)); refine blk_far ?_ NB150_152.out _; (with_reducible repeat (first | refine blk_drewN ?_ _ | refine blk_drew ?_ | refine blk_alloc ?_ _)); refine blk_far ?_ NB150_152.out _; (with_reducible repeat (first | refine blk_drewN ?_ _ | refine blk_drew ?_ | refine blk_alloc ?_ _)); refine blk_far ?_ NB150_152.out _; (with_reducible repeat (first | refine blk_drewN ?_ _ | refine blk_drew ?_ | refine blk_alloc ?_ _)); refine blk_far ?_ NB150_152.out _; (with_reducible repeat (first | refine blk_drewN ?_ _ | refine blk_drew ?_ | refine blk_alloc ?_ _)); exact BK150.out⟩, ⟨by repeat (first | (with_reducible first | exact HB.out | apply below_alloc | apply pw_below_drewN | apply below_drew1 | refine below_set ?_ GE150.out | refine below_set ?_ GE152.out) | exact HB.out)⟩⟩
        · rw [if_neg c6] at H
          exact absurd H (by simp)
      · rw [if_neg c5] at H
        have c5b0 : decide (x7_1 < (l0_1.length : Int)) = false := decide_eq_false c5
        clear c5
        obtain rfl := Option.some.inj H
        have hcz22_0 : wr.cell? ⟨gb150, 0, none⟩ = some (.int .i64 a0_0) := (blk_cell BK150.out 0).trans rfl
        have hcz22_1 : wr.cell? ⟨gb150, 1, none⟩ = some (.slice A0_1 l0_1.length c0_1) := (blk_cell BK150.out 1).trans rfl
        have hcz22_2 : wr.cell? ⟨gb150, 2, none⟩ = some (.int .i64 a0_2) := (blk_cell BK150.out 2).trans rfl
        have hcz22_3 : wr.cell? ⟨gb150, 3, none⟩ = some (.slice A0_3 l0_3.length c0_3) := (blk_cell BK150.out 3).trans rfl
        have hfz22_0 := blk_frozen BK150.out 0
        have hfz22_1 := blk_frozen BK150.out 1
        have hfz22_2 := blk_frozen BK150.out 2
        have hfz22_3 := blk_frozen BK150.out 3
        go_wp2
        repeat (go_quiet (fail); try go_wp2)
        go_ret
        exact ⟨by first | rfl | (simp [errW_none, errW_some] <;> rfl) | (simp [*, errW_none, errW_some] <;> rfl), by repeat (first | (with_reducible first | exact HB.out | apply below_alloc | apply pw_below_drewN | apply below_drew1 | refine below_set ?_ GE150.out) | exact HB.out)⟩
end Go.Proofs.Ytalmemcidbmdgaa.PM

-- written by xprint.py, a program of this session, over the kit's print (functions told by hand: see the texts)
namespace Go.Proofs.Ytalmemcidbmdgaa.PM
open Go.RowKit Go.Proofs.YtalmemcidbmdgaaW.PrintWords Go.Proofs.YtalmemcidbmdgaaW.PrintLast Go.Proofs.YtalmemcidbmdgaaW.PrintMore
attribute [local go_sem] max2_int min2_int max_two min_two max_three min_three max_four min_four   -- for this text's walks alone
set_option linter.unusedVariables false
set_option linter.unusedSimpArgs false

/-! ### lookasideref16_At: function 36 -/
def lookasideref16_At.f (k : Nat) (a0_0 : Int) (l0_1 : List (S105)) (l0_2 : List (S114)) (a0_3 : Int) (a1 : Int) (a2 : Int) : Option (Int) := (lookasideref12_At.f k 0 l0_1 0 ([] : List (List (S196))) a1 a2).bind fun t155 => (some t155)
set_option maxHeartbeats 8000000 in
set_option maxRecDepth 100000 in
theorem lookasideref16_At.calls (k : Nat) (a0_0 : Int) (A0_1 : Option Addr) (c0_1 : Nat) (l0_1 : List (S105)) (A0_2 : Option Addr) (c0_2 : Nat) (l0_2 : List (S114)) (a0_3 : Int) (a1 : Int) (a2 : Int) (r : Int) (w : World) (hr0_1 : Kd.C k105 w A0_1 l0_1.length l0_1) (hc0_1 : l0_1.length ≤ c0_1) (hr0_2 : Kd.C k114 w A0_2 l0_2.length l0_2) (hc0_2 : l0_2.length ≤ c0_2) (h : lookasideref16_At.f k a0_0 l0_1 l0_2 a0_3 a1 a2 = some r) :
    Calls Try.prog 36 #[.agg #[.int .i64 a0_0, .slice A0_1 l0_1.length c0_1, .slice A0_2 l0_2.length c0_2, .int .i64 a0_3], .int .i64 a1, .int .u64 a2] w fun e w' => e = .returned (.int .i64 r) ∧ Below w.heap.size w w' := by
  have hu29 := Try.underlying29
  have hu102 := Try.underlying102
  have HR0_1 := Aside0.mk hr0_1
  have HC0_1 := Aside0.mk hc0_1
  clear hr0_1 hc0_1
  have HR0_2 := Aside0.mk hr0_2
  have HC0_2 := Aside0.mk hc0_2
  clear hr0_2 hc0_2
  have HB := Aside0.mk (Below.refl w.heap.size w)
  have H : ((lookasideref12_At.f k 0 l0_1 0 ([] : List (List (S196))) a1 a2).bind fun t155 => (some t155)) = some r := h
  clear h
  replace H := Option.bind_eq_some_iff.mp H
  obtain ⟨t155, A40, H⟩ := H
  replace H : (some t155) = some r := H
  have A4 := Aside0.mk A40
  clear A40
  obtain rfl := Option.some.inj H
  go_enter Try.func36, Try.ntmps36
  go_wp2_with (first | ((with_reducible refine gate_dst (N := 3) rfl ?_); refine box_event ?hg (N := 3) ?hd (cs := #[.int .i64 a0_0, .slice A0_1 l0_1.length c0_1, .slice A0_2 l0_2.length c0_2, .int .i64 a0_3]) (t := 29) ?hr ?_; (case hd => rfl); (case hg => rfl); (case hr => first | (go_simp; done) | (go_simp; rfl)); intro gb154 hg w5 hbox hb; have n0_ := Aside0.mk (below_step (by repeat (first | (with_reducible first | exact HB.out | apply below_alloc | apply pw_below_drewN | apply below_drew1) | exact HB.out)) hb); have n1_ := Aside0.mk (hbox); have n2_ := Aside0.mk ((by rw [hg]; exact (below_size (by repeat (first | (with_reducible first | exact HB.out | apply below_alloc | apply pw_below_drewN | apply below_drew1) | exact HB.out))) : w.heap.size ≤ gb154)); have n3_ := Aside0.mk ((by rw [hg]; exact (below_size (by repeat (first | (with_reducible first | exact HB.out | apply below_alloc | apply pw_below_drewN | apply below_drew1) | exact HB.out))) : w.heap.size ≤ gb154)); clear HB; have HB := n0_; have BK154 := n1_; have GW154 := n2_; have GE154 := n3_; clear n0_ n1_ n2_ n3_; clear hb hbox hg; have hcz6_0 : w5.cell? ⟨gb154, 0, none⟩ = some (.int .i64 a0_0) := (blk_cell BK154.out 0).trans rfl; have hcz6_1 : w5.cell? ⟨gb154, 1, none⟩ = some (.slice A0_1 l0_1.length c0_1) := (blk_cell BK154.out 1).trans rfl; have hcz6_2 : w5.cell? ⟨gb154, 2, none⟩ = some (.slice A0_2 l0_2.length c0_2) := (blk_cell BK154.out 2).trans rfl; have hcz6_3 : w5.cell? ⟨gb154, 3, none⟩ = some (.int .i64 a0_3) := (blk_cell BK154.out 3).trans rfl; have hfz6_0 := blk_frozen BK154.out 0; have hfz6_1 := blk_frozen BK154.out 1; have hfz6_2 := blk_frozen BK154.out 2; have hfz6_3 := blk_frozen BK154.out 3) | ((with_reducible refine gate_callee (f := 64) rfl ?_); refine goesL_ (some 12) rfl rfl Try.func64 (by kernel_rfl) rfl #[.agg #[.int .i64 0, .slice A0_1 l0_1.length c0_1, .int .i64 0, .slice none 0 0], .int .i64 a1, .int .u64 a2] rfl (by (try simp only [List.map_toArray, List.map_cons, List.map_nil]); first | done | rfl | (simp only [List.length_drop, List.length_take]; rfl)) ?_; (refine (lookasideref12_At.calls k 0 _ _ l0_1 0 _ _ ([] : List (List (S196))) a1 a2 t155 _ ?side1 ?side2 ?side3 ?side4 A4.out).mono ?_); (case side1 => repeat (first | exact (Kd.C_below HR0_1.out HB.out) | (with_reducible refine Kd.C_alloc ?_ _) | (with_reducible refine Kd.C_drewN ?_ _) | (with_reducible refine Kd.C_drew ?_))); (case side2 => exact HC0_1.out); (case side3 => exact Kd.C_nil _ _); (case side4 => exact Nat.le_refl _); rintro e w7 ⟨rfl, hb⟩; refine ⟨_, rfl, ?_⟩; have n0_ := Aside0.mk (blk_below (g := gb154) (o := .cells #[.int .i64 a0_0, .slice A0_1 l0_1.length c0_1, .slice A0_2 l0_2.length c0_2, .int .i64 a0_3] 29 (0, 0)) (by (with_reducible repeat (first | refine blk_drewN ?_ _ | refine blk_drew ?_ | refine blk_alloc ?_ _)); exact BK154.out) hb); have n1_ := Aside0.mk (below_step (by repeat (first | (with_reducible first | exact HB.out | apply below_alloc | apply pw_below_drewN | apply below_drew1 | refine below_set ?_ GE154.out) | exact HB.out)) hb); clear BK154; clear HB; have BK154 := n0_; have HB := n1_; clear n0_ n1_; (try clear hb); (try clear hb2); (try clear hk); (try clear hi)))
  go_ret
  exact ⟨by first | rfl | (simp [errW_none, errW_some] <;> rfl) | (simp [*, errW_none, errW_some] <;> rfl), by repeat (first | (with_reducible first | exact HB.out | apply below_alloc | apply pw_below_drewN | apply below_drew1 | refine below_set ?_ GE154.out) | exact HB.out)⟩

-- NOT PRINTED: function 58 (lookasideref16_with)

-- NOT PRINTED: function 60 (lookasideref16_put)

/-! ### lookasideref16_get: function 61 -/
def lookasideref16_get.l0 : Nat → Int → Int → Int → Int → List (S105) → List (S114) → Int → Option (Int)
  | 0, _, _, _, _, _, _, _ => none
  | k + 1, x1, x2, x7, x179000, x179001, x179002, x179003 => if x7 < (x179002.length : Int) then (if 0 ≤ x7 then (if ((rd_T114 x179002 x7).f0) = x1 then (if ((rd_T114 x179002 x7).f1) = x2 then (some ((rd_T114 x179002 x7).f2)) else (lookasideref16_get.l0 k x1 x2 (wrap64 (x7 + 1)) x179000 x179001 x179002 x179003)) else (lookasideref16_get.l0 k x1 x2 (wrap64 (x7 + 1)) x179000 x179001 x179002 x179003)) else (none)) else (some 0)
def lookasideref16_get.f (k : Nat) (a0_0 : Int) (l0_1 : List (S105)) (l0_2 : List (S114)) (a0_3 : Int) (a1 : Int) (a2 : Int) : Option (Int) := lookasideref16_get.l0 k a1 a2 0 a0_0 l0_1 l0_2 a0_3
set_option maxHeartbeats 8000000 in
set_option maxRecDepth 100000 in
theorem lookasideref16_get.calls (k : Nat) (a0_0 : Int) (A0_1 : Option Addr) (c0_1 : Nat) (l0_1 : List (S105)) (A0_2 : Option Addr) (c0_2 : Nat) (l0_2 : List (S114)) (a0_3 : Int) (a1 : Int) (a2 : Int) (r : Int) (w : World) (hr0_1 : Kd.C k105 w A0_1 l0_1.length l0_1) (hc0_1 : l0_1.length ≤ c0_1) (hr0_2 : Kd.C k114 w A0_2 l0_2.length l0_2) (hc0_2 : l0_2.length ≤ c0_2) (h : lookasideref16_get.f k a0_0 l0_1 l0_2 a0_3 a1 a2 = some r) :
    Calls Try.prog 61 #[.agg #[.int .i64 a0_0, .slice A0_1 l0_1.length c0_1, .slice A0_2 l0_2.length c0_2, .int .i64 a0_3], .int .u64 a1, .int .u64 a2] w fun e w' => e = .returned (.int .u8 r) ∧ Below w.heap.size w w' := by
  have hu29 := Try.underlying29
  have HR0_1 := Aside0.mk hr0_1
  have HC0_1 := Aside0.mk hc0_1
  clear hr0_1 hc0_1
  have HR0_2 := Aside0.mk hr0_2
  have HC0_2 := Aside0.mk hc0_2
  clear hr0_2 hc0_2
  have HB := Aside0.mk (Below.refl w.heap.size w)
  have H : (lookasideref16_get.l0 k a1 a2 0 a0_0 l0_1 l0_2 a0_3) = some r := h
  clear h
  have H' := Aside0.mk H
  clear H
  go_enter Try.func61, Try.ntmps61
  go_wp2_with (first | ((with_reducible refine gate_dst (N := 3) rfl ?_); refine box_event ?hg (N := 3) ?hd (cs := #[.int .i64 a0_0, .slice A0_1 l0_1.length c0_1, .slice A0_2 l0_2.length c0_2, .int .i64 a0_3]) (t := 29) ?hr ?_; (case hd => rfl); (case hg => rfl); (case hr => first | (go_simp; done) | (go_simp; rfl)); intro gb178 hg w4 hbox hb; have n0_ := Aside0.mk (below_step (by repeat (first | (with_reducible first | exact HB.out | apply below_alloc | apply pw_below_drewN | apply below_drew1) | exact HB.out)) hb); have n1_ := Aside0.mk (hbox); have n2_ := Aside0.mk ((by rw [hg]; exact (below_size (by repeat (first | (with_reducible first | exact HB.out | apply below_alloc | apply pw_below_drewN | apply below_drew1) | exact HB.out))) : w.heap.size ≤ gb178)); have n3_ := Aside0.mk ((by rw [hg]; exact (below_size (by repeat (first | (with_reducible first | exact HB.out | apply below_alloc | apply pw_below_drewN | apply below_drew1) | exact HB.out))) : w.heap.size ≤ gb178)); clear HB; have HB := n0_; have BK178 := n1_; have GW178 := n2_; have GE178 := n3_; clear n0_ n1_ n2_ n3_; clear hb hbox hg))
  go_loopg [7] k (fun kq v7 w' => ∃ (x7_1 : Int), v7 = .int .i64 x7_1 ∧ Aside0 (lookasideref16_get.l0 kq a1 a2 x7_1 a0_0 l0_1 l0_2 a0_3 = some r) ∧ Aside0 (kq ≤ k) ∧ Aside0 (w'.heap[gb178]? = some (.cells #[.int .i64 a0_0, (.slice A0_1 l0_1.length c0_1), (.slice A0_2 l0_2.length c0_2), .int .i64 a0_3] 29 (0, 0))) ∧ Aside0 (Below w.heap.size w w'))
  case atStart => exact ⟨(0), (by first | rfl | (simp; done) | (simp [*]; done)), H', ⟨Nat.le_refl _⟩, ⟨by (with_reducible repeat (first | refine blk_drewN ?_ _ | refine blk_drew ?_ | refine blk_alloc ?_ _)); exact BK178.out⟩, ⟨by repeat (first | (with_reducible first | exact HB.out | apply below_alloc | apply pw_below_drewN | apply below_drew1 | refine below_set ?_ GE178.out) | exact HB.out)⟩⟩
  case round =>
    clear H'
    try clear p2
    obtain ⟨x7_1, rfl, HA, HK1, BK178, HB⟩ := hrel
    cases gk with
    | zero => exact absurd HA.out (by simp [lookasideref16_get.l0])
    | succ k1 =>
      have H := HA.out
      clear HA
      simp only [lookasideref16_get.l0] at H
      by_cases c5 : x7_1 < (l0_2.length : Int)
      · rw [if_pos c5] at H
        have c5b0 : decide (x7_1 < (l0_2.length : Int)) = true := decide_eq_true c5
        clear c5
        by_cases c6 : 0 ≤ x7_1
        · rw [if_pos c6] at H
          have c6b0 : decide (0 ≤ x7_1) = true := decide_eq_true c6
          clear c6
          by_cases c7 : ((rd_T114 l0_2 x7_1).f0) = a1
          · rw [if_pos c7] at H
            have c7b0 : (((rd_T114 l0_2 x7_1).f0) == a1) = true := beq_iff_eq.mpr c7
            have c7b1 : (((rd_T114 l0_2 x7_1).f0) != a1) = false := bne_eq_false_iff_eq.mpr c7
            clear c7
            by_cases c8 : ((rd_T114 l0_2 x7_1).f1) = a2
            · rw [if_pos c8] at H
              have c8b0 : (((rd_T114 l0_2 x7_1).f1) == a2) = true := beq_iff_eq.mpr c8
              have c8b1 : (((rd_T114 l0_2 x7_1).f1) != a2) = false := bne_eq_false_iff_eq.mpr c8
              clear c8
              obtain rfl := Option.some.inj H
              have hcz9_0 : wr.cell? ⟨gb178, 0, none⟩ = some (.int .i64 a0_0) := (blk_cell BK178.out 0).trans rfl
              have hcz9_1 : wr.cell? ⟨gb178, 1, none⟩ = some (.slice A0_1 l0_1.length c0_1) := (blk_cell BK178.out 1).trans rfl
              have hcz9_2 : wr.cell? ⟨gb178, 2, none⟩ = some (.slice A0_2 l0_2.length c0_2) := (blk_cell BK178.out 2).trans rfl
              have hcz9_3 : wr.cell? ⟨gb178, 3, none⟩ = some (.int .i64 a0_3) := (blk_cell BK178.out 3).trans rfl
              have hfz9_0 := blk_frozen BK178.out 0
              have hfz9_1 := blk_frozen BK178.out 1
              have hfz9_2 := blk_frozen BK178.out 2
              have hfz9_3 := blk_frozen BK178.out 3
              have p179 : 0 ≤ (x7_1 : Int) := of_decide_eq_true (by first | (with_reducible assumption) | assumption)
              have q179 : x7_1 < (l0_2.length : Int) := of_decide_eq_true (by first | (with_reducible assumption) | assumption)
              obtain ⟨ad179, e179, hx179_0, hx179_1, hx179_2⟩ := at_T114 HR0_2.out x7_1 p179 q179
              cases e179
              replace hx179_0 := (HB.out.cell (World.block_lt_of_cell? w _ hx179_0)).trans hx179_0
              replace hx179_1 := (HB.out.cell (World.block_lt_of_cell? w _ hx179_1)).trans hx179_1
              replace hx179_2 := (HB.out.cell (World.block_lt_of_cell? w _ hx179_2)).trans hx179_2
              replace p179 := eq_true p179
              replace q179 := eq_true q179
              have p180 : 0 ≤ (x7_1 : Int) := of_decide_eq_true (by first | (with_reducible assumption) | assumption)
              have q180 : x7_1 < (l0_2.length : Int) := of_decide_eq_true (by first | (with_reducible assumption) | assumption)
              obtain ⟨ad180, e180, hx180_0, hx180_1, hx180_2⟩ := at_T114 HR0_2.out x7_1 p180 q180
              obtain rfl : ad179 = ad180 := (by injection e180)
              replace hx180_0 := (HB.out.cell (World.block_lt_of_cell? w _ hx180_0)).trans hx180_0
              replace hx180_1 := (HB.out.cell (World.block_lt_of_cell? w _ hx180_1)).trans hx180_1
              replace hx180_2 := (HB.out.cell (World.block_lt_of_cell? w _ hx180_2)).trans hx180_2
              replace p180 := eq_true p180
              replace q180 := eq_true q180
              have p181 : 0 ≤ (x7_1 : Int) := of_decide_eq_true (by first | (with_reducible assumption) | assumption)
              have q181 : x7_1 < (l0_2.length : Int) := of_decide_eq_true (by first | (with_reducible assumption) | assumption)
              obtain ⟨ad181, e181, hx181_0, hx181_1, hx181_2⟩ := at_T114 HR0_2.out x7_1 p181 q181
              obtain rfl : ad179 = ad181 := (by injection e181)
              replace hx181_0 := (HB.out.cell (World.block_lt_of_cell? w _ hx181_0)).trans hx181_0
              replace hx181_1 := (HB.out.cell (World.block_lt_of_cell? w _ hx181_1)).trans hx181_1
              replace hx181_2 := (HB.out.cell (World.block_lt_of_cell? w _ hx181_2)).trans hx181_2
              replace p181 := eq_true p181
              replace q181 := eq_true q181
              go_wp2
              go_ret
              exact ⟨by first | rfl | (simp [errW_none, errW_some] <;> rfl) | (simp [*, errW_none, errW_some] <;> rfl), by repeat (first | (with_reducible first | exact HB.out | apply below_alloc | apply pw_below_drewN | apply below_drew1 | refine below_set ?_ GE178.out) | exact HB.out)⟩
            · rw [if_neg c8] at H
              have c8b0 : (((rd_T114 l0_2 x7_1).f1) == a2) = false := beq_eq_false_iff_ne.mpr c8
              have c8b1 : (((rd_T114 l0_2 x7_1).f1) != a2) = true := bne_iff_ne.mpr c8
              have H' := Aside0.mk H
              clear H
              have hcz10_0 : wr.cell? ⟨gb178, 0, none⟩ = some (.int .i64 a0_0) := (blk_cell BK178.out 0).trans rfl
              have hcz10_1 : wr.cell? ⟨gb178, 1, none⟩ = some (.slice A0_1 l0_1.length c0_1) := (blk_cell BK178.out 1).trans rfl
              have hcz10_2 : wr.cell? ⟨gb178, 2, none⟩ = some (.slice A0_2 l0_2.length c0_2) := (blk_cell BK178.out 2).trans rfl
              have hcz10_3 : wr.cell? ⟨gb178, 3, none⟩ = some (.int .i64 a0_3) := (blk_cell BK178.out 3).trans rfl
              have hfz10_0 := blk_frozen BK178.out 0
              have hfz10_1 := blk_frozen BK178.out 1
              have hfz10_2 := blk_frozen BK178.out 2
              have hfz10_3 := blk_frozen BK178.out 3
              have p179 : 0 ≤ (x7_1 : Int) := of_decide_eq_true (by first | (with_reducible assumption) | assumption)
              have q179 : x7_1 < (l0_2.length : Int) := of_decide_eq_true (by first | (with_reducible assumption) | assumption)
              obtain ⟨ad179, e179, hx179_0, hx179_1, hx179_2⟩ := at_T114 HR0_2.out x7_1 p179 q179
              cases e179
              replace hx179_0 := (HB.out.cell (World.block_lt_of_cell? w _ hx179_0)).trans hx179_0
              replace hx179_1 := (HB.out.cell (World.block_lt_of_cell? w _ hx179_1)).trans hx179_1
              replace hx179_2 := (HB.out.cell (World.block_lt_of_cell? w _ hx179_2)).trans hx179_2
              replace p179 := eq_true p179
              replace q179 := eq_true q179
              have p180 : 0 ≤ (x7_1 : Int) := of_decide_eq_true (by first | (with_reducible assumption) | assumption)
              have q180 : x7_1 < (l0_2.length : Int) := of_decide_eq_true (by first | (with_reducible assumption) | assumption)
              obtain ⟨ad180, e180, hx180_0, hx180_1, hx180_2⟩ := at_T114 HR0_2.out x7_1 p180 q180
              obtain rfl : ad179 = ad180 := (by injection e180)
              replace hx180_0 := (HB.out.cell (World.block_lt_of_cell? w _ hx180_0)).trans hx180_0
              replace hx180_1 := (HB.out.cell (World.block_lt_of_cell? w _ hx180_1)).trans hx180_1
              replace hx180_2 := (HB.out.cell (World.block_lt_of_cell? w _ hx180_2)).trans hx180_2
              replace p180 := eq_true p180
              replace q180 := eq_true q180
              go_wp2
              go_roundg k1
              case measure => have := HK1.out; omega
              case rel => exact ⟨(wrap64 (x7_1 + 1)), (by first | rfl | (simp; done) | (simp [*]; done)), H', ⟨by have := HK1.out; omega⟩, ⟨by (with_reducible repeat (first | refine blk_drewN ?_ _ | refine blk_drew ?_ | refine blk_alloc ?_ _)); exact BK178.out⟩, ⟨by repeat (first | (with_reducible first | exact HB.out | apply below_alloc | apply pw_below_drewN | apply below_drew1 | refine below_set ?_ GE178.out) | exact HB.out)⟩⟩
          · rw [if_neg c7] at H
            have c7b0 : (((rd_T114 l0_2 x7_1).f0) == a1) = false := beq_eq_false_iff_ne.mpr c7
            have c7b1 : (((rd_T114 l0_2 x7_1).f0) != a1) = true := bne_iff_ne.mpr c7
            have H' := Aside0.mk H
            clear H
            have hcz11_0 : wr.cell? ⟨gb178, 0, none⟩ = some (.int .i64 a0_0) := (blk_cell BK178.out 0).trans rfl
            have hcz11_1 : wr.cell? ⟨gb178, 1, none⟩ = some (.slice A0_1 l0_1.length c0_1) := (blk_cell BK178.out 1).trans rfl
            have hcz11_2 : wr.cell? ⟨gb178, 2, none⟩ = some (.slice A0_2 l0_2.length c0_2) := (blk_cell BK178.out 2).trans rfl
            have hcz11_3 : wr.cell? ⟨gb178, 3, none⟩ = some (.int .i64 a0_3) := (blk_cell BK178.out 3).trans rfl
            have hfz11_0 := blk_frozen BK178.out 0
            have hfz11_1 := blk_frozen BK178.out 1
            have hfz11_2 := blk_frozen BK178.out 2
            have hfz11_3 := blk_frozen BK178.out 3
            have p179 : 0 ≤ (x7_1 : Int) := of_decide_eq_true (by first | (with_reducible assumption) | assumption)
            have q179 : x7_1 < (l0_2.length : Int) := of_decide_eq_true (by first | (with_reducible assumption) | assumption)
            obtain ⟨ad179, e179, hx179_0, hx179_1, hx179_2⟩ := at_T114 HR0_2.out x7_1 p179 q179
            cases e179
            replace hx179_0 := (HB.out.cell (World.block_lt_of_cell? w _ hx179_0)).trans hx179_0
            replace hx179_1 := (HB.out.cell (World.block_lt_of_cell? w _ hx179_1)).trans hx179_1
            replace hx179_2 := (HB.out.cell (World.block_lt_of_cell? w _ hx179_2)).trans hx179_2
            replace p179 := eq_true p179
            replace q179 := eq_true q179
            go_wp2
            go_roundg k1
            case measure => have := HK1.out; omega
            case rel => exact ⟨(wrap64 (x7_1 + 1)), (by first | rfl | (simp; done) | (simp [*]; done)), H', ⟨by have := HK1.out; omega⟩, ⟨by (with_reducible repeat (first | refine blk_drewN ?_ _ | refine blk_drew ?_ | refine blk_alloc ?_ _)); exact BK178.out⟩, ⟨by repeat (first | (with_reducible first | exact HB.out | apply below_alloc | apply pw_below_drewN | apply below_drew1 | refine below_set ?_ GE178.out) | exact HB.out)⟩⟩
        · rw [if_neg c6] at H
          exact absurd H (by simp)
      · rw [if_neg c5] at H
        have c5b0 : decide (x7_1 < (l0_2.length : Int)) = false := decide_eq_false c5
        clear c5
        obtain rfl := Option.some.inj H
        have hcz12_0 : wr.cell? ⟨gb178, 0, none⟩ = some (.int .i64 a0_0) := (blk_cell BK178.out 0).trans rfl
        have hcz12_1 : wr.cell? ⟨gb178, 1, none⟩ = some (.slice A0_1 l0_1.length c0_1) := (blk_cell BK178.out 1).trans rfl
        have hcz12_2 : wr.cell? ⟨gb178, 2, none⟩ = some (.slice A0_2 l0_2.length c0_2) := (blk_cell BK178.out 2).trans rfl
        have hcz12_3 : wr.cell? ⟨gb178, 3, none⟩ = some (.int .i64 a0_3) := (blk_cell BK178.out 3).trans rfl
        have hfz12_0 := blk_frozen BK178.out 0
        have hfz12_1 := blk_frozen BK178.out 1
        have hfz12_2 := blk_frozen BK178.out 2
        have hfz12_3 := blk_frozen BK178.out 3
        go_wp2
        go_ret
        exact ⟨by first | rfl | (simp [errW_none, errW_some] <;> rfl) | (simp [*, errW_none, errW_some] <;> rfl), by repeat (first | (with_reducible first | exact HB.out | apply below_alloc | apply pw_below_drewN | apply below_drew1 | refine below_set ?_ GE178.out) | exact HB.out)⟩

end Go.Proofs.Ytalmemcidbmdgaa.PM


namespace Go.Proofs.Ytalmemcidbmdgaa.BitsN
open Go.Proofs.YtalmemcidbmdgaaW.PrintMore

theorem w64 (n : Int) (h₀ : 0 ≤ n) (h₁ : n < 2 ^ 64) : IntKind.u64.wrap n = n := by rw [IntKind.wrap_u64]; omega
theorem and_nat (a b : Nat) (ha : a < 2 ^ 64) (hb : b < 2 ^ 64) : Go.bits .and .u64 (a : Int) (b : Int) = ((a &&& b : Nat) : Int) := (bits_nat .u64 64 (by decide) w64 a b ha hb).1
/-- the field's mask -/
def mk (P S : Nat) : Nat := (2 ^ S - 1) * 2 ^ P
theorem tb_mk (P S i : Nat) : (mk P S).testBit i = (decide (P ≤ i) && decide (i < P + S)) := by
  unfold mk
  rw [Nat.testBit_mul_two_pow, Nat.testBit_two_pow_sub_one]
  by_cases h : P ≤ i
  · have : (i - P < S) ↔ (i < P + S) := by omega
    simp [h, this]
  · simp [h]
theorem mk_lt (P S : Nat) (h : P + S ≤ 64) : mk P S < 2 ^ 64 := by
  unfold mk
  have h1 : 0 < 2 ^ S := Nat.two_pow_pos S
  have h2 : (2 ^ S - 1) * 2 ^ P < 2 ^ S * 2 ^ P := Nat.mul_lt_mul_of_pos_right (by omega) (Nat.two_pow_pos P)
  rw [← Nat.pow_add] at h2
  exact Nat.lt_of_lt_of_le h2 (Nat.pow_le_pow_right (by decide) (by omega))
/-- what stands in the field -/
def get (w P S : Nat) : Nat := w / 2 ^ P % 2 ^ S
theorem tb_get (w P S i : Nat) : (get w P S).testBit i = (decide (i < S) && w.testBit (P + i)) := by
  unfold get
  rw [Nat.testBit_mod_two_pow, Nat.testBit_div_two_pow, Nat.add_comm]
theorem and_mk_div (w P S : Nat) : (w &&& mk P S) / 2 ^ P = get w P S := by
  apply Nat.eq_of_testBit_eq
  intro i
  rw [Nat.testBit_div_two_pow, Nat.testBit_and, tb_mk, tb_get, Nat.add_comm i P]
  have : P ≤ P + i := by omega
  have h2 : (P + i < P + S) ↔ i < S := by omega
  simp [this, h2, Bool.and_comm]
/-- a word with a number in the field -/
def put (w P S v : Nat) : Nat := (w &&& (2 ^ 64 - (mk P S + 1))) ||| (v * 2 ^ P % 2 ^ 64 &&& mk P S)
end Go.Proofs.Ytalmemcidbmdgaa.BitsN

namespace Go.Proofs.Ytalmemcidbmdgaa.FieldG
open Go.RowKit Go.Proofs.Ytalmemcidbmdgaa.PM Go.Proofs.Ytalmemcidbmdgaa.BitsN Go.Proofs.YtalmemcidbmdgaaW.PrintWords Go.Proofs.YtalmemcidbmdgaaW.PrintLast Go.Proofs.YtalmemcidbmdgaaW.PrintMore

def May (p s : Int) : Prop := 0 ≤ p ∧ 1 ≤ s ∧ s ≤ 64 ∧ p + s ≤ 64
instance (p s : Int) : Decidable (May p s) := by unfold May; infer_instance
theorem may_eq (p s : Int) : field_May.f p s = some (decide (May p s)) := by
  unfold field_May.f May
  by_cases h1 : p ≥ 0
  · rw [if_pos h1]
    by_cases h2 : s ≥ 1
    · rw [if_pos h2]
      by_cases h3 : s ≤ 64
      · rw [if_pos h3]
        have : wrap64 (64 - s) = 64 - s := by unfold wrap64; omega
        rw [this]
        congr 1
        apply decide_eq_decide.mpr
        omega
      · rw [if_neg h3]; exact congrArg some (decide_eq_false (by omega)).symm
    · rw [if_neg h2]; exact congrArg some (decide_eq_false (by omega)).symm
  · rw [if_neg h1]; exact congrArg some (decide_eq_false (by omega)).symm
theorem may_of {P S : Nat} (h1 : 1 ≤ S) (h : P + S ≤ 64) : May (P : Int) (S : Int) := ⟨by omega, by omega, by omega, by omega⟩
theorem pow_cast (n : Nat) : ((2 : Int) ^ n) = ((2 ^ n : Nat) : Int) := by simp
theorem shr_nat (a n : Nat) (hn : n ≤ 64) : shr .u64 (a : Int) (n : Int) = ((a / 2 ^ n : Nat) : Int) := by
  unfold shr
  have : min (n : Int).toNat IntKind.u64.bits = n := by
    have : IntKind.u64.bits = 64 := rfl
    omega
  rw [this, pow_cast, Int.natCast_ediv]
theorem shl_nat (a n : Nat) (hn : n ≤ 64) : shl .u64 (a : Int) (n : Int) = ((a * 2 ^ n % 2 ^ 64 : Nat) : Int) := by
  unfold shl
  have : min (n : Int).toNat IntKind.u64.bits = n := by
    have : IntKind.u64.bits = 64 := rfl
    omega
  rw [this, pow_cast, IntKind.wrap_u64, ← Int.natCast_mul]
  omega
theorem mask_yes {P S : Nat} (h1 : 1 ≤ S) (h : P + S ≤ 64) : field_Mask.f P S = some ((mk P S : Nat) : Int) := by
  unfold field_Mask.f
  rw [may_eq, decide_eq_true (may_of h1 h)]
  simp only [Option.bind_some, if_true]
  have e : wrap64 (64 - (S : Int)) = ((64 - S : Nat) : Int) := by unfold wrap64; omega
  rw [e, if_pos (by omega), if_pos (by omega)]
  have e2 : (18446744073709551615 : Int) = ((2 ^ 64 - 1 : Nat) : Int) := by simp
  rw [e2, shr_nat _ _ (by omega), shl_nat _ _ (by omega)]
  congr 2
  have hp : (2 : Nat) ^ 64 = 2 ^ S * 2 ^ (64 - S) := by rw [← Nat.pow_add]; congr 1; omega
  have : (2 ^ 64 - 1) / 2 ^ (64 - S) = 2 ^ S - 1 := by
    rw [hp]
    have hq : 0 < 2 ^ (64 - S) := Nat.two_pow_pos _
    have hs : 0 < 2 ^ S := Nat.two_pow_pos _
    have e3 : 2 ^ S * 2 ^ (64 - S) - 1 = (2 ^ S - 1) * 2 ^ (64 - S) + (2 ^ (64 - S) - 1) := by
      have : (2 ^ S - 1) * 2 ^ (64 - S) = 2 ^ S * 2 ^ (64 - S) - 2 ^ (64 - S) := by rw [Nat.sub_mul, Nat.one_mul]
      have : 2 ^ (64 - S) ≤ 2 ^ S * 2 ^ (64 - S) := Nat.le_mul_of_pos_left _ hs
      omega
    rw [e3, Nat.add_comm, Nat.add_mul_div_right _ _ hq, Nat.div_eq_of_lt (by omega)]
    omega
  rw [this]
  exact Nat.mod_eq_of_lt (mk_lt P S h)
theorem get_yes {P S : Nat} (w : Nat) (hw : w < 2 ^ 64) (h1 : 1 ≤ S) (h : P + S ≤ 64) : field_Get.f w P S = some ((get w P S : Nat) : Int) := by
  unfold field_Get.f
  rw [may_eq, decide_eq_true (may_of h1 h)]
  simp only [Option.bind_some, if_true]
  rw [mask_yes h1 h]
  simp only [Option.bind_some]
  rw [if_pos (by omega), and_nat _ _ hw (mk_lt P S h), shr_nat _ _ (by omega), and_mk_div]
end Go.Proofs.Ytalmemcidbmdgaa.FieldG

/- Pages' bases: the program's and the reference's. -/
set_option linter.unusedVariables false
set_option linter.unusedSimpArgs false
namespace Go.Proofs.Ytalmemcidbmdgaa.PageG
open Go.RowKit Go.Proofs.Ytalmemcidbmdgaa.PM Go.Proofs.Ytalmemcidbmdgaa.BitsN Go.Proofs.YtalmemcidbmdgaaW.PrintWords Go.Proofs.YtalmemcidbmdgaaW.PrintLast Go.Proofs.YtalmemcidbmdgaaW.PrintMore
theorem pmay (s : Int) : page_May.f s = some (decide (0 ≤ s ∧ s < 4)) := by
  unfold page_May.f
  split
  · congr 1; rw [Bool.eq_iff_iff]; simp; omega
  · congr 1; rw [Bool.eq_iff_iff]; simp; omega
theorem rmay (s : Int) : lookasideref02_May.f s = some (decide (0 ≤ s ∧ s < 4)) := by
  unfold lookasideref02_May.f
  split
  · congr 1; rw [Bool.eq_iff_iff]; simp; omega
  · congr 1; rw [Bool.eq_iff_iff]; simp; omega
theorem pbits (s : Nat) (h : s < 4) : page_Bits.f s = some ((13 + 3 * s : Nat) : Int) := by
  have : s = 0 ∨ s = 1 ∨ s = 2 ∨ s = 3 := by omega
  rcases this with rfl | rfl | rfl | rfl <;> decide +kernel
theorem rbytes (s : Nat) (h : s < 4) : lookasideref02_Bytes.f s = some ((2 ^ (13 + 3 * s) : Nat) : Int) := by
  have : s = 0 ∨ s = 1 ∨ s = 2 ∨ s = 3 := by omega
  rcases this with rfl | rfl | rfl | rfl <;> decide +kernel
theorem tmod_nat (a b : Nat) : Int.tmod (a : Int) (b : Int) = ((a % b : Nat) : Int) := by
  rw [Int.tmod_eq_emod_of_nonneg (by omega)]; omega
theorem tdiv_nat (a b : Nat) : Int.tdiv (a : Int) (b : Int) = ((a / b : Nat) : Int) := by
  rw [Int.tdiv_eq_ediv_of_nonneg (by omega)]; exact (Int.natCast_ediv a b).symm
theorem wu (n : Int) (h0 : 0 ≤ n) (h1 : n < 18446744073709551616) : IntKind.u64.wrap n = n := by rw [IntKind.wrap_u64]; omega
theorem pow_pos' (s : Nat) : 0 < 2 ^ (13 + 3 * s) := Nat.two_pow_pos _
/-- Where the page of an address begins. -/
def bs (va s : Nat) : Nat := va / 2 ^ (13 + 3 * s) * 2 ^ (13 + 3 * s)
theorem bs_le (va s : Nat) : bs va s ≤ va := Nat.div_mul_le_self _ _
theorem base_r (va s : Nat) (hv : va < 2 ^ 64) (hs : s < 4) : lookasideref02_Base.f va s = some ((bs va s : Nat) : Int) := by
  unfold lookasideref02_Base.f
  rw [rmay]
  rw [Option.bind_some]
  rw [if_pos (by simp; omega), rbytes s hs]
  rw [Option.bind_some]
  have hp := pow_pos' s
  rw [if_neg (by omega)]
  rw [Option.bind_some]
  rw [tdiv_nat]
  have hle : va / 2 ^ (13 + 3 * s) * 2 ^ (13 + 3 * s) ≤ va := Nat.div_mul_le_self _ _
  have hd : va / 2 ^ (13 + 3 * s) ≤ va := Nat.div_le_self _ _
  unfold bs
  generalize va / 2 ^ (13 + 3 * s) = q at *
  generalize 2 ^ (13 + 3 * s) = m at *
  rw [wu (q : Int) (by omega) (by omega), ← Int.natCast_mul, wu _ (by omega) (by omega)]
theorem off_p (va s : Nat) (hv : va < 2 ^ 64) (hs : s < 4) : page_Offset.f va s = some ((va % 2 ^ (13 + 3 * s) : Nat) : Int) := by
  unfold page_Offset.f
  rw [pmay]
  rw [Option.bind_some]
  rw [if_pos (by simp; omega), pbits s hs]
  rw [Option.bind_some]
  have hg := FieldG.get_yes (P := 0) (S := 13 + 3 * s) va hv (by omega) (by omega)
  rw [show ((0 : Nat) : Int) = 0 from rfl] at hg
  rw [hg]
  rw [Option.bind_some]
  unfold BitsN.get
  simp only [Nat.pow_zero, Nat.div_one]
theorem base_p (va s : Nat) (hv : va < 2 ^ 64) (hs : s < 4) : page_Base.f va s = some ((bs va s : Nat) : Int) := by
  unfold page_Base.f
  rw [pmay]
  rw [Option.bind_some]
  rw [if_pos (by simp; omega), off_p va s hv hs]
  rw [Option.bind_some]
  have h1 : bs va s + va % 2 ^ (13 + 3 * s) = va := by unfold bs; rw [Nat.mul_comm]; exact Nat.div_add_mod _ _
  rw [wu _ (by omega) (by omega)]
  congr 1
  omega
theorem in_p (a b s : Nat) (ha : a < 2 ^ 64) (hb : b < 2 ^ 64) (hs : s < 4) : page_In.f a b s = some (decide (bs a s = bs b s)) := by
  unfold page_In.f
  rw [pmay]
  rw [Option.bind_some]
  rw [if_pos (by simp; omega), base_p a s ha hs]
  rw [Option.bind_some]
  rw [base_p b s hb hs]
  rw [Option.bind_some]
  congr 1
  rw [Bool.eq_iff_iff]
  simp
  omega
theorem meet_p (a m b n : Nat) (ha : a < 2 ^ 64) (hb : b < 2 ^ 64) (hm : m < 4) (hn : n < 4) : page_Meet.f a m b n = some (decide (bs a (max m n) = bs b (max m n))) := by
  unfold page_Meet.f
  rw [pmay]
  rw [Option.bind_some]
  rw [if_pos (by simp; omega), pmay]
  rw [Option.bind_some]
  rw [if_pos (by simp; omega)]
  have hmx : mx (m : Int) (n : Int) = ((max m n : Nat) : Int) := by unfold mx; split <;> omega
  rw [hmx, in_p a b (max m n) ha hb (by omega)]
  rw [Option.bind_some]
theorem meet_ar (a m b n : Nat) (hm : m < 4) (hn : n < 4) : (bs a (max m n) = bs b (max m n)) ↔ ((bs b n ≤ bs a m ∧ bs a m - bs b n < 2 ^ (13 + 3 * n)) ∨ (bs a m ≤ bs b n ∧ bs b n - bs a m < 2 ^ (13 + 3 * m))) := by
  have h1 : m = 0 ∨ m = 1 ∨ m = 2 ∨ m = 3 := by omega
  have h2 : n = 0 ∨ n = 1 ∨ n = 2 ∨ n = 3 := by omega
  unfold bs
  rcases h1 with rfl | rfl | rfl | rfl <;> rcases h2 with rfl | rfl | rfl | rfl <;>
    (simp only [Nat.reduceMul, Nat.reduceAdd, Nat.reducePow, Nat.max_self, Nat.zero_max, Nat.max_zero, show max 1 2 = 2 from rfl, show max 1 3 = 3 from rfl, show max 2 1 = 2 from rfl, show max 2 3 = 3 from rfl, show max 3 1 = 3 from rfl, show max 3 2 = 3 from rfl]; omega)
theorem meet_r (k a m b n : Nat) (ha : a < 2 ^ 64) (hb : b < 2 ^ 64) (hm : m < 4) (hn : n < 4) : lookasideref02_Meet.f (k + 1) a m b n = some (decide (bs a (max m n) = bs b (max m n))) := by
  have hx := bs_le a m
  have hy := bs_le b n
  have har := meet_ar a m b n hm hn
  unfold lookasideref02_Meet.f
  rw [rmay]
  rw [Option.bind_some]
  rw [rmay]
  rw [Option.bind_some]
  rw [if_pos (by simp; omega), lookasideref02_Meet.j0, if_neg (by simp; omega), base_r a m ha hm]
  rw [Option.bind_some]
  rw [base_r b n hb hn]
  rw [Option.bind_some]
  generalize bs a m = x at *
  generalize bs b n = y at *
  have hM := pow_pos' m
  have hN := pow_pos' n
  rw [rbytes m hm, rbytes n hn]
  generalize 2 ^ (13 + 3 * m) = M at *
  generalize 2 ^ (13 + 3 * n) = N at *
  by_cases h1 : (y : Int) ≤ (x : Int)
  · rw [if_pos h1]
    rw [Option.bind_some]
    rw [wu ((x : Int) - y) (by omega) (by omega)]
    by_cases h2 : ((x : Int) - y) < N
    · rw [if_pos h2]
      congr 1
      exact (decide_eq_true (har.2 (.inl ⟨by omega, by omega⟩))).symm
    · rw [if_neg h2]
      by_cases h3 : (y : Int) ≥ (x : Int)
      · rw [if_pos h3]
        rw [Option.bind_some]
        rw [wu ((y : Int) - x) (by omega) (by omega)]
        congr 1
        rw [Bool.eq_iff_iff]
        simp only [decide_eq_true_eq]
        rw [har]
        omega
      · rw [if_neg h3]
        congr 1
        exact (decide_eq_false (fun h => by have := har.1 h; omega)).symm
  · rw [if_neg h1, if_pos (by omega)]
    rw [Option.bind_some]
    rw [wu ((y : Int) - x) (by omega) (by omega)]
    congr 1
    rw [Bool.eq_iff_iff]
    simp only [decide_eq_true_eq]
    rw [har]
    omega
end Go.Proofs.Ytalmemcidbmdgaa.PageG

/- A model of spaces (layer 16), plain: its pages, which is at an address, and what is done with them. -/
set_option linter.unusedVariables false
set_option linter.unusedSimpArgs false
namespace Go.Proofs.Ytalmemcidbmdgaa.PM
open Go.RowKit Go.Proofs.Ytalmemcidbmdgaa.PageG
abbrev Pg := S50
abbrev Atr := S34
abbrev Ent := S105
abbrev Bt := S114
def vaN (x : Ent) : Nat := x.f1.f0.toNat
def szN (x : Ent) : Nat := x.f1.f1.toNat
structure OkE (x : Ent) : Prop where
  sp0 : 0 ≤ x.f0
  sp1 : x.f0 < 64
  va : x.f1.f0 = (vaN x : Int)
  va1 : vaN x < 2 ^ 64
  sz : x.f1.f1 = (szN x : Int)
  sz1 : szN x < 4
  st : bs (vaN x) (szN x) = vaN x
  pa0 : 0 ≤ x.f1.f2
  pa1 : x.f1.f2 < 1000000
def meets (x y : Ent) : Prop := x.f0 = y.f0 ∧ bs (vaN x) (max (szN x) (szN y)) = bs (vaN y) (max (szN x) (szN y))
structure WfL (L : List Ent) : Prop where
  ok : ∀ x ∈ L, OkE x
  apart : L.Pairwise (fun x y => ¬ meets x y)
def hit (sp : Int) (va : Nat) (x : Ent) : Bool := x.f0 == sp && bs va (szN x) == vaN x
theorem hit_iff {sp : Int} {va : Nat} {x : Ent} : hit sp va x = true ↔ x.f0 = sp ∧ bs va (szN x) = vaN x := by simp [hit]
theorem div_div_pow (v a b : Nat) (h : a ≤ b) : v / 2 ^ a * 2 ^ a / 2 ^ b = v / 2 ^ b := by
  have e : 2 ^ b = 2 ^ a * 2 ^ (b - a) := by rw [← Nat.pow_add]; congr 1; omega
  rw [e, ← Nat.div_div_eq_div_mul, Nat.mul_div_cancel _ (Nat.two_pow_pos a), ← Nat.div_div_eq_div_mul]
theorem bs_bs (v a b : Nat) (h : a ≤ b) : bs (bs v a) b = bs v b := by
  unfold bs
  rw [div_div_pow v _ _ (by omega)]
theorem meets_symm {x y : Ent} (h : meets x y) : meets y x := ⟨h.1.symm, by rw [Nat.max_comm]; exact h.2.symm⟩
theorem hit_meets {sp : Int} {va : Nat} {x y : Ent} (hx : hit sp va x = true) (hy : hit sp va y = true) : meets x y := by
  obtain ⟨h1, h2⟩ := hit_iff.1 hx
  obtain ⟨h3, h4⟩ := hit_iff.1 hy
  refine ⟨h1.trans h3.symm, ?_⟩
  rw [← h2, ← h4, bs_bs _ _ _ (Nat.le_max_left _ _), bs_bs _ _ _ (Nat.le_max_right _ _)]
theorem pw_index {α : Type} {R : α → α → Prop} (hs : ∀ x y, R x y → R y x) : ∀ {l : List α}, l.Pairwise (fun x y => ¬ R x y) → ∀ {i j : Nat} {x y : α}, l[i]? = some x → l[j]? = some y → R x y → i = j
  | [], _, i, j, x, y, hi, _, _ => by simp at hi
  | a :: l, h, 0, 0, x, y, _, _, _ => rfl
  | a :: l, h, 0, j + 1, x, y, hi, hj, hr => by
    simp at hi hj
    subst hi
    exact absurd hr ((List.pairwise_cons.1 h).1 y (List.mem_of_getElem? hj))
  | a :: l, h, i + 1, 0, x, y, hi, hj, hr => by
    simp at hi hj
    subst hj
    exact absurd (hs _ _ hr) ((List.pairwise_cons.1 h).1 x (List.mem_of_getElem? hi))
  | a :: l, h, i + 1, j + 1, x, y, hi, hj, hr => by
    simp at hi hj
    rw [pw_index hs (List.pairwise_cons.1 h).2 hi hj hr]
theorem WfL.one {L : List Ent} (h : WfL L) {i j : Nat} {x y : Ent} (hi : L[i]? = some x) (hj : L[j]? = some y) (hm : meets x y) : i = j := pw_index (fun _ _ => meets_symm) h.apart hi hj hm
/-- Where a space's page at an address stands. -/
def find (L : List Ent) (sp : Int) (va : Nat) : Option Nat := L.findIdx? (hit sp va)
theorem find_some {L : List Ent} {sp : Int} {va i : Nat} (h : find L sp va = some i) : ∃ x, L[i]? = some x ∧ hit sp va x = true := by
  unfold find at h
  rw [List.findIdx?_eq_some_iff_getElem] at h
  obtain ⟨hi, h1, _⟩ := h
  exact ⟨L[i], List.getElem?_eq_getElem hi, h1⟩
theorem find_none {L : List Ent} {sp : Int} {va : Nat} (h : find L sp va = none) : ∀ x ∈ L, hit sp va x = false := by
  unfold find at h
  rw [List.findIdx?_eq_none_iff] at h
  exact h
theorem find_of {L : List Ent} (hw : WfL L) {sp : Int} {va i : Nat} {x : Ent} (hi : L[i]? = some x) (h : hit sp va x = true) : find L sp va = some i := by
  cases hf : find L sp va with
  | none => rw [find_none hf x (List.mem_of_getElem? hi)] at h; cases h
  | some j =>
    obtain ⟨y, hj, hy⟩ := find_some hf
    rw [hw.one hj hi (hit_meets hy h)]
theorem find_lt {L : List Ent} {sp : Int} {va i : Nat} (h : find L sp va = some i) : i < L.length := by
  obtain ⟨x, hx, _⟩ := find_some h
  exact (List.getElem?_eq_some_iff.1 hx).1
/-- A region's byte. -/
def getB (by_ : List Bt) (r o : Int) : Int := match by_.find? (fun b => b.f0 == r && b.f1 == o) with
  | some b => b.f2
  | none => 0
def putB (by_ : List Bt) (r o v : Int) : List Bt := ⟨r, o, v⟩ :: by_.filter (fun b => !(b.f0 == r && b.f1 == o))
def cutB (by_ : List Bt) (r : Int) : List Bt := by_.filter (fun b => !(b.f0 == r))
theorem find_filter_of {α : Type} {p q : α → Bool} (h : ∀ b, q b = true → p b = true) : ∀ l : List α, (l.filter p).find? q = l.find? q
  | [] => rfl
  | b :: l => by
    cases hq : q b with
    | true => simp [List.filter_cons, h b hq, hq]
    | false =>
      cases hp : p b <;> simp [List.filter_cons, hp, hq, find_filter_of h l]
theorem find_filter_no {α : Type} {p q : α → Bool} (h : ∀ b, q b = true → p b = false) (l : List α) : (l.filter p).find? q = none := by
  rw [List.find?_eq_none]
  intro b hb hq
  have := (List.mem_filter.1 hb).2
  rw [h b hq] at this
  cases this
theorem getB_put (by_ : List Bt) (r o v r' o' : Int) : getB (putB by_ r o v) r' o' = if r' = r ∧ o' = o then v else getB by_ r' o' := by
  unfold getB putB
  by_cases h : r' = r ∧ o' = o
  · obtain ⟨rfl, rfl⟩ := h
    simp
  · rw [if_neg h]
    have h0 : ((r == r') && (o == o')) = false := by
      rw [Bool.and_eq_false_iff]
      by_cases e : r' = r
      · right; simp; intro e2; exact h ⟨e, e2.symm⟩
      · left; simp; exact fun e2 => e e2.symm
    rw [List.find?_cons]
    simp only [h0]
    rw [find_filter_of (fun b hb => ?_)]
    simp only [Bool.and_eq_true, beq_iff_eq] at hb
    cases hc : (b.f0 == r && b.f1 == o) with
    | false => rfl
    | true =>
      simp only [Bool.and_eq_true, beq_iff_eq] at hc
      exact absurd ⟨hb.1.symm.trans hc.1, hb.2.symm.trans hc.2⟩ h
theorem getB_cut (by_ : List Bt) (r r' o' : Int) : getB (cutB by_ r) r' o' = if r' = r then 0 else getB by_ r' o' := by
  unfold getB cutB
  by_cases h : r' = r
  · rw [if_pos h, find_filter_no (fun b hb => ?_)]
    simp only [Bool.and_eq_true, beq_iff_eq] at hb
    simp [hb.1, h]
  · rw [if_neg h, find_filter_of (fun b hb => ?_)]
    simp only [Bool.and_eq_true, beq_iff_eq] at hb
    simp [hb.1, h]
/-- How many pages are on a region. -/
def winN (L : List Ent) (r : Int) : Nat := L.countP (fun x => x.f1.f2 == r)
end Go.Proofs.Ytalmemcidbmdgaa.PM

/- A model of spaces (layer 16) in memory. -/
set_option linter.unusedVariables false
set_option linter.unusedSimpArgs false
namespace Go.Proofs.Ytalmemcidbmdgaa.PM
open Go.RowKit Go.Proofs.YtalmemcidbmdgaaW.PrintWords Go.Proofs.YtalmemcidbmdgaaW.PrintLast Go.Proofs.YtalmemcidbmdgaaW.PrintMore Go.Proofs.Ytalmemcidbmdgaa.PageG
/-- What stays beside some blocks. -/
structure Mv (S : List Nat) (w w' : World) : Prop where
  os : w'.os = w.os
  tape : w'.tape = w.tape
  output : w'.output = w.output
  size : w.heap.size ≤ w'.heap.size
  block : ∀ k, k < w.heap.size → k ∉ S → w'.heap[k]? = w.heap[k]?
theorem Mv.of_below {S : List Nat} {w w' : World} (h : Below w.heap.size w w') : Mv S w w' := ⟨h.os, h.tape, h.output, h.size, fun k hk _ => h.block k hk⟩
theorem Mv.refl (S : List Nat) (w : World) : Mv S w w := Mv.of_below (Below.refl _ _)
theorem Mv.below {S : List Nat} {B : Nat} {w w' : World} (h : Mv S w w') (hB : B ≤ w.heap.size) (hS : ∀ k ∈ S, B ≤ k) : Below B w w' :=
  ⟨h.os, h.tape, h.output, h.size, fun k hk => h.block k (Nat.lt_of_lt_of_le hk hB) (fun hm => Nat.not_lt.2 (hS k hm) hk)⟩
theorem Mv.trans {S S' : List Nat} {w w1 w2 : World} (h : Mv S w w1) (h' : Mv S' w1 w2) (hS : ∀ k ∈ S', k ∈ S ∨ w.heap.size ≤ k) : Mv S w w2 :=
  ⟨h'.os.trans h.os, h'.tape.trans h.tape, h'.output.trans h.output, Nat.le_trans h.size h'.size, fun k hk hn => (h'.block k (Nat.lt_of_lt_of_le hk h.size) (fun hm => (hS k hm).elim hn (fun h => Nat.not_lt.2 h hk))).trans (h.block k hk hn)⟩
theorem Mv.then {S : List Nat} {w w1 w2 : World} (h : Mv S w w1) (h' : Mv S w1 w2) : Mv S w w2 := h.trans h' (fun _ hk => .inl hk)
theorem Mv.set {S : List Nat} {w W : World} {p : Addr} (h : Mv S w W) (hp : p.block ∈ S ∨ w.heap.size ≤ p.block) (u : Value) : Mv S w (W.setCell p u) :=
  ⟨h.os, h.tape, h.output, by have : (W.setCell p u).heap.size = W.heap.size := by simp [World.setCell]
                              rw [this]; exact h.size, fun k hk hn => (Below.heap_setCell W p u k (fun e => hp.elim (fun h => hn (e ▸ h)) (fun h => by omega))).trans (h.block k hk hn)⟩
theorem sb_other {W : World} {b k : Nat} (o : Obj) (e : k ≠ b) : (ChangeMaps.setBlock W b o).heap[k]? = W.heap[k]? := by simp [ChangeMaps.setBlock, Array.getElem?_setIfInBounds, Ne.symm e]
theorem sb_size (W : World) (b : Nat) (o : Obj) : (ChangeMaps.setBlock W b o).heap.size = W.heap.size := by simp [ChangeMaps.setBlock]
theorem Mv.setBlock {S : List Nat} {w W : World} {b : Nat} (h : Mv S w W) (hp : b ∈ S ∨ w.heap.size ≤ b) (o : Obj) : Mv S w (ChangeMaps.setBlock W b o) :=
  ⟨h.os, h.tape, h.output, by rw [sb_size]; exact h.size, fun k hk hn => by
    have e : k ≠ b := fun e => hp.elim (fun h => hn (e ▸ h)) (fun h => by omega)
    exact (sb_other o e).trans (h.block k hk hn)⟩
theorem Mv.cell {S : List Nat} {w w' : World} {p : Addr} {v : Value} (hm : Mv S w w') (hc : w.cell? p = some v) (hn : p.block ∉ S) : w'.cell? p = some v :=
  (World.cell?_of_block (hm.block _ (World.block_lt_of_cell? _ _ hc) hn)).trans hc
theorem cell_up {w0 W : World} {a : Addr} {v : Value} (hb : Below w0.heap.size w0 W) (h : w0.cell? a = some v) : W.cell? a = some v := (hb.cell (World.block_lt_of_cell? _ _ h)).trans h
def pgv (p : Pg) : Value := .agg #[.int .u64 p.f0, .int .i64 p.f1, .int .u64 p.f2, .bool p.f3.f0, .bool p.f3.f1, .bool p.f3.f2, .bool p.f3.f3, .bool p.f3.f4, .bool p.f3.f5, .bool p.f4, .bool p.f5]
def enP (x : Ent) : Value × Value := (kyv x.f0 x.f1.f0 x.f1.f1, pgv x.f1)
theorem undP : Try.prog.underlying 72 = some (.map 84 50) := Try.underlying72
theorem undB : Try.prog.underlying 73 = some (.map 91 5) := Try.underlying73
def z0 : Pg := ⟨0, 0, 0, ⟨false, false, false, false, false, false⟩, false, false⟩
theorem zeroP (w : World) : (zeroValue 50).run Try.prog w = .ok (pgv z0) w := by kernel_rfl
theorem zeroU (w : World) : (zeroValue 5).run Try.prog w = .ok (.int .u8 0) w := by kernel_rfl
/-- The bytes' map, as a function. -/
structure BRel (l : ML.En) (by_ : List Bt) : Prop where
  form : ∀ p ∈ l, ∃ r o v, p = (spv r o, .int .u8 v) ∧ W64 r ∧ U64 o ∧ 0 ≤ v ∧ v < 256
  has : ∀ r o v, (spv r o, Value.int .u8 v) ∈ l → v = getB by_ r o
  hasnt : ∀ r o, (∀ p ∈ l, p.1 ≠ spv r o) → getB by_ r o = 0
def BM (w : World) (bm : Nat) (by_ : List Bt) : Prop := ∃ l, ML.At Try.prog 91 w bm l ∧ BRel l by_
structure MS where
  n : Int
  L : List Ent
  by_ : List Bt
  made : Int
structure Mo (w : World) (B pm bm : Nat) (s : MS) : Prop where
  hb : w.heap[B]? = some (.cells #[.int .i64 s.n, .map (some pm), .map (some bm), .int .i64 s.made] 75 (0, 0))
  hp : ML.At Try.prog 84 w pm (s.L.map enP)
  hm : BM w bm s.by_
  ne : pm ≠ bm
section
variable {w w' : World} {B pm bm : Nat} {s : MS}
theorem Mo.neB (h : Mo w B pm bm s) : B ≠ pm ∧ B ≠ bm := by
  obtain ⟨es, c, h1⟩ := h.hp.block
  obtain ⟨l, h2, _⟩ := h.hm
  obtain ⟨es2, c2, h3⟩ := h2.block
  have hb := h.hb
  constructor
  · rintro rfl
    rw [h1] at hb
    cases hb
  · rintro rfl
    rw [h3] at hb
    cases hb
theorem Mo.lt (h : Mo w B pm bm s) : ∀ k ∈ [B, pm, bm], k < w.heap.size := by
  obtain ⟨l, h2, _⟩ := h.hm
  have h1 := h.hp.lt
  have h3 := h2.lt
  have h0 := blk_lt h.hb
  intro k hk
  simp at hk
  rcases hk with rfl | rfl | rfl <;> assumption
theorem BM.move {by_ : List Bt} (h : BM w bm by_) (hb : w'.heap[bm]? = w.heap[bm]?) : BM w' bm by_ := by
  obtain ⟨l, h1, h2⟩ := h
  exact ⟨l, h1.move hb, h2⟩
theorem Mo.move (h : Mo w B pm bm s) (hm : ∀ k ∈ [B, pm, bm], w'.heap[k]? = w.heap[k]?) : Mo w' B pm bm s :=
  ⟨(hm B (by simp)).trans h.hb, h.hp.move (hm pm (by simp)), h.hm.move (hm bm (by simp)), h.ne⟩
theorem Mo.below (h : Mo w B pm bm s) (hb : Below w.heap.size w w') : Mo w' B pm bm s := h.move (fun k hk => hb.block k (h.lt k hk))
theorem Mo.cells (h : Mo w B pm bm s) : w.cell? ⟨B, 0, none⟩ = some (.int .i64 s.n) ∧ w.cell? ⟨B, 1, none⟩ = some (.map (some pm)) ∧ w.cell? ⟨B, 2, none⟩ = some (.map (some bm)) ∧ w.cell? ⟨B, 3, none⟩ = some (.int .i64 s.made) :=
  ⟨(blk_cell h.hb 0).trans rfl, (blk_cell h.hb 1).trans rfl, (blk_cell h.hb 2).trans rfl, (blk_cell h.hb 3).trans rfl⟩
theorem key_x {x : Ent} (h : OkE x) : ∃ kl, keyOf Try.prog 84 (kyv x.f0 x.f1.f0 x.f1.f1) = some kl := by
  have h1 := h.sp0; have h2 := h.sp1; have h3 := h.va; have h4 := h.va1; have h5 := h.sz; have h6 := h.sz1
  exact key_k ⟨by omega, by omega⟩ ⟨by omega, by omega⟩ ⟨by omega, by omega⟩
/-- m.pages[k], which is there. -/
theorem Mo.look_yes (h : Mo w B pm bm s) (hw : WfL s.L) {x : Ent} (hx : x ∈ s.L) :
    (Instr.lookup 72 (.map (some pm)) (kyv x.f0 x.f1.f0 x.f1.f1) true).run Try.prog w = .ok (.tuple #[pgv x.f1, .bool true]) w ∧ (Instr.lookup 72 (.map (some pm)) (kyv x.f0 x.f1.f0 x.f1.f1) false).run Try.prog w = .ok (pgv x.f1) w := by
  obtain ⟨kl, hkl⟩ := key_x (hw.ok x hx)
  exact h.hp.look_yes keyedK undP hkl (List.mem_map.2 ⟨x, hx, rfl⟩)
/-- m.pages[k], which is not there. -/
theorem Mo.look_no (h : Mo w B pm bm s) {sp va sz : Int} (h1 : W64 sp) (h2 : U64 va) (h3 : W64 sz) (hn : ∀ x ∈ s.L, ¬ (x.f0 = sp ∧ x.f1.f0 = va ∧ x.f1.f1 = sz)) :
    (Instr.lookup 72 (.map (some pm)) (kyv sp va sz) true).run Try.prog w = .ok (.tuple #[pgv z0, .bool false]) w := by
  obtain ⟨kl, hkl⟩ := key_k h1 h2 h3
  refine (h.hp.look_no keyedK undP zeroP hkl (fun p hp => ?_)).1
  obtain ⟨x, hx, rfl⟩ := List.mem_map.1 hp
  exact fun e => hn x hx (kyv_inj e)
/-- m.bytes[s]. -/
theorem Mo.look_b (h : Mo w B pm bm s) {r o : Int} (h1 : W64 r) (h2 : U64 o) :
    (Instr.lookup 73 (.map (some bm)) (spv r o) false).run Try.prog w = .ok (.int .u8 (getB s.by_ r o)) w := by
  obtain ⟨l, hl, hr⟩ := h.hm
  obtain ⟨kl, hkl⟩ := key_s h1 h2
  by_cases hx : ∃ p ∈ l, p.1 = spv r o
  · obtain ⟨p, hp, e⟩ := hx
    obtain ⟨r', o', v, rfl, _⟩ := hr.form p hp
    obtain ⟨rfl, rfl⟩ := spv_inj e
    rw [(hl.look_yes keyedS undB hkl hp).2, hr.has _ _ _ hp]
  · have hx' : ∀ p ∈ l, p.1 ≠ spv r o := fun p hp e => hx ⟨p, hp, e⟩
    rw [(hl.look_no keyedS undB zeroU hkl hx').2, hr.hasnt _ _ hx']
theorem split_map {x : Ent} {L : List Ent} {i : Nat} (hi : L[i]? = some x) : L.map enP = (L.take i).map enP ++ enP x :: (L.drop (i + 1)).map enP := by
  obtain ⟨hlt, he⟩ := List.getElem?_eq_some_iff.1 hi
  have : L = L.take i ++ x :: L.drop (i + 1) := by
    rw [← he, ← List.drop_eq_getElem_cons hlt, List.take_append_drop]
  conv => lhs; rw [this]
  simp
/-- m.pages[k] = p of a page that is there. -/
theorem Mo.set_page (h : Mo w B pm bm s) (hw : WfL s.L) {i : Nat} {x : Ent} (hi : s.L[i]? = some x) (p : Pg) (h0 : p.f0 = x.f1.f0) (h1 : p.f1 = x.f1.f1) :
    ∃ o, (Instr.mapUpdate 72 (.map (some pm)) (kyv x.f0 x.f1.f0 x.f1.f1) (pgv p)).run Try.prog w = .ok () (ChangeMaps.setBlock w pm o) ∧
      Mo (ChangeMaps.setBlock w pm o) B pm bm { s with L := s.L.set i ⟨x.f0, p⟩ } := by
  obtain ⟨kl, hkl⟩ := key_x (hw.ok x (List.mem_of_getElem? hi))
  obtain ⟨o, l', hrun, hput, hat⟩ := h.hp.update keyedK undP hkl (pgv p)
  have hne := h.neB
  have hspl := split_map hi
  have hl' : l' = (s.L.set i ⟨x.f0, p⟩).map enP := by
    have hlt := (List.getElem?_eq_some_iff.1 hi).1
    have hnd := h.hp.nodup
    rcases hput with ⟨l1, v0, l2, e1, e2⟩ | ⟨hno, _⟩
    · rw [hspl] at e1 hnd
      obtain ⟨e3, _, e4⟩ := ML.split_one hnd e1
      rw [e2, ← e3, ← e4, List.set_eq_take_append_cons_drop, if_pos hlt]
      simp [enP, h0, h1]
    · exact absurd rfl (hno (enP x) (List.mem_map.2 ⟨x, List.mem_of_getElem? hi, rfl⟩))
  refine ⟨o, hrun, ⟨(sb_other o hne.1).trans h.hb, hl' ▸ hat, h.hm.move (sb_other o (Ne.symm h.ne)), h.ne⟩⟩
/-- m.pages[k] = p of a new page. -/
theorem Mo.new_page (h : Mo w B pm bm s) (x : Ent) (hx : OkE x) (hn : ∀ y ∈ s.L, ¬ (y.f0 = x.f0 ∧ y.f1.f0 = x.f1.f0 ∧ y.f1.f1 = x.f1.f1)) :
    ∃ o, (Instr.mapUpdate 72 (.map (some pm)) (kyv x.f0 x.f1.f0 x.f1.f1) (pgv x.f1)).run Try.prog w = .ok () (ChangeMaps.setBlock w pm o) ∧
      Mo (ChangeMaps.setBlock w pm o) B pm bm { s with L := s.L ++ [x] } := by
  obtain ⟨kl, hkl⟩ := key_x hx
  obtain ⟨o, l', hrun, hput, hat⟩ := h.hp.update keyedK undP hkl (pgv x.f1)
  have hne := h.neB
  have hl' : l' = (s.L ++ [x]).map enP := by
    rcases hput with ⟨l1, v0, l2, e1, e2⟩ | ⟨_, e⟩
    · have hm : (kyv x.f0 x.f1.f0 x.f1.f1, v0) ∈ s.L.map enP := by rw [e1]; simp
      obtain ⟨y, hy, e⟩ := List.mem_map.1 hm
      exact absurd (kyv_inj (congrArg Prod.fst e)) (hn y hy)
    · rw [e]
      simp [enP]
  exact ⟨o, hrun, ⟨(sb_other o hne.1).trans h.hb, hl' ▸ hat, h.hm.move (sb_other o (Ne.symm h.ne)), h.ne⟩⟩
/-- delete(m.pages, k). -/
theorem Mo.del_page (h : Mo w B pm bm s) (hw : WfL s.L) {i : Nat} {x : Ent} (hi : s.L[i]? = some x) (ty : TypeId) :
    ∃ o, (Builtin.delete_ #[72, 84] ty #[.map (some pm), kyv x.f0 x.f1.f0 x.f1.f1]).run Try.prog w = .ok (.tuple #[]) (ChangeMaps.setBlock w pm o) ∧
      Mo (ChangeMaps.setBlock w pm o) B pm bm { s with L := s.L.eraseIdx i } := by
  obtain ⟨kl, hkl⟩ := key_x (hw.ok x (List.mem_of_getElem? hi))
  have hne := h.neB
  obtain ⟨o, hrun, hat⟩ := h.hp.drop keyedK undP hkl (split_map hi) ty
  refine ⟨o, hrun, ⟨(sb_other o hne.1).trans h.hb, ?_, h.hm.move (sb_other o (Ne.symm h.ne)), h.ne⟩⟩
  have : (s.L.eraseIdx i).map enP = (s.L.take i).map enP ++ (s.L.drop (i + 1)).map enP := by
    rw [List.eraseIdx_eq_take_drop_succ, List.map_append]
  rw [this]
  exact hat
/-- m.bytes[s] = b. -/
theorem Mo.set_byte (h : Mo w B pm bm s) {r o v : Int} (h1 : W64 r) (h2 : U64 o) (h3 : 0 ≤ v) (h4 : v < 256) :
    ∃ ob, (Instr.mapUpdate 73 (.map (some bm)) (spv r o) (.int .u8 v)).run Try.prog w = .ok () (ChangeMaps.setBlock w bm ob) ∧
      Mo (ChangeMaps.setBlock w bm ob) B pm bm { s with by_ := putB s.by_ r o v } := by
  obtain ⟨l, hl, hr⟩ := h.hm
  obtain ⟨kl, hkl⟩ := key_s h1 h2
  have hne := h.neB
  obtain ⟨ob, l', hrun, hput, hat⟩ := hl.update keyedS undB hkl (.int .u8 v)
  have hnd := hl.nodup
  refine ⟨ob, hrun, ⟨(sb_other ob hne.2).trans h.hb, h.hp.move (sb_other ob h.ne), ⟨l', hat, ?_⟩, h.ne⟩⟩
  rcases hput with ⟨l1, v0, l2, rfl, rfl⟩ | ⟨hno, rfl⟩
  · have hnd' : ((l1 ++ (spv r o, Value.int .u8 v) :: l2).map (·.1)).Nodup := by simpa using hnd
    refine ⟨fun p hp => ?_, fun r' o' v' hp => ?_, fun r' o' hp => ?_⟩
    · simp only [List.mem_append, List.mem_cons] at hp
      rcases hp with hp | rfl | hp
      · exact hr.form p (by simp [hp])
      · exact ⟨r, o, v, rfl, h1, h2, h3, h4⟩
      · exact hr.form p (by simp [hp])
    · rw [getB_put]
      by_cases e : r' = r ∧ o' = o
      · obtain ⟨rfl, rfl⟩ := e
        rw [if_pos ⟨rfl, rfl⟩]
        have := ML.mem_one hnd' hp (v' := Value.int .u8 v) (by simp)
        injection this
      · rw [if_neg e]
        refine hr.has _ _ _ ?_
        simp only [List.mem_append, List.mem_cons] at hp ⊢
        rcases hp with hp | hp | hp
        · exact .inl hp
        · exact absurd (spv_inj (congrArg Prod.fst hp)) e
        · exact .inr (.inr hp)
    · rw [getB_put]
      by_cases e : r' = r ∧ o' = o
      · obtain ⟨rfl, rfl⟩ := e
        exact absurd rfl (hp (spv r' o', Value.int .u8 v) (by simp))
      · rw [if_neg e]
        refine hr.hasnt _ _ (fun p hq => ?_)
        simp only [List.mem_append, List.mem_cons] at hq
        rcases hq with hq | rfl | hq
        · exact hp p (by simp [hq])
        · exact fun e2 => e (by have := spv_inj e2; exact ⟨this.1.symm, this.2.symm⟩)
        · exact hp p (by simp [hq])
  · refine ⟨fun p hp => ?_, fun r' o' v' hp => ?_, fun r' o' hp => ?_⟩
    · simp only [List.mem_append, List.mem_singleton] at hp
      rcases hp with hp | rfl
      · exact hr.form p hp
      · exact ⟨r, o, v, rfl, h1, h2, h3, h4⟩
    · rw [getB_put]
      simp only [List.mem_append, List.mem_singleton] at hp
      rcases hp with hp | hp
      · have e : ¬ (r' = r ∧ o' = o) := fun e => hno _ hp (by rw [e.1, e.2])
        rw [if_neg e]
        exact hr.has _ _ _ hp
      · have e := spv_inj (congrArg Prod.fst hp)
        rw [if_pos e]
        have := congrArg Prod.snd hp
        injection this
    · have e : ¬ (r' = r ∧ o' = o) := fun e => hp (spv r o, Value.int .u8 v) (by simp) (by rw [e.1, e.2])
      rw [getB_put, if_neg e]
      exact hr.hasnt _ _ (fun p hq => hp p (by simp [hq]))
end
end Go.Proofs.Ytalmemcidbmdgaa.PM

/- A model (layer 16): New, is, at: the walks. -/
set_option linter.unusedVariables false
set_option linter.unusedSimpArgs false
namespace Go.Proofs.Ytalmemcidbmdgaa.PM
open Go.RowKit Go.Proofs.YtalmemcidbmdgaaW.PrintWords Go.Proofs.YtalmemcidbmdgaaW.PrintLast Go.Proofs.YtalmemcidbmdgaaW.PrintMore Go.Proofs.Ytalmemcidbmdgaa.PageG
attribute [local go_sem] max2_int min2_int max_two min_two max_three min_three max_four min_four   -- for this text's walks alone
theorem results_cct {P : Program} {fn : Func} {p p' u : Tmp} {ty ty' : TypeId} (h : fn.results = #[.cell p ty, .cell p' ty', .tmp u]) (tmps : Array Value) (w : World) (g g' : Nat) (t t' : TypeId) (cs cs' : Array Value) (fr fr' : Nat × Nat) (d d' : TypeDesc)
    (hp : tmps.getD p undef = .pointer (some ⟨g, 0, none⟩)) (hg : w.heap[g]? = some (.cells cs t fr))
    (hu : P.underlying ty = some d) (hd : (match d with | .struct _ | .array _ _ => true | _ => false) = true) (hi : (P.info? ty).map (·.size) = some cs.size)
    (hp' : tmps.getD p' undef = .pointer (some ⟨g', 0, none⟩)) (hg' : w.heap[g']? = some (.cells cs' t' fr'))
    (hu' : P.underlying ty' = some d') (hd' : (match d' with | .struct _ | .array _ _ => true | _ => false) = true) (hi' : (P.info? ty').map (·.size) = some cs'.size) :
    (results fn tmps).run P w = .ok (.tuple #[.agg cs, .agg cs', tmps.getD u undef]) w := by
  have h1 : tmps[p]?.getD undef = .pointer (some ⟨g, 0, none⟩) := by simpa using hp
  have h2 : tmps[p']?.getD undef = .pointer (some ⟨g', 0, none⟩) := by simpa using hp'
  simp [results, h, h1, h2, asAddr, run_loadVar_row w g t ty cs fr d hg hu hd hi, run_loadVar_row w g' t' ty' cs' fr' d' hg' hu' hd' hi']
section
variable {w w' : World} {B pm bm : Nat} {s : MS}
def NewP (w : World) (m : Int) (e : Ending) (w' : World) : Prop := ∃ B pm bm, e = .returned (.pointer (some ⟨B, 0, none⟩)) ∧ Mo w' B pm bm ⟨m, [], [], 0⟩ ∧ Below w.heap.size w w' ∧ ∀ k ∈ [B, pm, bm], w.heap.size ≤ k
theorem BRel.nil : BRel [] [] := ⟨by simp, by simp, fun _ _ _ => rfl⟩
set_option maxHeartbeats 4000000 in
set_option maxRecDepth 100000 in
theorem new_calls (w : World) (n m : Int) (hm : min (max n 0) 64 = m) : Calls Try.prog 10 #[.int .i64 n] w (NewP w m) := by
  have hmk := @run_makeMap Try.prog
  obtain ⟨D, hD⟩ : ∃ D, w.heap.size = D := ⟨_, rfl⟩
  have hfin : NewP w m (.returned (.pointer (some ⟨D + 1 + 1, 0, none⟩))) (((w.alloc (.map #[] 0)).alloc (.map #[] 0)).alloc (.cells #[.int .i64 m, .map (some D), .map (some (D + 1)), .int .i64 0] 75)) := by
    have hs1 : (w.alloc (.map #[] 0)).heap.size = D + 1 := by simp [hD]
    have hs2 : ((w.alloc (.map #[] 0)).alloc (.map #[] 0)).heap.size = D + 1 + 1 := by simp [hD]
    have h1 : ML.At Try.prog 84 (w.alloc (.map #[] 0)) D [] := by rw [← hD]; exact ML.At.new w
    have h2 : ML.At Try.prog 91 ((w.alloc (.map #[] 0)).alloc (.map #[] 0)) (D + 1) [] := by rw [← hs1]; exact ML.At.new _
    have hb := blk_new ((w.alloc (.map #[] 0)).alloc (.map #[] 0)) (.cells #[.int .i64 m, .map (some D), .map (some (D + 1)), .int .i64 0] 75)
    rw [hs2] at hb
    refine ⟨_, D, D + 1, rfl, ⟨hb, ?_, ⟨[], ?_, BRel.nil⟩, by omega⟩, (((Below.refl _ w).alloc (Nat.le_refl _) _).alloc (by simp) _).alloc (by simp; omega) _, fun k hk => ?_⟩
    · exact (h1.move ((Go.MapKept.heap_alloc _ _).2 D (by rw [hs1]; omega))).move ((Go.MapKept.heap_alloc _ _).2 D (by rw [hs2]; omega))
    · exact h2.move ((Go.MapKept.heap_alloc _ _).2 (D + 1) (by rw [hs2]; omega))
    · simp at hk
      omega
  have HF := Aside0.mk hfin
  clear hfin
  have HM := Aside0.mk hm
  clear hm
  go_enter Try.func10, Try.ntmps10
  go_wp2_with fail
  all_goals
    first
    | (obtain rfl : m = 64 := by have := HM.out; omega); (go_ret; exact HF.out)
    | (obtain rfl : m = n := by have := HM.out; omega); (go_ret; exact HF.out)
    | (obtain rfl : m = 0 := by have := HM.out; omega); (go_ret; exact HF.out)
/-- Are there all these spaces? -/
def isAll (n : Int) (xs : List Int) : Bool := xs.all fun x => decide (0 ≤ x) && decide (x < n)
theorem isAll_no {n : Int} {xs : List Int} {x : Int} (h : x ∈ xs) (hx : ¬ (0 ≤ x ∧ x < n)) : isAll n xs = false := by
  unfold isAll
  rw [List.all_eq_false]
  exact ⟨x, h, by simp; omega⟩
theorem isAll_yes {n : Int} {xs : List Int} (h : ∀ x ∈ xs, 0 ≤ x ∧ x < n) : isAll n xs = true := by
  unfold isAll
  rw [List.all_eq_true]
  exact fun x hx => by simpa using h x hx
set_option maxHeartbeats 4000000 in
set_option maxRecDepth 100000 in
theorem is_calls (h : Mo w B pm bm s) (xs : List Int) (A : Option Addr) (c : Nat) (hC : Kd.C (Kd.int .i64) w A xs.length xs) (hsz : xs.length ≤ 1000) :
    Calls Try.prog 66 #[.pointer (some ⟨B, 0, none⟩), .slice A xs.length c] w fun e w' => e = .returned (.bool (isAll s.n xs)) ∧ w = w' := by
  have x0 := h.cells.1
  have HC := Aside0.mk hC
  clear h hC
  go_enter Try.func66, Try.ntmps66
  go_wp2_with fail
  go_loop [9] (fun i => ∃ k : Nat, i = .int .i64 k ∧ k ≤ xs.length ∧ Aside0 (∀ x ∈ xs.take k, 0 ≤ x ∧ x < s.n)) (fun i => xs.length - (intOf i).toNat)
  case atStart => exact ⟨0, rfl, by omega, ⟨by simp⟩⟩
  case round =>
    obtain ⟨k, rfl, hk, HT⟩ := hrel
    by_cases hlt : k < xs.length
    · have hk1 : (k : Int) < (xs.length : Int) := by omega
      have hk0 : (0 : Int) ≤ (k : Int) := by omega
      obtain ⟨ad, hA, y0⟩ := Kd.at_int HC.out (k : Int) hk0 hk1
      subst hA
      have hx : rd xs (k : Int) = xs[k] := by simp [rd, List.getD_eq_getElem?_getD, hlt]
      rw [hx, Int.toNat_natCast] at y0
      have hmem := Aside0.mk (List.getElem_mem hlt)
      have htk := Aside0.mk (List.take_succ_eq_append_getElem hlt)
      clear hx
      generalize xs[k] = x at y0 hmem htk
      by_cases h0 : x < 0
      · have hd0 : decide (x < 0) = true := decide_eq_true h0
        go_wp2
        go_ret
        exact ⟨by rw [isAll_no hmem.out (by omega)]; rfl, rfl⟩
      · by_cases h1 : s.n ≤ x
        · have hx0 : 0 ≤ x := by omega
          have hd1 : decide (s.n ≤ x) = true := decide_eq_true h1
          go_wp2
          go_ret
          exact ⟨by rw [isAll_no hmem.out (by omega)]; rfl, rfl⟩
        · have hx0 : 0 ≤ x := by omega
          have hx1 : x < s.n := by omega
          go_wp2
          go_round
          case rel => exact ⟨k + 1, by go_num, by omega, ⟨fun y hy => by rw [htk.out, List.mem_append, List.mem_singleton] at hy; exact hy.elim (HT.out y) (fun e => by omega)⟩⟩
          case measure => simp [intOf]; omega
    · have hk1 : ¬ (k : Int) < (xs.length : Int) := by omega
      have hd : decide ((k : Int) < (xs.length : Int)) = false := decide_eq_false hk1
      go_wp2
      go_ret
      have hkl : xs.take k = xs := List.take_of_length_le (by omega)
      exact ⟨by rw [isAll_yes (fun x hx => HT.out x (by rw [hkl]; exact hx))]; rfl, rfl⟩
end
end Go.Proofs.Ytalmemcidbmdgaa.PM


-- written by xprint.py, a program of this session, over the kit's print (functions told by hand: see the texts)
import Derived.Test.YtlkojjkgbcpjjaaPAx0
import Derived.Test.YtlkojjkgbcpjjaaPAx1
import Derived.Test.YtlkojjkgbcpjjaaPAx2
namespace Go.Proofs.Ytlkojjkgbcpjjaa.PA
open Go.RowKit Go.Proofs.YtlkojjkgbcpjjaaW.PrintWords Go.Proofs.YtlkojjkgbcpjjaaW.PrintLast Go.Proofs.YtlkojjkgbcpjjaaW.PrintMore
attribute [local go_sem] max2_int min2_int max_two min_two max_three min_three max_four min_four   -- for this text's walks alone
set_option linter.unusedVariables false
set_option linter.unusedSimpArgs false

/-! ### lookasidelaw08_PointIn: function 4 -/
mutual
def lookasidelaw08_PointIn.j0 : Nat → Int → Int → Int → Int → Bool → Int → Option (Bool)
  | 0, _, _, _, _, _, _ => none
  | k + 1, x0, x1, x2, x7, x8, x9 => if x9 = 0 then (none) else (lookasidelaw08_PointIn.l0 k x0 x1 x2 x7 x8 x9 (IntKind.u64.wrap ((IntKind.u64.wrap (Int.tdiv x0 x9)) * x9)) 0)
def lookasidelaw08_PointIn.l0 : Nat → Int → Int → Int → Int → Bool → Int → Int → Int → Option (Bool)
  | 0, _, _, _, _, _, _, _, _ => none
  | k + 1, x0, x1, x2, x7, x8, x9, x10, x11 => if x11 < 2 then ((point_Pointer.f x0 x1 x11).bind fun bt136 => ((lookasideref02_Base.f x1 x11).bind fun t138 => ((lookasideref02_Offset.f x2 x11).bind fun t139 => ((point_Pointer.f x0 (IntKind.u64.wrap (t138 + t139)) x11).bind fun bt140 => (if bt136.2 = true then (if bt136.1 = bt140.1 then (if (Int.tmod bt136.1 16) = 0 then (if bt136.1 < x10 then (lookasidelaw08_PointIn.j2 k x0 x1 x2 x7 x8 x9 x10 x11 bt136.1 true) else (lookasidelaw08_PointIn.j2 k x0 x1 x2 x7 x8 x9 x10 x11 bt136.1 (decide ((IntKind.u64.wrap (bt136.1 - x10)) ≥ x9)))) else (lookasidelaw08_PointIn.j2 k x0 x1 x2 x7 x8 x9 x10 x11 bt136.1 true)) else (lookasidelaw08_PointIn.j2 k x0 x1 x2 x7 x8 x9 x10 x11 bt136.1 true)) else (lookasidelaw08_PointIn.j2 k x0 x1 x2 x7 x8 x9 x10 x11 bt136.1 true)))))) else ((lookasidelaw08_lives.f).bind fun t135 => (some t135))
def lookasidelaw08_PointIn.j2 : Nat → Int → Int → Int → Int → Bool → Int → Int → Int → Int → Bool → Option (Bool)
  | 0, _, _, _, _, _, _, _, _, _, _ => none
  | k + 1, x0, x1, x2, x7, x8, x9, x10, x11, x12, x77 => if x77 = true then (some false) else (if x8 = true then (if ((decide ((IntKind.u64.wrap (x12 - x10)) ≥ (IntKind.u64.wrap (16 * x7)))) != (x11 == 1)) = true then (some false) else (lookasidelaw08_PointIn.l0 k x0 x1 x2 x7 x8 x9 x10 (wrap64 (x11 + 1)))) else (lookasidelaw08_PointIn.l0 k x0 x1 x2 x7 x8 x9 x10 (wrap64 (x11 + 1))))
end
def lookasidelaw08_PointIn.f (k : Nat) (a0 : Int) (a1 : Int) (a2 : Int) : Option (Bool) := (lookasideref08_Entries.f k a0).bind fun t133 => ((lookasideref08_Split.f a0).bind fun t134 => (if t134 = true then (lookasidelaw08_PointIn.j0 k a0 a1 a2 t133 t134 (IntKind.u64.wrap (32 * t133))) else (lookasidelaw08_PointIn.j0 k a0 a1 a2 t133 t134 (IntKind.u64.wrap (16 * t133)))))
theorem lookasidelaw08_PointIn.mono_l : ∀ k, (∀ y0 y1 y2 y3 y4 y5, LeO (lookasidelaw08_PointIn.j0 k y0 y1 y2 y3 y4 y5) (lookasidelaw08_PointIn.j0 (k + 1) y0 y1 y2 y3 y4 y5)) ∧ (∀ y0 y1 y2 y3 y4 y5 y6 y7, LeO (lookasidelaw08_PointIn.l0 k y0 y1 y2 y3 y4 y5 y6 y7) (lookasidelaw08_PointIn.l0 (k + 1) y0 y1 y2 y3 y4 y5 y6 y7)) ∧ (∀ y0 y1 y2 y3 y4 y5 y6 y7 y8 y9, LeO (lookasidelaw08_PointIn.j2 k y0 y1 y2 y3 y4 y5 y6 y7 y8 y9) (lookasidelaw08_PointIn.j2 (k + 1) y0 y1 y2 y3 y4 y5 y6 y7 y8 y9))
  | 0 => ⟨fun _ _ _ _ _ _ r h => by simp [lookasidelaw08_PointIn.j0] at h, fun _ _ _ _ _ _ _ _ r h => by simp [lookasidelaw08_PointIn.l0] at h, fun _ _ _ _ _ _ _ _ _ _ r h => by simp [lookasidelaw08_PointIn.j2] at h⟩
  | k + 1 => by
    obtain ⟨ih0, ih1, ih2⟩ := lookasidelaw08_PointIn.mono_l k
    refine ⟨?_, ?_, ?_⟩
    · intro y0 y1 y2 y3 y4 y5
      unfold lookasidelaw08_PointIn.j0
      repeat' first
      | (with_reducible exact ih0 _ _ _ _ _ _)
      | (with_reducible exact ih1 _ _ _ _ _ _ _ _)
      | (with_reducible exact ih2 _ _ _ _ _ _ _ _ _ _)
      | (with_reducible exact lookasideref08_Entries.mono _ _)
      | (with_reducible exact LeO.refl _)
      | (with_reducible exact LeO.none _)
      | (with_reducible refine LeO.ite ?_ ?_)
      | (with_reducible refine LeO.bind ?_ (fun _ => ?_))
      | exact ih0 _ _ _ _ _ _
      | exact ih1 _ _ _ _ _ _ _ _
      | exact ih2 _ _ _ _ _ _ _ _ _ _
      | exact lookasideref08_Entries.mono _ _
      | exact LeO.none _
      | refine LeO.ite ?_ ?_
      | refine LeO.bind ?_ (fun _ => ?_)
    · intro y0 y1 y2 y3 y4 y5 y6 y7
      unfold lookasidelaw08_PointIn.l0
      repeat' first
      | (with_reducible exact ih0 _ _ _ _ _ _)
      | (with_reducible exact ih1 _ _ _ _ _ _ _ _)
      | (with_reducible exact ih2 _ _ _ _ _ _ _ _ _ _)
      | (with_reducible exact lookasideref08_Entries.mono _ _)
      | (with_reducible exact LeO.refl _)
      | (with_reducible exact LeO.none _)
      | (with_reducible refine LeO.ite ?_ ?_)
      | (with_reducible refine LeO.bind ?_ (fun _ => ?_))
      | exact ih0 _ _ _ _ _ _
      | exact ih1 _ _ _ _ _ _ _ _
      | exact ih2 _ _ _ _ _ _ _ _ _ _
      | exact lookasideref08_Entries.mono _ _
      | exact LeO.none _
      | refine LeO.ite ?_ ?_
      | refine LeO.bind ?_ (fun _ => ?_)
    · intro y0 y1 y2 y3 y4 y5 y6 y7 y8 y9
      unfold lookasidelaw08_PointIn.j2
      repeat' first
      | (with_reducible exact ih0 _ _ _ _ _ _)
      | (with_reducible exact ih1 _ _ _ _ _ _ _ _)
      | (with_reducible exact ih2 _ _ _ _ _ _ _ _ _ _)
      | (with_reducible exact lookasideref08_Entries.mono _ _)
      | (with_reducible exact LeO.refl _)
      | (with_reducible exact LeO.none _)
      | (with_reducible refine LeO.ite ?_ ?_)
      | (with_reducible refine LeO.bind ?_ (fun _ => ?_))
      | exact ih0 _ _ _ _ _ _
      | exact ih1 _ _ _ _ _ _ _ _
      | exact ih2 _ _ _ _ _ _ _ _ _ _
      | exact lookasideref08_Entries.mono _ _
      | exact LeO.none _
      | refine LeO.ite ?_ ?_
      | refine LeO.bind ?_ (fun _ => ?_)
theorem lookasidelaw08_PointIn.mono : ∀ a0 a1 a2 k, LeO (lookasidelaw08_PointIn.f k a0 a1 a2) (lookasidelaw08_PointIn.f (k + 1) a0 a1 a2) := by
  intro a0 a1 a2 k
  obtain ⟨ih0, ih1, ih2⟩ := lookasidelaw08_PointIn.mono_l k
  unfold lookasidelaw08_PointIn.f
  repeat' first
      | (with_reducible exact ih0 _ _ _ _ _ _)
      | (with_reducible exact ih1 _ _ _ _ _ _ _ _)
      | (with_reducible exact ih2 _ _ _ _ _ _ _ _ _ _)
      | (with_reducible exact lookasideref08_Entries.mono _ _)
      | (with_reducible exact LeO.refl _)
      | (with_reducible exact LeO.none _)
      | (with_reducible refine LeO.ite ?_ ?_)
      | (with_reducible refine LeO.bind ?_ (fun _ => ?_))
      | exact ih0 _ _ _ _ _ _
      | exact ih1 _ _ _ _ _ _ _ _
      | exact ih2 _ _ _ _ _ _ _ _ _ _
      | exact lookasideref08_Entries.mono _ _
      | exact LeO.none _
      | refine LeO.ite ?_ ?_
      | refine LeO.bind ?_ (fun _ => ?_)
set_option maxHeartbeats 8000000 in
set_option maxRecDepth 100000 in
theorem lookasidelaw08_PointIn.calls (k : Nat) (a0 : Int) (a1 : Int) (a2 : Int) (r : Bool) (w : World) (h : lookasidelaw08_PointIn.f k a0 a1 a2 = some r) :
    Calls Try.prog 4 #[.int .u64 a0, .int .u64 a1, .int .u64 a2] w fun e w' => e = .returned (.bool r) ∧ Below w.heap.size w w' := by
  have HB := Aside0.mk (Below.refl w.heap.size w)
  have H : ((lookasideref08_Entries.f k a0).bind fun t133 => ((lookasideref08_Split.f a0).bind fun t134 => (if t134 = true then (lookasidelaw08_PointIn.j0 k a0 a1 a2 t133 t134 (IntKind.u64.wrap (32 * t133))) else (lookasidelaw08_PointIn.j0 k a0 a1 a2 t133 t134 (IntKind.u64.wrap (16 * t133)))))) = some r := h
  clear h
  replace H := Option.bind_eq_some_iff.mp H
  obtain ⟨t133, A40, H⟩ := H
  replace H : ((lookasideref08_Split.f a0).bind fun t134 => (if t134 = true then (lookasidelaw08_PointIn.j0 k a0 a1 a2 t133 t134 (IntKind.u64.wrap (32 * t133))) else (lookasidelaw08_PointIn.j0 k a0 a1 a2 t133 t134 (IntKind.u64.wrap (16 * t133))))) = some r := H
  have A4 := Aside0.mk A40
  clear A40
  replace H := Option.bind_eq_some_iff.mp H
  obtain ⟨t134, A50, H⟩ := H
  replace H : (if t134 = true then (lookasidelaw08_PointIn.j0 k a0 a1 a2 t133 t134 (IntKind.u64.wrap (32 * t133))) else (lookasidelaw08_PointIn.j0 k a0 a1 a2 t133 t134 (IntKind.u64.wrap (16 * t133)))) = some r := H
  have A5 := Aside0.mk A50
  clear A50
  have HC6 := Aside0.mk H
  clear H
  go_enter Try.func4, Try.ntmps4
  go_upto_if 22 with (first | ((with_reducible refine gate_callee (f := 18) rfl ?_); refine goesL_ (some 17) rfl rfl Try.func18 (by kernel_rfl) rfl #[.int .u64 a0] rfl (by (try simp only [List.map_toArray, List.map_cons, List.map_nil]); first | done | rfl | (simp only [List.length_drop, List.length_take]; rfl)) ?_; (with_reducible refine (lookasideref08_Entries.calls k a0 t133 _ A4.out).mono ?_); rintro e w' ⟨rfl, ⟨nd, rfl⟩⟩; refine ⟨_, rfl, ?_⟩) | ((with_reducible refine gate_callee (f := 20) rfl ?_); refine goesL_ (some 19) rfl rfl Try.func20 (by kernel_rfl) rfl #[.int .u64 a0] rfl (by (try simp only [List.map_toArray, List.map_cons, List.map_nil]); first | done | rfl | (simp only [List.length_drop, List.length_take]; rfl)) ?_; (with_reducible refine (lookasideref08_Split.calls a0 t134 _ A5.out).mono ?_); rintro e w' ⟨rfl, ⟨nd, rfl⟩⟩; refine ⟨_, rfl, ?_⟩))
  (try simp only [Act.put, List.setIfInBounds_toArray, List.set_cons_zero, List.set_cons_succ])
  go_cut [9] (fun v9 wc => ∃ (kq : Nat) (x9_5 : Int), v9 = .int .u64 x9_5 ∧ Aside0 (lookasidelaw08_PointIn.j0 kq a0 a1 a2 t133 t134 x9_5 = some r) ∧ Aside0 (kq ≤ k) ∧ Aside0 (Below w.heap.size w wc))
  case first =>
    have H := HC6.out
    clear HC6
    by_cases c7 : t134 = true
    · subst c7
      have H1 : (lookasidelaw08_PointIn.j0 k a0 a1 a2 t133 true (IntKind.u64.wrap (32 * t133))) = some r := by rw [if_pos rfl] at H; exact H
      clear H
      have H := H1
      clear H1
      have H' := Aside0.mk H
      clear H
      go_wp2
      go_meet
      case rel => exact ⟨_, (IntKind.u64.wrap (32 * t133)), (by first | rfl | (simp; done) | (simp [*]; done)), H', ⟨by first | omega | exact Nat.le_refl _⟩, ⟨by repeat (first | (with_reducible first | exact HB.out | apply below_alloc | apply pw_below_drewN | apply below_drew1) | exact HB.out)⟩⟩
    · replace c7 := Bool.eq_false_iff.mpr c7
      subst c7
      have H1 : (lookasidelaw08_PointIn.j0 k a0 a1 a2 t133 false (IntKind.u64.wrap (16 * t133))) = some r := by rw [if_neg (show ¬ (false = true) by decide)] at H; exact H
      clear H
      have H := H1
      clear H1
      have H' := Aside0.mk H
      clear H
      go_wp2
      go_meet
      case rel => exact ⟨_, (IntKind.u64.wrap (16 * t133)), (by first | rfl | (simp; done) | (simp [*]; done)), H', ⟨by first | omega | exact Nat.le_refl _⟩, ⟨by repeat (first | (with_reducible first | exact HB.out | apply below_alloc | apply pw_below_drewN | apply below_drew1) | exact HB.out)⟩⟩
  case rest =>
    clear HC6
    try clear c1
    try clear c2
    try clear p2
    try clear c4
    try clear c7
    obtain ⟨kq, x9_5, rfl, HA, HJ5, HB⟩ := hcut
    cases kq with
    | zero => exact absurd HA.out (by simp [lookasidelaw08_PointIn.j0])
    | succ kj5 =>
      have H := HA.out
      clear HA
      simp only [lookasidelaw08_PointIn.j0] at H
      by_cases c8 : x9_5 = 0
      · rw [if_pos c8] at H
        exact absurd H (by simp)
      · rw [if_neg c8] at H
        have c8b0 : (x9_5 == 0) = false := beq_eq_false_iff_ne.mpr c8
        have c8b1 : (x9_5 != 0) = true := bne_iff_ne.mpr c8
        have H' := Aside0.mk H
        clear H
        go_wp2
        go_loopg [11] kj5 (fun kq v11 w' => ∃ (x11_2 : Int), v11 = .int .i64 x11_2 ∧ Aside0 (lookasidelaw08_PointIn.l0 kq a0 a1 a2 t133 t134 x9_5 (IntKind.u64.wrap ((IntKind.u64.wrap (Int.tdiv a0 x9_5)) * x9_5)) x11_2 = some r) ∧ Aside0 (kq ≤ kj5) ∧ Aside0 (Below w.heap.size w w'))
        case atStart => exact ⟨(0), (by first | rfl | (simp; done) | (simp [*]; done)), H', ⟨Nat.le_refl _⟩, ⟨by repeat (first | (with_reducible first | exact HB.out | apply below_alloc | apply pw_below_drewN | apply below_drew1) | exact HB.out)⟩⟩
        case round =>
          clear H'
          try clear c1
          try clear c2
          try clear p2
          try clear c4
          try clear c7
          try clear c8
          try clear c8b0
          try clear c8b1
          try clear p2
          obtain ⟨x11_2, rfl, HA, HK2, HB⟩ := hrel
          cases gk with
          | zero => exact absurd HA.out (by simp [lookasidelaw08_PointIn.l0])
          | succ k2 =>
            have H := HA.out
            clear HA
            simp only [lookasidelaw08_PointIn.l0] at H
            by_cases c9 : x11_2 < 2
            · rw [if_pos c9] at H
              have c9b0 : decide (x11_2 < 2) = true := decide_eq_true c9
              clear c9
              replace H := Option.bind_eq_some_iff.mp H
              obtain ⟨⟨t136, t137⟩, A100, H⟩ := H
              replace H : ((lookasideref02_Base.f a1 x11_2).bind fun t138 => ((lookasideref02_Offset.f a2 x11_2).bind fun t139 => ((point_Pointer.f a0 (IntKind.u64.wrap (t138 + t139)) x11_2).bind fun bt140 => (if t137 = true then (if t136 = bt140.1 then (if (Int.tmod t136 16) = 0 then (if t136 < (IntKind.u64.wrap ((IntKind.u64.wrap (Int.tdiv a0 x9_5)) * x9_5)) then (lookasidelaw08_PointIn.j2 k2 a0 a1 a2 t133 t134 x9_5 (IntKind.u64.wrap ((IntKind.u64.wrap (Int.tdiv a0 x9_5)) * x9_5)) x11_2 t136 true) else (lookasidelaw08_PointIn.j2 k2 a0 a1 a2 t133 t134 x9_5 (IntKind.u64.wrap ((IntKind.u64.wrap (Int.tdiv a0 x9_5)) * x9_5)) x11_2 t136 (decide ((IntKind.u64.wrap (t136 - (IntKind.u64.wrap ((IntKind.u64.wrap (Int.tdiv a0 x9_5)) * x9_5)))) ≥ x9_5)))) else (lookasidelaw08_PointIn.j2 k2 a0 a1 a2 t133 t134 x9_5 (IntKind.u64.wrap ((IntKind.u64.wrap (Int.tdiv a0 x9_5)) * x9_5)) x11_2 t136 true)) else (lookasidelaw08_PointIn.j2 k2 a0 a1 a2 t133 t134 x9_5 (IntKind.u64.wrap ((IntKind.u64.wrap (Int.tdiv a0 x9_5)) * x9_5)) x11_2 t136 true)) else (lookasidelaw08_PointIn.j2 k2 a0 a1 a2 t133 t134 x9_5 (IntKind.u64.wrap ((IntKind.u64.wrap (Int.tdiv a0 x9_5)) * x9_5)) x11_2 t136 true))))) = some r := H
              have A10 := Aside0.mk A100
              clear A100
              replace H := Option.bind_eq_some_iff.mp H
              obtain ⟨t138, A110, H⟩ := H
              replace H : ((lookasideref02_Offset.f a2 x11_2).bind fun t139 => ((point_Pointer.f a0 (IntKind.u64.wrap (t138 + t139)) x11_2).bind fun bt140 => (if t137 = true then (if t136 = bt140.1 then (if (Int.tmod t136 16) = 0 then (if t136 < (IntKind.u64.wrap ((IntKind.u64.wrap (Int.tdiv a0 x9_5)) * x9_5)) then (lookasidelaw08_PointIn.j2 k2 a0 a1 a2 t133 t134 x9_5 (IntKind.u64.wrap ((IntKind.u64.wrap (Int.tdiv a0 x9_5)) * x9_5)) x11_2 t136 true) else (lookasidelaw08_PointIn.j2 k2 a0 a1 a2 t133 t134 x9_5 (IntKind.u64.wrap ((IntKind.u64.wrap (Int.tdiv a0 x9_5)) * x9_5)) x11_2 t136 (decide ((IntKind.u64.wrap (t136 - (IntKind.u64.wrap ((IntKind.u64.wrap (Int.tdiv a0 x9_5)) * x9_5)))) ≥ x9_5)))) else (lookasidelaw08_PointIn.j2 k2 a0 a1 a2 t133 t134 x9_5 (IntKind.u64.wrap ((IntKind.u64.wrap (Int.tdiv a0 x9_5)) * x9_5)) x11_2 t136 true)) else (lookasidelaw08_PointIn.j2 k2 a0 a1 a2 t133 t134 x9_5 (IntKind.u64.wrap ((IntKind.u64.wrap (Int.tdiv a0 x9_5)) * x9_5)) x11_2 t136 true)) else (lookasidelaw08_PointIn.j2 k2 a0 a1 a2 t133 t134 x9_5 (IntKind.u64.wrap ((IntKind.u64.wrap (Int.tdiv a0 x9_5)) * x9_5)) x11_2 t136 true)))) = some r := H
              have A11 := Aside0.mk A110
              clear A110
              replace H := Option.bind_eq_some_iff.mp H
              obtain ⟨t139, A120, H⟩ := H
              replace H : ((point_Pointer.f a0 (IntKind.u64.wrap (t138 + t139)) x11_2).bind fun bt140 => (if t137 = true then (if t136 = bt140.1 then (if (Int.tmod t136 16) = 0 then (if t136 < (IntKind.u64.wrap ((IntKind.u64.wrap (Int.tdiv a0 x9_5)) * x9_5)) then (lookasidelaw08_PointIn.j2 k2 a0 a1 a2 t133 t134 x9_5 (IntKind.u64.wrap ((IntKind.u64.wrap (Int.tdiv a0 x9_5)) * x9_5)) x11_2 t136 true) else (lookasidelaw08_PointIn.j2 k2 a0 a1 a2 t133 t134 x9_5 (IntKind.u64.wrap ((IntKind.u64.wrap (Int.tdiv a0 x9_5)) * x9_5)) x11_2 t136 (decide ((IntKind.u64.wrap (t136 - (IntKind.u64.wrap ((IntKind.u64.wrap (Int.tdiv a0 x9_5)) * x9_5)))) ≥ x9_5)))) else (lookasidelaw08_PointIn.j2 k2 a0 a1 a2 t133 t134 x9_5 (IntKind.u64.wrap ((IntKind.u64.wrap (Int.tdiv a0 x9_5)) * x9_5)) x11_2 t136 true)) else (lookasidelaw08_PointIn.j2 k2 a0 a1 a2 t133 t134 x9_5 (IntKind.u64.wrap ((IntKind.u64.wrap (Int.tdiv a0 x9_5)) * x9_5)) x11_2 t136 true)) else (lookasidelaw08_PointIn.j2 k2 a0 a1 a2 t133 t134 x9_5 (IntKind.u64.wrap ((IntKind.u64.wrap (Int.tdiv a0 x9_5)) * x9_5)) x11_2 t136 true))) = some r := H
              have A12 := Aside0.mk A120
              clear A120
              replace H := Option.bind_eq_some_iff.mp H
              obtain ⟨⟨t140, t141⟩, A130, H⟩ := H
              replace H : (if t137 = true then (if t136 = t140 then (if (Int.tmod t136 16) = 0 then (if t136 < (IntKind.u64.wrap ((IntKind.u64.wrap (Int.tdiv a0 x9_5)) * x9_5)) then (lookasidelaw08_PointIn.j2 k2 a0 a1 a2 t133 t134 x9_5 (IntKind.u64.wrap ((IntKind.u64.wrap (Int.tdiv a0 x9_5)) * x9_5)) x11_2 t136 true) else (lookasidelaw08_PointIn.j2 k2 a0 a1 a2 t133 t134 x9_5 (IntKind.u64.wrap ((IntKind.u64.wrap (Int.tdiv a0 x9_5)) * x9_5)) x11_2 t136 (decide ((IntKind.u64.wrap (t136 - (IntKind.u64.wrap ((IntKind.u64.wrap (Int.tdiv a0 x9_5)) * x9_5)))) ≥ x9_5)))) else (lookasidelaw08_PointIn.j2 k2 a0 a1 a2 t133 t134 x9_5 (IntKind.u64.wrap ((IntKind.u64.wrap (Int.tdiv a0 x9_5)) * x9_5)) x11_2 t136 true)) else (lookasidelaw08_PointIn.j2 k2 a0 a1 a2 t133 t134 x9_5 (IntKind.u64.wrap ((IntKind.u64.wrap (Int.tdiv a0 x9_5)) * x9_5)) x11_2 t136 true)) else (lookasidelaw08_PointIn.j2 k2 a0 a1 a2 t133 t134 x9_5 (IntKind.u64.wrap ((IntKind.u64.wrap (Int.tdiv a0 x9_5)) * x9_5)) x11_2 t136 true)) = some r := H
              have A13 := Aside0.mk A130
              clear A130
              have HC14 := Aside0.mk H
              clear H
              go_upto_region 12 with (first | ((with_reducible refine gate_callee (f := 15) rfl ?_); refine goesL_ (some 38) rfl rfl Try.func15 (by kernel_rfl) rfl #[.int .u64 a0, .int .u64 a1, .int .i64 x11_2] rfl (by (try simp only [List.map_toArray, List.map_cons, List.map_nil]); first | done | rfl | (simp only [List.length_drop, List.length_take]; rfl)) ?_; (with_reducible refine (point_Pointer.calls a0 a1 x11_2 t136 t137 _ A10.out).mono ?_); rintro e w15 ⟨rfl, hb⟩; refine ⟨_, rfl, ?_⟩; have n0_ := Aside0.mk (below_step (by repeat (first | (with_reducible first | exact HB.out | apply below_alloc | apply pw_below_drewN | apply below_drew1) | exact HB.out)) hb); clear HB; have HB := n0_; clear n0_; (try clear hb); (try clear hb2); (try clear hk); (try clear hi)) | ((with_reducible refine gate_callee (f := 22) rfl ?_); refine goesL_ (some 45) rfl rfl Try.func22 (by kernel_rfl) rfl #[.int .u64 a1, .int .i64 x11_2] rfl (by (try simp only [List.map_toArray, List.map_cons, List.map_nil]); first | done | rfl | (simp only [List.length_drop, List.length_take]; rfl)) ?_; (with_reducible refine (lookasideref02_Base.calls a1 x11_2 t138 _ A11.out).mono ?_); rintro e w' ⟨rfl, ⟨nd, rfl⟩⟩; refine ⟨_, rfl, ?_⟩) | ((with_reducible refine gate_callee (f := 23) rfl ?_); refine goesL_ (some 48) rfl rfl Try.func23 (by kernel_rfl) rfl #[.int .u64 a2, .int .i64 x11_2] rfl (by (try simp only [List.map_toArray, List.map_cons, List.map_nil]); first | done | rfl | (simp only [List.length_drop, List.length_take]; rfl)) ?_; (with_reducible refine (lookasideref02_Offset.calls a2 x11_2 t139 _ A12.out).mono ?_); rintro e w' ⟨rfl, ⟨nd, rfl⟩⟩; refine ⟨_, rfl, ?_⟩) | ((with_reducible refine gate_callee (f := 15) rfl ?_); refine goesL_ (some 51) rfl rfl Try.func15 (by kernel_rfl) rfl #[.int .u64 a0, .int .u64 (IntKind.u64.wrap (t138 + t139)), .int .i64 x11_2] rfl (by (try simp only [List.map_toArray, List.map_cons, List.map_nil]); first | done | rfl | (simp only [List.length_drop, List.length_take]; rfl)) ?_; (with_reducible refine (point_Pointer.calls a0 (IntKind.u64.wrap (t138 + t139)) x11_2 t140 t141 _ A13.out).mono ?_); rintro e w16 ⟨rfl, hb⟩; refine ⟨_, rfl, ?_⟩; have n0_ := Aside0.mk (below_step (by repeat (first | (with_reducible first | exact HB.out | apply below_alloc | apply pw_below_drewN | apply below_drew1) | exact HB.out)) hb); clear HB; have HB := n0_; clear n0_; (try clear hb); (try clear hb2); (try clear hk); (try clear hi)))
              (try simp only [Act.put, List.setIfInBounds_toArray, List.set_cons_zero, List.set_cons_succ])
              go_cut [77] (fun v77 wc => ∃ (kq : Nat) (x77_13 : Bool), v77 = .bool x77_13 ∧ Aside0 (lookasidelaw08_PointIn.j2 kq a0 a1 a2 t133 t134 x9_5 (IntKind.u64.wrap ((IntKind.u64.wrap (Int.tdiv a0 x9_5)) * x9_5)) x11_2 t136 x77_13 = some r) ∧ Aside0 (kq ≤ k2) ∧ Aside0 (Below w.heap.size w wc))
              case first =>
                have H := HC14.out
                clear HC14
                by_cases c17 : t137 = true
                · subst c17
                  have H1 : (if t136 = t140 then (if (Int.tmod t136 16) = 0 then (if t136 < (IntKind.u64.wrap ((IntKind.u64.wrap (Int.tdiv a0 x9_5)) * x9_5)) then (lookasidelaw08_PointIn.j2 k2 a0 a1 a2 t133 t134 x9_5 (IntKind.u64.wrap ((IntKind.u64.wrap (Int.tdiv a0 x9_5)) * x9_5)) x11_2 t136 true) else (lookasidelaw08_PointIn.j2 k2 a0 a1 a2 t133 t134 x9_5 (IntKind.u64.wrap ((IntKind.u64.wrap (Int.tdiv a0 x9_5)) * x9_5)) x11_2 t136 (decide ((IntKind.u64.wrap (t136 - (IntKind.u64.wrap ((IntKind.u64.wrap (Int.tdiv a0 x9_5)) * x9_5)))) ≥ x9_5)))) else (lookasidelaw08_PointIn.j2 k2 a0 a1 a2 t133 t134 x9_5 (IntKind.u64.wrap ((IntKind.u64.wrap (Int.tdiv a0 x9_5)) * x9_5)) x11_2 t136 true)) else (lookasidelaw08_PointIn.j2 k2 a0 a1 a2 t133 t134 x9_5 (IntKind.u64.wrap ((IntKind.u64.wrap (Int.tdiv a0 x9_5)) * x9_5)) x11_2 t136 true)) = some r := by rw [if_pos rfl] at H; exact H
                  clear H
                  have H := H1
                  clear H1
                  by_cases c18 : t136 = t140
                  · rw [if_pos c18] at H
                    have c18b0 : (t136 == t140) = true := beq_iff_eq.mpr c18
                    have c18b1 : (t136 != t140) = false := bne_eq_false_iff_eq.mpr c18
                    clear c18
                    (first | rw [c18b0] | (simp only [i64_w, i32_w]; rw [c18b0]) | skip)
                    by_cases c19 : (Int.tmod t136 16) = 0
                    · rw [if_pos c19] at H
                      have c19b0 : ((Int.tmod t136 16) == 0) = true := beq_iff_eq.mpr c19
                      have c19b1 : ((Int.tmod t136 16) != 0) = false := bne_eq_false_iff_eq.mpr c19
                      clear c19
                      by_cases c20 : t136 < (IntKind.u64.wrap ((IntKind.u64.wrap (Int.tdiv a0 x9_5)) * x9_5))
                      · rw [if_pos c20] at H
                        have c20b0 : decide (t136 < (IntKind.u64.wrap ((IntKind.u64.wrap (Int.tdiv a0 x9_5)) * x9_5))) = true := decide_eq_true c20
                        clear c20
                        have H' := Aside0.mk H
                        clear H
                        go_wp2
                        go_meet
                        case rel => exact ⟨_, (true), (by first | rfl | (simp; done) | (simp [*]; done)), H', ⟨by have := HJ5.out; have := HK2.out; first | omega | exact Nat.le_refl _⟩, ⟨by repeat (first | (with_reducible first | exact HB.out | apply below_alloc | apply pw_below_drewN | apply below_drew1) | exact HB.out)⟩⟩
                      · rw [if_neg c20] at H
                        have c20b0 : decide (t136 < (IntKind.u64.wrap ((IntKind.u64.wrap (Int.tdiv a0 x9_5)) * x9_5))) = false := decide_eq_false c20
                        clear c20
                        have H' := Aside0.mk H
                        clear H
                        go_wp2
                        go_meet
                        case rel => exact ⟨_, (decide ((IntKind.u64.wrap (t136 - (IntKind.u64.wrap ((IntKind.u64.wrap (Int.tdiv a0 x9_5)) * x9_5)))) ≥ x9_5)), (by first | rfl | (simp; done) | (simp [*]; done)), H', ⟨by have := HJ5.out; have := HK2.out; first | omega | exact Nat.le_refl _⟩, ⟨by repeat (first | (with_reducible first | exact HB.out | apply below_alloc | apply pw_below_drewN | apply below_drew1) | exact HB.out)⟩⟩
                    · rw [if_neg c19] at H
                      have c19b0 : ((Int.tmod t136 16) == 0) = false := beq_eq_false_iff_ne.mpr c19
                      have c19b1 : ((Int.tmod t136 16) != 0) = true := bne_iff_ne.mpr c19
                      have H' := Aside0.mk H
                      clear H
                      go_wp2
                      go_meet
                      case rel => exact ⟨_, (true), (by first | rfl | (simp; done) | (simp [*]; done)), H', ⟨by have := HJ5.out; have := HK2.out; first | omega | exact Nat.le_refl _⟩, ⟨by repeat (first | (with_reducible first | exact HB.out | apply below_alloc | apply pw_below_drewN | apply below_drew1) | exact HB.out)⟩⟩
                  · rw [if_neg c18] at H
                    have c18b0 : (t136 == t140) = false := beq_eq_false_iff_ne.mpr c18
                    have c18b1 : (t136 != t140) = true := bne_iff_ne.mpr c18
                    (first | rw [c18b0] | (simp only [i64_w, i32_w]; rw [c18b0]) | skip)
                    have H' := Aside0.mk H
                    clear H
                    go_wp2
                    go_meet
                    case rel => exact ⟨_, (true), (by first | rfl | (simp; done) | (simp [*]; done)), H', ⟨by have := HJ5.out; have := HK2.out; first | omega | exact Nat.le_refl _⟩, ⟨by repeat (first | (with_reducible first | exact HB.out | apply below_alloc | apply pw_below_drewN | apply below_drew1) | exact HB.out)⟩⟩
                · replace c17 := Bool.eq_false_iff.mpr c17
                  subst c17
                  have H1 : (lookasidelaw08_PointIn.j2 k2 a0 a1 a2 t133 t134 x9_5 (IntKind.u64.wrap ((IntKind.u64.wrap (Int.tdiv a0 x9_5)) * x9_5)) x11_2 t136 true) = some r := by rw [if_neg (show ¬ (false = true) by decide)] at H; exact H
                  clear H
                  have H := H1
                  clear H1
                  have H' := Aside0.mk H
                  clear H
                  go_wp2
                  go_meet
                  case rel => exact ⟨_, (true), (by first | rfl | (simp; done) | (simp [*]; done)), H', ⟨by have := HJ5.out; have := HK2.out; first | omega | exact Nat.le_refl _⟩, ⟨by repeat (first | (with_reducible first | exact HB.out | apply below_alloc | apply pw_below_drewN | apply below_drew1) | exact HB.out)⟩⟩
              case rest =>
                clear HC14
                try clear c1
                try clear c2
                try clear p2
                try clear c4
                try clear c7
                try clear c8
                try clear c8b0
                try clear c8b1
                try clear c9
                try clear c9b0
                try clear c15
                try clear c17
                try clear c18
                try clear c18b0
                try clear c18b1
                try clear c19
                try clear c19b0
                try clear c19b1
                try clear c20
                try clear c20b0
                try clear p2
                obtain ⟨kq, x77_13, rfl, HA, HJ13, HB⟩ := hcut
                cases kq with
                | zero => exact absurd HA.out (by simp [lookasidelaw08_PointIn.j2])
                | succ kj13 =>
                  have H := HA.out
                  clear HA
                  simp only [lookasidelaw08_PointIn.j2] at H
                  by_cases c21 : x77_13 = true
                  · subst c21
                    have H1 : (some false) = some r := by rw [if_pos rfl] at H; exact H
                    clear H
                    have H := H1
                    clear H1
                    obtain rfl := Option.some.inj H
                    go_wp2
                    go_ret
                    exact ⟨by first | rfl | (simp [errW_none, errW_some] <;> rfl) | (simp [*, errW_none, errW_some] <;> rfl), by repeat (first | (with_reducible first | exact HB.out | apply below_alloc | apply pw_below_drewN | apply below_drew1) | exact HB.out)⟩
                  · replace c21 := Bool.eq_false_iff.mpr c21
                    subst c21
                    have H1 : (if t134 = true then (if ((decide ((IntKind.u64.wrap (t136 - (IntKind.u64.wrap ((IntKind.u64.wrap (Int.tdiv a0 x9_5)) * x9_5)))) ≥ (IntKind.u64.wrap (16 * t133)))) != (x11_2 == 1)) = true then (some false) else (lookasidelaw08_PointIn.l0 kj13 a0 a1 a2 t133 t134 x9_5 (IntKind.u64.wrap ((IntKind.u64.wrap (Int.tdiv a0 x9_5)) * x9_5)) (wrap64 (x11_2 + 1)))) else (lookasidelaw08_PointIn.l0 kj13 a0 a1 a2 t133 t134 x9_5 (IntKind.u64.wrap ((IntKind.u64.wrap (Int.tdiv a0 x9_5)) * x9_5)) (wrap64 (x11_2 + 1)))) = some r := by rw [if_neg (show ¬ (false = true) by decide)] at H; exact H
                    clear H
                    have H := H1
                    clear H1
                    by_cases c22 : t134 = true
                    · subst c22
                      have H1 : (if ((decide ((IntKind.u64.wrap (t136 - (IntKind.u64.wrap ((IntKind.u64.wrap (Int.tdiv a0 x9_5)) * x9_5)))) ≥ (IntKind.u64.wrap (16 * t133)))) != (x11_2 == 1)) = true then (some false) else (lookasidelaw08_PointIn.l0 kj13 a0 a1 a2 t133 true x9_5 (IntKind.u64.wrap ((IntKind.u64.wrap (Int.tdiv a0 x9_5)) * x9_5)) (wrap64 (x11_2 + 1)))) = some r := by rw [if_pos rfl] at H; exact H
                      clear H
                      have H := H1
                      clear H1
                      by_cases c23 : ((decide ((IntKind.u64.wrap (t136 - (IntKind.u64.wrap ((IntKind.u64.wrap (Int.tdiv a0 x9_5)) * x9_5)))) ≥ (IntKind.u64.wrap (16 * t133)))) != (x11_2 == 1)) = true
                      · rw [if_pos c23] at H
                        have c23b0 : ((decide ((IntKind.u64.wrap (t136 - (IntKind.u64.wrap ((IntKind.u64.wrap (Int.tdiv a0 x9_5)) * x9_5)))) ≥ (IntKind.u64.wrap (16 * t133)))) != (x11_2 == 1)) = true := c23
                        (try (have c23b1 : decide ((decide ((IntKind.u64.wrap (t136 - (IntKind.u64.wrap ((IntKind.u64.wrap (Int.tdiv a0 x9_5)) * x9_5)))) ≥ (IntKind.u64.wrap (16 * t133)))) = (x11_2 == 1)) = false := by simpa using c23))
                        (try (have c23b2 : ((decide ((IntKind.u64.wrap (t136 - (IntKind.u64.wrap ((IntKind.u64.wrap (Int.tdiv a0 x9_5)) * x9_5)))) ≥ (IntKind.u64.wrap (16 * t133)))) == (x11_2 == 1)) = false := by simpa using c23))
                        (try (have c23b3 : ¬ ((decide ((IntKind.u64.wrap (t136 - (IntKind.u64.wrap ((IntKind.u64.wrap (Int.tdiv a0 x9_5)) * x9_5)))) ≥ (IntKind.u64.wrap (16 * t133)))) = (x11_2 == 1)) := by simpa using c23))
                        clear c23
                        obtain rfl := Option.some.inj H
                        go_wp2
                        go_ret
                        exact ⟨by first | rfl | (simp [errW_none, errW_some] <;> rfl) | (simp [*, errW_none, errW_some] <;> rfl), by repeat (first | (with_reducible first | exact HB.out | apply below_alloc | apply pw_below_drewN | apply below_drew1) | exact HB.out)⟩
                      · rw [if_neg c23] at H
                        have c23b0 : ((decide ((IntKind.u64.wrap (t136 - (IntKind.u64.wrap ((IntKind.u64.wrap (Int.tdiv a0 x9_5)) * x9_5)))) ≥ (IntKind.u64.wrap (16 * t133)))) != (x11_2 == 1)) = false := by simpa using c23
                        (try (have c23b1 : decide ((decide ((IntKind.u64.wrap (t136 - (IntKind.u64.wrap ((IntKind.u64.wrap (Int.tdiv a0 x9_5)) * x9_5)))) ≥ (IntKind.u64.wrap (16 * t133)))) = (x11_2 == 1)) = true := by simpa using c23))
                        (try (have c23b2 : ((decide ((IntKind.u64.wrap (t136 - (IntKind.u64.wrap ((IntKind.u64.wrap (Int.tdiv a0 x9_5)) * x9_5)))) ≥ (IntKind.u64.wrap (16 * t133)))) == (x11_2 == 1)) = true := by simpa using c23))
                        clear c23
                        have H' := Aside0.mk H
                        clear H
                        go_wp2
                        go_roundg kj13
                        case measure => have := HJ5.out; have := HK2.out; have := HJ13.out; omega
                        case rel => exact ⟨(wrap64 (x11_2 + 1)), (by first | rfl | (simp; done) | (simp [*]; done)), H', ⟨by have := HJ5.out; have := HK2.out; have := HJ13.out; omega⟩, ⟨by repeat (first | (with_reducible first | exact HB.out | apply below_alloc | apply pw_below_drewN | apply below_drew1) | exact HB.out)⟩⟩
                    · replace c22 := Bool.eq_false_iff.mpr c22
                      subst c22
                      have H1 : (lookasidelaw08_PointIn.l0 kj13 a0 a1 a2 t133 false x9_5 (IntKind.u64.wrap ((IntKind.u64.wrap (Int.tdiv a0 x9_5)) * x9_5)) (wrap64 (x11_2 + 1))) = some r := by rw [if_neg (show ¬ (false = true) by decide)] at H; exact H
                      clear H
                      have H := H1
                      clear H1
                      have H' := Aside0.mk H
                      clear H
                      go_wp2
                      go_roundg kj13
                      case measure => have := HJ5.out; have := HK2.out; have := HJ13.out; omega
                      case rel => exact ⟨(wrap64 (x11_2 + 1)), (by first | rfl | (simp; done) | (simp [*]; done)), H', ⟨by have := HJ5.out; have := HK2.out; have := HJ13.out; omega⟩, ⟨by repeat (first | (with_reducible first | exact HB.out | apply below_alloc | apply pw_below_drewN | apply below_drew1) | exact HB.out)⟩⟩
            · rw [if_neg c9] at H
              have c9b0 : decide (x11_2 < 2) = false := decide_eq_false c9
              clear c9
              replace H := Option.bind_eq_some_iff.mp H
              obtain ⟨t135, A240, H⟩ := H
              replace H : (some t135) = some r := H
              have A24 := Aside0.mk A240
              clear A240
              obtain rfl := Option.some.inj H
              go_wp2_with (first | ((with_reducible refine gate_callee (f := 21) rfl ?_); refine goesL_ (some 90) rfl rfl Try.func21 (by kernel_rfl) rfl #[] rfl (by (try simp only [List.map_toArray, List.map_cons, List.map_nil]); first | done | rfl | (simp only [List.length_drop, List.length_take]; rfl)) ?_; (with_reducible refine (lookasidelaw08_lives.calls  t135 _ A24.out).mono ?_); rintro e w25 ⟨rfl, hb⟩; refine ⟨_, rfl, ?_⟩; have n0_ := Aside0.mk (below_step (by repeat (first | (with_reducible first | exact HB.out | apply below_alloc | apply pw_below_drewN | apply below_drew1) | exact HB.out)) hb); clear HB; have HB := n0_; clear n0_; (try clear hb); (try clear hb2); (try clear hk); (try clear hi)))
              go_ret
              exact ⟨by first | rfl | (simp [errW_none, errW_some] <;> rfl) | (simp [*, errW_none, errW_some] <;> rfl), by repeat (first | (with_reducible first | exact HB.out | apply below_alloc | apply pw_below_drewN | apply below_drew1) | exact HB.out)⟩

/-- THE ONE PURE STATEMENT of lookasidelaw08_PointIn: yours. -/
def lookasidelaw08_PointIn.Pure : Prop := ∀ (a0 : Int) (a1 : Int) (a2 : Int), (Lit.int .u64 a0).wf = true → (Lit.int .u64 a1).wf = true → (Lit.int .u64 a2).wf = true → ∃ k, lookasidelaw08_PointIn.f k a0 a1 a2 = some true
theorem lookasidelaw08_PointIn.walk (P : lookasidelaw08_PointIn.Pure) (a0 : Int) (a1 : Int) (a2 : Int) (w : World) (w0 : (Lit.int .u64 a0).wf = true) (w1 : (Lit.int .u64 a1).wf = true) (w2 : (Lit.int .u64 a2).wf = true) :
    Calls Try.prog 4 #[.int .u64 a0, .int .u64 a1, .int .u64 a2] w fun e w' => e = .returned (.bool true) ∧ Below w.heap.size w w' := by
  obtain ⟨k, h⟩ := P a0 a1 a2 w0 w1 w2
  refine (lookasidelaw08_PointIn.calls k a0 a1 a2 true w h).mono ?_
  rintro e w' ⟨rfl, hd⟩
  exact ⟨rfl, hd⟩

/-! ### lookasidelaw08_PointWhole: function 5 -/
mutual
def lookasidelaw08_PointWhole.j0 : Nat → Int → Int → Int → Option (Bool)
  | 0, _, _, _ => none
  | k + 1, x1, x2, x7 => (lookasideref08_Entries.f k x7).bind fun t142 => (lookasidelaw08_PointWhole.l0 k (Int.tmod x1 1048576) (Int.tmod x2 301) x7 t142 0)
def lookasidelaw08_PointWhole.l0 : Nat → Int → Int → Int → Int → Int → Option (Bool)
  | 0, _, _, _, _, _ => none
  | k + 1, x1, x2, x7, x8, x9 => if x9 < x2 then ((point_Pointer.f x7 (IntKind.u64.wrap ((IntKind.u64.wrap (x1 + (IntKind.u64.wrap (x9)))) * 8192)) 0).bind fun bt143 => (if bt143.2 = true then (if x8 = 0 then (none) else (if bt143.1 = (IntKind.u64.wrap (16 * (Int.tmod (IntKind.u64.wrap (x1 + (IntKind.u64.wrap (x9)))) x8))) then (lookasidelaw08_PointWhole.l0 k x1 x2 x7 x8 (wrap64 (x9 + 1))) else (some false))) else (some false))) else ((lookasidelaw08_lives.f).bind fun t145 => (some t145))
end
def lookasidelaw08_PointWhole.f (k : Nat) (a0 : Int) (a1 : Int) (a2 : Int) : Option (Bool) := if a2 < 0 then (lookasidelaw08_PointWhole.j0 k a1 (wrap64 (-(wrap64 (a2 + 1)))) (Int.tmod a0 8)) else (lookasidelaw08_PointWhole.j0 k a1 a2 (Int.tmod a0 8))
theorem lookasidelaw08_PointWhole.mono_l : ∀ k, (∀ y0 y1 y2, LeO (lookasidelaw08_PointWhole.j0 k y0 y1 y2) (lookasidelaw08_PointWhole.j0 (k + 1) y0 y1 y2)) ∧ (∀ y0 y1 y2 y3 y4, LeO (lookasidelaw08_PointWhole.l0 k y0 y1 y2 y3 y4) (lookasidelaw08_PointWhole.l0 (k + 1) y0 y1 y2 y3 y4))
  | 0 => ⟨fun _ _ _ r h => by simp [lookasidelaw08_PointWhole.j0] at h, fun _ _ _ _ _ r h => by simp [lookasidelaw08_PointWhole.l0] at h⟩
  | k + 1 => by
    obtain ⟨ih0, ih1⟩ := lookasidelaw08_PointWhole.mono_l k
    refine ⟨?_, ?_⟩
    · intro y0 y1 y2
      unfold lookasidelaw08_PointWhole.j0
      repeat' first
      | (with_reducible exact ih0 _ _ _)
      | (with_reducible exact ih1 _ _ _ _ _)
      | (with_reducible exact lookasideref08_Entries.mono _ _)
      | (with_reducible exact LeO.refl _)
      | (with_reducible exact LeO.none _)
      | (with_reducible refine LeO.ite ?_ ?_)
      | (with_reducible refine LeO.bind ?_ (fun _ => ?_))
      | exact ih0 _ _ _
      | exact ih1 _ _ _ _ _
      | exact lookasideref08_Entries.mono _ _
      | exact LeO.none _
      | refine LeO.ite ?_ ?_
      | refine LeO.bind ?_ (fun _ => ?_)
    · intro y0 y1 y2 y3 y4
      unfold lookasidelaw08_PointWhole.l0
      repeat' first
      | (with_reducible exact ih0 _ _ _)
      | (with_reducible exact ih1 _ _ _ _ _)
      | (with_reducible exact lookasideref08_Entries.mono _ _)
      | (with_reducible exact LeO.refl _)
      | (with_reducible exact LeO.none _)
      | (with_reducible refine LeO.ite ?_ ?_)
      | (with_reducible refine LeO.bind ?_ (fun _ => ?_))
      | exact ih0 _ _ _
      | exact ih1 _ _ _ _ _
      | exact lookasideref08_Entries.mono _ _
      | exact LeO.none _
      | refine LeO.ite ?_ ?_
      | refine LeO.bind ?_ (fun _ => ?_)
theorem lookasidelaw08_PointWhole.mono : ∀ a0 a1 a2 k, LeO (lookasidelaw08_PointWhole.f k a0 a1 a2) (lookasidelaw08_PointWhole.f (k + 1) a0 a1 a2) := by
  intro a0 a1 a2 k
  obtain ⟨ih0, ih1⟩ := lookasidelaw08_PointWhole.mono_l k
  unfold lookasidelaw08_PointWhole.f
  repeat' first
      | (with_reducible exact ih0 _ _ _)
      | (with_reducible exact ih1 _ _ _ _ _)
      | (with_reducible exact lookasideref08_Entries.mono _ _)
      | (with_reducible exact LeO.refl _)
      | (with_reducible exact LeO.none _)
      | (with_reducible refine LeO.ite ?_ ?_)
      | (with_reducible refine LeO.bind ?_ (fun _ => ?_))
      | exact ih0 _ _ _
      | exact ih1 _ _ _ _ _
      | exact lookasideref08_Entries.mono _ _
      | exact LeO.none _
      | refine LeO.ite ?_ ?_
      | refine LeO.bind ?_ (fun _ => ?_)
set_option maxHeartbeats 8000000 in
set_option maxRecDepth 100000 in
theorem lookasidelaw08_PointWhole.calls (k : Nat) (a0 : Int) (a1 : Int) (a2 : Int) (r : Bool) (w : World) (h : lookasidelaw08_PointWhole.f k a0 a1 a2 = some r) :
    Calls Try.prog 5 #[.int .u64 a0, .int .u64 a1, .int .i64 a2] w fun e w' => e = .returned (.bool r) ∧ Below w.heap.size w w' := by
  have HB := Aside0.mk (Below.refl w.heap.size w)
  have H : (if a2 < 0 then (lookasidelaw08_PointWhole.j0 k a1 (wrap64 (-(wrap64 (a2 + 1)))) (Int.tmod a0 8)) else (lookasidelaw08_PointWhole.j0 k a1 a2 (Int.tmod a0 8))) = some r := h
  clear h
  have HC4 := Aside0.mk H
  clear H
  go_enter Try.func5, Try.ntmps5
  go_upto_if 15 with (fail)
  go_cut [2] (fun v2 wc => ∃ (kq : Nat) (x2_3 : Int), v2 = .int .i64 x2_3 ∧ Aside0 (lookasidelaw08_PointWhole.j0 kq a1 x2_3 (Int.tmod a0 8) = some r) ∧ Aside0 (kq ≤ k) ∧ Aside0 (Below w.heap.size w wc))
  case first =>
    have H := HC4.out
    clear HC4
    by_cases c5 : a2 < 0
    · rw [if_pos c5] at H
      have c5b0 : decide (a2 < 0) = true := decide_eq_true c5
      clear c5
      (first | rw [c5b0] | (simp only [i64_w, i32_w]; rw [c5b0]) | skip)
      have H' := Aside0.mk H
      clear H
      go_wp2
      go_meet
      case rel => exact ⟨_, (wrap64 (-(wrap64 (a2 + 1)))), (by first | rfl | (simp; done) | (simp [*]; done)), H', ⟨by first | omega | exact Nat.le_refl _⟩, ⟨by repeat (first | (with_reducible first | exact HB.out | apply below_alloc | apply pw_below_drewN | apply below_drew1) | exact HB.out)⟩⟩
    · rw [if_neg c5] at H
      have c5b0 : decide (a2 < 0) = false := decide_eq_false c5
      clear c5
      (first | rw [c5b0] | (simp only [i64_w, i32_w]; rw [c5b0]) | skip)
      have H' := Aside0.mk H
      clear H
      go_wp2
      go_meet
      case rel => exact ⟨_, (a2), (by first | rfl | (simp; done) | (simp [*]; done)), H', ⟨by first | omega | exact Nat.le_refl _⟩, ⟨by repeat (first | (with_reducible first | exact HB.out | apply below_alloc | apply pw_below_drewN | apply below_drew1) | exact HB.out)⟩⟩
  case rest =>
    clear HC4
    try clear p2
    try clear c5
    try clear c5b0
    obtain ⟨kq, x2_3, rfl, HA, HJ3, HB⟩ := hcut
    cases kq with
    | zero => exact absurd HA.out (by simp [lookasidelaw08_PointWhole.j0])
    | succ kj3 =>
      have H := HA.out
      clear HA
      simp only [lookasidelaw08_PointWhole.j0] at H
      replace H := Option.bind_eq_some_iff.mp H
      obtain ⟨t142, A60, H⟩ := H
      replace H : (lookasidelaw08_PointWhole.l0 kj3 (Int.tmod a1 1048576) (Int.tmod x2_3 301) (Int.tmod a0 8) t142 0) = some r := H
      have A6 := Aside0.mk A60
      clear A60
      have H' := Aside0.mk H
      clear H
      go_wp2_with (first | ((with_reducible refine gate_callee (f := 18) rfl ?_); refine goesL_ (some 22) rfl rfl Try.func18 (by kernel_rfl) rfl #[.int .u64 (Int.tmod a0 8)] rfl (by (try simp only [List.map_toArray, List.map_cons, List.map_nil]); first | done | rfl | (simp only [List.length_drop, List.length_take]; rfl)) ?_; (with_reducible refine (lookasideref08_Entries.calls kj3 (Int.tmod a0 8) t142 _ A6.out).mono ?_); rintro e w' ⟨rfl, ⟨nd, rfl⟩⟩; refine ⟨_, rfl, ?_⟩))
      go_loopg [9] kj3 (fun kq v9 w' => ∃ (x9_2 : Int), v9 = .int .i64 x9_2 ∧ Aside0 (lookasidelaw08_PointWhole.l0 kq (Int.tmod a1 1048576) (Int.tmod x2_3 301) (Int.tmod a0 8) t142 x9_2 = some r) ∧ Aside0 (kq ≤ kj3) ∧ Aside0 (Below w.heap.size w w'))
      case atStart => exact ⟨(0), (by first | rfl | (simp; done) | (simp [*]; done)), H', ⟨Nat.le_refl _⟩, ⟨by repeat (first | (with_reducible first | exact HB.out | apply below_alloc | apply pw_below_drewN | apply below_drew1) | exact HB.out)⟩⟩
      case round =>
        clear H'
        try clear c1
        try clear p2
        try clear c5
        try clear c5b0
        try clear p6
        try clear p2
        obtain ⟨x9_2, rfl, HA, HK2, HB⟩ := hrel
        cases gk with
        | zero => exact absurd HA.out (by simp [lookasidelaw08_PointWhole.l0])
        | succ k2 =>
          have H := HA.out
          clear HA
          simp only [lookasidelaw08_PointWhole.l0] at H
          by_cases c7 : x9_2 < (Int.tmod x2_3 301)
          · rw [if_pos c7] at H
            have c7b0 : decide (x9_2 < (Int.tmod x2_3 301)) = true := decide_eq_true c7
            clear c7
            replace H := Option.bind_eq_some_iff.mp H
            obtain ⟨⟨t143, t144⟩, A80, H⟩ := H
            replace H : (if t144 = true then (if t142 = 0 then (none) else (if t143 = (IntKind.u64.wrap (16 * (Int.tmod (IntKind.u64.wrap ((Int.tmod a1 1048576) + (IntKind.u64.wrap (x9_2)))) t142))) then (lookasidelaw08_PointWhole.l0 k2 (Int.tmod a1 1048576) (Int.tmod x2_3 301) (Int.tmod a0 8) t142 (wrap64 (x9_2 + 1))) else (some false))) else (some false)) = some r := H
            have A8 := Aside0.mk A80
            clear A80
            by_cases c9 : t144 = true
            · subst c9
              have H1 : (if t142 = 0 then (none) else (if t143 = (IntKind.u64.wrap (16 * (Int.tmod (IntKind.u64.wrap ((Int.tmod a1 1048576) + (IntKind.u64.wrap (x9_2)))) t142))) then (lookasidelaw08_PointWhole.l0 k2 (Int.tmod a1 1048576) (Int.tmod x2_3 301) (Int.tmod a0 8) t142 (wrap64 (x9_2 + 1))) else (some false))) = some r := by rw [if_pos rfl] at H; exact H
              clear H
              have H := H1
              clear H1
              by_cases c10 : t142 = 0
              · rw [if_pos c10] at H
                exact absurd H (by simp)
              · rw [if_neg c10] at H
                have c10b0 : (t142 == 0) = false := beq_eq_false_iff_ne.mpr c10
                have c10b1 : (t142 != 0) = true := bne_iff_ne.mpr c10
                by_cases c11 : t143 = (IntKind.u64.wrap (16 * (Int.tmod (IntKind.u64.wrap ((Int.tmod a1 1048576) + (IntKind.u64.wrap (x9_2)))) t142)))
                · rw [if_pos c11] at H
                  have c11b0 : (t143 == (IntKind.u64.wrap (16 * (Int.tmod (IntKind.u64.wrap ((Int.tmod a1 1048576) + (IntKind.u64.wrap (x9_2)))) t142)))) = true := beq_iff_eq.mpr c11
                  have c11b1 : (t143 != (IntKind.u64.wrap (16 * (Int.tmod (IntKind.u64.wrap ((Int.tmod a1 1048576) + (IntKind.u64.wrap (x9_2)))) t142)))) = false := bne_eq_false_iff_eq.mpr c11
                  clear c11
                  have H' := Aside0.mk H
                  clear H
                  go_wp2_with (first | ((with_reducible refine gate_callee (f := 15) rfl ?_); refine goesL_ (some 37) rfl rfl Try.func15 (by kernel_rfl) rfl #[.int .u64 (Int.tmod a0 8), .int .u64 (IntKind.u64.wrap ((IntKind.u64.wrap ((Int.tmod a1 1048576) + (IntKind.u64.wrap (x9_2)))) * 8192)), .int .i64 0] rfl (by (try simp only [List.map_toArray, List.map_cons, List.map_nil]); first | done | rfl | (simp only [List.length_drop, List.length_take]; rfl)) ?_; (with_reducible refine (point_Pointer.calls (Int.tmod a0 8) (IntKind.u64.wrap ((IntKind.u64.wrap ((Int.tmod a1 1048576) + (IntKind.u64.wrap (x9_2)))) * 8192)) 0 t143 true _ A8.out).mono ?_); rintro e w12 ⟨rfl, hb⟩; refine ⟨_, rfl, ?_⟩; have n0_ := Aside0.mk (below_step (by repeat (first | (with_reducible first | exact HB.out | apply below_alloc | apply pw_below_drewN | apply below_drew1) | exact HB.out)) hb); clear HB; have HB := n0_; clear n0_; (try clear hb); (try clear hb2); (try clear hk); (try clear hi)))
                  go_roundg k2
                  case measure => have := HJ3.out; have := HK2.out; omega
                  case rel => exact ⟨(wrap64 (x9_2 + 1)), (by first | rfl | (simp; done) | (simp [*]; done)), H', ⟨by have := HJ3.out; have := HK2.out; omega⟩, ⟨by repeat (first | (with_reducible first | exact HB.out | apply below_alloc | apply pw_below_drewN | apply below_drew1) | exact HB.out)⟩⟩
                · rw [if_neg c11] at H
                  have c11b0 : (t143 == (IntKind.u64.wrap (16 * (Int.tmod (IntKind.u64.wrap ((Int.tmod a1 1048576) + (IntKind.u64.wrap (x9_2)))) t142)))) = false := beq_eq_false_iff_ne.mpr c11
                  have c11b1 : (t143 != (IntKind.u64.wrap (16 * (Int.tmod (IntKind.u64.wrap ((Int.tmod a1 1048576) + (IntKind.u64.wrap (x9_2)))) t142)))) = true := bne_iff_ne.mpr c11
                  obtain rfl := Option.some.inj H
                  go_wp2_with (first | ((with_reducible refine gate_callee (f := 15) rfl ?_); refine goesL_ (some 37) rfl rfl Try.func15 (by kernel_rfl) rfl #[.int .u64 (Int.tmod a0 8), .int .u64 (IntKind.u64.wrap ((IntKind.u64.wrap ((Int.tmod a1 1048576) + (IntKind.u64.wrap (x9_2)))) * 8192)), .int .i64 0] rfl (by (try simp only [List.map_toArray, List.map_cons, List.map_nil]); first | done | rfl | (simp only [List.length_drop, List.length_take]; rfl)) ?_; (with_reducible refine (point_Pointer.calls (Int.tmod a0 8) (IntKind.u64.wrap ((IntKind.u64.wrap ((Int.tmod a1 1048576) + (IntKind.u64.wrap (x9_2)))) * 8192)) 0 t143 true _ A8.out).mono ?_); rintro e w13 ⟨rfl, hb⟩; refine ⟨_, rfl, ?_⟩; have n0_ := Aside0.mk (below_step (by repeat (first | (with_reducible first | exact HB.out | apply below_alloc | apply pw_below_drewN | apply below_drew1) | exact HB.out)) hb); clear HB; have HB := n0_; clear n0_; (try clear hb); (try clear hb2); (try clear hk); (try clear hi)))
                  go_ret
                  exact ⟨by first | rfl | (simp [errW_none, errW_some] <;> rfl) | (simp [*, errW_none, errW_some] <;> rfl), by repeat (first | (with_reducible first | exact HB.out | apply below_alloc | apply pw_below_drewN | apply below_drew1) | exact HB.out)⟩
            · replace c9 := Bool.eq_false_iff.mpr c9
              subst c9
              have H1 : (some false) = some r := by rw [if_neg (show ¬ (false = true) by decide)] at H; exact H
              clear H
              have H := H1
              clear H1
              obtain rfl := Option.some.inj H
              go_wp2_with (first | ((with_reducible refine gate_callee (f := 15) rfl ?_); refine goesL_ (some 37) rfl rfl Try.func15 (by kernel_rfl) rfl #[.int .u64 (Int.tmod a0 8), .int .u64 (IntKind.u64.wrap ((IntKind.u64.wrap ((Int.tmod a1 1048576) + (IntKind.u64.wrap (x9_2)))) * 8192)), .int .i64 0] rfl (by (try simp only [List.map_toArray, List.map_cons, List.map_nil]); first | done | rfl | (simp only [List.length_drop, List.length_take]; rfl)) ?_; (with_reducible refine (point_Pointer.calls (Int.tmod a0 8) (IntKind.u64.wrap ((IntKind.u64.wrap ((Int.tmod a1 1048576) + (IntKind.u64.wrap (x9_2)))) * 8192)) 0 t143 false _ A8.out).mono ?_); rintro e w14 ⟨rfl, hb⟩; refine ⟨_, rfl, ?_⟩; have n0_ := Aside0.mk (below_step (by repeat (first | (with_reducible first | exact HB.out | apply below_alloc | apply pw_below_drewN | apply below_drew1) | exact HB.out)) hb); clear HB; have HB := n0_; clear n0_; (try clear hb); (try clear hb2); (try clear hk); (try clear hi)))
              go_ret
              exact ⟨by first | rfl | (simp [errW_none, errW_some] <;> rfl) | (simp [*, errW_none, errW_some] <;> rfl), by repeat (first | (with_reducible first | exact HB.out | apply below_alloc | apply pw_below_drewN | apply below_drew1) | exact HB.out)⟩
          · rw [if_neg c7] at H
            have c7b0 : decide (x9_2 < (Int.tmod x2_3 301)) = false := decide_eq_false c7
            clear c7
            replace H := Option.bind_eq_some_iff.mp H
            obtain ⟨t145, A150, H⟩ := H
            replace H : (some t145) = some r := H
            have A15 := Aside0.mk A150
            clear A150
            obtain rfl := Option.some.inj H
            go_wp2_with (first | ((with_reducible refine gate_callee (f := 21) rfl ?_); refine goesL_ (some 53) rfl rfl Try.func21 (by kernel_rfl) rfl #[] rfl (by (try simp only [List.map_toArray, List.map_cons, List.map_nil]); first | done | rfl | (simp only [List.length_drop, List.length_take]; rfl)) ?_; (with_reducible refine (lookasidelaw08_lives.calls  t145 _ A15.out).mono ?_); rintro e w16 ⟨rfl, hb⟩; refine ⟨_, rfl, ?_⟩; have n0_ := Aside0.mk (below_step (by repeat (first | (with_reducible first | exact HB.out | apply below_alloc | apply pw_below_drewN | apply below_drew1) | exact HB.out)) hb); clear HB; have HB := n0_; clear n0_; (try clear hb); (try clear hb2); (try clear hk); (try clear hi)))
            go_ret
            exact ⟨by first | rfl | (simp [errW_none, errW_some] <;> rfl) | (simp [*, errW_none, errW_some] <;> rfl), by repeat (first | (with_reducible first | exact HB.out | apply below_alloc | apply pw_below_drewN | apply below_drew1) | exact HB.out)⟩

/-- THE ONE PURE STATEMENT of lookasidelaw08_PointWhole: yours. -/
def lookasidelaw08_PointWhole.Pure : Prop := ∀ (a0 : Int) (a1 : Int) (a2 : Int), (Lit.int .u64 a0).wf = true → (Lit.int .u64 a1).wf = true → (Lit.int .i64 a2).wf = true → ∃ k, lookasidelaw08_PointWhole.f k a0 a1 a2 = some true
theorem lookasidelaw08_PointWhole.walk (P : lookasidelaw08_PointWhole.Pure) (a0 : Int) (a1 : Int) (a2 : Int) (w : World) (w0 : (Lit.int .u64 a0).wf = true) (w1 : (Lit.int .u64 a1).wf = true) (w2 : (Lit.int .i64 a2).wf = true) :
    Calls Try.prog 5 #[.int .u64 a0, .int .u64 a1, .int .i64 a2] w fun e w' => e = .returned (.bool true) ∧ Below w.heap.size w w' := by
  obtain ⟨k, h⟩ := P a0 a1 a2 w0 w1 w2
  refine (lookasidelaw08_PointWhole.calls k a0 a1 a2 true w h).mono ?_
  rintro e w' ⟨rfl, hd⟩
  exact ⟨rfl, hd⟩

/-! ### lookasidelaw08_small: function 24 -/
def lookasidelaw08_small.f (a0 : Int) : Option (Int) := if a0 < 0 then (some (wrap64 (1 + (Int.tmod (wrap64 (-(wrap64 (a0 + 1)))) 4096)))) else (some (wrap64 (1 + (Int.tmod a0 4096))))
set_option maxHeartbeats 8000000 in
set_option maxRecDepth 100000 in
theorem lookasidelaw08_small.calls (a0 : Int) (r : Int) (w : World) (h : lookasidelaw08_small.f a0 = some r) :
    Calls Try.prog 24 #[.int .i64 a0] w fun e w' => e = .returned (.int .i64 r) ∧ Drawn0 w w' := by
  have H : (if a0 < 0 then (some (wrap64 (1 + (Int.tmod (wrap64 (-(wrap64 (a0 + 1)))) 4096)))) else (some (wrap64 (1 + (Int.tmod a0 4096))))) = some r := h
  clear h
  by_cases c2 : a0 < 0
  · rw [if_pos c2] at H
    have c2b0 : decide (a0 < 0) = true := decide_eq_true c2
    clear c2
    obtain rfl := Option.some.inj H
    go_enter Try.func24, Try.ntmps24
    go_wp2
    go_ret
    exact ⟨by first | rfl | (simp; done) | (simp [*]; done), by repeat (first | exact Drawn0.refl _ | apply Drawn0.step)⟩
  · rw [if_neg c2] at H
    have c2b0 : decide (a0 < 0) = false := decide_eq_false c2
    clear c2
    obtain rfl := Option.some.inj H
    go_enter Try.func24, Try.ntmps24
    go_wp2
    go_ret
    exact ⟨by first | rfl | (simp; done) | (simp [*]; done), by repeat (first | exact Drawn0.refl _ | apply Drawn0.step)⟩

/-! ### lookasideref08_Around: function 25 -/
def lookasideref08_Around.f (a0 : Int) (a1 : Int) : Option (Int) := if a1 = 0 then (none) else (if (Int.tmod a0 a1) < 0 then (some (wrap64 ((Int.tmod a0 a1) + a1))) else (some (Int.tmod a0 a1)))
set_option maxHeartbeats 8000000 in
set_option maxRecDepth 100000 in
theorem lookasideref08_Around.calls (a0 : Int) (a1 : Int) (r : Int) (w : World) (h : lookasideref08_Around.f a0 a1 = some r) :
    Calls Try.prog 25 #[.int .i64 a0, .int .i64 a1] w fun e w' => e = .returned (.int .i64 r) ∧ Drawn0 w w' := by
  have H : (if a1 = 0 then (none) else (if (Int.tmod a0 a1) < 0 then (some (wrap64 ((Int.tmod a0 a1) + a1))) else (some (Int.tmod a0 a1)))) = some r := h
  clear h
  by_cases c3 : a1 = 0
  · rw [if_pos c3] at H
    exact absurd H (by simp)
  · rw [if_neg c3] at H
    have c3b0 : (a1 == 0) = false := beq_eq_false_iff_ne.mpr c3
    have c3b1 : (a1 != 0) = true := bne_iff_ne.mpr c3
    by_cases c4 : (Int.tmod a0 a1) < 0
    · rw [if_pos c4] at H
      have c4b0 : decide ((Int.tmod a0 a1) < 0) = true := decide_eq_true c4
      clear c4
      obtain rfl := Option.some.inj H
      go_enter Try.func25, Try.ntmps25
      go_wp2
      go_ret
      exact ⟨by first | rfl | (simp; done) | (simp [*]; done), by repeat (first | exact Drawn0.refl _ | apply Drawn0.step)⟩
    · rw [if_neg c4] at H
      have c4b0 : decide ((Int.tmod a0 a1) < 0) = false := decide_eq_false c4
      clear c4
      obtain rfl := Option.some.inj H
      go_enter Try.func25, Try.ntmps25
      go_wp2
      go_ret
      exact ⟨by first | rfl | (simp; done) | (simp [*]; done), by repeat (first | exact Drawn0.refl _ | apply Drawn0.step)⟩

/-! ### point_Around: function 28 -/
def point_Around.f (a0 : Int) (a1 : Int) : Option (Int) := if a1 = 0 then (none) else (some (Int.tmod (wrap64 ((Int.tmod a0 a1) + a1)) a1))
set_option maxHeartbeats 8000000 in
set_option maxRecDepth 100000 in
theorem point_Around.calls (a0 : Int) (a1 : Int) (r : Int) (w : World) (h : point_Around.f a0 a1 = some r) :
    Calls Try.prog 28 #[.int .i64 a0, .int .i64 a1] w fun e w' => e = .returned (.int .i64 r) ∧ Drawn0 w w' := by
  have H : (if a1 = 0 then (none) else (some (Int.tmod (wrap64 ((Int.tmod a0 a1) + a1)) a1))) = some r := h
  clear h
  by_cases c3 : a1 = 0
  · rw [if_pos c3] at H
    exact absurd H (by simp)
  · rw [if_neg c3] at H
    have c3b0 : (a1 == 0) = false := beq_eq_false_iff_ne.mpr c3
    have c3b1 : (a1 != 0) = true := bne_iff_ne.mpr c3
    obtain rfl := Option.some.inj H
    go_enter Try.func28, Try.ntmps28
    go_wp2
    go_ret
    exact ⟨by first | rfl | (simp; done) | (simp [*]; done), by repeat (first | exact Drawn0.refl _ | apply Drawn0.step)⟩

end Go.Proofs.Ytlkojjkgbcpjjaa.PA

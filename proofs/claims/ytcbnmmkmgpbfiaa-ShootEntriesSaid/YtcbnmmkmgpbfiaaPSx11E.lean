-- written by xprint.py, a program of this session, over the kit's print (functions told by hand: see the texts)
import Derived.Test.YtcbnmmkmgpbfiaaPSx0E
import Derived.Test.YtcbnmmkmgpbfiaaPSx10E
namespace Go.Proofs.Ytcbnmmkmgpbfiaa.PS
open Go.RowKit Go.Proofs.YtcbnmmkmgpbfiaaW.PrintWords Go.Proofs.YtcbnmmkmgpbfiaaW.PrintLast Go.Proofs.YtcbnmmkmgpbfiaaW.PrintMore
attribute [local go_sem] max2_int min2_int max_two min_two max_three min_three max_four min_four   -- for this text's walks alone
set_option linter.unusedVariables false
set_option linter.unusedSimpArgs false

/-! ### lookasideref19_Apart: function 22 -/
mutual
def lookasideref19_Apart.l0 : Nat → List (S32) → Int → Option (Bool)
  | 0, _, _ => none
  | k + 1, x0, x3 => if x3 < (x0.length : Int) then (lookasideref19_Apart.l1 k x0 x3 0) else (some true)
def lookasideref19_Apart.l1 : Nat → List (S32) → Int → Int → Option (Bool)
  | 0, _, _, _ => none
  | k + 1, x0, x3, x4 => if x4 < x3 then (if 0 ≤ x4 then (if x4 < (x0.length : Int) then (if 0 ≤ x3 then (if x3 < (x0.length : Int) then ((lookasideref06_Parts.f k ((rd_T32 x0 x4).f0) ((rd_T32 x0 x4).f1) ((rd_T32 x0 x4).f2) ((rd_T32 x0 x4).f3) ((rd_T32 x0 x4).f4.f0) ((rd_T32 x0 x4).f4.f1) ((rd_T32 x0 x4).f4.f2) ((rd_T32 x0 x4).f4.f3) ((rd_T32 x0 x4).f4.f4) ((rd_T32 x0 x4).f4.f5) ((rd_T32 x0 x4).f5) ((rd_T32 x0 x3).f0) ((rd_T32 x0 x3).f1) ((rd_T32 x0 x3).f2) ((rd_T32 x0 x3).f3) ((rd_T32 x0 x3).f4.f0) ((rd_T32 x0 x3).f4.f1) ((rd_T32 x0 x3).f4.f2) ((rd_T32 x0 x3).f4.f3) ((rd_T32 x0 x3).f4.f4) ((rd_T32 x0 x3).f4.f5) ((rd_T32 x0 x3).f5)).bind fun t256 => (if t256 = true then (lookasideref19_Apart.l1 k x0 x3 (wrap64 (x4 + 1))) else (some false))) else (none)) else (none)) else (none)) else (none)) else (lookasideref19_Apart.l0 k x0 (wrap64 (x3 + 1)))
end
def lookasideref19_Apart.f (k : Nat) (l0 : List (S32)) : Option (Bool) := lookasideref19_Apart.l0 k l0 0
def lookasideref19_Apart.T7 : Bool × List (List Nat × List Nat) := (true, [([], []), ([], []), ([0, 1], [0, 1]), ([2], [2]), ([], []), ([], []), ([4, 5], [4, 5]), ([6], [6]), ([3, 7], [3, 7]), ([8, 8, 0, 1, 2, 3, 4, 5, 6, 7, 8], [8])])
def lookasideref19_Apart.B7 : List Nat := [0, 0, 3, 7, 0, 0, 48, 112, 255, 511]
theorem lookasideref19_Apart.tab7 : rtab .any (opsOf Try.f22 7) = lookasideref19_Apart.T7 := by kernel_rfl
theorem lookasideref19_Apart.bits7 : waitsOk lookasideref19_Apart.T7.2 lookasideref19_Apart.B7 = true := by kernel_rfl
set_option maxHeartbeats 8000000 in
set_option maxRecDepth 100000 in
theorem lookasideref19_Apart.calls (k : Nat) (A0 : Option Addr) (c0 : Nat) (l0 : List (S32)) (r : Bool) (w : World) (hr0 : Kd.C k32 w A0 l0.length l0) (hc0 : l0.length ≤ c0) (h : lookasideref19_Apart.f k l0 = some r) :
    Calls Try.prog 22 #[.slice A0 l0.length c0] w fun e w' => e = .returned (.bool r) ∧ Below w.heap.size w w' := by
  have hu32 := Try.underlying32
  have HR0 := Aside0.mk hr0
  have HC0 := Aside0.mk hc0
  clear hr0 hc0
  have HB := Aside0.mk (Below.refl w.heap.size w)
  have H : (lookasideref19_Apart.l0 k l0 0) = some r := h
  clear h
  have H' := Aside0.mk H
  clear H
  go_enter Try.func22, Try.ntmps22
  go_wp2
  go_loopg [3] k (fun kq v3 w' => ∃ (x3_1 : Int), v3 = .int .i64 x3_1 ∧ Aside0 (lookasideref19_Apart.l0 kq l0 x3_1 = some r) ∧ Aside0 (kq ≤ k) ∧ Aside0 (Below w.heap.size w w'))
  case atStart => exact ⟨(0), (by first | rfl | (simp; done) | (simp [*]; done)), H', ⟨Nat.le_refl _⟩, ⟨by repeat (first | (with_reducible first | exact HB.out | apply below_alloc | apply pw_below_drewN | apply below_drew1) | exact HB.out)⟩⟩
  case round =>
    clear H'
    obtain ⟨x3_1, rfl, HA, HK1, HB⟩ := hrel
    cases gk with
    | zero => exact absurd HA.out (by simp [lookasideref19_Apart.l0])
    | succ k1 =>
      have H := HA.out
      clear HA
      simp only [lookasideref19_Apart.l0] at H
      by_cases c2 : x3_1 < (l0.length : Int)
      · rw [if_pos c2] at H
        have c2b0 : decide (x3_1 < (l0.length : Int)) = true := decide_eq_true c2
        clear c2
        have H' := Aside0.mk H
        clear H
        go_wp2
        go_loopg [4] k1 (fun kq v4 w' => ∃ (x4_2 : Int), v4 = .int .i64 x4_2 ∧ Aside0 (lookasideref19_Apart.l1 kq l0 x3_1 x4_2 = some r) ∧ Aside0 (kq ≤ k1) ∧ Aside0 (Below w.heap.size w w'))
        case atStart => exact ⟨(0), (by first | rfl | (simp; done) | (simp [*]; done)), H', ⟨Nat.le_refl _⟩, ⟨by repeat (first | (with_reducible first | exact HB.out | apply below_alloc | apply pw_below_drewN | apply below_drew1) | exact HB.out)⟩⟩
        case round =>
          clear H'
          try clear c2
          try clear c2b0
          try clear p2
          obtain ⟨x4_2, rfl, HA, HK2, HB⟩ := hrel
          cases gk with
          | zero => exact absurd HA.out (by simp [lookasideref19_Apart.l1])
          | succ k2 =>
            have H := HA.out
            clear HA
            simp only [lookasideref19_Apart.l1] at H
            by_cases c3 : x4_2 < x3_1
            · rw [if_pos c3] at H
              have c3b0 : decide (x4_2 < x3_1) = true := decide_eq_true c3
              clear c3
              by_cases c4 : 0 ≤ x4_2
              · rw [if_pos c4] at H
                have c4b0 : decide (0 ≤ x4_2) = true := decide_eq_true c4
                clear c4
                by_cases c5 : x4_2 < (l0.length : Int)
                · rw [if_pos c5] at H
                  have c5b0 : decide (x4_2 < (l0.length : Int)) = true := decide_eq_true c5
                  clear c5
                  by_cases c6 : 0 ≤ x3_1
                  · rw [if_pos c6] at H
                    have c6b0 : decide (0 ≤ x3_1) = true := decide_eq_true c6
                    clear c6
                    by_cases c7 : x3_1 < (l0.length : Int)
                    · rw [if_pos c7] at H
                      have c7b0 : decide (x3_1 < (l0.length : Int)) = true := decide_eq_true c7
                      clear c7
                      replace H := Option.bind_eq_some_iff.mp H
                      obtain ⟨t256, A80, H⟩ := H
                      replace H : (if t256 = true then (lookasideref19_Apart.l1 k2 l0 x3_1 (wrap64 (x4_2 + 1))) else (some false)) = some r := H
                      have A8 := Aside0.mk A80
                      clear A80
                      by_cases c9 : t256 = true
                      · subst c9
                        have H1 : (lookasideref19_Apart.l1 k2 l0 x3_1 (wrap64 (x4_2 + 1))) = some r := by rw [if_pos rfl] at H; exact H
                        clear H
                        have H := H1
                        clear H1
                        have H' := Aside0.mk H
                        clear H
                        try go_wp2
                        have n0_ := Aside0.mk (below_drew1 HB.out)
                        clear HB
                        have HB := n0_
                        clear n0_
                        have p254 : 0 ≤ (x4_2 : Int) := of_decide_eq_true (by first | (with_reducible assumption) | assumption)
                        have q254 : x4_2 < (l0.length : Int) := of_decide_eq_true (by first | (with_reducible assumption) | assumption)
                        obtain ⟨ad254, e254, hx254_0, hx254_1, hx254_2, hx254_3, hx254_4, hx254_5, hx254_6, hx254_7, hx254_8, hx254_9, hx254_10⟩ := at_T32 HR0.out x4_2 p254 q254
                        have hw254_10 := hx254_10
                        have hw254_9 := hx254_9
                        have hw254_8 := hx254_8
                        have hw254_7 := hx254_7
                        have hw254_6 := hx254_6
                        have hw254_5 := hx254_5
                        have hw254_4 := hx254_4
                        have hw254_3 := hx254_3
                        have hw254_2 := hx254_2
                        have hw254_1 := hx254_1
                        have hw254_0 := hx254_0
                        cases e254
                        replace hx254_0 := (HB.out.cell (World.block_lt_of_cell? w _ hx254_0)).trans hx254_0
                        replace hx254_1 := (HB.out.cell (World.block_lt_of_cell? w _ hx254_1)).trans hx254_1
                        replace hx254_2 := (HB.out.cell (World.block_lt_of_cell? w _ hx254_2)).trans hx254_2
                        replace hx254_3 := (HB.out.cell (World.block_lt_of_cell? w _ hx254_3)).trans hx254_3
                        replace hx254_4 := (HB.out.cell (World.block_lt_of_cell? w _ hx254_4)).trans hx254_4
                        replace hx254_5 := (HB.out.cell (World.block_lt_of_cell? w _ hx254_5)).trans hx254_5
                        replace hx254_6 := (HB.out.cell (World.block_lt_of_cell? w _ hx254_6)).trans hx254_6
                        replace hx254_7 := (HB.out.cell (World.block_lt_of_cell? w _ hx254_7)).trans hx254_7
                        replace hx254_8 := (HB.out.cell (World.block_lt_of_cell? w _ hx254_8)).trans hx254_8
                        replace hx254_9 := (HB.out.cell (World.block_lt_of_cell? w _ hx254_9)).trans hx254_9
                        replace hx254_10 := (HB.out.cell (World.block_lt_of_cell? w _ hx254_10)).trans hx254_10
                        replace p254 := eq_true p254
                        replace q254 := eq_true q254
                        have p255 : 0 ≤ (x3_1 : Int) := of_decide_eq_true (by first | (with_reducible assumption) | assumption)
                        have q255 : x3_1 < (l0.length : Int) := of_decide_eq_true (by first | (with_reducible assumption) | assumption)
                        obtain ⟨ad255, e255, hx255_0, hx255_1, hx255_2, hx255_3, hx255_4, hx255_5, hx255_6, hx255_7, hx255_8, hx255_9, hx255_10⟩ := at_T32 HR0.out x3_1 p255 q255
                        have hw255_10 := hx255_10
                        have hw255_9 := hx255_9
                        have hw255_8 := hx255_8
                        have hw255_7 := hx255_7
                        have hw255_6 := hx255_6
                        have hw255_5 := hx255_5
                        have hw255_4 := hx255_4
                        have hw255_3 := hx255_3
                        have hw255_2 := hx255_2
                        have hw255_1 := hx255_1
                        have hw255_0 := hx255_0
                        obtain rfl : ad254 = ad255 := (by injection e255)
                        replace hx255_0 := (HB.out.cell (World.block_lt_of_cell? w _ hx255_0)).trans hx255_0
                        replace hx255_1 := (HB.out.cell (World.block_lt_of_cell? w _ hx255_1)).trans hx255_1
                        replace hx255_2 := (HB.out.cell (World.block_lt_of_cell? w _ hx255_2)).trans hx255_2
                        replace hx255_3 := (HB.out.cell (World.block_lt_of_cell? w _ hx255_3)).trans hx255_3
                        replace hx255_4 := (HB.out.cell (World.block_lt_of_cell? w _ hx255_4)).trans hx255_4
                        replace hx255_5 := (HB.out.cell (World.block_lt_of_cell? w _ hx255_5)).trans hx255_5
                        replace hx255_6 := (HB.out.cell (World.block_lt_of_cell? w _ hx255_6)).trans hx255_6
                        replace hx255_7 := (HB.out.cell (World.block_lt_of_cell? w _ hx255_7)).trans hx255_7
                        replace hx255_8 := (HB.out.cell (World.block_lt_of_cell? w _ hx255_8)).trans hx255_8
                        replace hx255_9 := (HB.out.cell (World.block_lt_of_cell? w _ hx255_9)).trans hx255_9
                        replace hx255_10 := (HB.out.cell (World.block_lt_of_cell? w _ hx255_10)).trans hx255_10
                        replace p255 := eq_true p255
                        replace q255 := eq_true q255
                        refine start_ (n := 10) (S := fun w' => w'.cell? (ad254.add ((x4_2).toNat * 11)) = some (.int .i64 ((rd_T32 l0 x4_2).f0)) ∧ w'.cell? ⟨(ad254.add ((x4_2).toNat * 11)).block, (ad254.add ((x4_2).toNat * 11)).off + 1, none⟩ = some (.int .i64 ((rd_T32 l0 x4_2).f1)) ∧ w'.cell? ⟨(ad254.add ((x4_2).toNat * 11)).block, (ad254.add ((x4_2).toNat * 11)).off + 2, none⟩ = some (.int .u64 ((rd_T32 l0 x4_2).f2)) ∧ w'.cell? ⟨(ad254.add ((x4_2).toNat * 11)).block, (ad254.add ((x4_2).toNat * 11)).off + 3, none⟩ = some (.int .u64 ((rd_T32 l0 x4_2).f3)) ∧ w'.cell? ⟨(ad254.add ((x4_2).toNat * 11)).block, (ad254.add ((x4_2).toNat * 11)).off + 4, none⟩ = some (.bool ((rd_T32 l0 x4_2).f4.f0)) ∧ w'.cell? ⟨(ad254.add ((x4_2).toNat * 11)).block, (ad254.add ((x4_2).toNat * 11)).off + 5, none⟩ = some (.bool ((rd_T32 l0 x4_2).f4.f1)) ∧ w'.cell? ⟨(ad254.add ((x4_2).toNat * 11)).block, (ad254.add ((x4_2).toNat * 11)).off + 6, none⟩ = some (.bool ((rd_T32 l0 x4_2).f4.f2)) ∧ w'.cell? ⟨(ad254.add ((x4_2).toNat * 11)).block, (ad254.add ((x4_2).toNat * 11)).off + 7, none⟩ = some (.bool ((rd_T32 l0 x4_2).f4.f3)) ∧ w'.cell? ⟨(ad254.add ((x4_2).toNat * 11)).block, (ad254.add ((x4_2).toNat * 11)).off + 8, none⟩ = some (.bool ((rd_T32 l0 x4_2).f4.f4)) ∧ w'.cell? ⟨(ad254.add ((x4_2).toNat * 11)).block, (ad254.add ((x4_2).toNat * 11)).off + 9, none⟩ = some (.bool ((rd_T32 l0 x4_2).f4.f5)) ∧ w'.cell? ⟨(ad254.add ((x4_2).toNat * 11)).block, (ad254.add ((x4_2).toNat * 11)).off + 10, none⟩ = some (.bool ((rd_T32 l0 x4_2).f5)) ∧ w'.cell? (ad254.add ((x3_1).toNat * 11)) = some (.int .i64 ((rd_T32 l0 x3_1).f0)) ∧ w'.cell? ⟨(ad254.add ((x3_1).toNat * 11)).block, (ad254.add ((x3_1).toNat * 11)).off + 1, none⟩ = some (.int .i64 ((rd_T32 l0 x3_1).f1)) ∧ w'.cell? ⟨(ad254.add ((x3_1).toNat * 11)).block, (ad254.add ((x3_1).toNat * 11)).off + 2, none⟩ = some (.int .u64 ((rd_T32 l0 x3_1).f2)) ∧ w'.cell? ⟨(ad254.add ((x3_1).toNat * 11)).block, (ad254.add ((x3_1).toNat * 11)).off + 3, none⟩ = some (.int .u64 ((rd_T32 l0 x3_1).f3)) ∧ w'.cell? ⟨(ad254.add ((x3_1).toNat * 11)).block, (ad254.add ((x3_1).toNat * 11)).off + 4, none⟩ = some (.bool ((rd_T32 l0 x3_1).f4.f0)) ∧ w'.cell? ⟨(ad254.add ((x3_1).toNat * 11)).block, (ad254.add ((x3_1).toNat * 11)).off + 5, none⟩ = some (.bool ((rd_T32 l0 x3_1).f4.f1)) ∧ w'.cell? ⟨(ad254.add ((x3_1).toNat * 11)).block, (ad254.add ((x3_1).toNat * 11)).off + 6, none⟩ = some (.bool ((rd_T32 l0 x3_1).f4.f2)) ∧ w'.cell? ⟨(ad254.add ((x3_1).toNat * 11)).block, (ad254.add ((x3_1).toNat * 11)).off + 7, none⟩ = some (.bool ((rd_T32 l0 x3_1).f4.f3)) ∧ w'.cell? ⟨(ad254.add ((x3_1).toNat * 11)).block, (ad254.add ((x3_1).toNat * 11)).off + 8, none⟩ = some (.bool ((rd_T32 l0 x3_1).f4.f4)) ∧ w'.cell? ⟨(ad254.add ((x3_1).toNat * 11)).block, (ad254.add ((x3_1).toNat * 11)).off + 9, none⟩ = some (.bool ((rd_T32 l0 x3_1).f4.f5)) ∧ w'.cell? ⟨(ad254.add ((x3_1).toNat * 11)).block, (ad254.add ((x3_1).toNat * 11)).off + 10, none⟩ = some (.bool ((rd_T32 l0 x3_1).f5))) (ds := []) #[false, false, false, false, false, false, false, false, false, false] (by kernel_rfl) rfl rfl ⟨((HB.out.cell (World.block_lt_of_cell? w _ hw254_0)).trans hw254_0), ((HB.out.cell (World.block_lt_of_cell? w _ hw254_1)).trans hw254_1), ((HB.out.cell (World.block_lt_of_cell? w _ hw254_2)).trans hw254_2), ((HB.out.cell (World.block_lt_of_cell? w _ hw254_3)).trans hw254_3), ((HB.out.cell (World.block_lt_of_cell? w _ hw254_4)).trans hw254_4), ((HB.out.cell (World.block_lt_of_cell? w _ hw254_5)).trans hw254_5), ((HB.out.cell (World.block_lt_of_cell? w _ hw254_6)).trans hw254_6), ((HB.out.cell (World.block_lt_of_cell? w _ hw254_7)).trans hw254_7), ((HB.out.cell (World.block_lt_of_cell? w _ hw254_8)).trans hw254_8), ((HB.out.cell (World.block_lt_of_cell? w _ hw254_9)).trans hw254_9), ((HB.out.cell (World.block_lt_of_cell? w _ hw254_10)).trans hw254_10), ((HB.out.cell (World.block_lt_of_cell? w _ hw255_0)).trans hw255_0), ((HB.out.cell (World.block_lt_of_cell? w _ hw255_1)).trans hw255_1), ((HB.out.cell (World.block_lt_of_cell? w _ hw255_2)).trans hw255_2), ((HB.out.cell (World.block_lt_of_cell? w _ hw255_3)).trans hw255_3), ((HB.out.cell (World.block_lt_of_cell? w _ hw255_4)).trans hw255_4), ((HB.out.cell (World.block_lt_of_cell? w _ hw255_5)).trans hw255_5), ((HB.out.cell (World.block_lt_of_cell? w _ hw255_6)).trans hw255_6), ((HB.out.cell (World.block_lt_of_cell? w _ hw255_7)).trans hw255_7), ((HB.out.cell (World.block_lt_of_cell? w _ hw255_8)).trans hw255_8), ((HB.out.cell (World.block_lt_of_cell? w _ hw255_9)).trans hw255_9), ((HB.out.cell (World.block_lt_of_cell? w _ hw255_10)).trans hw255_10)⟩ (fun hHeld => ?_); refine with_tabW lookasideref19_Apart.tab7 lookasideref19_Apart.bits7 (fun HT_ HW_ => ?_)
                        generalize wr.drew = w10 at HB hx254_0 hx254_1 hx254_10 hx254_2 hx254_3 hx254_4 hx254_5 hx254_6 hx254_7 hx254_8 hx254_9 hx255_0 hx255_1 hx255_10 hx255_2 hx255_3 hx255_4 hx255_5 hx255_6 hx255_7 hx255_8 hx255_9 hHeld ⊢
                        refine pure_ (i := 0) (N := some 17) (v := ?_) (a' := ?_) #[true, false, false, false, false, false, false, false, false, false] rfl rfl (any_of HT_.out (by kernel_rfl)) (fun _ _ _ h => h) (Or.inl ⟨by rfl, ?_⟩) ?_ ?_
                        rotate_left
                        · intro w'
                          go_simp
                          with_reducible rfl
                        rotate_left
                        · simp only [Act.put, List.setIfInBounds_toArray, List.set_cons_zero, List.set_cons_succ, i64_w, i32_w]
                          rfl
                        refine pure_ (i := 1) (N := some 18) (v := ?_) (a' := ?_) #[true, true, false, false, false, false, false, false, false, false] rfl rfl (any_of HT_.out (by kernel_rfl)) (fun _ _ _ h => h) (Or.inl ⟨by rfl, ?_⟩) ?_ ?_
                        rotate_left
                        · intro w'
                          go_simp
                          with_reducible rfl
                        rotate_left
                        · simp only [Act.put, List.setIfInBounds_toArray, List.set_cons_zero, List.set_cons_succ, i64_w, i32_w]
                          rfl
                        refine pure_ (i := 2) (N := some 19) (v := ?_) (a' := ?_) #[true, true, true, false, false, false, false, false, false, false] rfl rfl (any_of HT_.out (by kernel_rfl)) (fun _ _ _ h => h) (Or.inl ⟨by rfl, ?_⟩) ?_ ?_
                        rotate_left
                        · intro w'
                          go_simp
                          with_reducible rfl
                        rotate_left
                        · simp only [Act.put, List.setIfInBounds_toArray, List.set_cons_zero, List.set_cons_succ, i64_w, i32_w]
                          rfl
                        refine pure_ (i := 4) (N := some 21) (v := ?_) (a' := ?_) #[true, true, true, false, true, false, false, false, false, false] rfl rfl (any_of HT_.out (by kernel_rfl)) (fun _ _ _ h => h) (Or.inl ⟨by rfl, ?_⟩) ?_ ?_
                        rotate_left
                        · intro w'
                          go_simp
                          with_reducible rfl
                        rotate_left
                        · simp only [Act.put, List.setIfInBounds_toArray, List.set_cons_zero, List.set_cons_succ, i64_w, i32_w]
                          rfl
                        refine pure_ (i := 5) (N := some 22) (v := ?_) (a' := ?_) #[true, true, true, false, true, true, false, false, false, false] rfl rfl (any_of HT_.out (by kernel_rfl)) (fun _ _ _ h => h) (Or.inl ⟨by rfl, ?_⟩) ?_ ?_
                        rotate_left
                        · intro w'
                          go_simp
                          with_reducible rfl
                        rotate_left
                        · simp only [Act.put, List.setIfInBounds_toArray, List.set_cons_zero, List.set_cons_succ, i64_w, i32_w]
                          rfl
                        refine pure_ (i := 6) (N := some 23) (v := ?_) (a' := ?_) #[true, true, true, false, true, true, true, false, false, false] rfl rfl (any_of HT_.out (by kernel_rfl)) (fun _ _ _ h => h) (Or.inl ⟨by rfl, ?_⟩) ?_ ?_
                        rotate_left
                        · intro w'
                          go_simp
                          with_reducible rfl
                        rotate_left
                        · simp only [Act.put, List.setIfInBounds_toArray, List.set_cons_zero, List.set_cons_succ, i64_w, i32_w]
                          rfl
                        refine take_ (i := 3) (N := some 20) (v := ?_) (a' := ?_) #[true, true, true, true, true, true, true, false, false, false] rfl rfl (take_ofW HT_.out HW_.out (by kernel_rfl)) (fun _ _ _ h => h) (Or.inl ⟨by rfl, ?_⟩) hHeld ?_ ?_
                        rotate_left
                        · rintro w' ⟨s0, s1, s2, s3, s4, s5, s6, s7, s8, s9, s10, s11, s12, s13, s14, s15, s16, s17, s18, s19, s20, s21⟩
                          go_simp
                          with_reducible rfl
                        rotate_left
                        · simp only [Act.put, List.setIfInBounds_toArray, List.set_cons_zero, List.set_cons_succ, i64_w, i32_w]
                          rfl
                        refine take_ (i := 7) (N := some 24) (v := ?_) (a' := ?_) #[true, true, true, true, true, true, true, true, false, false] rfl rfl (take_ofW HT_.out HW_.out (by kernel_rfl)) (fun _ _ _ h => h) (Or.inl ⟨by rfl, ?_⟩) hHeld ?_ ?_
                        rotate_left
                        · rintro w' ⟨s0, s1, s2, s3, s4, s5, s6, s7, s8, s9, s10, s11, s12, s13, s14, s15, s16, s17, s18, s19, s20, s21⟩
                          go_simp
                          with_reducible rfl
                        rotate_left
                        · simp only [Act.put, List.setIfInBounds_toArray, List.set_cons_zero, List.set_cons_succ, i64_w, i32_w]
                          rfl
                        refine one_ (i := 8) (N := some 25) #[true, true, true, true, true, true, true, true, true, false] rfl rfl (one_of HT_.out (by kernel_rfl)) (by decide) (fun K hK => ?_)
                        refine goes_ Try.func57 (by kernel_rfl) rfl #[.agg #[.int .i64 ((rd_T32 l0 x4_2).f0), .int .i64 ((rd_T32 l0 x4_2).f1), .int .u64 ((rd_T32 l0 x4_2).f2), .int .u64 ((rd_T32 l0 x4_2).f3), .bool ((rd_T32 l0 x4_2).f4.f0), .bool ((rd_T32 l0 x4_2).f4.f1), .bool ((rd_T32 l0 x4_2).f4.f2), .bool ((rd_T32 l0 x4_2).f4.f3), .bool ((rd_T32 l0 x4_2).f4.f4), .bool ((rd_T32 l0 x4_2).f4.f5), .bool ((rd_T32 l0 x4_2).f5)], .agg #[.int .i64 ((rd_T32 l0 x3_1).f0), .int .i64 ((rd_T32 l0 x3_1).f1), .int .u64 ((rd_T32 l0 x3_1).f2), .int .u64 ((rd_T32 l0 x3_1).f3), .bool ((rd_T32 l0 x3_1).f4.f0), .bool ((rd_T32 l0 x3_1).f4.f1), .bool ((rd_T32 l0 x3_1).f4.f2), .bool ((rd_T32 l0 x3_1).f4.f3), .bool ((rd_T32 l0 x3_1).f4.f4), .bool ((rd_T32 l0 x3_1).f4.f5), .bool ((rd_T32 l0 x3_1).f5)]] (by rfl) rfl rfl (by (try simp only [List.map_toArray, List.map_cons, List.map_nil]); first | done | rfl | (simp only [List.length_drop, List.length_take]; rfl)) ?_
                        with_reducible refine (lookasideref06_Parts.calls k2 ((rd_T32 l0 x4_2).f0) ((rd_T32 l0 x4_2).f1) ((rd_T32 l0 x4_2).f2) ((rd_T32 l0 x4_2).f3) ((rd_T32 l0 x4_2).f4.f0) ((rd_T32 l0 x4_2).f4.f1) ((rd_T32 l0 x4_2).f4.f2) ((rd_T32 l0 x4_2).f4.f3) ((rd_T32 l0 x4_2).f4.f4) ((rd_T32 l0 x4_2).f4.f5) ((rd_T32 l0 x4_2).f5) ((rd_T32 l0 x3_1).f0) ((rd_T32 l0 x3_1).f1) ((rd_T32 l0 x3_1).f2) ((rd_T32 l0 x3_1).f3) ((rd_T32 l0 x3_1).f4.f0) ((rd_T32 l0 x3_1).f4.f1) ((rd_T32 l0 x3_1).f4.f2) ((rd_T32 l0 x3_1).f4.f3) ((rd_T32 l0 x3_1).f4.f4) ((rd_T32 l0 x3_1).f4.f5) ((rd_T32 l0 x3_1).f5) true _ A8.out).mono ?_
                        rintro e w11 ⟨rfl, hb⟩
                        refine ⟨_, rfl, ?_⟩
                        have n0_ := Aside0.mk (below_step (by repeat (first | (with_reducible first | exact HB.out | apply below_alloc | apply pw_below_drewN | apply below_drew1) | exact HB.out)) hb)
                        clear HB
                        have HB := n0_
                        clear n0_
                        (try clear hb)
                        (try clear hb2)
                        (try clear hk)
                        (try clear hi)
                        refine hK.out _ _ ⟨((HB.out.cell (World.block_lt_of_cell? w _ hw254_0)).trans hw254_0), ((HB.out.cell (World.block_lt_of_cell? w _ hw254_1)).trans hw254_1), ((HB.out.cell (World.block_lt_of_cell? w _ hw254_2)).trans hw254_2), ((HB.out.cell (World.block_lt_of_cell? w _ hw254_3)).trans hw254_3), ((HB.out.cell (World.block_lt_of_cell? w _ hw254_4)).trans hw254_4), ((HB.out.cell (World.block_lt_of_cell? w _ hw254_5)).trans hw254_5), ((HB.out.cell (World.block_lt_of_cell? w _ hw254_6)).trans hw254_6), ((HB.out.cell (World.block_lt_of_cell? w _ hw254_7)).trans hw254_7), ((HB.out.cell (World.block_lt_of_cell? w _ hw254_8)).trans hw254_8), ((HB.out.cell (World.block_lt_of_cell? w _ hw254_9)).trans hw254_9), ((HB.out.cell (World.block_lt_of_cell? w _ hw254_10)).trans hw254_10), ((HB.out.cell (World.block_lt_of_cell? w _ hw255_0)).trans hw255_0), ((HB.out.cell (World.block_lt_of_cell? w _ hw255_1)).trans hw255_1), ((HB.out.cell (World.block_lt_of_cell? w _ hw255_2)).trans hw255_2), ((HB.out.cell (World.block_lt_of_cell? w _ hw255_3)).trans hw255_3), ((HB.out.cell (World.block_lt_of_cell? w _ hw255_4)).trans hw255_4), ((HB.out.cell (World.block_lt_of_cell? w _ hw255_5)).trans hw255_5), ((HB.out.cell (World.block_lt_of_cell? w _ hw255_6)).trans hw255_6), ((HB.out.cell (World.block_lt_of_cell? w _ hw255_7)).trans hw255_7), ((HB.out.cell (World.block_lt_of_cell? w _ hw255_8)).trans hw255_8), ((HB.out.cell (World.block_lt_of_cell? w _ hw255_9)).trans hw255_9), ((HB.out.cell (World.block_lt_of_cell? w _ hw255_10)).trans hw255_10)⟩ (fun hHeld => ?_)
                        clear hK K
                        refine norm_ (a' := ?_) ?_ ?_
                        rotate_left
                        · show Act.put _ (some 25) _ = _
                          simp only [Act.put, List.setIfInBounds_toArray, List.set_cons_zero, List.set_cons_succ, i64_w, i32_w]
                          rfl
                        refine pure_ (i := 9) (N := some 5) (v := ?_) (a' := ?_) #[true, true, true, true, true, true, true, true, true, true] rfl rfl (any_of HT_.out (by kernel_rfl)) (fun _ _ _ h => h) (Or.inl ⟨by rfl, ?_⟩) ?_ ?_
                        rotate_left
                        · intro w'
                          go_simp
                          with_reducible rfl
                        rotate_left
                        · simp only [Act.put, List.setIfInBounds_toArray, List.set_cons_zero, List.set_cons_succ, i64_w, i32_w]
                          rfl
                        refine done_ (done_of HT_.out (by kernel_rfl)) ?_
                        try go_wp2
                        go_roundg k2
                        case measure => have := HK1.out; have := HK2.out; omega
                        case rel => exact ⟨(wrap64 (x4_2 + 1)), (by first | rfl | (simp; done) | (simp [*]; done)), H', ⟨by have := HK1.out; have := HK2.out; omega⟩, ⟨by repeat (first | (with_reducible first | exact HB.out | apply below_alloc | apply pw_below_drewN | apply below_drew1) | exact HB.out)⟩⟩
                      · replace c9 := Bool.eq_false_iff.mpr c9
                        subst c9
                        have H1 : (some false) = some r := by rw [if_neg (show ¬ (false = true) by decide)] at H; exact H
                        clear H
                        have H := H1
                        clear H1
                        obtain rfl := Option.some.inj H
                        try go_wp2
                        have n0_ := Aside0.mk (below_drew1 HB.out)
                        clear HB
                        have HB := n0_
                        clear n0_
                        have p254 : 0 ≤ (x4_2 : Int) := of_decide_eq_true (by first | (with_reducible assumption) | assumption)
                        have q254 : x4_2 < (l0.length : Int) := of_decide_eq_true (by first | (with_reducible assumption) | assumption)
                        obtain ⟨ad254, e254, hx254_0, hx254_1, hx254_2, hx254_3, hx254_4, hx254_5, hx254_6, hx254_7, hx254_8, hx254_9, hx254_10⟩ := at_T32 HR0.out x4_2 p254 q254
                        have hw254_10 := hx254_10
                        have hw254_9 := hx254_9
                        have hw254_8 := hx254_8
                        have hw254_7 := hx254_7
                        have hw254_6 := hx254_6
                        have hw254_5 := hx254_5
                        have hw254_4 := hx254_4
                        have hw254_3 := hx254_3
                        have hw254_2 := hx254_2
                        have hw254_1 := hx254_1
                        have hw254_0 := hx254_0
                        cases e254
                        replace hx254_0 := (HB.out.cell (World.block_lt_of_cell? w _ hx254_0)).trans hx254_0
                        replace hx254_1 := (HB.out.cell (World.block_lt_of_cell? w _ hx254_1)).trans hx254_1
                        replace hx254_2 := (HB.out.cell (World.block_lt_of_cell? w _ hx254_2)).trans hx254_2
                        replace hx254_3 := (HB.out.cell (World.block_lt_of_cell? w _ hx254_3)).trans hx254_3
                        replace hx254_4 := (HB.out.cell (World.block_lt_of_cell? w _ hx254_4)).trans hx254_4
                        replace hx254_5 := (HB.out.cell (World.block_lt_of_cell? w _ hx254_5)).trans hx254_5
                        replace hx254_6 := (HB.out.cell (World.block_lt_of_cell? w _ hx254_6)).trans hx254_6
                        replace hx254_7 := (HB.out.cell (World.block_lt_of_cell? w _ hx254_7)).trans hx254_7
                        replace hx254_8 := (HB.out.cell (World.block_lt_of_cell? w _ hx254_8)).trans hx254_8
                        replace hx254_9 := (HB.out.cell (World.block_lt_of_cell? w _ hx254_9)).trans hx254_9
                        replace hx254_10 := (HB.out.cell (World.block_lt_of_cell? w _ hx254_10)).trans hx254_10
                        replace p254 := eq_true p254
                        replace q254 := eq_true q254
                        have p255 : 0 ≤ (x3_1 : Int) := of_decide_eq_true (by first | (with_reducible assumption) | assumption)
                        have q255 : x3_1 < (l0.length : Int) := of_decide_eq_true (by first | (with_reducible assumption) | assumption)
                        obtain ⟨ad255, e255, hx255_0, hx255_1, hx255_2, hx255_3, hx255_4, hx255_5, hx255_6, hx255_7, hx255_8, hx255_9, hx255_10⟩ := at_T32 HR0.out x3_1 p255 q255
                        have hw255_10 := hx255_10
                        have hw255_9 := hx255_9
                        have hw255_8 := hx255_8
                        have hw255_7 := hx255_7
                        have hw255_6 := hx255_6
                        have hw255_5 := hx255_5
                        have hw255_4 := hx255_4
                        have hw255_3 := hx255_3
                        have hw255_2 := hx255_2
                        have hw255_1 := hx255_1
                        have hw255_0 := hx255_0
                        obtain rfl : ad254 = ad255 := (by injection e255)
                        replace hx255_0 := (HB.out.cell (World.block_lt_of_cell? w _ hx255_0)).trans hx255_0
                        replace hx255_1 := (HB.out.cell (World.block_lt_of_cell? w _ hx255_1)).trans hx255_1
                        replace hx255_2 := (HB.out.cell (World.block_lt_of_cell? w _ hx255_2)).trans hx255_2
                        replace hx255_3 := (HB.out.cell (World.block_lt_of_cell? w _ hx255_3)).trans hx255_3
                        replace hx255_4 := (HB.out.cell (World.block_lt_of_cell? w _ hx255_4)).trans hx255_4
                        replace hx255_5 := (HB.out.cell (World.block_lt_of_cell? w _ hx255_5)).trans hx255_5
                        replace hx255_6 := (HB.out.cell (World.block_lt_of_cell? w _ hx255_6)).trans hx255_6
                        replace hx255_7 := (HB.out.cell (World.block_lt_of_cell? w _ hx255_7)).trans hx255_7
                        replace hx255_8 := (HB.out.cell (World.block_lt_of_cell? w _ hx255_8)).trans hx255_8
                        replace hx255_9 := (HB.out.cell (World.block_lt_of_cell? w _ hx255_9)).trans hx255_9
                        replace hx255_10 := (HB.out.cell (World.block_lt_of_cell? w _ hx255_10)).trans hx255_10
                        replace p255 := eq_true p255
                        replace q255 := eq_true q255
                        refine start_ (n := 10) (S := fun w' => w'.cell? (ad254.add ((x4_2).toNat * 11)) = some (.int .i64 ((rd_T32 l0 x4_2).f0)) ∧ w'.cell? ⟨(ad254.add ((x4_2).toNat * 11)).block, (ad254.add ((x4_2).toNat * 11)).off + 1, none⟩ = some (.int .i64 ((rd_T32 l0 x4_2).f1)) ∧ w'.cell? ⟨(ad254.add ((x4_2).toNat * 11)).block, (ad254.add ((x4_2).toNat * 11)).off + 2, none⟩ = some (.int .u64 ((rd_T32 l0 x4_2).f2)) ∧ w'.cell? ⟨(ad254.add ((x4_2).toNat * 11)).block, (ad254.add ((x4_2).toNat * 11)).off + 3, none⟩ = some (.int .u64 ((rd_T32 l0 x4_2).f3)) ∧ w'.cell? ⟨(ad254.add ((x4_2).toNat * 11)).block, (ad254.add ((x4_2).toNat * 11)).off + 4, none⟩ = some (.bool ((rd_T32 l0 x4_2).f4.f0)) ∧ w'.cell? ⟨(ad254.add ((x4_2).toNat * 11)).block, (ad254.add ((x4_2).toNat * 11)).off + 5, none⟩ = some (.bool ((rd_T32 l0 x4_2).f4.f1)) ∧ w'.cell? ⟨(ad254.add ((x4_2).toNat * 11)).block, (ad254.add ((x4_2).toNat * 11)).off + 6, none⟩ = some (.bool ((rd_T32 l0 x4_2).f4.f2)) ∧ w'.cell? ⟨(ad254.add ((x4_2).toNat * 11)).block, (ad254.add ((x4_2).toNat * 11)).off + 7, none⟩ = some (.bool ((rd_T32 l0 x4_2).f4.f3)) ∧ w'.cell? ⟨(ad254.add ((x4_2).toNat * 11)).block, (ad254.add ((x4_2).toNat * 11)).off + 8, none⟩ = some (.bool ((rd_T32 l0 x4_2).f4.f4)) ∧ w'.cell? ⟨(ad254.add ((x4_2).toNat * 11)).block, (ad254.add ((x4_2).toNat * 11)).off + 9, none⟩ = some (.bool ((rd_T32 l0 x4_2).f4.f5)) ∧ w'.cell? ⟨(ad254.add ((x4_2).toNat * 11)).block, (ad254.add ((x4_2).toNat * 11)).off + 10, none⟩ = some (.bool ((rd_T32 l0 x4_2).f5)) ∧ w'.cell? (ad254.add ((x3_1).toNat * 11)) = some (.int .i64 ((rd_T32 l0 x3_1).f0)) ∧ w'.cell? ⟨(ad254.add ((x3_1).toNat * 11)).block, (ad254.add ((x3_1).toNat * 11)).off + 1, none⟩ = some (.int .i64 ((rd_T32 l0 x3_1).f1)) ∧ w'.cell? ⟨(ad254.add ((x3_1).toNat * 11)).block, (ad254.add ((x3_1).toNat * 11)).off + 2, none⟩ = some (.int .u64 ((rd_T32 l0 x3_1).f2)) ∧ w'.cell? ⟨(ad254.add ((x3_1).toNat * 11)).block, (ad254.add ((x3_1).toNat * 11)).off + 3, none⟩ = some (.int .u64 ((rd_T32 l0 x3_1).f3)) ∧ w'.cell? ⟨(ad254.add ((x3_1).toNat * 11)).block, (ad254.add ((x3_1).toNat * 11)).off + 4, none⟩ = some (.bool ((rd_T32 l0 x3_1).f4.f0)) ∧ w'.cell? ⟨(ad254.add ((x3_1).toNat * 11)).block, (ad254.add ((x3_1).toNat * 11)).off + 5, none⟩ = some (.bool ((rd_T32 l0 x3_1).f4.f1)) ∧ w'.cell? ⟨(ad254.add ((x3_1).toNat * 11)).block, (ad254.add ((x3_1).toNat * 11)).off + 6, none⟩ = some (.bool ((rd_T32 l0 x3_1).f4.f2)) ∧ w'.cell? ⟨(ad254.add ((x3_1).toNat * 11)).block, (ad254.add ((x3_1).toNat * 11)).off + 7, none⟩ = some (.bool ((rd_T32 l0 x3_1).f4.f3)) ∧ w'.cell? ⟨(ad254.add ((x3_1).toNat * 11)).block, (ad254.add ((x3_1).toNat * 11)).off + 8, none⟩ = some (.bool ((rd_T32 l0 x3_1).f4.f4)) ∧ w'.cell? ⟨(ad254.add ((x3_1).toNat * 11)).block, (ad254.add ((x3_1).toNat * 11)).off + 9, none⟩ = some (.bool ((rd_T32 l0 x3_1).f4.f5)) ∧ w'.cell? ⟨(ad254.add ((x3_1).toNat * 11)).block, (ad254.add ((x3_1).toNat * 11)).off + 10, none⟩ = some (.bool ((rd_T32 l0 x3_1).f5))) (ds := []) #[false, false, false, false, false, false, false, false, false, false] (by kernel_rfl) rfl rfl ⟨((HB.out.cell (World.block_lt_of_cell? w _ hw254_0)).trans hw254_0), ((HB.out.cell (World.block_lt_of_cell? w _ hw254_1)).trans hw254_1), ((HB.out.cell (World.block_lt_of_cell? w _ hw254_2)).trans hw254_2), ((HB.out.cell (World.block_lt_of_cell? w _ hw254_3)).trans hw254_3), ((HB.out.cell (World.block_lt_of_cell? w _ hw254_4)).trans hw254_4), ((HB.out.cell (World.block_lt_of_cell? w _ hw254_5)).trans hw254_5), ((HB.out.cell (World.block_lt_of_cell? w _ hw254_6)).trans hw254_6), ((HB.out.cell (World.block_lt_of_cell? w _ hw254_7)).trans hw254_7), ((HB.out.cell (World.block_lt_of_cell? w _ hw254_8)).trans hw254_8), ((HB.out.cell (World.block_lt_of_cell? w _ hw254_9)).trans hw254_9), ((HB.out.cell (World.block_lt_of_cell? w _ hw254_10)).trans hw254_10), ((HB.out.cell (World.block_lt_of_cell? w _ hw255_0)).trans hw255_0), ((HB.out.cell (World.block_lt_of_cell? w _ hw255_1)).trans hw255_1), ((HB.out.cell (World.block_lt_of_cell? w _ hw255_2)).trans hw255_2), ((HB.out.cell (World.block_lt_of_cell? w _ hw255_3)).trans hw255_3), ((HB.out.cell (World.block_lt_of_cell? w _ hw255_4)).trans hw255_4), ((HB.out.cell (World.block_lt_of_cell? w _ hw255_5)).trans hw255_5), ((HB.out.cell (World.block_lt_of_cell? w _ hw255_6)).trans hw255_6), ((HB.out.cell (World.block_lt_of_cell? w _ hw255_7)).trans hw255_7), ((HB.out.cell (World.block_lt_of_cell? w _ hw255_8)).trans hw255_8), ((HB.out.cell (World.block_lt_of_cell? w _ hw255_9)).trans hw255_9), ((HB.out.cell (World.block_lt_of_cell? w _ hw255_10)).trans hw255_10)⟩ (fun hHeld => ?_); refine with_tabW lookasideref19_Apart.tab7 lookasideref19_Apart.bits7 (fun HT_ HW_ => ?_)
                        generalize wr.drew = w12 at HB hx254_0 hx254_1 hx254_10 hx254_2 hx254_3 hx254_4 hx254_5 hx254_6 hx254_7 hx254_8 hx254_9 hx255_0 hx255_1 hx255_10 hx255_2 hx255_3 hx255_4 hx255_5 hx255_6 hx255_7 hx255_8 hx255_9 hHeld ⊢
                        refine pure_ (i := 0) (N := some 17) (v := ?_) (a' := ?_) #[true, false, false, false, false, false, false, false, false, false] rfl rfl (any_of HT_.out (by kernel_rfl)) (fun _ _ _ h => h) (Or.inl ⟨by rfl, ?_⟩) ?_ ?_
                        rotate_left
                        · intro w'
                          go_simp
                          with_reducible rfl
                        rotate_left
                        · simp only [Act.put, List.setIfInBounds_toArray, List.set_cons_zero, List.set_cons_succ, i64_w, i32_w]
                          rfl
                        refine pure_ (i := 1) (N := some 18) (v := ?_) (a' := ?_) #[true, true, false, false, false, false, false, false, false, false] rfl rfl (any_of HT_.out (by kernel_rfl)) (fun _ _ _ h => h) (Or.inl ⟨by rfl, ?_⟩) ?_ ?_
                        rotate_left
                        · intro w'
                          go_simp
                          with_reducible rfl
                        rotate_left
                        · simp only [Act.put, List.setIfInBounds_toArray, List.set_cons_zero, List.set_cons_succ, i64_w, i32_w]
                          rfl
                        refine pure_ (i := 2) (N := some 19) (v := ?_) (a' := ?_) #[true, true, true, false, false, false, false, false, false, false] rfl rfl (any_of HT_.out (by kernel_rfl)) (fun _ _ _ h => h) (Or.inl ⟨by rfl, ?_⟩) ?_ ?_
                        rotate_left
                        · intro w'
                          go_simp
                          with_reducible rfl
                        rotate_left
                        · simp only [Act.put, List.setIfInBounds_toArray, List.set_cons_zero, List.set_cons_succ, i64_w, i32_w]
                          rfl
                        refine pure_ (i := 4) (N := some 21) (v := ?_) (a' := ?_) #[true, true, true, false, true, false, false, false, false, false] rfl rfl (any_of HT_.out (by kernel_rfl)) (fun _ _ _ h => h) (Or.inl ⟨by rfl, ?_⟩) ?_ ?_
                        rotate_left
                        · intro w'
                          go_simp
                          with_reducible rfl
                        rotate_left
                        · simp only [Act.put, List.setIfInBounds_toArray, List.set_cons_zero, List.set_cons_succ, i64_w, i32_w]
                          rfl
                        refine pure_ (i := 5) (N := some 22) (v := ?_) (a' := ?_) #[true, true, true, false, true, true, false, false, false, false] rfl rfl (any_of HT_.out (by kernel_rfl)) (fun _ _ _ h => h) (Or.inl ⟨by rfl, ?_⟩) ?_ ?_
                        rotate_left
                        · intro w'
                          go_simp
                          with_reducible rfl
                        rotate_left
                        · simp only [Act.put, List.setIfInBounds_toArray, List.set_cons_zero, List.set_cons_succ, i64_w, i32_w]
                          rfl
                        refine pure_ (i := 6) (N := some 23) (v := ?_) (a' := ?_) #[true, true, true, false, true, true, true, false, false, false] rfl rfl (any_of HT_.out (by kernel_rfl)) (fun _ _ _ h => h) (Or.inl ⟨by rfl, ?_⟩) ?_ ?_
                        rotate_left
                        · intro w'
                          go_simp
                          with_reducible rfl
                        rotate_left
                        · simp only [Act.put, List.setIfInBounds_toArray, List.set_cons_zero, List.set_cons_succ, i64_w, i32_w]
                          rfl
                        refine take_ (i := 3) (N := some 20) (v := ?_) (a' := ?_) #[true, true, true, true, true, true, true, false, false, false] rfl rfl (take_ofW HT_.out HW_.out (by kernel_rfl)) (fun _ _ _ h => h) (Or.inl ⟨by rfl, ?_⟩) hHeld ?_ ?_
                        rotate_left
                        · rintro w' ⟨s0, s1, s2, s3, s4, s5, s6, s7, s8, s9, s10, s11, s12, s13, s14, s15, s16, s17, s18, s19, s20, s21⟩
                          go_simp
                          with_reducible rfl
                        rotate_left
                        · simp only [Act.put, List.setIfInBounds_toArray, List.set_cons_zero, List.set_cons_succ, i64_w, i32_w]
                          rfl
                        refine take_ (i := 7) (N := some 24) (v := ?_) (a' := ?_) #[true, true, true, true, true, true, true, true, false, false] rfl rfl (take_ofW HT_.out HW_.out (by kernel_rfl)) (fun _ _ _ h => h) (Or.inl ⟨by rfl, ?_⟩) hHeld ?_ ?_
                        rotate_left
                        · rintro w' ⟨s0, s1, s2, s3, s4, s5, s6, s7, s8, s9, s10, s11, s12, s13, s14, s15, s16, s17, s18, s19, s20, s21⟩
                          go_simp
                          with_reducible rfl
                        rotate_left
                        · simp only [Act.put, List.setIfInBounds_toArray, List.set_cons_zero, List.set_cons_succ, i64_w, i32_w]
                          rfl
                        refine one_ (i := 8) (N := some 25) #[true, true, true, true, true, true, true, true, true, false] rfl rfl (one_of HT_.out (by kernel_rfl)) (by decide) (fun K hK => ?_)
                        refine goes_ Try.func57 (by kernel_rfl) rfl #[.agg #[.int .i64 ((rd_T32 l0 x4_2).f0), .int .i64 ((rd_T32 l0 x4_2).f1), .int .u64 ((rd_T32 l0 x4_2).f2), .int .u64 ((rd_T32 l0 x4_2).f3), .bool ((rd_T32 l0 x4_2).f4.f0), .bool ((rd_T32 l0 x4_2).f4.f1), .bool ((rd_T32 l0 x4_2).f4.f2), .bool ((rd_T32 l0 x4_2).f4.f3), .bool ((rd_T32 l0 x4_2).f4.f4), .bool ((rd_T32 l0 x4_2).f4.f5), .bool ((rd_T32 l0 x4_2).f5)], .agg #[.int .i64 ((rd_T32 l0 x3_1).f0), .int .i64 ((rd_T32 l0 x3_1).f1), .int .u64 ((rd_T32 l0 x3_1).f2), .int .u64 ((rd_T32 l0 x3_1).f3), .bool ((rd_T32 l0 x3_1).f4.f0), .bool ((rd_T32 l0 x3_1).f4.f1), .bool ((rd_T32 l0 x3_1).f4.f2), .bool ((rd_T32 l0 x3_1).f4.f3), .bool ((rd_T32 l0 x3_1).f4.f4), .bool ((rd_T32 l0 x3_1).f4.f5), .bool ((rd_T32 l0 x3_1).f5)]] (by rfl) rfl rfl (by (try simp only [List.map_toArray, List.map_cons, List.map_nil]); first | done | rfl | (simp only [List.length_drop, List.length_take]; rfl)) ?_
                        with_reducible refine (lookasideref06_Parts.calls k2 ((rd_T32 l0 x4_2).f0) ((rd_T32 l0 x4_2).f1) ((rd_T32 l0 x4_2).f2) ((rd_T32 l0 x4_2).f3) ((rd_T32 l0 x4_2).f4.f0) ((rd_T32 l0 x4_2).f4.f1) ((rd_T32 l0 x4_2).f4.f2) ((rd_T32 l0 x4_2).f4.f3) ((rd_T32 l0 x4_2).f4.f4) ((rd_T32 l0 x4_2).f4.f5) ((rd_T32 l0 x4_2).f5) ((rd_T32 l0 x3_1).f0) ((rd_T32 l0 x3_1).f1) ((rd_T32 l0 x3_1).f2) ((rd_T32 l0 x3_1).f3) ((rd_T32 l0 x3_1).f4.f0) ((rd_T32 l0 x3_1).f4.f1) ((rd_T32 l0 x3_1).f4.f2) ((rd_T32 l0 x3_1).f4.f3) ((rd_T32 l0 x3_1).f4.f4) ((rd_T32 l0 x3_1).f4.f5) ((rd_T32 l0 x3_1).f5) false _ A8.out).mono ?_
                        rintro e w13 ⟨rfl, hb⟩
                        refine ⟨_, rfl, ?_⟩
                        have n0_ := Aside0.mk (below_step (by repeat (first | (with_reducible first | exact HB.out | apply below_alloc | apply pw_below_drewN | apply below_drew1) | exact HB.out)) hb)
                        clear HB
                        have HB := n0_
                        clear n0_
                        (try clear hb)
                        (try clear hb2)
                        (try clear hk)
                        (try clear hi)
                        refine hK.out _ _ ⟨((HB.out.cell (World.block_lt_of_cell? w _ hw254_0)).trans hw254_0), ((HB.out.cell (World.block_lt_of_cell? w _ hw254_1)).trans hw254_1), ((HB.out.cell (World.block_lt_of_cell? w _ hw254_2)).trans hw254_2), ((HB.out.cell (World.block_lt_of_cell? w _ hw254_3)).trans hw254_3), ((HB.out.cell (World.block_lt_of_cell? w _ hw254_4)).trans hw254_4), ((HB.out.cell (World.block_lt_of_cell? w _ hw254_5)).trans hw254_5), ((HB.out.cell (World.block_lt_of_cell? w _ hw254_6)).trans hw254_6), ((HB.out.cell (World.block_lt_of_cell? w _ hw254_7)).trans hw254_7), ((HB.out.cell (World.block_lt_of_cell? w _ hw254_8)).trans hw254_8), ((HB.out.cell (World.block_lt_of_cell? w _ hw254_9)).trans hw254_9), ((HB.out.cell (World.block_lt_of_cell? w _ hw254_10)).trans hw254_10), ((HB.out.cell (World.block_lt_of_cell? w _ hw255_0)).trans hw255_0), ((HB.out.cell (World.block_lt_of_cell? w _ hw255_1)).trans hw255_1), ((HB.out.cell (World.block_lt_of_cell? w _ hw255_2)).trans hw255_2), ((HB.out.cell (World.block_lt_of_cell? w _ hw255_3)).trans hw255_3), ((HB.out.cell (World.block_lt_of_cell? w _ hw255_4)).trans hw255_4), ((HB.out.cell (World.block_lt_of_cell? w _ hw255_5)).trans hw255_5), ((HB.out.cell (World.block_lt_of_cell? w _ hw255_6)).trans hw255_6), ((HB.out.cell (World.block_lt_of_cell? w _ hw255_7)).trans hw255_7), ((HB.out.cell (World.block_lt_of_cell? w _ hw255_8)).trans hw255_8), ((HB.out.cell (World.block_lt_of_cell? w _ hw255_9)).trans hw255_9), ((HB.out.cell (World.block_lt_of_cell? w _ hw255_10)).trans hw255_10)⟩ (fun hHeld => ?_)
                        clear hK K
                        refine norm_ (a' := ?_) ?_ ?_
                        rotate_left
                        · show Act.put _ (some 25) _ = _
                          simp only [Act.put, List.setIfInBounds_toArray, List.set_cons_zero, List.set_cons_succ, i64_w, i32_w]
                          rfl
                        refine pure_ (i := 9) (N := some 5) (v := ?_) (a' := ?_) #[true, true, true, true, true, true, true, true, true, true] rfl rfl (any_of HT_.out (by kernel_rfl)) (fun _ _ _ h => h) (Or.inl ⟨by rfl, ?_⟩) ?_ ?_
                        rotate_left
                        · intro w'
                          go_simp
                          with_reducible rfl
                        rotate_left
                        · simp only [Act.put, List.setIfInBounds_toArray, List.set_cons_zero, List.set_cons_succ, i64_w, i32_w]
                          rfl
                        refine done_ (done_of HT_.out (by kernel_rfl)) ?_
                        try go_wp2
                        go_ret
                        exact ⟨by first | rfl | (simp [errW_none, errW_some] <;> rfl) | (simp [*, errW_none, errW_some] <;> rfl), by repeat (first | (with_reducible first | exact HB.out | apply below_alloc | apply pw_below_drewN | apply below_drew1) | exact HB.out)⟩
                    · rw [if_neg c7] at H
                      exact absurd H (by simp)
                  · rw [if_neg c6] at H
                    exact absurd H (by simp)
                · rw [if_neg c5] at H
                  exact absurd H (by simp)
              · rw [if_neg c4] at H
                exact absurd H (by simp)
            · rw [if_neg c3] at H
              have c3b0 : decide (x4_2 < x3_1) = false := decide_eq_false c3
              clear c3
              have H' := Aside0.mk H
              clear H
              go_wp2
              go_roundg k2
              case measure => have := HK1.out; have := HK2.out; omega
              case rel => exact ⟨(wrap64 (x3_1 + 1)), (by first | rfl | (simp; done) | (simp [*]; done)), H', ⟨by have := HK1.out; have := HK2.out; omega⟩, ⟨by repeat (first | (with_reducible first | exact HB.out | apply below_alloc | apply pw_below_drewN | apply below_drew1) | exact HB.out)⟩⟩
      · rw [if_neg c2] at H
        have c2b0 : decide (x3_1 < (l0.length : Int)) = false := decide_eq_false c2
        clear c2
        obtain rfl := Option.some.inj H
        go_wp2
        go_ret
        exact ⟨by first | rfl | (simp [errW_none, errW_some] <;> rfl) | (simp [*, errW_none, errW_some] <;> rfl), by repeat (first | (with_reducible first | exact HB.out | apply below_alloc | apply pw_below_drewN | apply below_drew1) | exact HB.out)⟩

/-! ### lookasideref02_Same: function 23 -/
def lookasideref02_Same.l0 : Nat → List Int → List Int → Int → Option (Bool)
  | 0, _, _, _ => none
  | k + 1, x0, x1, x5 => if x5 < (x0.length : Int) then (if 0 ≤ x5 then (if x5 < (x1.length : Int) then (if (rd x0 x5) = (rd x1 x5) then (lookasideref02_Same.l0 k x0 x1 (wrap64 (x5 + 1))) else (some false)) else (none)) else (none)) else (some true)
def lookasideref02_Same.f (k : Nat) (l0 : List Int) (l1 : List Int) : Option (Bool) := if (l0.length : Int) = (l1.length : Int) then (lookasideref02_Same.l0 k l0 l1 0) else (some false)
set_option maxHeartbeats 8000000 in
set_option maxRecDepth 100000 in
theorem lookasideref02_Same.calls (k : Nat) (A0 : Option Addr) (c0 : Nat) (l0 : List Int) (A1 : Option Addr) (c1 : Nat) (l1 : List Int) (r : Bool) (w : World) (hr0 : Kd.C (Kd.int .i64) w A0 l0.length l0) (hc0 : l0.length ≤ c0) (hr1 : Kd.C (Kd.int .i64) w A1 l1.length l1) (hc1 : l1.length ≤ c1) (h : lookasideref02_Same.f k l0 l1 = some r) :
    Calls Try.prog 23 #[.slice A0 l0.length c0, .slice A1 l1.length c1] w fun e w' => e = .returned (.bool r) ∧ Drawn0 w w' := by
  have HR0 := Aside0.mk hr0
  have HC0 := Aside0.mk hc0
  clear hr0 hc0
  have HR1 := Aside0.mk hr1
  have HC1 := Aside0.mk hc1
  clear hr1 hc1
  have H : (if (l0.length : Int) = (l1.length : Int) then (lookasideref02_Same.l0 k l0 l1 0) else (some false)) = some r := h
  clear h
  by_cases c3 : (l0.length : Int) = (l1.length : Int)
  · rw [if_pos c3] at H
    have c3b0 : ((l0.length : Int) == (l1.length : Int)) = true := beq_iff_eq.mpr c3
    have c3b1 : ((l0.length : Int) != (l1.length : Int)) = false := bne_eq_false_iff_eq.mpr c3
    have c3b2 : (l0.length == l1.length) = true := by first | simpa using c3 | (simp at c3 ⊢; omega)
    clear c3
    have H' := Aside0.mk H
    clear H
    go_enter Try.func23, Try.ntmps23
    go_wp2
    repeat (go_quiet (fail); try go_wp2)
    go_loopg [5] k (fun kq v5 w' => ∃ (x5_1 : Int), v5 = .int .i64 x5_1 ∧ Aside0 (lookasideref02_Same.l0 kq l0 l1 x5_1 = some r) ∧ Aside0 (kq ≤ k) ∧ Drawn0 w w')
    case atStart => exact ⟨(0), (by first | rfl | (simp; done) | (simp [*]; done)), H', ⟨Nat.le_refl _⟩, by repeat (first | exact Drawn0.refl _ | apply Drawn0.step)⟩
    case round =>
      clear H'
      try clear c1
      try clear c2
      try clear p2
      try clear c3
      try clear c3b0
      try clear c3b1
      try clear c3b2
      obtain ⟨x5_1, rfl, HA, HK1, ⟨m1, rfl⟩⟩ := hrel
      cases gk with
      | zero => exact absurd HA.out (by simp [lookasideref02_Same.l0])
      | succ k1 =>
        have H := HA.out
        clear HA
        simp only [lookasideref02_Same.l0] at H
        by_cases c4 : x5_1 < (l0.length : Int)
        · rw [if_pos c4] at H
          have c4b0 : decide (x5_1 < (l0.length : Int)) = true := decide_eq_true c4
          clear c4
          by_cases c5 : 0 ≤ x5_1
          · rw [if_pos c5] at H
            have c5b0 : decide (0 ≤ x5_1) = true := decide_eq_true c5
            clear c5
            by_cases c6 : x5_1 < (l1.length : Int)
            · rw [if_pos c6] at H
              have c6b0 : decide (x5_1 < (l1.length : Int)) = true := decide_eq_true c6
              clear c6
              by_cases c7 : (rd l0 x5_1) = (rd l1 x5_1)
              · rw [if_pos c7] at H
                have c7b0 : ((rd l0 x5_1) == (rd l1 x5_1)) = true := beq_iff_eq.mpr c7
                have c7b1 : ((rd l0 x5_1) != (rd l1 x5_1)) = false := bne_eq_false_iff_eq.mpr c7
                clear c7
                have H' := Aside0.mk H
                clear H
                have p257 : 0 ≤ (x5_1 : Int) := of_decide_eq_true (by first | (with_reducible assumption) | assumption)
                have q257 : x5_1 < (l0.length : Int) := of_decide_eq_true (by first | (with_reducible assumption) | assumption)
                obtain ⟨ad257, e257, hx257_0⟩ := Kd.at_int HR0.out x5_1 p257 q257
                cases e257
                replace p257 := eq_true p257
                replace q257 := eq_true q257
                have p258 : 0 ≤ (x5_1 : Int) := of_decide_eq_true (by first | (with_reducible assumption) | assumption)
                have q258 : x5_1 < (l1.length : Int) := of_decide_eq_true (by first | (with_reducible assumption) | assumption)
                obtain ⟨ad258, e258, hx258_0⟩ := Kd.at_int HR1.out x5_1 p258 q258
                cases e258
                replace p258 := eq_true p258
                replace q258 := eq_true q258
                go_wp2
                repeat (go_quiet (fail); try go_wp2)
                go_roundg k1
                case measure => have := HK1.out; omega
                case rel => exact ⟨(wrap64 (x5_1 + 1)), (by first | rfl | (simp; done) | (simp [*]; done)), H', ⟨by have := HK1.out; omega⟩, by repeat (first | exact Drawn0.refl _ | apply Drawn0.step)⟩
              · rw [if_neg c7] at H
                have c7b0 : ((rd l0 x5_1) == (rd l1 x5_1)) = false := beq_eq_false_iff_ne.mpr c7
                have c7b1 : ((rd l0 x5_1) != (rd l1 x5_1)) = true := bne_iff_ne.mpr c7
                obtain rfl := Option.some.inj H
                have p257 : 0 ≤ (x5_1 : Int) := of_decide_eq_true (by first | (with_reducible assumption) | assumption)
                have q257 : x5_1 < (l0.length : Int) := of_decide_eq_true (by first | (with_reducible assumption) | assumption)
                obtain ⟨ad257, e257, hx257_0⟩ := Kd.at_int HR0.out x5_1 p257 q257
                cases e257
                replace p257 := eq_true p257
                replace q257 := eq_true q257
                have p258 : 0 ≤ (x5_1 : Int) := of_decide_eq_true (by first | (with_reducible assumption) | assumption)
                have q258 : x5_1 < (l1.length : Int) := of_decide_eq_true (by first | (with_reducible assumption) | assumption)
                obtain ⟨ad258, e258, hx258_0⟩ := Kd.at_int HR1.out x5_1 p258 q258
                cases e258
                replace p258 := eq_true p258
                replace q258 := eq_true q258
                go_wp2
                repeat (go_quiet (fail); try go_wp2)
                go_ret
                exact ⟨by first | rfl | (simp; done) | (simp [*]; done), by repeat (first | exact Drawn0.refl _ | apply Drawn0.step)⟩
            · rw [if_neg c6] at H
              exact absurd H (by simp)
          · rw [if_neg c5] at H
            exact absurd H (by simp)
        · rw [if_neg c4] at H
          have c4b0 : decide (x5_1 < (l0.length : Int)) = false := decide_eq_false c4
          clear c4
          obtain rfl := Option.some.inj H
          go_wp2
          repeat (go_quiet (fail); try go_wp2)
          go_ret
          exact ⟨by first | rfl | (simp; done) | (simp [*]; done), by repeat (first | exact Drawn0.refl _ | apply Drawn0.step)⟩
  · rw [if_neg c3] at H
    have c3b0 : ((l0.length : Int) == (l1.length : Int)) = false := beq_eq_false_iff_ne.mpr c3
    have c3b1 : ((l0.length : Int) != (l1.length : Int)) = true := bne_iff_ne.mpr c3
    have c3b2 : (l0.length == l1.length) = false := by first | simpa using c3 | (simp at c3 ⊢; omega)
    obtain rfl := Option.some.inj H
    go_enter Try.func23, Try.ntmps23
    go_wp2
    repeat (go_quiet (fail); try go_wp2)
    go_ret
    exact ⟨by first | rfl | (simp; done) | (simp [*]; done), by repeat (first | exact Drawn0.refl _ | apply Drawn0.step)⟩

end Go.Proofs.Ytcbnmmkmgpbfiaa.PS


import Derived.Test.YtgmdlndiilibpaaCallG
namespace Go.Proofs.Ytgmdlndiilibpaa.PC
open Go.RowKit Go.Proofs.YtgmdlndiilibpaaW.PrintWords Go.Proofs.YtgmdlndiilibpaaW.PrintLast Go.Proofs.YtgmdlndiilibpaaW.PrintMore Go.Proofs.Ytgmdlndiilibpaa.Tab Go.Proofs.Ytgmdlndiilibpaa.CallK
attribute [local go_sem] max2_int min2_int max_two min_two max_three min_three max_four min_four   -- for this text's walks alone
set_option linter.unusedVariables false
set_option linter.unusedSimpArgs false
/-- Idle's closure: does one wait? -/
theorem idle1_calls (w : World) (A : Option Addr) (n c : Nat) : Calls Try.prog 64 #[.slice A n c] w fun e w' => e = .returned (.bool (decide (0 < n))) ∧ w' = w := by
  go_enter Try.func64, Try.ntmps64
  go_wp2
  go_ret
  exact ⟨by by_cases h : 0 < n <;> simp [h] <;> omega, rfl⟩
def isIdle (qs : List (List Sn)) : Bool := qs.all fun l => l.isEmpty
theorem isEmpty_len {l : List Sn} : l.isEmpty = decide (l.length = 0) := by cases l <;> simp
set_option maxHeartbeats 4000000 in
set_option maxRecDepth 100000 in
/-- slices.IndexFunc over the queues, by that closure. -/
theorem idx_calls {w : World} {base B gw : Nat} {vs : List Value} {lv : Value} {qs : List (List Sn)} {left : List Int} (h : CA w base B gw vs lv qs left) :
    Calls Try.prog 90 #[.slice (some ⟨gw, 0, none⟩) qs.length qs.length, .func (.func 64) #[] #[]] w fun e w' => (∃ r : Int, e = .returned (.int .i64 r) ∧ (isIdle qs = decide (r < 0))) ∧ w' = w := by
  have hn8 := h.n8
  go_enter Try.func90, Try.ntmps90
  go_wp2_with fail
  go_loopw [8] (fun iv wr => ∃ i : Nat, iv = .int .i64 i ∧ i ≤ qs.length ∧ (∀ l ∈ qs.take i, l = []) ∧ wr = w) (fun iv _ => qs.length - (intOf iv).toNat)
  case atStart => exact ⟨0, rfl, by omega, by simp, rfl⟩
  case round =>
    obtain ⟨i, rfl, hi, hall, rfl⟩ := hrel
    by_cases hil : (i : Int) < (qs.length : Int)
    · have hil' : i < qs.length := by omega
      obtain ⟨v, hv, hq⟩ := h.at hil'
      obtain ⟨A, c, rfl, hc⟩ := hq.form
      have c1 := h.cellq hv
      obtain ⟨l, hl⟩ : ∃ l, qs[i] = l := ⟨_, rfl⟩
      rw [hl] at c1 hc
      have hi0 : (0 : Int) ≤ (i : Int) := by omega
      have HL := Aside0.mk hl
      have HALL := Aside0.mk hall
      clear hq hv hl hall
      go_wp2_with fail
      refine (idle1_calls _ A l.length c).mono ?_
      rintro e w' ⟨rfl, rfl⟩
      by_cases hz : 0 < l.length
      · rw [decide_eq_true hz]
        have hid : isIdle qs = false := by
          unfold isIdle
          rw [List.all_eq_false]
          refine ⟨l, HL.out ▸ List.getElem_mem hil', ?_⟩
          rw [isEmpty_len]; simp; intro e; rw [e] at hz; exact Nat.lt_irrefl _ hz
        have HID := Aside0.mk hid
        clear hid
        go_wp2
        go_ret
        exact ⟨⟨_, rfl, by rw [HID.out]; symm; rw [decide_eq_false_iff_not]; omega⟩, rfl⟩
      · rw [decide_eq_false hz]
        have hl0 : l = [] := List.eq_nil_of_length_eq_zero (by omega)
        go_wp2
        go_roundw
        case rel =>
          refine ⟨i + 1, by go_num, by omega, fun m hm => ?_, by first | trivial | rfl⟩
          rw [List.take_succ_eq_append_getElem hil', HL.out, List.mem_append] at hm
          rcases hm with hm | hm
          · exact HALL.out m hm
          · rw [List.mem_singleton] at hm; rw [hm, hl0]
        case measure => simp [intOf]; omega
    · obtain rfl : i = qs.length := by omega
      rw [List.take_length] at hall
      have hid : isIdle qs = true := by
        unfold isIdle
        rw [List.all_eq_true]
        intro l hl
        rw [hall l hl]; rfl
      have HID := Aside0.mk hid
      clear hid hall
      go_wp2
      go_ret
      exact ⟨⟨_, rfl, by rw [HID.out]; rfl⟩, rfl⟩
set_option maxHeartbeats 4000000 in
set_option maxRecDepth 100000 in
theorem idle_calls {w : World} {base B gw : Nat} {vs : List Value} {lv : Value} {qs : List (List Sn)} {left : List Int} (h : CA w base B gw vs lv qs left) :
    Calls Try.prog 25 #[.pointer (some ⟨B, 0, none⟩)] w fun e w' => e = .returned (.bool (isIdle qs)) ∧ w' = w := by
  have c0 := h.cell0
  go_enter Try.func25, Try.ntmps25
  go_wp2_with fail
  refine Calls.mono (P := Try.prog) (f := 63) (R := fun e w' => e = .returned (.bool (!isIdle qs)) ∧ w' = w) ?_ ?_
  · go_enter Try.func63, Try.ntmps63
    go_wp2_with fail
    refine (idx_calls h).mono ?_
    rintro e w' ⟨⟨r, rfl, hr⟩, rfl⟩
    have HR := Aside0.mk hr
    clear hr
    go_wp2
    go_ret
    refine ⟨?_, rfl⟩
    rw [HR.out]
    by_cases h0 : r < 0
    · rw [decide_eq_true h0]; simp; omega
    · rw [decide_eq_false h0]; simp; omega
  · rintro e w' ⟨rfl, rfl⟩
    go_wp2
    go_ret
    exact ⟨by simp, rfl⟩
end Go.Proofs.Ytgmdlndiilibpaa.PC

import Derived.Test.YtgmdlndiilibpaaPHx0
import Derived.Test.YtgmdlndiilibpaaCallM
namespace Go.Proofs.Ytgmdlndiilibpaa.PC
open Go.RowKit Go.Proofs.YtgmdlndiilibpaaW.PrintWords Go.Proofs.YtgmdlndiilibpaaW.PrintLast Go.Proofs.YtgmdlndiilibpaaW.PrintMore Go.Proofs.Ytgmdlndiilibpaa.Tab Go.Proofs.Ytgmdlndiilibpaa.CallK
attribute [local go_sem] max2_int min2_int max_two min_two max_three min_three max_four min_four   -- for this text's walks alone
set_option linter.unusedVariables false
set_option linter.unusedSimpArgs false
set_option maxHeartbeats 4000000 in
set_option maxRecDepth 100000 in
theorem is_calls {w : World} {base B gw : Nat} {vs : List Value} {lv : Value} {qs : List (List Sn)} {left : List Int} (h : CA w base B gw vs lv qs left) (k : Int) :
    Calls Try.prog 61 #[.pointer (some ⟨B, 0, none⟩), .int .i64 k] w fun e w' => e = .returned (.bool (decide (0 ≤ k ∧ k < (qs.length : Int)))) ∧ w' = w := by
  have c0 := h.cell0
  clear h
  go_enter Try.func61, Try.ntmps61
  by_cases h0 : k ≥ 0
  · have h0d : decide (k ≥ 0) = true := decide_eq_true h0
    go_wp2
    go_ret
    exact ⟨by simp <;> omega, rfl⟩
  · have h0d : decide (k ≥ 0) = false := decide_eq_false h0
    go_wp2
    go_ret
    exact ⟨by simp <;> omega, rfl⟩
set_option maxHeartbeats 4000000 in
set_option maxRecDepth 100000 in
theorem cpus_calls {w : World} {base B gw : Nat} {vs : List Value} {lv : Value} {qs : List (List Sn)} {left : List Int} (h : CA w base B gw vs lv qs left) :
    Calls Try.prog 46 #[.pointer (some ⟨B, 0, none⟩)] w fun e w' => e = .returned (.int .i64 (qs.length : Int)) ∧ w' = w := by
  have c0 := h.cell0
  clear h
  go_enter Try.func46, Try.ntmps46
  go_wp2
  go_ret
  exact ⟨rfl, rfl⟩
def waits (qs : List (List Sn)) (k : Int) : Nat := if 0 ≤ k then (qs.getD k.toNat []).length else 0
set_option maxHeartbeats 4000000 in
set_option maxRecDepth 100000 in
theorem waiting_calls {w : World} {base B gw : Nat} {vs : List Value} {lv : Value} {qs : List (List Sn)} {left : List Int} (h : CA w base B gw vs lv qs left) (k : Int) :
    Calls Try.prog 30 #[.pointer (some ⟨B, 0, none⟩), .int .i64 k] w fun e w' => e = .returned (.int .i64 (waits qs k : Int)) ∧ w' = w := by
  go_enter Try.func30, Try.ntmps30
  go_wp2_with fail
  refine (is_calls h k).mono ?_
  rintro e w' ⟨rfl, rfl⟩
  have c0 := h.cell0
  by_cases hk : 0 ≤ k ∧ k < (qs.length : Int)
  · rw [decide_eq_true hk]
    obtain ⟨n, rfl⟩ : ∃ n : Nat, k = n := ⟨k.toNat, by omega⟩
    have hn : n < qs.length := by omega
    obtain ⟨v, hv, hq⟩ := h.at hn
    obtain ⟨A, c, rfl, hc⟩ := hq.form
    have c1 := h.cellq hv
    have hw : waits qs (n : Int) = qs[n].length := by unfold waits; rw [if_pos (by omega)]; simp [List.getD_eq_getElem?_getD, List.getElem?_eq_getElem hn]
    have hnl : (n : Int) < (qs.length : Int) := hk.2
    have HW := Aside0.mk hw
    clear h hq hv hw
    generalize qs[n].length = m at HW c1 hc
    go_wp2
    go_ret
    exact ⟨by rw [HW.out]; rfl, rfl⟩
  · rw [decide_eq_false hk]
    have hw : waits qs k = 0 := by
      unfold waits
      split
      · rw [List.getD_eq_getElem?_getD, List.getElem?_eq_none (by omega)]; rfl
      · rfl
    have HW := Aside0.mk hw
    clear hw
    go_wp2
    go_ret
    exact ⟨by rw [HW.out]; rfl, rfl⟩
def lefts (left : List Int) (id : Int) : Int := if 0 ≤ id then left.getD id.toNat 0 else 0
set_option maxHeartbeats 4000000 in
set_option maxRecDepth 100000 in
theorem left_calls {w : World} {base B gw : Nat} {vs : List Value} {lv : Value} {qs : List (List Sn)} {left : List Int} (h : CA w base B gw vs lv qs left) (id : Int) :
    Calls Try.prog 26 #[.pointer (some ⟨B, 0, none⟩), .int .i64 id] w fun e w' => e = .returned (.int .i64 (lefts left id)) ∧ w' = w := by
  obtain ⟨A, c, rfl⟩ := Kd.R_slice h.hL
  have c1 := h.cell1
  go_enter Try.func26, Try.ntmps26
  by_cases h0 : id < 0
  · have h0d : decide (id < 0) = true := decide_eq_true h0
    have hw : lefts left id = 0 := by unfold lefts; rw [if_neg (by omega)]
    have HW := Aside0.mk hw
    clear hw
    go_wp2
    go_ret
    exact ⟨by rw [HW.out]; rfl, rfl⟩
  · have h0d : decide (id < 0) = false := decide_eq_false h0
    by_cases h1 : id ≥ (left.length : Int)
    · have h1d : decide (id ≥ (left.length : Int)) = true := decide_eq_true h1
      have hw : lefts left id = 0 := by
        unfold lefts
        rw [if_pos (by omega), List.getD_eq_getElem?_getD, List.getElem?_eq_none (by omega)]; rfl
      have HW := Aside0.mk hw
      clear hw
      go_wp2
      go_ret
      exact ⟨by rw [HW.out]; rfl, rfl⟩
    · have h1d : decide (id ≥ (left.length : Int)) = false := decide_eq_false h1
      obtain ⟨n, rfl⟩ : ∃ n : Nat, id = n := ⟨id.toNat, by omega⟩
      have hn : n < left.length := by omega
      obtain ⟨ad, c', hv⟩ := Kd.R_slice1 h.hL (by omega)
      injection hv with hv1 _ hv2
      subst hv1 hv2
      obtain ⟨g, rfl⟩ := Kd.R_head h.hL
      have hc := (Kd.R_celln 0 h.hL (n : Int) (by omega) (by omega)).1
      rw [Int.toNat_natCast] at hc
      have hw : lefts left (n : Int) = left[n] := by unfold lefts; rw [if_pos (by omega)]; simp [List.getD_eq_getElem?_getD, List.getElem?_eq_getElem hn]
      have hr : rdOf 0 left (n : Int) = left[n] := by simp [rdOf, List.getD_eq_getElem?_getD, List.getElem?_eq_getElem hn]
      rw [hr] at hc
      have HW := Aside0.mk hw
      generalize left[n] = m at hc HW
      have hnl : (n : Int) < (left.length : Int) := by omega
      clear hw hr h
      go_wp2
      go_ret
      exact ⟨by rw [HW.out]; rfl, rfl⟩
end Go.Proofs.Ytgmdlndiilibpaa.PC

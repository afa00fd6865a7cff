import Derived.Test.YtgmdlndiilibpaaCallH
namespace Go.Proofs.Ytgmdlndiilibpaa.PC
open Go.RowKit Go.Proofs.YtgmdlndiilibpaaW.PrintWords Go.Proofs.YtgmdlndiilibpaaW.PrintLast Go.Proofs.YtgmdlndiilibpaaW.PrintMore Go.Proofs.Ytgmdlndiilibpaa.Tab Go.Proofs.Ytgmdlndiilibpaa.CallK
attribute [local go_sem] max2_int min2_int max_two min_two max_three min_three max_four min_four   -- for this text's walks alone
set_option linter.unusedVariables false
set_option linter.unusedSimpArgs false
theorem at_int {w : World} {A : Option Addr} {n : Nat} {xs : List Int} (h : Kd.C (Kd.int .i64) w A n xs) (i : Nat) (hi : i < n) : ∃ ad, A = some ad ∧ w.cell? (ad.add i) = some (.int .i64 (xs.getD i 0)) := by
  obtain ⟨ad, c, e, _, hK, hc⟩ := Kd.C_get h 0 (i : Int) (by omega) (by omega)
  have hc0 : c = [.int .i64 (xs.getD i 0)] := hK
  subst hc0
  refine ⟨ad, e, ?_⟩
  have := hc 0 _ rfl
  rw [show (i : Int).toNat * (Kd.int IntKind.i64).sz + 0 = i by show (i : Int).toNat * 1 + 0 = i; omega] at this
  exact this
def inR (N : Nat) (k : Int) : Bool := decide (0 ≤ k ∧ k < (N : Int))
set_option maxHeartbeats 4000000 in
set_option maxRecDepth 100000 in
theorem out_calls {w : World} {base B gw : Nat} {vs : List Value} {lv : Value} {qs : List (List Sn)} {left : List Int} (h : CA w base B gw vs lv qs left) (Bc : Nat) (hc : w.cell? ⟨Bc, 0, none⟩ = some (.pointer (some ⟨B, 0, none⟩))) (k : Int) :
    Calls Try.prog 60 #[.int .i64 k, .pointer (some ⟨Bc, 0, none⟩)] w fun e w' => e = .returned (.bool (!inR qs.length k)) ∧ w' = w := by
  go_enter Try.func60, Try.ntmps60
  go_wp2_with fail
  refine (is_calls h k).mono ?_
  rintro e w' ⟨rfl, rfl⟩
  go_wp2
  go_ret
  exact ⟨by simp [inR], rfl⟩
set_option maxHeartbeats 4000000 in
set_option maxRecDepth 100000 in
/-- slices.IndexFunc over numbers, by that closure. -/
theorem idxo_calls {w : World} {base B gw : Nat} {vs : List Value} {lv : Value} {qs : List (List Sn)} {left : List Int} (h : CA w base B gw vs lv qs left) (Bc : Nat) (hbc : w.cell? ⟨Bc, 0, none⟩ = some (.pointer (some ⟨B, 0, none⟩)))
    (A : Option Addr) (c : Nat) (T : List Int) (hT : Kd.C (Kd.int .i64) w A T.length T) (hT1 : T.length ≤ 1000) :
    Calls Try.prog 88 #[.slice A T.length c, .func (.func 60) #[] #[.pointer (some ⟨Bc, 0, none⟩)]] w fun e w' => (∃ r : Int, e = .returned (.int .i64 r) ∧ (T.all (inR qs.length) = decide (r < 0))) ∧ w' = w := by
  go_enter Try.func88, Try.ntmps88
  go_wp2_with fail
  go_loopw [8] (fun iv wr => ∃ i : Nat, iv = .int .i64 i ∧ i ≤ T.length ∧ (∀ l ∈ T.take i, inR qs.length l = true) ∧ wr = w) (fun iv _ => T.length - (intOf iv).toNat)
  case atStart => exact ⟨0, rfl, by omega, by simp, rfl⟩
  case round =>
    obtain ⟨i, rfl, hi, hall, rfl⟩ := hrel
    by_cases hil : (i : Int) < (T.length : Int)
    · have hil' : i < T.length := by omega
      obtain ⟨ad, rfl, x0⟩ := at_int hT i hil'
      obtain ⟨t, ht⟩ : ∃ t, T.getD i 0 = t := ⟨_, rfl⟩
      rw [ht] at x0
      have hti : T[i] = t := by rw [← ht]; simp [List.getD_eq_getElem?_getD, List.getElem?_eq_getElem hil']
      have hi0 : (0 : Int) ≤ (i : Int) := by omega
      have HL := Aside0.mk hti
      have HALL := Aside0.mk hall
      clear ht hti hall
      go_wp2_with fail
      refine (out_calls h Bc hbc t).mono ?_
      rintro e w' ⟨rfl, rfl⟩
      by_cases hz : inR qs.length t = true
      · rw [hz]
        go_wp2
        go_roundw
        case rel =>
          refine ⟨i + 1, by go_num, by omega, fun m hm => ?_, by first | trivial | rfl⟩
          rw [List.take_succ_eq_append_getElem hil', HL.out, List.mem_append] at hm
          rcases hm with hm | hm
          · exact HALL.out m hm
          · rw [List.mem_singleton] at hm; rw [hm, hz]
        case measure => simp [intOf]; omega
      · rw [Bool.not_eq_true] at hz
        have hid : T.all (inR qs.length) = false := by
          rw [List.all_eq_false]
          exact ⟨t, HL.out ▸ List.getElem_mem hil', by rw [hz]; simp⟩
        have HID := Aside0.mk hid
        clear hid
        rw [hz]
        go_wp2
        go_ret
        exact ⟨⟨_, rfl, by rw [HID.out]; symm; rw [decide_eq_false_iff_not]; omega⟩, rfl⟩
    · obtain rfl : i = T.length := by omega
      rw [List.take_length] at hall
      have hid : T.all (inR qs.length) = true := List.all_eq_true.2 hall
      have HID := Aside0.mk hid
      clear hid hall
      go_wp2
      go_ret
      exact ⟨⟨_, rfl, by rw [HID.out]; rfl⟩, rfl⟩
set_option maxHeartbeats 4000000 in
set_option maxRecDepth 100000 in
theorem has_out_calls {w : World} {base B gw : Nat} {vs : List Value} {lv : Value} {qs : List (List Sn)} {left : List Int} (h : CA w base B gw vs lv qs left) (Bc : Nat) (hbc : w.cell? ⟨Bc, 0, none⟩ = some (.pointer (some ⟨B, 0, none⟩)))
    (A : Option Addr) (c : Nat) (T : List Int) (hT : Kd.C (Kd.int .i64) w A T.length T) (hT1 : T.length ≤ 1000) :
    Calls Try.prog 59 #[.slice A T.length c, .func (.func 60) #[] #[.pointer (some ⟨Bc, 0, none⟩)]] w fun e w' => e = .returned (.bool (!T.all (inR qs.length))) ∧ w' = w := by
  go_enter Try.func59, Try.ntmps59
  go_wp2_with fail
  refine (idxo_calls h Bc hbc A c T hT hT1).mono ?_
  rintro e w' ⟨⟨r, rfl, hr⟩, rfl⟩
  have HR := Aside0.mk hr
  clear hr
  go_wp2
  go_ret
  refine ⟨?_, rfl⟩
  rw [HR.out]
  by_cases h0 : r < 0
  · rw [decide_eq_true h0]; simp; omega
  · rw [decide_eq_false h0]; simp; omega
set_option maxHeartbeats 4000000 in
set_option maxRecDepth 100000 in
/-- slices.Index over numbers. -/
theorem index_calls (w : World) (A : Option Addr) (c : Nat) (T : List Int) (hT : Kd.C (Kd.int .i64) w A T.length T) (hT1 : T.length ≤ 1000) (v : Int) :
    Calls Try.prog 89 #[.slice A T.length c, .int .i64 v] w fun e w' => (∃ r : Int, e = .returned (.int .i64 r) ∧ (T.contains v = decide (r ≥ 0))) ∧ w' = w := by
  go_enter Try.func89, Try.ntmps89
  go_wp2_with fail
  go_loopw [8] (fun iv wr => ∃ i : Nat, iv = .int .i64 i ∧ i ≤ T.length ∧ (∀ l ∈ T.take i, l ≠ v) ∧ wr = w) (fun iv _ => T.length - (intOf iv).toNat)
  case atStart => exact ⟨0, rfl, by omega, by simp, rfl⟩
  case round =>
    obtain ⟨i, rfl, hi, hall, rfl⟩ := hrel
    by_cases hil : (i : Int) < (T.length : Int)
    · have hil' : i < T.length := by omega
      obtain ⟨ad, rfl, x0⟩ := at_int hT i hil'
      obtain ⟨t, ht⟩ : ∃ t, T.getD i 0 = t := ⟨_, rfl⟩
      rw [ht] at x0
      have hti : T[i] = t := by rw [← ht]; simp [List.getD_eq_getElem?_getD, List.getElem?_eq_getElem hil']
      have hi0 : (0 : Int) ≤ (i : Int) := by omega
      have HL := Aside0.mk hti
      have HALL := Aside0.mk hall
      clear ht hti hall
      by_cases hz : v = t
      · have hb : (v == t) = true := beq_iff_eq.2 hz
        have hid : T.contains v = true := by rw [List.contains_iff_mem, hz]; exact HL.out ▸ List.getElem_mem hil'
        have HID := Aside0.mk hid
        clear hid
        subst hz
        go_wp2
        go_ret
        exact ⟨⟨_, rfl, by rw [HID.out]; symm; rw [decide_eq_true_iff]; omega⟩, rfl⟩
      · have hb : (v == t) = false := beq_eq_false_iff_ne.2 hz
        go_wp2
        go_roundw
        case rel =>
          refine ⟨i + 1, by go_num, by omega, fun m hm => ?_, by first | trivial | rfl⟩
          rw [List.take_succ_eq_append_getElem hil', HL.out, List.mem_append] at hm
          rcases hm with hm | hm
          · exact HALL.out m hm
          · rw [List.mem_singleton] at hm; rw [hm]; exact fun e => hz e.symm
        case measure => simp [intOf]; omega
    · obtain rfl : i = T.length := by omega
      rw [List.take_length] at hall
      have hid : T.contains v = false := by
        rw [Bool.eq_false_iff, Ne, List.contains_iff_mem]
        exact fun hm => hall v hm rfl
      have HID := Aside0.mk hid
      clear hid hall
      go_wp2
      go_ret
      exact ⟨⟨_, rfl, by have h0 := HID.out; simp at h0; simp [h0]⟩, rfl⟩
set_option maxHeartbeats 4000000 in
set_option maxRecDepth 100000 in
theorem contains_calls (w : World) (A : Option Addr) (c : Nat) (T : List Int) (hT : Kd.C (Kd.int .i64) w A T.length T) (hT1 : T.length ≤ 1000) (v : Int) :
    Calls Try.prog 62 #[.slice A T.length c, .int .i64 v] w fun e w' => e = .returned (.bool (T.contains v)) ∧ w' = w := by
  go_enter Try.func62, Try.ntmps62
  go_wp2_with fail
  refine (index_calls w A c T hT hT1 v).mono ?_
  rintro e w' ⟨⟨r, rfl, hr⟩, rfl⟩
  have HR := Aside0.mk hr
  clear hr
  go_wp2
  go_ret
  exact ⟨by rw [HR.out]; rfl, rfl⟩
end Go.Proofs.Ytgmdlndiilibpaa.PC

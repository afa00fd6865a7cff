/- The law FieldMasks of layer 1: a field's bits are those that Put of all can turn, for every word, place and size. -/
import Derived.Test.YtlkojjkgbcpjjaaFieldP
import Derived.Test.YtlkojjkgbcpjjaaPAx6
namespace Go.Proofs.Ytlkojjkgbcpjjaa.Pure
open Go.RowKit Go.Proofs.Ytlkojjkgbcpjjaa.PA Go.Proofs.Ytlkojjkgbcpjjaa.BitsN Go.Proofs.Ytlkojjkgbcpjjaa.FieldG  Go.Proofs.Ytlkojjkgbcpjjaa.FieldP Go.Proofs.YtlkojjkgbcpjjaaW.PrintWords Go.Proofs.YtlkojjkgbcpjjaaW.PrintLast Go.Proofs.YtlkojjkgbcpjjaaW.PrintMore
set_option linter.unusedVariables false
set_option linter.unusedSimpArgs false

theorem all_bits (w P S : Nat) (h : P + S ≤ 64) (hw : w < 2 ^ 64) : put w P S 18446744073709551615 = w ||| mk P S := by
  apply Nat.eq_of_testBit_eq
  intro i
  rw [tb_put w P S _ i h hw, Nat.testBit_or, tb_mk, show (18446744073709551615 : Nat) = 2 ^ 64 - 1 from rfl, Nat.testBit_two_pow_sub_one]
  by_cases hc : P ≤ i ∧ i < P + S
  · have : i - P < 64 := by omega
    rw [if_pos hc]; simp [hc.1, hc.2, this]
  · rw [if_neg hc]
    have : (decide (P ≤ i) && decide (i < P + S)) = false := by
      rw [Bool.and_eq_false_iff]
      simp only [decide_eq_false_iff_not]
      omega
    rw [this, Bool.or_false]
theorem no_bits (w P S : Nat) (h : P + S ≤ 64) (hw : w < 2 ^ 64) : put w P S 0 = w - (w &&& mk P S) := by
  rw [sub_and w _ hw]
  apply Nat.eq_of_testBit_eq
  intro i
  rw [tb_put w P S _ i h hw, Nat.testBit_xor, Nat.testBit_and, tb_mk]
  by_cases hc : P ≤ i ∧ i < P + S
  · rw [if_pos hc]; simp [hc.1, hc.2]
  · rw [if_neg hc]
    have : (decide (P ≤ i) && decide (i < P + S)) = false := by
      rw [Bool.and_eq_false_iff]
      simp only [decide_eq_false_iff_not]
      omega
    rw [this, Bool.and_false, Bool.xor_false]
theorem get_mk (P S : Nat) (h : P + S ≤ 64) : get (mk P S) P S = get 18446744073709551615 0 S := by
  apply Nat.eq_of_testBit_eq
  intro i
  rw [tb_get, tb_get, tb_mk, show (18446744073709551615 : Nat) = 2 ^ 64 - 1 from rfl, Nat.testBit_two_pow_sub_one, Nat.zero_add]
  by_cases hi : i < S
  · have a1 : P ≤ P + i := by omega
    have a2 : P + i < P + S := by omega
    have a3 : i < 64 := by omega
    simp [hi, a1, a2, a3]
  · simp [hi]
theorem FieldMasks : lookasidelaw01_FieldMasks.Pure := by
  intro w p s hw0 hp0 hs0
  obtain ⟨w, rfl, hw⟩ := wf_u64 hw0
  refine ⟨200, ?_⟩
  unfold lookasidelaw01_FieldMasks.f
  by_cases h : May p s
  · obtain ⟨P, S, rfl, rfl, h1, h2⟩ := may_nat h
    have p1 := put_yes w 18446744073709551615 hw (by decide) h1 h2
    have p2 := put_yes w 0 hw (by decide) h1 h2
    have hm := mk_lt P S h2
    have la : w &&& mk P S ≤ w := Nat.and_le_left
    have r := rget_yes (P := 0) (S := S) 200 18446744073709551615 (by decide) (by decide) h1 (by omega)
    rw [all_bits w P S h2 hw, show ((18446744073709551615 : Nat) : Int) = 18446744073709551615 from rfl] at p1
    rw [no_bits w P S h2 hw, show ((0 : Nat) : Int) = 0 from rfl] at p2
    rw [← get_mk P S h2, show ((0 : Nat) : Int) = 0 from rfl, show ((18446744073709551615 : Nat) : Int) = 18446744073709551615 from rfl] at r
    have e : IntKind.u64.wrap ((w : Int) - ((w &&& mk P S : Nat) : Int)) = ((w - (w &&& mk P S) : Nat) : Int) := by
      rw [show (w : Int) - ((w &&& mk P S : Nat) : Int) = ((w - (w &&& mk P S) : Nat) : Int) by omega]
      exact wrapu_nat _ (by omega)
    rw [mask_yes h1 h2, Option.bind_some, rmay_eq, Option.bind_some, p1, Option.bind_some, p2, Option.bind_some, if_pos (decide_eq_true h), or_nat _ _ hw hm, if_pos rfl, and_nat _ _ hw hm, e, if_pos rfl, get_yes _ hm h1 h2, Option.bind_some, r, Option.bind_some, if_pos rfl, lives, Option.bind_some]
  · rw [mask_no h, Option.bind_some, rmay_eq, Option.bind_some, put_no _ _ h, Option.bind_some, put_no _ _ h, Option.bind_some, if_neg (by rw [decide_eq_false h]; exact Bool.false_ne_true), if_pos rfl, if_pos rfl, if_pos rfl, lives, Option.bind_some]
end Go.Proofs.Ytlkojjkgbcpjjaa.Pure

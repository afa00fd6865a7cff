/- The law FieldGets of layer 1: whether there is a field, what stands in it, its bits and a number put there are told as the reference tells them, for every word, place, size and number. -/
import Derived.Test.YtlkojjkgbcpjjaaFieldP
namespace Go.Proofs.Ytlkojjkgbcpjjaa.Pure
open Go.RowKit Go.Proofs.Ytlkojjkgbcpjjaa.PA Go.Proofs.Ytlkojjkgbcpjjaa.BitsN Go.Proofs.Ytlkojjkgbcpjjaa.FieldG  Go.Proofs.Ytlkojjkgbcpjjaa.FieldP Go.Proofs.YtlkojjkgbcpjjaaW.PrintWords Go.Proofs.YtlkojjkgbcpjjaaW.PrintLast Go.Proofs.YtlkojjkgbcpjjaaW.PrintMore
set_option linter.unusedVariables false
set_option linter.unusedSimpArgs false

theorem put_ones (P S : Nat) (h : P + S ≤ 64) : put 0 P S 18446744073709551615 = mk P S := by
  apply Nat.eq_of_testBit_eq
  intro i
  rw [tb_put 0 P S _ i h (by decide), tb_mk, show (18446744073709551615 : Nat) = 2 ^ 64 - 1 from rfl, Nat.testBit_two_pow_sub_one]
  by_cases hc : P ≤ i ∧ i < P + S
  · have : i - P < 64 := by omega
    rw [if_pos hc]; simp [hc.1, hc.2, this]
  · rw [if_neg hc, Nat.zero_testBit]
    rw [eq_comm, Bool.and_eq_false_iff]
    simp only [decide_eq_false_iff_not]
    omega
theorem FieldGets : lookasidelaw01_FieldGets.Pure := by
  intro w p s v hw0 hp0 hs0 hv0
  obtain ⟨w, rfl, hw⟩ := wf_u64 hw0
  obtain ⟨v, rfl, hv⟩ := wf_u64 hv0
  refine ⟨200, ?_⟩
  unfold lookasidelaw01_FieldGets.f
  by_cases h : May p s
  · obtain ⟨P, S, rfl, rfl, h1, h2⟩ := may_nat h
    have r1 := rput_yes 200 0 18446744073709551615 (by decide) (by decide) (by decide) h1 h2
    rw [put_ones P S h2, show ((0 : Nat) : Int) = 0 from rfl, show ((18446744073709551615 : Nat) : Int) = 18446744073709551615 from rfl] at r1
    rw [r1, Option.bind_some, may_eq, Option.bind_some, rmay_eq, Option.bind_some, beq_self_eq_true, if_pos rfl, get_yes w hw h1 h2, Option.bind_some, rget_yes 200 w (by decide) hw h1 h2, Option.bind_some, if_pos rfl, put_yes w v hw hv h1 h2, Option.bind_some, rput_yes 200 w v (by decide) hw hv h1 h2, Option.bind_some, if_pos rfl, mask_yes h1 h2, Option.bind_some, if_pos rfl, lives, Option.bind_some]
  · rw [rput_no 200 0 _ h, Option.bind_some, may_eq, Option.bind_some, rmay_eq, Option.bind_some, beq_self_eq_true, if_pos rfl, get_no _ h, Option.bind_some, rget_no 199 _ h, Option.bind_some, if_pos rfl, put_no _ _ h, Option.bind_some, rput_no 200 _ _ h, Option.bind_some, if_pos rfl, mask_no h, Option.bind_some, if_pos rfl, lives, Option.bind_some]
end Go.Proofs.Ytlkojjkgbcpjjaa.Pure

/- The law FieldBits of layer 1: bits are fields of size 1, and one that is set is told, for every word, place and truth. -/
import Derived.Test.YtlkojjkgbcpjjaaFieldP
import Derived.Test.YtlkojjkgbcpjjaaPAx7
namespace Go.Proofs.Ytlkojjkgbcpjjaa.Pure
open Go.RowKit Go.Proofs.Ytlkojjkgbcpjjaa.PA Go.Proofs.Ytlkojjkgbcpjjaa.BitsN Go.Proofs.Ytlkojjkgbcpjjaa.FieldG  Go.Proofs.Ytlkojjkgbcpjjaa.FieldP Go.Proofs.YtlkojjkgbcpjjaaW.PrintWords Go.Proofs.YtlkojjkgbcpjjaaW.PrintLast Go.Proofs.YtlkojjkgbcpjjaaW.PrintMore
set_option linter.unusedVariables false
set_option linter.unusedSimpArgs false

theorem set_yes (w P : Nat) (b : Bool) (hw : w < 2 ^ 64) (hP : P < 64) : field_Set.f w P b = some ((put w P 1 (if b = true then 1 else 0) : Nat) : Int) := by
  unfold field_Set.f
  cases b with
  | true =>
    have := put_yes (P := P) (S := 1) w 1 hw (by decide) (by decide) (by omega)
    rw [show ((1 : Nat) : Int) = 1 from rfl] at this
    rw [if_pos rfl, this, Option.bind_some]
    rfl
  | false =>
    have := put_yes (P := P) (S := 1) w 0 hw (by decide) (by decide) (by omega)
    rw [show ((1 : Nat) : Int) = 1 from rfl, show ((0 : Nat) : Int) = 0 from rfl] at this
    rw [if_neg Bool.false_ne_true, this, Option.bind_some]
    rfl
theorem bit_put (w P v : Nat) (hw : w < 2 ^ 64) (hP : P < 64) (hv : v < 2) : get (put w P 1 v) P 1 = v := by
  have : get (put w P 1 v) P 1 = v % 2 ^ 1 := by
    apply Nat.eq_of_testBit_eq
    intro i
    rw [tb_get, tb_put w P 1 v _ (by omega) hw, Nat.testBit_mod_two_pow]
    by_cases hi : i < 1
    · rw [if_pos (by omega), show P + i - P = i by omega]
    · simp [hi]
  rw [this]
  omega
theorem j0_true (w : Nat) (p : Int) (b : Bool) (v : Int) (hv : v = ((if b = true then 1 else 0 : Nat) : Int)) (hw : w < 2 ^ 64) (k : Nat) (hk : 131 ≤ k) : lookasidelaw01_FieldBits.j0 (k + 1) w p b v = some true := by
  rw [lookasidelaw01_FieldBits.j0]
  by_cases h : May p 1
  · obtain ⟨P, S, rfl, hS, h1, h2⟩ := may_nat h
    obtain rfl : S = 1 := by omega
    have hv2 : (if b = true then 1 else 0 : Nat) < 2 := by cases b <;> decide
    have s1 := set_yes w P b hw (by omega)
    have lp := put_lt w P 1 (if b = true then 1 else 0) h2 hw
    have r1 := rput_yes (P := P) (S := 1) k w (if b = true then 1 else 0) (by omega) hw (by omega) h1 h2
    have g1 := get_yes (P := P) (S := 1) w hw h1 h2
    have rg := rget_yes (P := P) (S := 1) k w (by omega) hw h1 h2
    have g2 := get_yes (P := P) (S := 1) _ lp h1 h2
    rw [bit_put w P _ hw (by omega) hv2] at g2
    rw [show ((1 : Nat) : Int) = 1 from rfl] at r1 g1 rg g2
    rw [← hv] at r1 g2
    have eb : field_Bit.f w P = some ((((get w P 1 : Nat) : Int)) == 1) := by unfold field_Bit.f; rw [g1, Option.bind_some]
    have eb2 : field_Bit.f ((put w P 1 (if b = true then 1 else 0) : Nat) : Int) P = some (v == 1) := by unfold field_Bit.f; rw [g2, Option.bind_some]
    have vb : (v == 1) = b := by rw [hv]; cases b <;> rfl
    rw [s1, Option.bind_some, rmay_eq, Option.bind_some, r1, Option.bind_some, if_pos rfl, eb, Option.bind_some, rg, Option.bind_some, beq_self_eq_true, if_pos rfl, if_pos (decide_eq_true h), eb2, Option.bind_some, vb, beq_self_eq_true, if_pos rfl, lives, Option.bind_some]
  · have s1 : field_Set.f w p b = some (w : Int) := by
      unfold field_Set.f
      cases b with
      | true => rw [if_pos rfl, put_no _ _ h, Option.bind_some]
      | false => rw [if_neg Bool.false_ne_true, put_no _ _ h, Option.bind_some]
    have eb : field_Bit.f w p = some ((0 : Int) == 1) := by unfold field_Bit.f; rw [get_no _ h, Option.bind_some]
    obtain ⟨k, rfl⟩ : ∃ m, k = m + 1 := ⟨k - 1, by omega⟩
    rw [s1, Option.bind_some, rmay_eq, Option.bind_some, rput_no _ _ _ h, Option.bind_some, if_pos rfl, eb, Option.bind_some, rget_no k _ h, Option.bind_some, beq_self_eq_true, if_pos rfl, if_neg (by rw [decide_eq_false h]; exact Bool.false_ne_true), lives, Option.bind_some]
theorem FieldBits : lookasidelaw01_FieldBits.Pure := by
  intro w p b hw0 hp0
  obtain ⟨w, rfl, hw⟩ := wf_u64 hw0
  refine ⟨200, ?_⟩
  unfold lookasidelaw01_FieldBits.f
  cases b with
  | true => rw [if_pos rfl]; exact j0_true w p true 1 rfl hw 199 (by decide)
  | false => rw [if_neg Bool.false_ne_true]; exact j0_true w p false 0 rfl hw 199 (by decide)
end Go.Proofs.Ytlkojjkgbcpjjaa.Pure

import Derived.Test.YtcbnmmkmgpbfiaaPSx8O
import Derived.Test.YtcbnmmkmgpbfiaaPSx6O
import Derived.Test.YtcbnmmkmgpbfiaaPSx4O
import Derived.Lib.Builder
import Derived.OneCell
import Derived.Test.YtcbnmmkmgpbfiaaPSx9O
namespace Go.Proofs.Ytcbnmmkmgpbfiaa.PS
open Go.RowKit Go.Proofs.YtcbnmmkmgpbfiaaW.PrintWords Go.Proofs.YtcbnmmkmgpbfiaaW.PrintLast Go.Proofs.YtcbnmmkmgpbfiaaW.PrintMore
attribute [local go_sem] max2_int min2_int max_two min_two max_three min_three max_four min_four   -- for this text's walks alone
set_option linter.unusedVariables false
set_option linter.unusedSimpArgs false
theorem wi (n : Int) (h0 : -9223372036854775808 ≤ n) (h1 : n ≤ 9223372036854775807) : wrap64 n = n := by unfold wrap64; omega
theorem rd30 {l : List S30} {j : Nat} (hj : j < l.length) : rd_T30 l j = l[j] := by simp [rd_T30, List.getD_eq_getElem?_getD, List.getElem?_eq_getElem hj]
theorem rd32 {l : List S32} {j : Nat} (hj : j < l.length) : rd_T32 l j = l[j] := by simp [rd_T32, List.getD_eq_getElem?_getD, List.getElem?_eq_getElem hj]
/-! What makes such as may be tells something always. -/
theorem base_some (a s : Int) : ∃ v, lookasideref02_Base.f a s = some v := by
  unfold lookasideref02_Base.f lookasideref02_May.f
  by_cases h0 : s = 0
  · subst h0; exact ⟨_, by simp [lookasideref02_Bytes.f]; rfl⟩
  by_cases h1 : s = 1
  · subst h1; exact ⟨_, by simp [lookasideref02_Bytes.f]; rfl⟩
  by_cases h2 : s = 2
  · subst h2; exact ⟨_, by simp [lookasideref02_Bytes.f]; rfl⟩
  by_cases h3 : s = 3
  · subst h3; exact ⟨_, by simp [lookasideref02_Bytes.f]; rfl⟩
  refine ⟨0, ?_⟩
  by_cases h : s ≥ 0
  · rw [if_pos h]
    simp only [Option.bind_some]
    rw [if_neg (by simp; omega)]
  · rw [if_neg h]
    rfl
theorem bit_l0 (n : Nat) (hn : n ≤ 1000) : ∀ (k j : Nat) (a : Int), j ≤ n → n < j + k → ∃ v, lookasideref01_Bit.l0 k a n j = some v
  | 0, j, a, h1, h2 => by omega
  | k + 1, j, a, h1, h2 => by
    unfold lookasideref01_Bit.l0
    by_cases hj : j < n
    · rw [if_pos (by omega), wi _ (by omega) (by omega)]
      exact bit_l0 n hn k (j + 1) _ (by omega) (by omega)
    · rw [if_neg (by omega)]
      exact ⟨_, rfl⟩
theorem va_some (k : Nat) (hk : 50 ≤ k) (a : Int) : ∃ v, lookasideref02_Va.f k a = some v := by
  unfold lookasideref02_Va.f lookasideref01_Bit.f
  obtain ⟨v, hv⟩ := bit_l0 43 (by omega) k 0 a (by omega) (by omega)
  rw [show ((43 : Nat) : Int) = 43 from rfl, show ((0 : Nat) : Int) = 0 from rfl] at hv
  rw [hv]
  simp only [Option.bind_some]
  split <;> exact ⟨_, rfl⟩
theorem lives_true : lookasidelaw19_lives.f = some true := by decide +kernel
end Go.Proofs.Ytcbnmmkmgpbfiaa.PS


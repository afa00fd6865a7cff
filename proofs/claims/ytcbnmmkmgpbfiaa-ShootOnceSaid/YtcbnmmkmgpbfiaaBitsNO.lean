import Derived.Laws.BitsLemmas
import Derived.Laws.Bits64
import Derived.Test.YtcbnmmkmgpbfiaaWMoreO
namespace Go.Proofs.Ytcbnmmkmgpbfiaa.BitsN
open Go.Proofs.YtcbnmmkmgpbfiaaW.PrintMore

theorem w64 (n : Int) (h₀ : 0 ≤ n) (h₁ : n < 2 ^ 64) : IntKind.u64.wrap n = n := by rw [IntKind.wrap_u64]; omega
theorem and_nat (a b : Nat) (ha : a < 2 ^ 64) (hb : b < 2 ^ 64) : Go.bits .and .u64 (a : Int) (b : Int) = ((a &&& b : Nat) : Int) := (bits_nat .u64 64 (by decide) w64 a b ha hb).1
/-- the field's mask -/
def mk (P S : Nat) : Nat := (2 ^ S - 1) * 2 ^ P
theorem tb_mk (P S i : Nat) : (mk P S).testBit i = (decide (P ≤ i) && decide (i < P + S)) := by
  unfold mk
  rw [Nat.testBit_mul_two_pow, Nat.testBit_two_pow_sub_one]
  by_cases h : P ≤ i
  · have : (i - P < S) ↔ (i < P + S) := by omega
    simp [h, this]
  · simp [h]
theorem mk_lt (P S : Nat) (h : P + S ≤ 64) : mk P S < 2 ^ 64 := by
  unfold mk
  have h1 : 0 < 2 ^ S := Nat.two_pow_pos S
  have h2 : (2 ^ S - 1) * 2 ^ P < 2 ^ S * 2 ^ P := Nat.mul_lt_mul_of_pos_right (by omega) (Nat.two_pow_pos P)
  rw [← Nat.pow_add] at h2
  exact Nat.lt_of_lt_of_le h2 (Nat.pow_le_pow_right (by decide) (by omega))
/-- what stands in the field -/
def get (w P S : Nat) : Nat := w / 2 ^ P % 2 ^ S
theorem tb_get (w P S i : Nat) : (get w P S).testBit i = (decide (i < S) && w.testBit (P + i)) := by
  unfold get
  rw [Nat.testBit_mod_two_pow, Nat.testBit_div_two_pow, Nat.add_comm]
theorem and_mk_div (w P S : Nat) : (w &&& mk P S) / 2 ^ P = get w P S := by
  apply Nat.eq_of_testBit_eq
  intro i
  rw [Nat.testBit_div_two_pow, Nat.testBit_and, tb_mk, tb_get, Nat.add_comm i P]
  have : P ≤ P + i := by omega
  have h2 : (P + i < P + S) ↔ i < S := by omega
  simp [this, h2, Bool.and_comm]
/-- a word with a number in the field -/
def put (w P S v : Nat) : Nat := (w &&& (2 ^ 64 - (mk P S + 1))) ||| (v * 2 ^ P % 2 ^ 64 &&& mk P S)
end Go.Proofs.Ytcbnmmkmgpbfiaa.BitsN


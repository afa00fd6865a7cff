/- Pages' bases: the program's and the reference's. -/
import Derived.Test.YtcbnmmkmgpbfiaaPSx10O
import Derived.Test.YtcbnmmkmgpbfiaaFieldGO
set_option linter.unusedVariables false
set_option linter.unusedSimpArgs false
namespace Go.Proofs.Ytcbnmmkmgpbfiaa.PageG
open Go.RowKit Go.Proofs.Ytcbnmmkmgpbfiaa.PS Go.Proofs.Ytcbnmmkmgpbfiaa.BitsN Go.Proofs.YtcbnmmkmgpbfiaaW.PrintWords Go.Proofs.YtcbnmmkmgpbfiaaW.PrintLast Go.Proofs.YtcbnmmkmgpbfiaaW.PrintMore
theorem pmay (s : Int) : page_May.f s = some (decide (0 ≤ s ∧ s < 4)) := by
  unfold page_May.f
  split
  · congr 1; rw [Bool.eq_iff_iff]; simp; omega
  · congr 1; rw [Bool.eq_iff_iff]; simp; omega
theorem rmay (s : Int) : lookasideref02_May.f s = some (decide (0 ≤ s ∧ s < 4)) := by
  unfold lookasideref02_May.f
  split
  · congr 1; rw [Bool.eq_iff_iff]; simp; omega
  · congr 1; rw [Bool.eq_iff_iff]; simp; omega
theorem pbits (s : Nat) (h : s < 4) : page_Bits.f s = some ((13 + 3 * s : Nat) : Int) := by
  have : s = 0 ∨ s = 1 ∨ s = 2 ∨ s = 3 := by omega
  rcases this with rfl | rfl | rfl | rfl <;> decide +kernel
theorem rbytes (s : Nat) (h : s < 4) : lookasideref02_Bytes.f s = some ((2 ^ (13 + 3 * s) : Nat) : Int) := by
  have : s = 0 ∨ s = 1 ∨ s = 2 ∨ s = 3 := by omega
  rcases this with rfl | rfl | rfl | rfl <;> decide +kernel
theorem tmod_nat (a b : Nat) : Int.tmod (a : Int) (b : Int) = ((a % b : Nat) : Int) := by
  rw [Int.tmod_eq_emod_of_nonneg (by omega)]; omega
theorem tdiv_nat (a b : Nat) : Int.tdiv (a : Int) (b : Int) = ((a / b : Nat) : Int) := by
  rw [Int.tdiv_eq_ediv_of_nonneg (by omega)]; exact (Int.natCast_ediv a b).symm
theorem wu (n : Int) (h0 : 0 ≤ n) (h1 : n < 18446744073709551616) : IntKind.u64.wrap n = n := by rw [IntKind.wrap_u64]; omega
theorem pow_pos' (s : Nat) : 0 < 2 ^ (13 + 3 * s) := Nat.two_pow_pos _
/-- Where the page of an address begins. -/
def bs (va s : Nat) : Nat := va / 2 ^ (13 + 3 * s) * 2 ^ (13 + 3 * s)
theorem bs_le (va s : Nat) : bs va s ≤ va := Nat.div_mul_le_self _ _
theorem base_r (va s : Nat) (hv : va < 2 ^ 64) (hs : s < 4) : lookasideref02_Base.f va s = some ((bs va s : Nat) : Int) := by
  unfold lookasideref02_Base.f
  rw [rmay]
  rw [Option.bind_some]
  rw [if_pos (by simp; omega), rbytes s hs]
  rw [Option.bind_some]
  have hp := pow_pos' s
  rw [if_neg (by omega)]
  rw [Option.bind_some]
  rw [tdiv_nat]
  have hle : va / 2 ^ (13 + 3 * s) * 2 ^ (13 + 3 * s) ≤ va := Nat.div_mul_le_self _ _
  have hd : va / 2 ^ (13 + 3 * s) ≤ va := Nat.div_le_self _ _
  unfold bs
  generalize va / 2 ^ (13 + 3 * s) = q at *
  generalize 2 ^ (13 + 3 * s) = m at *
  rw [wu (q : Int) (by omega) (by omega), ← Int.natCast_mul, wu _ (by omega) (by omega)]
theorem off_p (va s : Nat) (hv : va < 2 ^ 64) (hs : s < 4) : page_Offset.f va s = some ((va % 2 ^ (13 + 3 * s) : Nat) : Int) := by
  unfold page_Offset.f
  rw [pmay]
  rw [Option.bind_some]
  rw [if_pos (by simp; omega), pbits s hs]
  rw [Option.bind_some]
  have hg := FieldG.get_yes (P := 0) (S := 13 + 3 * s) va hv (by omega) (by omega)
  rw [show ((0 : Nat) : Int) = 0 from rfl] at hg
  rw [hg]
  rw [Option.bind_some]
  unfold BitsN.get
  simp only [Nat.pow_zero, Nat.div_one]
theorem base_p (va s : Nat) (hv : va < 2 ^ 64) (hs : s < 4) : page_Base.f va s = some ((bs va s : Nat) : Int) := by
  unfold page_Base.f
  rw [pmay]
  rw [Option.bind_some]
  rw [if_pos (by simp; omega), off_p va s hv hs]
  rw [Option.bind_some]
  have h1 : bs va s + va % 2 ^ (13 + 3 * s) = va := by unfold bs; rw [Nat.mul_comm]; exact Nat.div_add_mod _ _
  rw [wu _ (by omega) (by omega)]
  congr 1
  omega
theorem in_p (a b s : Nat) (ha : a < 2 ^ 64) (hb : b < 2 ^ 64) (hs : s < 4) : page_In.f a b s = some (decide (bs a s = bs b s)) := by
  unfold page_In.f
  rw [pmay]
  rw [Option.bind_some]
  rw [if_pos (by simp; omega), base_p a s ha hs]
  rw [Option.bind_some]
  rw [base_p b s hb hs]
  rw [Option.bind_some]
  congr 1
  rw [Bool.eq_iff_iff]
  simp
  omega
theorem meet_p (a m b n : Nat) (ha : a < 2 ^ 64) (hb : b < 2 ^ 64) (hm : m < 4) (hn : n < 4) : page_Meet.f a m b n = some (decide (bs a (max m n) = bs b (max m n))) := by
  unfold page_Meet.f
  rw [pmay]
  rw [Option.bind_some]
  rw [if_pos (by simp; omega), pmay]
  rw [Option.bind_some]
  rw [if_pos (by simp; omega)]
  have hmx : mx (m : Int) (n : Int) = ((max m n : Nat) : Int) := by unfold mx; split <;> omega
  rw [hmx, in_p a b (max m n) ha hb (by omega)]
  rw [Option.bind_some]
theorem meet_ar (a m b n : Nat) (hm : m < 4) (hn : n < 4) : (bs a (max m n) = bs b (max m n)) ↔ ((bs b n ≤ bs a m ∧ bs a m - bs b n < 2 ^ (13 + 3 * n)) ∨ (bs a m ≤ bs b n ∧ bs b n - bs a m < 2 ^ (13 + 3 * m))) := by
  have h1 : m = 0 ∨ m = 1 ∨ m = 2 ∨ m = 3 := by omega
  have h2 : n = 0 ∨ n = 1 ∨ n = 2 ∨ n = 3 := by omega
  unfold bs
  rcases h1 with rfl | rfl | rfl | rfl <;> rcases h2 with rfl | rfl | rfl | rfl <;>
    (simp only [Nat.reduceMul, Nat.reduceAdd, Nat.reducePow, Nat.max_self, Nat.zero_max, Nat.max_zero, show max 1 2 = 2 from rfl, show max 1 3 = 3 from rfl, show max 2 1 = 2 from rfl, show max 2 3 = 3 from rfl, show max 3 1 = 3 from rfl, show max 3 2 = 3 from rfl]; omega)
theorem meet_r (k a m b n : Nat) (ha : a < 2 ^ 64) (hb : b < 2 ^ 64) (hm : m < 4) (hn : n < 4) : lookasideref02_Meet.f (k + 1) a m b n = some (decide (bs a (max m n) = bs b (max m n))) := by
  have hx := bs_le a m
  have hy := bs_le b n
  have har := meet_ar a m b n hm hn
  unfold lookasideref02_Meet.f
  rw [rmay]
  rw [Option.bind_some]
  rw [rmay]
  rw [Option.bind_some]
  rw [if_pos (by simp; omega), lookasideref02_Meet.j0, if_neg (by simp; omega), base_r a m ha hm]
  rw [Option.bind_some]
  rw [base_r b n hb hn]
  rw [Option.bind_some]
  generalize bs a m = x at *
  generalize bs b n = y at *
  have hM := pow_pos' m
  have hN := pow_pos' n
  rw [rbytes m hm, rbytes n hn]
  generalize 2 ^ (13 + 3 * m) = M at *
  generalize 2 ^ (13 + 3 * n) = N at *
  by_cases h1 : (y : Int) ≤ (x : Int)
  · rw [if_pos h1]
    rw [Option.bind_some]
    rw [wu ((x : Int) - y) (by omega) (by omega)]
    by_cases h2 : ((x : Int) - y) < N
    · rw [if_pos h2]
      congr 1
      exact (decide_eq_true (har.2 (.inl ⟨by omega, by omega⟩))).symm
    · rw [if_neg h2]
      by_cases h3 : (y : Int) ≥ (x : Int)
      · rw [if_pos h3]
        rw [Option.bind_some]
        rw [wu ((y : Int) - x) (by omega) (by omega)]
        congr 1
        rw [Bool.eq_iff_iff]
        simp only [decide_eq_true_eq]
        rw [har]
        omega
      · rw [if_neg h3]
        congr 1
        exact (decide_eq_false (fun h => by have := har.1 h; omega)).symm
  · rw [if_neg h1, if_pos (by omega)]
    rw [Option.bind_some]
    rw [wu ((y : Int) - x) (by omega) (by omega)]
    congr 1
    rw [Bool.eq_iff_iff]
    simp only [decide_eq_true_eq]
    rw [har]
    omega
end Go.Proofs.Ytcbnmmkmgpbfiaa.PageG


/- Keys and chains of layer 11: which keys may be, which chain is whose: the program's and the reference's. -/
import Derived.Test.YtgmdlndiilibpaaPHx5
import Derived.Test.YtgmdlndiilibpaaFieldG
set_option linter.unusedVariables false
set_option linter.unusedSimpArgs false
namespace Go.Proofs.Ytgmdlndiilibpaa.KeyG
open Go.RowKit Go.Proofs.Ytgmdlndiilibpaa.PH Go.Proofs.Ytgmdlndiilibpaa.BitsN Go.Proofs.YtgmdlndiilibpaaW.PrintWords Go.Proofs.YtgmdlndiilibpaaW.PrintLast Go.Proofs.YtgmdlndiilibpaaW.PrintMore
theorem pmay (s : Int) : page_May.f s = some (decide (0 ≤ s ∧ s < 4)) := by
  unfold page_May.f
  split
  · congr 1; rw [Bool.eq_iff_iff]; simp; omega
  · congr 1; rw [Bool.eq_iff_iff]; simp; omega
theorem rmay (s : Int) : lookasideref02_May.f s = some (decide (0 ≤ s ∧ s < 4)) := by
  unfold lookasideref02_May.f
  split
  · congr 1; rw [Bool.eq_iff_iff]; simp; omega
  · congr 1; rw [Bool.eq_iff_iff]; simp; omega
theorem pbits (s : Nat) (h : s < 4) : page_Bits.f s = some ((13 + 3 * s : Nat) : Int) := by
  have : s = 0 ∨ s = 1 ∨ s = 2 ∨ s = 3 := by omega
  rcases this with rfl | rfl | rfl | rfl <;> decide +kernel
theorem rbytes (s : Nat) (h : s < 4) : lookasideref02_Bytes.f s = some ((2 ^ (13 + 3 * s) : Nat) : Int) := by
  have : s = 0 ∨ s = 1 ∨ s = 2 ∨ s = 3 := by omega
  rcases this with rfl | rfl | rfl | rfl <;> decide +kernel
theorem tmod_nat (a b : Nat) : Int.tmod (a : Int) (b : Int) = ((a % b : Nat) : Int) := by
  rw [Int.tmod_eq_emod_of_nonneg (by omega)]; omega
theorem tdiv_nat (a b : Nat) : Int.tdiv (a : Int) (b : Int) = ((a / b : Nat) : Int) := by
  rw [Int.tdiv_eq_ediv_of_nonneg (by omega)]; exact (Int.natCast_ediv a b).symm
theorem wi (n : Int) (h0 : -9223372036854775808 ≤ n) (h1 : n ≤ 9223372036854775807) : wrap64 n = n := by unfold wrap64; omega
theorem wu (n : Int) (h0 : 0 ≤ n) (h1 : n < 18446744073709551616) : IntKind.u64.wrap n = n := by rw [IntKind.wrap_u64]; omega
/-- Whether an address begins a page of the size s. -/
def startsB (va : Nat) (s : Int) : Bool := decide ((0 ≤ s ∧ s < 4) ∧ va % 2 ^ (13 + 3 * s.toNat) = 0)
theorem pow_pos' (s : Nat) : 0 < 2 ^ (13 + 3 * s) := Nat.two_pow_pos _
theorem starts_p (va : Nat) (s : Int) (hv : va < 2 ^ 64) : page_Starts.f va s = some (startsB va s) := by
  unfold page_Starts.f page_Offset.f
  rw [pmay]
  rw [Option.bind_some]
  by_cases h : 0 ≤ s ∧ s < 4
  · obtain ⟨S, rfl⟩ : ∃ S : Nat, s = S := ⟨s.toNat, by omega⟩
    have hS : S < 4 := by omega
    rw [if_pos (by simpa using h), pbits S hS]
    rw [Option.bind_some]
    rw [if_pos (by simpa using h)]
    rw [Option.bind_some]
    have hg := FieldG.get_yes (P := 0) (S := 13 + 3 * S) va hv (by omega) (by omega)
    rw [show ((0 : Nat) : Int) = 0 from rfl] at hg
    rw [hg]
    rw [Option.bind_some, Option.bind_some]
    unfold BitsN.get startsB
    simp only [Nat.pow_zero, Nat.div_one, Int.toNat_natCast]
    congr 1
    by_cases hz : va % 2 ^ (13 + 3 * S) = 0
    · rw [decide_eq_true (⟨h, hz⟩ : (0 ≤ (S : Int) ∧ (S : Int) < 4) ∧ va % 2 ^ (13 + 3 * S) = 0), hz]; rfl
    · rw [decide_eq_false (fun hh : (0 ≤ (S : Int) ∧ (S : Int) < 4) ∧ va % 2 ^ (13 + 3 * S) = 0 => hz hh.2), beq_eq_false_iff_ne]; omega
  · rw [if_neg (by simpa using h)]
    unfold startsB
    simp [h]
theorem starts_r (va : Nat) (s : Int) (hv : va < 2 ^ 64) : lookasideref02_Starts.f va s = some (startsB va s) := by
  unfold lookasideref02_Starts.f
  rw [rmay]
  rw [Option.bind_some]
  by_cases h : 0 ≤ s ∧ s < 4
  · obtain ⟨S, rfl⟩ : ∃ S : Nat, s = S := ⟨s.toNat, by omega⟩
    have hS : S < 4 := by omega
    have hp := pow_pos' S
    rw [if_pos (by simpa using h), rbytes S hS]
    rw [Option.bind_some]
    rw [if_neg (by omega), tmod_nat]
    unfold startsB
    simp only [Int.toNat_natCast]
    congr 1
    by_cases hz : va % 2 ^ (13 + 3 * S) = 0
    · rw [decide_eq_true (⟨h, hz⟩ : (0 ≤ (S : Int) ∧ (S : Int) < 4) ∧ va % 2 ^ (13 + 3 * S) = 0), hz]; rfl
    · rw [decide_eq_false (fun hh : (0 ≤ (S : Int) ∧ (S : Int) < 4) ∧ va % 2 ^ (13 + 3 * S) = 0 => hz hh.2), beq_eq_false_iff_ne]; omega
  · rw [if_neg (by simpa using h)]
    unfold startsB
    simp [h]
/-- Whether a key may be. -/
def mayB (sp : Int) (va : Nat) (s : Int) : Bool := decide (0 ≤ sp ∧ sp < 64) && startsB va s
theorem may_p (sp : Int) (va : Nat) (s : Int) (hv : va < 2 ^ 64) : hash_May.f sp va s = some (mayB sp va s) := by
  unfold hash_May.f mayB
  rw [starts_p va s hv]
  rw [Option.bind_some]
  generalize startsB va s = z
  by_cases h0 : sp ≥ 0
  · by_cases h1 : sp < 64
    · rw [if_pos h0, if_pos h1]; simp [h0, h1]
    · rw [if_pos h0, if_neg h1]; simp [h1]
  · rw [if_neg h0]; simp [h0]
theorem may_r (sp : Int) (va : Nat) (s : Int) (hv : va < 2 ^ 64) : lookasideref11_May.f sp va s = some (mayB sp va s) := by
  unfold lookasideref11_May.f mayB
  rw [starts_r va s hv]
  rw [Option.bind_some]
  generalize startsB va s = z
  by_cases h0 : sp ≥ 0
  · by_cases h1 : sp ≤ 63
    · rw [if_pos h0, if_pos h1, decide_eq_true (show 0 ≤ sp ∧ sp < 64 by omega)]; simp
    · rw [if_pos h0, if_neg h1, decide_eq_false (show ¬ (0 ≤ sp ∧ sp < 64) by omega)]; simp
  · rw [if_neg h0, decide_eq_false (show ¬ (0 ≤ sp ∧ sp < 64) by omega)]; simp
/-- Which chain is whose. -/
def chN (sp va s n : Nat) : Nat := (va / 2 ^ (13 + 3 * s) + 7 * s + 31 * sp) % n
theorem div_lt (va s : Nat) (hv : va < 2 ^ 64) : va / 2 ^ (13 + 3 * s) < 2 ^ 51 := by
  refine Nat.lt_of_le_of_lt (Nat.div_le_div_left (c := 2 ^ 13) ?_ (by omega)) (by omega)
  exact Nat.pow_le_pow_right (by omega) (by omega)
theorem ch_p (sp va s n : Nat) (hsp : sp < 64) (hv : va < 2 ^ 64) (hs : s < 4) (hn : 0 < n) (hn2 : n ≤ 10000000) : hash_Chain.f sp va s n = some ((chN sp va s n : Nat) : Int) := by
  unfold hash_Chain.f chN
  rw [pbits s hs]
  rw [Option.bind_some]
  have hd := div_lt va s hv
  have hw : wrap64 (7 * (s : Int)) = ((7 * s : Nat) : Int) := by rw [wi _ (by omega) (by omega)]; omega
  have hw2 : wrap64 (31 * (sp : Int)) = ((31 * sp : Nat) : Int) := by rw [wi _ (by omega) (by omega)]; omega
  rw [if_pos (by omega), wu (n : Int) (by omega) (by omega), if_neg (by omega), FieldG.shr_nat _ _ (by omega), hw, hw2]
  generalize va / 2 ^ (13 + 3 * s) = q at hd ⊢
  rw [wu ((7 * s : Nat) : Int) (by omega) (by omega), wu ((31 * sp : Nat) : Int) (by omega) (by omega), ← Int.natCast_add, wu ((q + 7 * s : Nat) : Int) (by omega) (by omega), ← Int.natCast_add, wu ((q + 7 * s + 31 * sp : Nat) : Int) (by omega) (by omega), tmod_nat]
  have : (q + 7 * s + 31 * sp) % n < n := Nat.mod_lt _ hn
  rw [wi _ (by omega) (by omega)]
theorem ch_r (sp va s n : Nat) (hsp : sp < 64) (hv : va < 2 ^ 64) (hs : s < 4) (hn : 0 < n) (hn2 : n ≤ 10000000) : lookasideref11_Chain.f sp va s n = some ((chN sp va s n : Nat) : Int) := by
  unfold lookasideref11_Chain.f chN
  rw [rbytes s hs]
  rw [Option.bind_some]
  have hp := pow_pos' s
  have hd := div_lt va s hv
  have hw : wrap64 (7 * (s : Int)) = ((7 * s : Nat) : Int) := by rw [wi _ (by omega) (by omega)]; omega
  have hw2 : wrap64 (31 * (sp : Int)) = ((31 * sp : Nat) : Int) := by rw [wi _ (by omega) (by omega)]; omega
  rw [if_neg (by omega), wu (n : Int) (by omega) (by omega), if_neg (by omega), tdiv_nat, hw, hw2]
  generalize va / 2 ^ (13 + 3 * s) = q at hd ⊢
  rw [wu (q : Int) (by omega) (by omega), wu ((7 * s : Nat) : Int) (by omega) (by omega), wu ((31 * sp : Nat) : Int) (by omega) (by omega), ← Int.natCast_add, wu ((q + 7 * s : Nat) : Int) (by omega) (by omega), ← Int.natCast_add, wu ((q + 7 * s + 31 * sp : Nat) : Int) (by omega) (by omega), tmod_nat]
  have : (q + 7 * s + 31 * sp) % n < n := Nat.mod_lt _ hn
  rw [wi _ (by omega) (by omega)]
theorem chN_lt (sp va s n : Nat) (hn : 0 < n) : chN sp va s n < n := Nat.mod_lt _ hn
theorem norm (a : Int) (h : -9223372036854775808 ≤ a ∧ a ≤ 9223372036854775807) (hn : a < 0) : ∃ n : Nat, wrap64 (-(wrap64 (a + 1))) = n ∧ n < 2 ^ 63 := by
  rw [wi (a + 1) (by omega) (by omega), wi _ (by omega) (by omega)]
  exact ⟨(-(a + 1)).toNat, by omega, by omega⟩
theorem base (va s : Nat) (hv : va < 2 ^ 64) (hs : s < 4) : ∃ v : Nat, lookasideref02_Base.f va s = some (v : Int) ∧ v < 2 ^ 64 ∧ v % 2 ^ (13 + 3 * s) = 0 := by
  unfold lookasideref02_Base.f
  rw [rmay]
  rw [Option.bind_some]
  rw [if_pos (by simp; omega), rbytes s hs]
  rw [Option.bind_some]
  have hp := pow_pos' s
  rw [if_neg (by omega)]
  rw [Option.bind_some]
  rw [tdiv_nat]
  have hle : va / 2 ^ (13 + 3 * s) * 2 ^ (13 + 3 * s) ≤ va := Nat.div_mul_le_self _ _
  have hd := div_lt va s hv
  refine ⟨va / 2 ^ (13 + 3 * s) * 2 ^ (13 + 3 * s), ?_, by omega, Nat.mul_mod_left _ _⟩
  generalize va / 2 ^ (13 + 3 * s) = q at *
  generalize 2 ^ (13 + 3 * s) = m at *
  rw [wu (q : Int) (by omega) (by omega), ← Int.natCast_mul, wu _ (by omega) (by omega)]
/-- A key made such as may be. -/
theorem good (sp : Int) (va : Nat) (s : Int) (hsp : -9223372036854775808 ≤ sp ∧ sp ≤ 9223372036854775807) (hv : va < 2 ^ 64) (hs : -9223372036854775808 ≤ s ∧ s ≤ 9223372036854775807) :
    ∃ g v z : Nat, lookasideref11_Good.f sp va s = some ((g : Int), (v : Int), (z : Int)) ∧ g < 64 ∧ v < 2 ^ 64 ∧ z < 4 ∧ mayB g v z = true := by
  have key : ∀ (g v z : Nat), g < 64 → v < 2 ^ 64 → z < 4 → v % 2 ^ (13 + 3 * z) = 0 → mayB g v z = true := by
    intro g v z hg hv hz hm
    unfold mayB startsB
    simp only [Int.toNat_natCast]
    rw [decide_eq_true (show (0 : Int) ≤ (g : Int) ∧ (g : Int) < 64 by omega), decide_eq_true (show ((0 : Int) ≤ (z : Int) ∧ (z : Int) < 4) ∧ v % 2 ^ (13 + 3 * z) = 0 by exact ⟨by omega, hm⟩)]
    rfl
  have fin : ∀ (a b : Nat), ∃ g v z : Nat, ((lookasideref02_Base.f va (Int.tmod (b : Int) 4)).bind fun t => (some (Int.tmod (a : Int) 64, t, Int.tmod (b : Int) 4))) = some ((g : Int), (v : Int), (z : Int)) ∧ g < 64 ∧ v < 2 ^ 64 ∧ z < 4 ∧ mayB g v z = true := by
    intro a b
    rw [show (4 : Int) = ((4 : Nat) : Int) from rfl, show (64 : Int) = ((64 : Nat) : Int) from rfl, tmod_nat, tmod_nat]
    obtain ⟨v, hb, h1, h2⟩ := base va (b % 4) hv (by omega)
    rw [hb]
    exact ⟨a % 64, v, b % 4, rfl, by omega, h1, by omega, key _ _ _ (by omega) h1 (by omega) h2⟩
  unfold lookasideref11_Good.f
  by_cases h1 : sp < 0
  · obtain ⟨a, ha, _⟩ := norm sp hsp h1
    by_cases h2 : s < 0
    · obtain ⟨b, hb, _⟩ := norm s hs h2
      rw [if_pos h1, if_pos h2, ha, hb]
      exact fin a b
    · obtain ⟨b, rfl⟩ : ∃ b : Nat, s = b := ⟨s.toNat, by omega⟩
      rw [if_pos h1, if_neg h2, ha]
      exact fin a b
  · obtain ⟨a, rfl⟩ : ∃ a : Nat, sp = a := ⟨sp.toNat, by omega⟩
    by_cases h2 : s < 0
    · obtain ⟨b, hb, _⟩ := norm s hs h2
      rw [if_neg h1, if_pos h2, hb]
      exact fin a b
    · obtain ⟨b, rfl⟩ : ∃ b : Nat, s = b := ⟨s.toNat, by omega⟩
      rw [if_neg h1, if_neg h2]
      exact fin a b
end Go.Proofs.Ytgmdlndiilibpaa.KeyG

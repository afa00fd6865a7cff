import Derived.Test.YtlkojjkgbcpjjaaPAx2
import Derived.Test.YtlkojjkgbcpjjaaFieldG
set_option linter.unusedVariables false
set_option linter.unusedSimpArgs false
namespace Go.Proofs.Ytlkojjkgbcpjjaa.PointG
open Go.RowKit Go.Proofs.Ytlkojjkgbcpjjaa.PA Go.Proofs.Ytlkojjkgbcpjjaa.BitsN Go.Proofs.Ytlkojjkgbcpjjaa.FieldG Go.Proofs.YtlkojjkgbcpjjaaW.PrintWords Go.Proofs.YtlkojjkgbcpjjaaW.PrintLast Go.Proofs.YtlkojjkgbcpjjaaW.PrintMore

def ent (t : Nat) : Nat := 512 * 2 ^ (t % 8)
theorem ent_cases (t : Nat) : (t % 8 = 0 ∧ ent t = 512) ∨ (t % 8 = 1 ∧ ent t = 1024) ∨ (t % 8 = 2 ∧ ent t = 2048) ∨ (t % 8 = 3 ∧ ent t = 4096) ∨ (t % 8 = 4 ∧ ent t = 8192) ∨ (t % 8 = 5 ∧ ent t = 16384) ∨ (t % 8 = 6 ∧ ent t = 32768) ∨ (t % 8 = 7 ∧ ent t = 65536) := by
  unfold ent
  have h : t % 8 = 0 ∨ t % 8 = 1 ∨ t % 8 = 2 ∨ t % 8 = 3 ∨ t % 8 = 4 ∨ t % 8 = 5 ∨ t % 8 = 6 ∨ t % 8 = 7 := by omega
  rcases h with h | h | h | h | h | h | h | h <;> simp [h]
theorem ent_bounds (t : Nat) : 512 ≤ ent t ∧ ent t ≤ 65536 := by
  have := ent_cases t
  omega
theorem entries (t : Nat) (h : t < 2 ^ 64) : point_Entries.f t = some ((ent t : Nat) : Int) := by
  unfold point_Entries.f
  have := get_yes (P := 0) (S := 3) t h (by omega) (by omega)
  have e : BitsN.get t 0 3 = t % 8 := by unfold BitsN.get; simp
  rw [e] at this
  rw [show ((0 : Nat) : Int) = 0 from rfl, show ((3 : Nat) : Int) = 3 from rfl] at this
  rw [this]
  simp only [Option.bind_some]
  rw [if_pos (by omega)]
  have := ent_cases t
  rcases this with h | h | h | h | h | h | h | h <;> rw [h.1, h.2] <;> rfl
theorem bit_yes (w p : Nat) (hw : w < 2 ^ 64) (hp : p < 64) : field_Bit.f w p = some (decide (w / 2 ^ p % 2 = 1)) := by
  unfold field_Bit.f
  have := get_yes (P := p) (S := 1) w hw (by omega) (by omega)
  rw [show ((1 : Nat) : Int) = 1 from rfl] at this
  rw [this]
  simp only [Option.bind_some]
  congr 1
  unfold BitsN.get
  rw [show 2 ^ 1 = 2 from rfl, Bool.eq_iff_iff]
  generalize w / 2 ^ p % 2 = z
  simp
  omega
theorem split (t : Nat) (h : t < 2 ^ 64) : point_Split.f t = some (decide (t / 4096 % 2 = 1)) := by
  unfold point_Split.f
  have := bit_yes t 12 h (by omega)
  rw [show ((12 : Nat) : Int) = 12 from rfl] at this
  rw [this]
  rfl
theorem pbits (s : Nat) (h : s < 4) : page_Bits.f s = some ((13 + 3 * s : Nat) : Int) := by
  have : s = 0 ∨ s = 1 ∨ s = 2 ∨ s = 3 := by omega
  rcases this with rfl | rfl | rfl | rfl <;> decide +kernel
theorem rbytes (s : Nat) (h : s < 4) : lookasideref02_Bytes.f s = some ((2 ^ (13 + 3 * s) : Nat) : Int) := by
  have : s = 0 ∨ s = 1 ∨ s = 2 ∨ s = 3 := by omega
  rcases this with rfl | rfl | rfl | rfl <;> decide +kernel
theorem tmod_nat (a b : Nat) : Int.tmod (a : Int) (b : Int) = ((a % b : Nat) : Int) := by
  rw [Int.tmod_eq_emod_of_nonneg (by omega)]; omega
theorem tdiv_nat (a b : Nat) : Int.tdiv (a : Int) (b : Int) = ((a / b : Nat) : Int) := by
  rw [Int.tdiv_eq_ediv_of_nonneg (by omega)]; exact (Int.natCast_ediv a b).symm
theorem wi (n : Int) (h0 : -9223372036854775808 ≤ n) (h1 : n ≤ 9223372036854775807) : wrap64 n = n := by unfold wrap64; omega
theorem wu (n : Int) (h0 : 0 ≤ n) (h1 : n < 18446744073709551616) : IntKind.u64.wrap n = n := by rw [IntKind.wrap_u64]; omega
theorem index (va s n : Nat) (hv : va < 2 ^ 64) (hs : s < 4) (hn : 0 < n) (hn2 : n ≤ 65536) : point_Index.f va s n = some ((va / 2 ^ (13 + 3 * s) % n : Nat) : Int) := by
  unfold point_Index.f
  rw [pbits s hs]
  simp only [Option.bind_some]
  rw [if_pos (by omega), wu (n : Int) (by omega) (by omega), if_neg (by omega), shr_nat _ _ (by omega), tmod_nat]
  have : va / 2 ^ (13 + 3 * s) % n < n := Nat.mod_lt _ hn
  rw [wi _ (by omega) (by omega)]
theorem slot (base va s n : Nat) (hv : va < 2 ^ 64) (hs : s < 4) (hn : 0 < n) (hn2 : n ≤ 65536) : point_Slot.f base n va s = some (((base + 16 * (va / 2 ^ (13 + 3 * s) % n)) % 2 ^ 64 : Nat) : Int) := by
  unfold point_Slot.f
  rw [index va s n hv hs hn hn2]
  simp only [Option.bind_some]
  have : va / 2 ^ (13 + 3 * s) % n < n := Nat.mod_lt _ hn
  rw [wu ((va / 2 ^ (13 + 3 * s) % n : Nat) : Int) (by omega) (by omega)]
  rw [wu (16 * ((va / 2 ^ (13 + 3 * s) % n : Nat) : Int)) (by omega) (by omega)]
  rw [IntKind.wrap_u64]
  congr 1
/-- Where an address is looked for. -/
def ptrN (t va s : Nat) : Nat :=
  if t / 4096 % 2 = 1 then t / (32 * ent t) * (32 * ent t) + 16 * (va / 2 ^ (13 + 3 * s) % ent t) + (if s = 1 then 16 * ent t else 0)
  else t / (16 * ent t) * (16 * ent t) + 16 * (va / 2 ^ (13 + 3 * s) % ent t)
theorem ar1 (t q e : Nat) (ht : t < 2 ^ 64) (hq : q < e) (hc : e = 512 ∨ e = 1024 ∨ e = 2048 ∨ e = 4096 ∨ e = 8192 ∨ e = 16384 ∨ e = 32768 ∨ e = 65536) : ((t : Int) - (t : Int) % (32 * (e : Int)) + ((((0 + 16 * q) % 2 ^ 64 : Nat) : Int) + 16 * (e : Int))) % 18446744073709551616 = ((t / (32 * e) * (32 * e) + 16 * q + 16 * e : Nat) : Int) := by
  rcases hc with rfl | rfl | rfl | rfl | rfl | rfl | rfl | rfl <;> omega
theorem ar2 (t q e : Nat) (ht : t < 2 ^ 64) (hq : q < e) (hc : e = 512 ∨ e = 1024 ∨ e = 2048 ∨ e = 4096 ∨ e = 8192 ∨ e = 16384 ∨ e = 32768 ∨ e = 65536) : ((t : Int) - (t : Int) % (32 * (e : Int)) + (((0 + 16 * q) % 2 ^ 64 : Nat) : Int)) % 18446744073709551616 = ((t / (32 * e) * (32 * e) + 16 * q + 0 : Nat) : Int) := by
  rcases hc with rfl | rfl | rfl | rfl | rfl | rfl | rfl | rfl <;> omega
theorem ar3 (t q e : Nat) (ht : t < 2 ^ 64) (hq : q < e) (hc : e = 512 ∨ e = 1024 ∨ e = 2048 ∨ e = 4096 ∨ e = 8192 ∨ e = 16384 ∨ e = 32768 ∨ e = 65536) : ((t : Int) - (t : Int) % (16 * (e : Int)) + (((0 + 16 * q) % 2 ^ 64 : Nat) : Int)) % 18446744073709551616 = ((t / (16 * e) * (16 * e) + 16 * q : Nat) : Int) := by
  rcases hc with rfl | rfl | rfl | rfl | rfl | rfl | rfl | rfl <;> omega
theorem ent_c (t : Nat) : ent t = 512 ∨ ent t = 1024 ∨ ent t = 2048 ∨ ent t = 4096 ∨ ent t = 8192 ∨ ent t = 16384 ∨ ent t = 32768 ∨ ent t = 65536 := by
  have := ent_cases t
  omega
theorem pointer (t va s : Nat) (ht : t < 2 ^ 64) (hv : va < 2 ^ 64) (hs : s < 2) : point_Pointer.f t va s = some (((ptrN t va s : Nat) : Int), true) := by
  have hb := ent_bounds t
  have hc := ent_c t
  have e1 := entries t ht
  have e2 := split t ht
  have e3 : point_Slot.f 0 ((ent t : Nat) : Int) va s = some (((0 + 16 * (va / 2 ^ (13 + 3 * s) % ent t)) % 2 ^ 64 : Nat) : Int) := slot 0 va s (ent t) hv (by omega) (by omega) (by omega)
  have hlt : va / 2 ^ (13 + 3 * s) % ent t < ent t := Nat.mod_lt _ (by omega)
  unfold ptrN
  generalize va / 2 ^ (13 + 3 * s) % ent t = q at *
  generalize ent t = e at *
  unfold point_Pointer.f
  have c0 : (s : Int) = 0 ∨ (s : Int) = 1 := by omega
  have c1 : 0 ≤ (t : Int) ∧ (t : Int) < 18446744073709551616 ∧ 512 ≤ (e : Int) ∧ (e : Int) ≤ 65536 ∧ 0 ≤ (((0 + 16 * q) % 2 ^ 64 : Nat) : Int) ∧ (((0 + 16 * q) % 2 ^ 64 : Nat) : Int) < 1048576 := by omega
  rw [if_pos c0, e1, Option.bind_some, e3, Option.bind_some, e2, Option.bind_some, if_pos c1]
  by_cases hsp : t / 4096 % 2 = 1
  · rw [decide_eq_true hsp, if_pos rfl, if_pos hsp]
    by_cases h1 : s = 1
    · have h1' : (s : Int) = 1 := by omega
      rw [if_pos h1', if_pos h1, IntKind.wrap_u64, ar1 t q e ht hlt hc]
    · have h1' : ¬ (s : Int) = 1 := by omega
      rw [if_neg h1', if_neg h1, IntKind.wrap_u64, ar2 t q e ht hlt hc]
  · rw [decide_eq_false hsp, if_neg Bool.false_ne_true, if_neg hsp, IntKind.wrap_u64, ar3 t q e ht hlt hc]
/-! ### the reference -/
theorem ref_ent_l0 (t : Nat) (d : Nat) : ∀ (k i : Nat), i ≤ t % 8 → t % 8 - i = d → d < k → lookasideref08_Entries.l0 k t ((512 * 2 ^ i : Nat) : Int) (i : Int) = some ((ent t : Nat) : Int) := by
  induction d with
  | zero =>
    intro k i hi hd hk
    obtain ⟨k, rfl⟩ : ∃ m, k = m + 1 := ⟨k - 1, by omega⟩
    have : i = t % 8 := by omega
    subst this
    simp only [lookasideref08_Entries.l0]
    have e8 : (8 : Int) = ((8 : Nat) : Int) := rfl
    rw [e8, tmod_nat, if_neg (by omega)]
    rfl
  | succ d ih =>
    intro k i hi hd hk
    obtain ⟨k, rfl⟩ : ∃ m, k = m + 1 := ⟨k - 1, by omega⟩
    simp only [lookasideref08_Entries.l0]
    have e8 : (8 : Int) = ((8 : Nat) : Int) := rfl
    rw [e8, tmod_nat, if_pos (by omega), wu ((i : Int) + 1) (by omega) (by omega)]
    have hp : 2 ^ (i + 1) = 2 * 2 ^ i := by rw [Nat.pow_succ, Nat.mul_comm]
    have hle : 2 ^ i ≤ 2 ^ 7 := Nat.pow_le_pow_right (by decide) (by omega)
    have e : (2 * ((512 * 2 ^ i : Nat) : Int)) = ((512 * 2 ^ (i + 1) : Nat) : Int) := by rw [hp]; omega
    rw [e, wu _ (by omega) (by rw [hp]; omega)]
    exact ih k (i + 1) (by omega) (by omega) (by omega)
theorem ref_entries (t k : Nat) (hk : 8 ≤ k) : lookasideref08_Entries.f k t = some ((ent t : Nat) : Int) := by
  unfold lookasideref08_Entries.f
  exact ref_ent_l0 t (t % 8) k 0 (by omega) (by omega) (by omega)
theorem ref_split (t : Nat) (h : t < 2 ^ 64) : lookasideref08_Split.f t = some (decide (t / 4096 % 2 = 1)) := by
  unfold lookasideref08_Split.f
  rw [show (4096 : Int) = ((4096 : Nat) : Int) from rfl, tdiv_nat, wu _ (by omega) (by omega), show (2 : Int) = ((2 : Nat) : Int) from rfl, tmod_nat]
  congr 1
  rw [Bool.eq_iff_iff]
  simp
  omega
theorem ref_pointer (t va s k : Nat) (ht : t < 2 ^ 64) (hv : va < 2 ^ 64) (hs : s < 2) (hk : 9 ≤ k) : lookasideref08_Pointer.f k t va s = some (((ptrN t va s : Nat) : Int), true) := by
  unfold lookasideref08_Pointer.f
  obtain ⟨k, rfl⟩ : ∃ m, k = m + 1 := ⟨k - 1, by omega⟩
  have hb := ent_bounds t
  rw [if_neg (by omega), decide_eq_false (by omega)]
  simp only [lookasideref08_Pointer.j0]
  rw [if_neg (by decide), ref_entries t k (by omega), ref_split t ht, rbytes s (by omega)]
  simp only [Option.bind_some]
  rw [if_neg (by have := Nat.two_pow_pos (13 + 3 * s); omega), if_neg (by omega)]
  have hdiv : va / 2 ^ (13 + 3 * s) ≤ va := Nat.div_le_self _ _
  rw [tdiv_nat va, wu ((va / 2 ^ (13 + 3 * s) : Nat) : Int) (Int.natCast_nonneg _) (Int.ofNat_lt.mpr (Nat.lt_of_le_of_lt hdiv hv)), tmod_nat]
  have hlt : va / 2 ^ (13 + 3 * s) % ent t < ent t := Nat.mod_lt _ (by omega)
  unfold ptrN
  generalize va / 2 ^ (13 + 3 * s) % ent t = q at hlt
  rw [wu (32 * ((ent t : Nat) : Int)) (by omega) (by omega), wu (16 * ((ent t : Nat) : Int)) (by omega) (by omega)]
  have e32 : 32 * ((ent t : Nat) : Int) = ((32 * ent t : Nat) : Int) := by omega
  have e16 : 16 * ((ent t : Nat) : Int) = ((16 * ent t : Nat) : Int) := by omega
  rw [e32, e16, tdiv_nat, tdiv_nat]
  by_cases hsp : t / 4096 % 2 = 1
  · rw [if_pos (by simpa using hsp), if_pos hsp]
    by_cases h1 : s = 1
    · rw [if_pos (by omega), if_pos h1, if_neg (by omega)]
      simp only [IntKind.wrap_u64]
      congr 2
      have hc := ent_cases t
      generalize ent t = e at *
      rcases hc with h | h | h | h | h | h | h | h <;> (obtain ⟨_, rfl⟩ := h; omega)
    · rw [if_neg (by omega), if_neg h1, if_neg (by omega)]
      simp only [IntKind.wrap_u64]
      congr 2
      have hc := ent_cases t
      generalize ent t = e at *
      rcases hc with h | h | h | h | h | h | h | h <;> (obtain ⟨_, rfl⟩ := h; omega)
  · rw [if_neg (by simpa using hsp), if_neg hsp, if_neg (by omega)]
    simp only [IntKind.wrap_u64]
    congr 2
    have hc := ent_cases t
    generalize ent t = e at *
    rcases hc with h | h | h | h | h | h | h | h <;> (obtain ⟨_, rfl⟩ := h; omega)
theorem lives : lookasidelaw08_lives.f = some true := by
  unfold lookasidelaw08_lives.f
  have := pointer 0 24576 0 (by omega) (by omega) (by omega)
  have e : ptrN 0 24576 0 = 48 := by decide
  rw [e] at this
  rw [show ((0 : Nat) : Int) = 0 from rfl, show ((24576 : Nat) : Int) = 24576 from rfl] at this
  rw [this]
  have h2 := entries 0 (by omega)
  rw [show ((0 : Nat) : Int) = 0 from rfl, show ent 0 = 512 by decide] at h2
  rw [h2]
  rfl
theorem ref_ptr_no (t va : Int) (s : Int) (k : Nat) (hs : s < 0 ∨ s > 1) : lookasideref08_Pointer.f (k + 1) t va s = some (0, false) := by
  unfold lookasideref08_Pointer.f
  by_cases h : s < 0
  · rw [if_pos h]
    simp only [lookasideref08_Pointer.j0]
    rfl
  · rw [if_neg h, decide_eq_true (by omega)]
    simp only [lookasideref08_Pointer.j0]
    rfl
end Go.Proofs.Ytlkojjkgbcpjjaa.PointG

/- The law FieldFits of layer 1: whether a number has room is told as the reference tells it, for every number and size. -/
import Derived.Test.YtlkojjkgbcpjjaaFieldP
import Derived.Test.YtlkojjkgbcpjjaaPAx7
namespace Go.Proofs.Ytlkojjkgbcpjjaa.Pure
open Go.RowKit Go.Proofs.Ytlkojjkgbcpjjaa.PA Go.Proofs.Ytlkojjkgbcpjjaa.BitsN Go.Proofs.Ytlkojjkgbcpjjaa.FieldG  Go.Proofs.Ytlkojjkgbcpjjaa.FieldP Go.Proofs.YtlkojjkgbcpjjaaW.PrintWords Go.Proofs.YtlkojjkgbcpjjaaW.PrintLast Go.Proofs.YtlkojjkgbcpjjaaW.PrintMore
set_option linter.unusedVariables false
set_option linter.unusedSimpArgs false

theorem rfits_l0 (v : Nat) (hv : v < 2 ^ 64) (d : Nat) : ∀ (k i : Nat), i ≤ 64 → 64 - i = d → d + 66 ≤ k → lookasideref01_Fits.l0 k v i = some (decide (v / 2 ^ i = 0)) := by
  induction d with
  | zero =>
    intro k i hi hd hk
    obtain ⟨k, rfl⟩ : ∃ m, k = m + 1 := ⟨k - 1, by omega⟩
    obtain rfl : i = 64 := by omega
    rw [lookasideref01_Fits.l0, if_neg (by omega), decide_eq_true (Nat.div_eq_of_lt hv)]
  | succ d ih =>
    intro k i hi hd hk
    obtain ⟨k, rfl⟩ : ∃ m, k = m + 1 := ⟨k - 1, by omega⟩
    have hb := bit k v i hv (by omega) (by omega)
    have hr := ih k (i + 1) (by omega) (by omega) (by omega)
    have e : wrap64 ((i : Int) + 1) = ((i + 1 : Nat) : Int) := by rw [wi _ (by omega) (by omega)]; rfl
    have i64 : (i : Int) < 64 := by omega
    rw [lookasideref01_Fits.l0, if_pos i64, hb, Option.bind_some, e]
    have hh : v / 2 ^ (i + 1) = v / 2 ^ i / 2 := by rw [Nat.pow_succ, ← Nat.div_div_eq_div_mul]
    rw [hh] at hr
    generalize v / 2 ^ i = q at *
    by_cases h : q % 2 = 1
    · rw [if_pos (by omega), decide_eq_false (by omega)]
    · rw [if_neg (by omega), hr]
      congr 1
      apply decide_eq_decide.mpr
      omega
theorem fits_eq (v : Nat) (s : Int) (hv : v < 2 ^ 64) : field_Fits.f v s = some (decide (s ≥ 64 ∨ (s ≥ 1 ∧ v / 2 ^ s.toNat = 0))) := by
  unfold field_Fits.f
  by_cases h : s ≥ 64
  · rw [if_pos h, decide_eq_true (Or.inl h)]
  · rw [if_neg h]
    by_cases h1 : s ≥ 1
    · obtain ⟨S, rfl⟩ : ∃ n : Nat, s = n := ⟨s.toNat, by omega⟩
      rw [if_pos h1, if_pos (by omega), shr_nat _ _ (by omega), Int.toNat_natCast]
      congr 1
      rw [Bool.eq_iff_iff, beq_iff_eq, decide_eq_true_iff]
      generalize v / 2 ^ S = q
      omega
    · rw [if_neg h1, decide_eq_false (by omega)]
theorem rfits_eq (k v : Nat) (s : Int) (hv : v < 2 ^ 64) (hk : 140 ≤ k) : lookasideref01_Fits.f k v s = some (decide (s ≥ 64 ∨ (s ≥ 1 ∧ v / 2 ^ s.toNat = 0))) := by
  unfold lookasideref01_Fits.f
  by_cases h1 : s < 1
  · rw [if_pos h1, decide_eq_false (by omega)]
  · rw [if_neg h1]
    obtain ⟨S, rfl⟩ : ∃ n : Nat, s = n := ⟨s.toNat, by omega⟩
    by_cases h : (S : Int) ≥ 64
    · obtain ⟨k, rfl⟩ : ∃ m, k = m + 1 := ⟨k - 1, by omega⟩
      rw [lookasideref01_Fits.l0, if_neg (by omega), decide_eq_true (Or.inl h)]
    · rw [rfits_l0 v hv (64 - S) k S (by omega) rfl (by omega), Int.toNat_natCast]
      congr 1
      apply decide_eq_decide.mpr
      generalize v / 2 ^ S = q
      omega
theorem FieldFits : lookasidelaw01_FieldFits.Pure := by
  intro v s hv0 hs0
  obtain ⟨v, rfl, hv⟩ := wf_u64 hv0
  refine ⟨200, ?_⟩
  unfold lookasidelaw01_FieldFits.f
  rw [fits_eq v s hv, Option.bind_some, rfits_eq 200 v s hv (by decide), Option.bind_some, beq_self_eq_true, if_pos rfl, lives, Option.bind_some]
end Go.Proofs.Ytlkojjkgbcpjjaa.Pure

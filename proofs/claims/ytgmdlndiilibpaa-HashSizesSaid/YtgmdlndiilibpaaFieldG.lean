import Derived.Test.YtgmdlndiilibpaaPHx4
import Derived.Test.YtgmdlndiilibpaaBitsN
namespace Go.Proofs.Ytgmdlndiilibpaa.FieldG
open Go.RowKit Go.Proofs.Ytgmdlndiilibpaa.PH Go.Proofs.Ytgmdlndiilibpaa.BitsN Go.Proofs.YtgmdlndiilibpaaW.PrintWords Go.Proofs.YtgmdlndiilibpaaW.PrintLast Go.Proofs.YtgmdlndiilibpaaW.PrintMore

theorem wf_u64 {a : Int} (h : (Lit.int .u64 a).wf = true) : ∃ n : Nat, a = n ∧ n < 2 ^ 64 := by
  have : 0 ≤ a ∧ a ≤ 18446744073709551615 := by simpa [Lit.wf, IntKind.min, IntKind.max, IntKind.signed, IntKind.bits] using h
  exact ⟨a.toNat, by omega, by omega⟩
theorem wf_i64 {a : Int} (h : (Lit.int .i64 a).wf = true) : -9223372036854775808 ≤ a ∧ a ≤ 9223372036854775807 := by
  simpa [Lit.wf, IntKind.min, IntKind.max, IntKind.signed, IntKind.bits] using h
def May (p s : Int) : Prop := 0 ≤ p ∧ 1 ≤ s ∧ s ≤ 64 ∧ p + s ≤ 64
instance (p s : Int) : Decidable (May p s) := by unfold May; infer_instance
theorem may_eq (p s : Int) : field_May.f p s = some (decide (May p s)) := by
  unfold field_May.f May
  by_cases h1 : p ≥ 0
  · rw [if_pos h1]
    by_cases h2 : s ≥ 1
    · rw [if_pos h2]
      by_cases h3 : s ≤ 64
      · rw [if_pos h3]
        have : wrap64 (64 - s) = 64 - s := by unfold wrap64; omega
        rw [this]
        congr 1
        apply decide_eq_decide.mpr
        omega
      · rw [if_neg h3]; exact congrArg some (decide_eq_false (by omega)).symm
    · rw [if_neg h2]; exact congrArg some (decide_eq_false (by omega)).symm
  · rw [if_neg h1]; exact congrArg some (decide_eq_false (by omega)).symm
theorem may_nat {p s : Int} (h : May p s) : ∃ P S : Nat, p = P ∧ s = S ∧ 1 ≤ S ∧ P + S ≤ 64 := by
  obtain ⟨h1, h2, h3, h4⟩ := h
  exact ⟨p.toNat, s.toNat, by omega, by omega, by omega, by omega⟩
theorem may_of {P S : Nat} (h1 : 1 ≤ S) (h : P + S ≤ 64) : May (P : Int) (S : Int) := ⟨by omega, by omega, by omega, by omega⟩
theorem pow_cast (n : Nat) : ((2 : Int) ^ n) = ((2 ^ n : Nat) : Int) := by simp
theorem shr_nat (a n : Nat) (hn : n ≤ 64) : shr .u64 (a : Int) (n : Int) = ((a / 2 ^ n : Nat) : Int) := by
  unfold shr
  have : min (n : Int).toNat IntKind.u64.bits = n := by
    have : IntKind.u64.bits = 64 := rfl
    omega
  rw [this, pow_cast, Int.natCast_ediv]
theorem shl_nat (a n : Nat) (hn : n ≤ 64) : shl .u64 (a : Int) (n : Int) = ((a * 2 ^ n % 2 ^ 64 : Nat) : Int) := by
  unfold shl
  have : min (n : Int).toNat IntKind.u64.bits = n := by
    have : IntKind.u64.bits = 64 := rfl
    omega
  rw [this, pow_cast, IntKind.wrap_u64, ← Int.natCast_mul]
  omega
theorem mask_yes {P S : Nat} (h1 : 1 ≤ S) (h : P + S ≤ 64) : field_Mask.f P S = some ((mk P S : Nat) : Int) := by
  unfold field_Mask.f
  rw [may_eq, decide_eq_true (may_of h1 h)]
  simp only [Option.bind_some, if_true]
  have e : wrap64 (64 - (S : Int)) = ((64 - S : Nat) : Int) := by unfold wrap64; omega
  rw [e, if_pos (by omega), if_pos (by omega)]
  have e2 : (18446744073709551615 : Int) = ((2 ^ 64 - 1 : Nat) : Int) := by simp
  rw [e2, shr_nat _ _ (by omega), shl_nat _ _ (by omega)]
  congr 2
  have hp : (2 : Nat) ^ 64 = 2 ^ S * 2 ^ (64 - S) := by rw [← Nat.pow_add]; congr 1; omega
  have : (2 ^ 64 - 1) / 2 ^ (64 - S) = 2 ^ S - 1 := by
    rw [hp]
    have hq : 0 < 2 ^ (64 - S) := Nat.two_pow_pos _
    have hs : 0 < 2 ^ S := Nat.two_pow_pos _
    have e3 : 2 ^ S * 2 ^ (64 - S) - 1 = (2 ^ S - 1) * 2 ^ (64 - S) + (2 ^ (64 - S) - 1) := by
      have : (2 ^ S - 1) * 2 ^ (64 - S) = 2 ^ S * 2 ^ (64 - S) - 2 ^ (64 - S) := by rw [Nat.sub_mul, Nat.one_mul]
      have : 2 ^ (64 - S) ≤ 2 ^ S * 2 ^ (64 - S) := Nat.le_mul_of_pos_left _ hs
      omega
    rw [e3, Nat.add_comm, Nat.add_mul_div_right _ _ hq, Nat.div_eq_of_lt (by omega)]
    omega
  rw [this]
  exact Nat.mod_eq_of_lt (mk_lt P S h)
theorem mask_no {p s : Int} (h : ¬ May p s) : field_Mask.f p s = some 0 := by
  unfold field_Mask.f
  rw [may_eq, decide_eq_false h]
  simp
theorem get_yes {P S : Nat} (w : Nat) (hw : w < 2 ^ 64) (h1 : 1 ≤ S) (h : P + S ≤ 64) : field_Get.f w P S = some ((get w P S : Nat) : Int) := by
  unfold field_Get.f
  rw [may_eq, decide_eq_true (may_of h1 h)]
  simp only [Option.bind_some, if_true]
  rw [mask_yes h1 h]
  simp only [Option.bind_some]
  rw [if_pos (by omega), and_nat _ _ hw (mk_lt P S h), shr_nat _ _ (by omega), and_mk_div]
theorem get_no {p s : Int} (w : Int) (h : ¬ May p s) : field_Get.f w p s = some 0 := by
  unfold field_Get.f
  rw [may_eq, decide_eq_false h]
  simp
end Go.Proofs.Ytgmdlndiilibpaa.FieldG

import Derived.Test.YtlkojjkgbcpjjaaPAx5
import Derived.Test.YtlkojjkgbcpjjaaFieldG
set_option linter.unusedVariables false
set_option linter.unusedSimpArgs false
namespace Go.Proofs.Ytlkojjkgbcpjjaa.FieldP
open Go.RowKit Go.Proofs.Ytlkojjkgbcpjjaa.PA Go.Proofs.Ytlkojjkgbcpjjaa.BitsN Go.Proofs.Ytlkojjkgbcpjjaa.FieldG Go.Proofs.YtlkojjkgbcpjjaaW.PrintWords Go.Proofs.YtlkojjkgbcpjjaaW.PrintLast Go.Proofs.YtlkojjkgbcpjjaaW.PrintMore

theorem tmod_nat (a b : Nat) : Int.tmod (a : Int) (b : Int) = ((a % b : Nat) : Int) := by
  rw [Int.tmod_eq_emod_of_nonneg (by omega)]; omega
theorem tdiv_nat (a b : Nat) : Int.tdiv (a : Int) (b : Int) = ((a / b : Nat) : Int) := by
  rw [Int.tdiv_eq_ediv_of_nonneg (by omega)]; exact (Int.natCast_ediv a b).symm
theorem wi (n : Int) (h0 : -9223372036854775808 ≤ n) (h1 : n ≤ 9223372036854775807) : wrap64 n = n := by unfold wrap64; omega
theorem lives : lookasidelaw01_lives.f = some true := by decide +kernel
theorem put_yes {P S : Nat} (w v : Nat) (hw : w < 2 ^ 64) (hv : v < 2 ^ 64) (h1 : 1 ≤ S) (h : P + S ≤ 64) : field_Put.f w P S v = some ((put w P S v : Nat) : Int) := by
  unfold field_Put.f
  have hm := mk_lt P S h
  have hpos : (0 : Int) ≤ (P : Int) := by omega
  have l1 : w &&& (2 ^ 64 - (mk P S + 1)) < 2 ^ 64 := Nat.lt_of_le_of_lt Nat.and_le_left hw
  have l2 : v * 2 ^ P % 2 ^ 64 < 2 ^ 64 := Nat.mod_lt _ (by decide)
  have l3 : v * 2 ^ P % 2 ^ 64 &&& mk P S < 2 ^ 64 := Nat.lt_of_le_of_lt Nat.and_le_right hm
  rw [may_eq, decide_eq_true (may_of h1 h), Option.bind_some, if_pos rfl, mask_yes h1 h, Option.bind_some, if_pos hpos, andNot_nat _ _ hw hm, shl_nat _ _ (by omega), and_nat _ _ l2 hm, or_nat _ _ l1 l3]
  rfl
theorem put_no {p s : Int} (w v : Int) (h : ¬ May p s) : field_Put.f w p s v = some w := by
  unfold field_Put.f
  rw [may_eq, decide_eq_false h, Option.bind_some, if_neg Bool.false_ne_true]
/-! ### the reference -/
theorem rmay_eq (p s : Int) : lookasideref01_May.f p s = some (decide (May p s)) := by
  unfold lookasideref01_May.f
  by_cases h1 : p ≥ 0
  · rw [if_pos h1]
    by_cases h2 : p < 64
    · rw [if_pos h2]
      by_cases h3 : s ≥ 1
      · rw [if_pos h3]
        by_cases h4 : s ≤ 64
        · rw [if_pos h4, wi _ (by omega) (by omega)]
          refine congrArg some ?_
          apply decide_eq_decide.mpr
          unfold May
          omega
        · rw [if_neg h4]; exact congrArg some (decide_eq_false (by unfold May; omega)).symm
      · rw [if_neg h3]; exact congrArg some (decide_eq_false (by unfold May; omega)).symm
    · rw [if_neg h2]; exact congrArg some (decide_eq_false (by unfold May; omega)).symm
  · rw [if_neg h1]; exact congrArg some (decide_eq_false (by unfold May; omega)).symm
theorem bit_l0 (i : Nat) (hi : i < 2 ^ 62) (d : Nat) : ∀ (k x j : Nat), x < 2 ^ 64 → j ≤ i → i - j = d → d < k → lookasideref01_Bit.l0 k x i j = some ((x / 2 ^ d % 2 : Nat) : Int) := by
  induction d with
  | zero =>
    intro k x j hx hj hd hk
    obtain ⟨k, rfl⟩ : ∃ m, k = m + 1 := ⟨k - 1, by omega⟩
    simp only [lookasideref01_Bit.l0]
    rw [if_neg (by omega), show (2 : Int) = ((2 : Nat) : Int) from rfl, tmod_nat, Nat.pow_zero, Nat.div_one]
  | succ d ih =>
    intro k x j hx hj hd hk
    obtain ⟨k, rfl⟩ : ∃ m, k = m + 1 := ⟨k - 1, by omega⟩
    simp only [lookasideref01_Bit.l0]
    rw [if_pos (by omega), show (2 : Int) = ((2 : Nat) : Int) from rfl, tdiv_nat, wrapu_nat _ (by omega), wi _ (by omega) (by omega)]
    have := ih k (x / 2) (j + 1) (by omega) (by omega) (by omega) (by omega)
    rw [Nat.div_div_eq_div_mul, ← Nat.pow_succ'] at this
    exact this
theorem bit (k w i : Nat) (hw : w < 2 ^ 64) (hi : i < 2 ^ 62) (hk : i < k) : lookasideref01_Bit.f k w i = some ((w / 2 ^ i % 2 : Nat) : Int) := by
  unfold lookasideref01_Bit.f
  exact bit_l0 i hi i k w 0 hw (by omega) (by omega) hk
theorem step_eq (N m b : Nat) (hN : N < 2 ^ 64) (hb : N / 2 ^ m % 2 = b) : IntKind.u64.wrap ((IntKind.u64.wrap (2 * ((N / 2 ^ (m + 1) : Nat) : Int))) + (b : Int)) = ((N / 2 ^ m : Nat) : Int) := by
  have hlt : N / 2 ^ m < 2 ^ 64 := Nat.lt_of_le_of_lt (Nat.div_le_self _ _) hN
  have hh : N / 2 ^ (m + 1) = N / 2 ^ m / 2 := by rw [Nat.pow_succ, ← Nat.div_div_eq_div_mul]
  rw [hh]
  generalize N / 2 ^ m = q at *
  have q1 : (2 * ((q / 2 : Nat) : Int)) = ((2 * (q / 2) : Nat) : Int) := by omega
  rw [q1, wrapu_nat _ (by omega), ← Int.natCast_add, wrapu_nat _ (by omega)]
  omega
theorem half (N m : Nat) : N / 2 ^ m = 2 * (N / 2 ^ (m + 1)) + N / 2 ^ m % 2 := by
  rw [Nat.pow_succ, ← Nat.div_div_eq_div_mul]
  omega
theorem rput_l0 (w P S v N : Nat) (hw : w < 2 ^ 64) (hv : v < 2 ^ 64) (h1 : 1 ≤ S) (h : P + S ≤ 64) (hN : N < 2 ^ 64)
    (hb : ∀ i, i < 64 → N / 2 ^ i % 2 = if P ≤ i ∧ i < P + S then v / 2 ^ (i - P) % 2 else w / 2 ^ i % 2) (m : Nat) :
    ∀ (k : Nat), m ≤ 64 → m + 65 ≤ k → lookasideref01_Put.l0 k w P S v ((N / 2 ^ m : Nat) : Int) ((m : Int) - 1) = some ((N : Nat) : Int) := by
  induction m with
  | zero =>
    intro k hm hk
    obtain ⟨k, rfl⟩ : ∃ m, k = m + 1 := ⟨k - 1, by omega⟩
    simp only [lookasideref01_Put.l0]
    rw [if_neg (by omega), Nat.pow_zero, Nat.div_one]
  | succ m ih =>
    intro k hm hk
    obtain ⟨k, rfl⟩ : ∃ m, k = m + 1 := ⟨k - 1, by omega⟩
    have e1 : (((m + 1 : Nat) : Int) - 1) = (m : Int) := by omega
    have e2 : wrap64 ((m : Int) - 1) = (m : Int) - 1 := wi _ (by omega) (by omega)
    have e3 : wrap64 ((P : Int) + (S : Int)) = (P : Int) + (S : Int) := wi _ (by omega) (by omega)
    have m64 : m < 64 := by omega
    have m0 : (m : Int) ≥ 0 := by omega
    have hr := ih k (by omega) (by omega)
    have bw := bit k w m hw (by omega) (by omega)
    rw [e1, lookasideref01_Put.l0, if_pos m0, bw, Option.bind_some, e2, e3]
    by_cases hc : P ≤ m ∧ m < P + S
    · have e4 : wrap64 ((m : Int) - (P : Int)) = ((m - P : Nat) : Int) := by rw [wi _ (by omega) (by omega)]; omega
      have bv := bit k v (m - P) hv (by omega) (by omega)
      have a1 : (m : Int) ≥ (P : Int) := by omega
      have a2 : (m : Int) < (P : Int) + (S : Int) := by omega
      have hbm := hb m m64
      rw [if_pos hc] at hbm
      rw [if_pos a1, if_pos a2, e4, bv, Option.bind_some, step_eq N m _ hN hbm]
      exact hr
    · by_cases hc1 : P ≤ m
      · have a1 : (m : Int) ≥ (P : Int) := by omega
        have a2 : ¬ (m : Int) < (P : Int) + (S : Int) := by omega
        have hbm := hb m m64
        rw [if_neg hc] at hbm
        rw [if_pos a1, if_neg a2, step_eq N m _ hN hbm]
        exact hr
      · have a1 : ¬ (m : Int) ≥ (P : Int) := by omega
        have hbm := hb m m64
        rw [if_neg hc] at hbm
        rw [if_neg a1, step_eq N m _ hN hbm]
        exact hr
theorem rput_yes {P S : Nat} (k w v : Nat) (hk : 130 ≤ k) (hw : w < 2 ^ 64) (hv : v < 2 ^ 64) (h1 : 1 ≤ S) (h : P + S ≤ 64) : lookasideref01_Put.f k w P S v = some ((put w P S v : Nat) : Int) := by
  unfold lookasideref01_Put.f
  rw [rmay_eq, decide_eq_true (may_of h1 h), Option.bind_some, if_pos rfl]
  have hl := put_lt w P S v h hw
  have := rput_l0 w P S v (put w P S v) hw hv h1 h hl (by
    intro i hi
    rw [bit_num, tb_put w P S v i h hw]
    split
    · rw [bit_num]
    · rw [bit_num]) 64 k (by omega) (by omega)
  rw [Nat.div_eq_of_lt hl] at this
  exact this
theorem rput_no {p s : Int} (k : Nat) (w v : Int) (h : ¬ May p s) : lookasideref01_Put.f k w p s v = some w := by
  unfold lookasideref01_Put.f
  rw [rmay_eq, decide_eq_false h, Option.bind_some, if_neg Bool.false_ne_true]
theorem rget_l0 (w P S : Nat) (hw : w < 2 ^ 64) (h : P + S ≤ 64) (m : Nat) :
    ∀ (k : Nat), m ≤ S → m + 65 ≤ k → lookasideref01_Get.l0 k w P true ((get w P S / 2 ^ m : Nat) : Int) ((m : Int) - 1) = some ((get w P S : Nat) : Int) := by
  have hN : get w P S < 2 ^ 64 := Nat.lt_of_lt_of_le (get_lt w P S) (Nat.pow_le_pow_right (by decide) (by omega))
  have hb : ∀ i, i < S → get w P S / 2 ^ i % 2 = w / 2 ^ (P + i) % 2 := by
    intro i hi
    rw [bit_num, bit_num, tb_get]
    simp [hi]
  generalize get w P S = N at *
  induction m with
  | zero =>
    intro k hm hk
    obtain ⟨k, rfl⟩ : ∃ m, k = m + 1 := ⟨k - 1, by omega⟩
    have z : ¬ (((0 : Nat) : Int) - 1) ≥ 0 := by omega
    rw [lookasideref01_Get.l0, if_pos rfl, if_neg z, Nat.pow_zero, Nat.div_one]
  | succ m ih =>
    intro k hm hk
    obtain ⟨k, rfl⟩ : ∃ m, k = m + 1 := ⟨k - 1, by omega⟩
    have e1 : (((m + 1 : Nat) : Int) - 1) = (m : Int) := by omega
    have e2 : wrap64 ((m : Int) - 1) = (m : Int) - 1 := wi _ (by omega) (by omega)
    have e4 : wrap64 ((P : Int) + (m : Int)) = ((P + m : Nat) : Int) := by rw [wi _ (by omega) (by omega)]; omega
    have m0 : (m : Int) ≥ 0 := by omega
    have hr := ih k (by omega) (by omega)
    have bw := bit k w (P + m) hw (by omega) (by omega)
    have hbm := hb m (by omega)
    rw [e1, lookasideref01_Get.l0, if_pos rfl, if_pos m0, e4, bw, Option.bind_some, e2, step_eq N m _ hN hbm]
    exact hr
theorem rget_yes {P S : Nat} (k w : Nat) (hk : 130 ≤ k) (hw : w < 2 ^ 64) (h1 : 1 ≤ S) (h : P + S ≤ 64) : lookasideref01_Get.f k w P S = some ((get w P S : Nat) : Int) := by
  unfold lookasideref01_Get.f
  rw [rmay_eq, decide_eq_true (may_of h1 h), Option.bind_some, wi _ (by omega) (by omega)]
  have := rget_l0 w P S hw h S k (Nat.le_refl _) (by omega)
  rw [Nat.div_eq_of_lt (get_lt w P S)] at this
  exact this
theorem rget_no {p s : Int} (k : Nat) (w : Int) (h : ¬ May p s) : lookasideref01_Get.f (k + 1) w p s = some 0 := by
  unfold lookasideref01_Get.f
  rw [rmay_eq, decide_eq_false h, Option.bind_some]
  rw [lookasideref01_Get.l0, if_neg Bool.false_ne_true]
end Go.Proofs.Ytlkojjkgbcpjjaa.FieldP

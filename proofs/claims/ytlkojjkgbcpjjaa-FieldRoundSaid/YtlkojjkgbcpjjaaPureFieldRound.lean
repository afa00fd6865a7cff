/- The law FieldRound of layer 1: what is put is got, as many of its bits as there is room for, and all other bits stay, for every word, place, size and number. -/
import Derived.Test.YtlkojjkgbcpjjaaFieldP
import Derived.Test.YtlkojjkgbcpjjaaPAx7
namespace Go.Proofs.Ytlkojjkgbcpjjaa.Pure
open Go.RowKit Go.Proofs.Ytlkojjkgbcpjjaa.PA Go.Proofs.Ytlkojjkgbcpjjaa.BitsN Go.Proofs.Ytlkojjkgbcpjjaa.FieldG  Go.Proofs.Ytlkojjkgbcpjjaa.FieldP Go.Proofs.YtlkojjkgbcpjjaaW.PrintWords Go.Proofs.YtlkojjkgbcpjjaaW.PrintLast Go.Proofs.YtlkojjkgbcpjjaaW.PrintMore
set_option linter.unusedVariables false
set_option linter.unusedSimpArgs false

theorem norm (a : Int) (h : -9223372036854775808 ≤ a ∧ a ≤ 9223372036854775807) (hn : a < 0) : ∃ n : Nat, wrap64 (-(wrap64 (a + 1))) = n ∧ n < 2 ^ 63 := by
  rw [wi (a + 1) (by omega) (by omega), wi _ (by omega) (by omega)]
  exact ⟨(-(a + 1)).toNat, by omega, by omega⟩
theorem norm0 (a : Int) (h : -9223372036854775808 ≤ a ∧ a ≤ 9223372036854775807) (hn : ¬ a < 0) : ∃ n : Nat, a = n ∧ n < 2 ^ 63 := ⟨a.toNat, by omega, by omega⟩
theorem one_mod (n m : Nat) (hm : 0 < m) (hm2 : m ≤ 4096) : wrap64 (1 + (Int.tmod (n : Int) (m : Int))) = ((1 + n % m : Nat) : Int) := by
  have : n % m < m := Nat.mod_lt _ hm
  rw [tmod_nat, wi _ (by omega) (by omega)]
  omega
theorem fits_eq (v : Nat) (s : Int) (hv : v < 2 ^ 64) : field_Fits.f v s = some (decide (s ≥ 64 ∨ (s ≥ 1 ∧ v / 2 ^ s.toNat = 0))) := by
  unfold field_Fits.f
  by_cases h : s ≥ 64
  · rw [if_pos h, decide_eq_true (Or.inl h)]
  · rw [if_neg h]
    by_cases h1 : s ≥ 1
    · obtain ⟨S, rfl⟩ : ∃ n : Nat, s = n := ⟨s.toNat, by omega⟩
      rw [if_pos h1, if_pos (by omega), shr_nat _ _ (by omega), Int.toNat_natCast]
      congr 1
      rw [Bool.eq_iff_iff, beq_iff_eq, decide_eq_true_iff]
      generalize v / 2 ^ S = q
      omega
    · rw [if_neg h1, decide_eq_false (by omega)]

theorem get_put (w P S v : Nat) (h : P + S ≤ 64) (hw : w < 2 ^ 64) : get (put w P S v) P S = v % 2 ^ S := by
  apply Nat.eq_of_testBit_eq
  intro i
  rw [tb_get, tb_put w P S v _ h hw, Nat.testBit_mod_two_pow]
  by_cases hi : i < S
  · rw [if_pos (by omega), show P + i - P = i by omega]
  · simp [hi]
theorem rest_put (w P S v : Nat) (h : P + S ≤ 64) (hw : w < 2 ^ 64) : put w P S v - (put w P S v &&& mk P S) = w - (w &&& mk P S) := by
  rw [sub_and _ _ (put_lt w P S v h hw), sub_and w _ hw]
  apply Nat.eq_of_testBit_eq
  intro i
  rw [Nat.testBit_xor, Nat.testBit_and, Nat.testBit_xor, Nat.testBit_and, tb_put w P S v i h hw, tb_mk]
  by_cases hc : P ≤ i ∧ i < P + S
  · rw [if_pos hc]; simp [hc.1, hc.2]
  · rw [if_neg hc]
theorem again_put (w P S v : Nat) (h : P + S ≤ 64) (hw : w < 2 ^ 64) : put (put w P S v) P S (v % 2 ^ S) = put w P S v := by
  apply Nat.eq_of_testBit_eq
  intro i
  rw [tb_put _ P S _ i h (put_lt w P S v h hw), tb_put w P S v i h hw, Nat.testBit_mod_two_pow]
  by_cases hc : P ≤ i ∧ i < P + S
  · have : i - P < S := by omega
    rw [if_pos hc, if_pos hc]; simp [this]
  · rw [if_neg hc, if_neg hc]
theorem mid (w P size v k : Nat) (hw : w < 2 ^ 64) (hv : v < 2 ^ 64) (hs : size < 2 ^ 63) : lookasidelaw01_FieldRound.j1 (k + 2) w P size v = some true := by
  have hp : P % 64 < 64 := Nat.mod_lt _ (by decide)
  rw [lookasidelaw01_FieldRound.j1, show (64 : Int) = ((64 : Nat) : Int) from rfl, tmod_nat]
  generalize P % 64 = p at *
  have e1 : wrap64 (((64 : Nat) : Int) - (p : Int)) = ((64 - p : Nat) : Int) := by rw [wi _ (by omega) (by omega)]; omega
  have c0 : ¬ ((64 - p : Nat) : Int) = 0 := by omega
  rw [e1, if_neg c0, one_mod size (64 - p) (by omega) (by omega)]
  have hlt : size % (64 - p) < 64 - p := Nat.mod_lt _ (by omega)
  have c1 : 1 ≤ 1 + size % (64 - p) := by omega
  have c2 : p + (1 + size % (64 - p)) ≤ 64 := by omega
  generalize 1 + size % (64 - p) = S at *
  have hx := put_lt w p S v c2 hw
  have hm := mk_lt p S c2
  have g := get_yes (P := p) (S := S) _ hx c1 c2
  rw [get_put w p S v c2 hw] at g
  have hl : v % 2 ^ S < 2 ^ S := Nat.mod_lt _ (Nat.two_pow_pos S)
  have hle : v % 2 ^ S ≤ v := Nat.mod_le _ _
  have f1 : field_Fits.f ((v % 2 ^ S : Nat) : Int) S = some true := by
    rw [fits_eq _ _ (Nat.lt_of_le_of_lt hle hv), decide_eq_true]
    by_cases h : (S : Int) ≥ 64
    · exact Or.inl h
    · exact Or.inr ⟨by omega, by rw [Int.toNat_natCast]; exact Nat.div_eq_of_lt hl⟩
  have la : w &&& mk p S ≤ w := Nat.and_le_left
  have lb : put w p S v &&& mk p S ≤ put w p S v := Nat.and_le_left
  have e2 : ∀ a b : Nat, a < 2 ^ 64 → b ≤ a → IntKind.u64.wrap ((a : Int) - (b : Int)) = ((a - b : Nat) : Int) := by
    intro a b ha hb
    rw [show (a : Int) - (b : Int) = ((a - b : Nat) : Int) by omega]
    exact wrapu_nat _ (by omega)
  have p2 := put_yes (P := p) (S := S) (put w p S v) (v % 2 ^ S) hx (Nat.lt_of_le_of_lt hle hv) c1 c2
  rw [again_put w p S v c2 hw] at p2
  have f2 := fits_eq v S hv
  have f3 : (S : Int) ≥ 64 ∨ ((S : Int) ≥ 1 ∧ v / 2 ^ (S : Int).toNat = 0) → v % 2 ^ S = v := by
    rw [Int.toNat_natCast]
    intro h
    rcases h with h | ⟨_, h⟩
    · obtain rfl : S = 64 := by omega
      exact Nat.mod_eq_of_lt hv
    · have := Nat.div_add_mod v (2 ^ S)
      rw [h, Nat.mul_zero, Nat.zero_add] at this
      exact this
  rw [put_yes w v hw hv c1 c2, Option.bind_some, mask_yes c1 c2, Option.bind_some, g, Option.bind_some, f1, Option.bind_some, if_pos rfl, and_nat _ _ hx hm, and_nat _ _ hw hm, e2 _ _ hx lb, e2 _ _ hw la, rest_put w p S v c2 hw, bne_self_eq_false]
  rw [lookasidelaw01_FieldRound.j2, if_neg Bool.false_ne_true, f2, Option.bind_some]
  by_cases hf : (S : Int) ≥ 64 ∨ ((S : Int) ≥ 1 ∧ v / 2 ^ (S : Int).toNat = 0)
  · rw [if_pos (decide_eq_true hf), if_pos (by rw [f3 hf]), p2, Option.bind_some, if_pos rfl, lives, Option.bind_some]
  · rw [if_neg (by rw [decide_eq_false hf]; exact Bool.false_ne_true), p2, Option.bind_some, if_pos rfl, lives, Option.bind_some]
theorem j0_true (w P : Nat) (s : Int) (v k : Nat) (hw : w < 2 ^ 64) (hv : v < 2 ^ 64) (hs : -9223372036854775808 ≤ s ∧ s ≤ 9223372036854775807) : lookasidelaw01_FieldRound.j0 (k + 3) w P s v = some true := by
  rw [lookasidelaw01_FieldRound.j0]
  by_cases h : s < 0
  · obtain ⟨n, e, hn⟩ := norm s hs h
    rw [if_pos h, e]
    exact mid w P n v k hw hv hn
  · obtain ⟨n, rfl, hn⟩ := norm0 s hs h
    rw [if_neg h]
    exact mid w P n v k hw hv hn
theorem FieldRound : lookasidelaw01_FieldRound.Pure := by
  intro w p s v hw0 hp0 hs0 hv0
  obtain ⟨w, rfl, hw⟩ := wf_u64 hw0
  obtain ⟨v, rfl, hv⟩ := wf_u64 hv0
  have hp := wf_i64 hp0
  refine ⟨3, ?_⟩
  unfold lookasidelaw01_FieldRound.f
  by_cases h : p < 0
  · obtain ⟨n, e, hn⟩ := norm p hp h
    rw [if_pos h, e]
    exact j0_true w n s v 0 hw hv (wf_i64 hs0)
  · obtain ⟨n, rfl, hn⟩ := norm0 p hp h
    rw [if_neg h]
    exact j0_true w n s v 0 hw hv (wf_i64 hs0)
end Go.Proofs.Ytlkojjkgbcpjjaa.Pure

/- The law PointNext of layer 8: pages side by side have places side by side, round, for every address below 2^40, size and number. -/
import Derived.Test.YtlkojjkgbcpjjaaPointG
import Derived.Test.YtlkojjkgbcpjjaaPAx4
namespace Go.Proofs.Ytlkojjkgbcpjjaa.Pure
open Go.RowKit Go.Proofs.Ytlkojjkgbcpjjaa.PA Go.Proofs.Ytlkojjkgbcpjjaa.BitsN Go.Proofs.Ytlkojjkgbcpjjaa.FieldG  Go.Proofs.Ytlkojjkgbcpjjaa.PointG Go.Proofs.YtlkojjkgbcpjjaaW.PrintWords Go.Proofs.YtlkojjkgbcpjjaaW.PrintLast Go.Proofs.YtlkojjkgbcpjjaaW.PrintMore
set_option linter.unusedVariables false
set_option linter.unusedSimpArgs false

theorem norm (a : Int) (h : -9223372036854775808 ≤ a ∧ a ≤ 9223372036854775807) (hn : a < 0) : ∃ n : Nat, wrap64 (-(wrap64 (a + 1))) = n ∧ n < 2 ^ 63 := by
  rw [wi (a + 1) (by omega) (by omega), wi _ (by omega) (by omega)]
  exact ⟨(-(a + 1)).toNat, by omega, by omega⟩
theorem small (a : Int) (h : -9223372036854775808 ≤ a ∧ a ≤ 9223372036854775807) : ∃ n : Nat, lookasidelaw08_small.f a = some (n : Int) ∧ 1 ≤ n ∧ n ≤ 4096 := by
  unfold lookasidelaw08_small.f
  have key : ∀ m : Nat, wrap64 (1 + Int.tmod (m : Int) 4096) = ((1 + m % 4096 : Nat) : Int) := by
    intro m
    rw [show (4096 : Int) = ((4096 : Nat) : Int) from rfl, tmod_nat, wi _ (by omega) (by omega)]
    omega
  by_cases hn : a < 0
  · obtain ⟨m, e, _⟩ := norm a h hn
    rw [if_pos hn, e, key]
    exact ⟨_, rfl, by omega, by omega⟩
  · obtain ⟨m, rfl⟩ : ∃ m : Nat, a = m := ⟨a.toNat, by omega⟩
    rw [if_neg hn, key]
    exact ⟨_, rfl, by omega, by omega⟩
theorem tmod_bounds (a : Int) (n : Nat) (hn : 0 < n) : -(n : Int) < Int.tmod a n ∧ Int.tmod a n < n := by
  exact ⟨by have := Int.lt_tmod_of_pos a (show (0 : Int) < n by omega); omega, Int.tmod_lt_of_pos a (by omega)⟩
theorem around (a : Int) (n : Nat) (hn : 0 < n) (h2 : n ≤ 4096) : ∃ m : Nat, point_Around.f a n = some (m : Int) ∧ lookasideref08_Around.f a n = some (m : Int) ∧ m < n ∧ (∀ b : Nat, a = b → m = b % n) := by
  obtain ⟨b1, b2⟩ := tmod_bounds a n hn
  have nz : ¬ (n : Int) = 0 := by omega
  unfold point_Around.f lookasideref08_Around.f
  rw [if_neg nz, if_neg nz, wi (Int.tmod a n + n) (by omega) (by omega)]
  by_cases hneg : Int.tmod a n < 0
  · rw [if_pos hneg]
    obtain ⟨m, hm⟩ : ∃ m : Nat, Int.tmod a n + n = m := ⟨(Int.tmod a n + n).toNat, by omega⟩
    refine ⟨m, ?_, ?_, by omega, ?_⟩
    · rw [hm, tmod_nat, Nat.mod_eq_of_lt (by omega)]
    · rw [hm]
    · intro b hb
      subst hb
      rw [tmod_nat] at hneg
      omega
  · rw [if_neg hneg]
    obtain ⟨m, hm⟩ : ∃ m : Nat, Int.tmod a n = m := ⟨(Int.tmod a n).toNat, by omega⟩
    refine ⟨m, ?_, by rw [hm], by omega, ?_⟩
    · rw [hm, show ((m : Int) + (n : Int)) = ((m + n : Nat) : Int) from rfl, tmod_nat, Nat.add_mod_right, Nat.mod_eq_of_lt (by omega)]
    · intro b hb
      subst hb
      rw [tmod_nat] at hm
      omega

theorem next_mod (x n : Nat) (hn : 0 < n) : (x % n + 1) % n = (x + 1) % n := by rw [Nat.mod_add_mod]
theorem PointNext : lookasidelaw08_PointNext.Pure := by
  intro va s n hv0 hs0 hn0
  obtain ⟨va, rfl, hv⟩ := wf_u64 hv0
  obtain ⟨n, e1, n1, n2⟩ := small n (wf_i64 hn0)
  obtain ⟨s, _, e2, s1, _⟩ := around s 4 (by decide) (by decide)
  unfold lookasidelaw08_PointNext.f
  rw [show ((4 : Nat) : Int) = 4 from rfl] at e2
  rw [e1, Option.bind_some, e2, Option.bind_some, show (1099511627776 : Int) = ((1099511627776 : Nat) : Int) from rfl, tmod_nat]
  have hlt : va % 1099511627776 < 1099511627776 := Nat.mod_lt _ (by decide)
  generalize va % 1099511627776 = v at *
  have i1 := index v s n (by omega) s1 (by omega) (by omega)
  have hb : 2 ^ (13 + 3 * s) ≤ 2 ^ 22 := Nat.pow_le_pow_right (by decide) (by omega)
  have hp : 0 < 2 ^ (13 + 3 * s) := Nat.two_pow_pos _
  have i2 := index (v + 2 ^ (13 + 3 * s)) s n (by omega) s1 (by omega) (by omega)
  have rb := rbytes s s1
  rw [Nat.add_div_right _ hp] at i2
  generalize v / 2 ^ (13 + 3 * s) = q at *
  generalize 2 ^ (13 + 3 * s) = b at *
  have hq : q % n < n := Nat.mod_lt _ (by omega)
  have e3 : IntKind.u64.wrap ((v : Int) + (b : Int)) = ((v + b : Nat) : Int) := by rw [← Int.natCast_add]; exact wrapu_nat _ (by omega)
  have e4 : wrap64 (((q % n : Nat) : Int) + 1) = ((q % n + 1 : Nat) : Int) := by rw [wi _ (by omega) (by omega)]; rfl
  obtain ⟨m, ea, _, _, em⟩ := around ((q % n + 1 : Nat) : Int) n (by omega) n2
  have em := em (q % n + 1) rfl
  rw [next_mod q n (by omega)] at em
  rw [i1, Option.bind_some, rb, Option.bind_some, e3, i2, Option.bind_some, e4, ea, Option.bind_some, em, if_pos rfl, lives, Option.bind_some]
end Go.Proofs.Ytlkojjkgbcpjjaa.Pure

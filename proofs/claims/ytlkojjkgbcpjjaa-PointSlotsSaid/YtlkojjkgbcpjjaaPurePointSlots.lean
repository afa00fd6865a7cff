/- The law PointSlots of layer 8: an address's place among so many, and where that stands, is the reference's, for every address, size, number, beginning and number. -/
import Derived.Test.YtlkojjkgbcpjjaaPointG
import Derived.Test.YtlkojjkgbcpjjaaPAx4
namespace Go.Proofs.Ytlkojjkgbcpjjaa.Pure
open Go.RowKit Go.Proofs.Ytlkojjkgbcpjjaa.PA Go.Proofs.Ytlkojjkgbcpjjaa.BitsN Go.Proofs.Ytlkojjkgbcpjjaa.FieldG  Go.Proofs.Ytlkojjkgbcpjjaa.PointG Go.Proofs.YtlkojjkgbcpjjaaW.PrintWords Go.Proofs.YtlkojjkgbcpjjaaW.PrintLast Go.Proofs.YtlkojjkgbcpjjaaW.PrintMore
set_option linter.unusedVariables false
set_option linter.unusedSimpArgs false

theorem norm (a : Int) (h : -9223372036854775808 ≤ a ∧ a ≤ 9223372036854775807) (hn : a < 0) : ∃ n : Nat, wrap64 (-(wrap64 (a + 1))) = n ∧ n < 2 ^ 63 := by
  rw [wi (a + 1) (by omega) (by omega), wi _ (by omega) (by omega)]
  exact ⟨(-(a + 1)).toNat, by omega, by omega⟩
theorem small (a : Int) (h : -9223372036854775808 ≤ a ∧ a ≤ 9223372036854775807) : ∃ n : Nat, lookasidelaw08_small.f a = some (n : Int) ∧ 1 ≤ n ∧ n ≤ 4096 := by
  unfold lookasidelaw08_small.f
  have key : ∀ m : Nat, wrap64 (1 + Int.tmod (m : Int) 4096) = ((1 + m % 4096 : Nat) : Int) := by
    intro m
    rw [show (4096 : Int) = ((4096 : Nat) : Int) from rfl, tmod_nat, wi _ (by omega) (by omega)]
    omega
  by_cases hn : a < 0
  · obtain ⟨m, e, _⟩ := norm a h hn
    rw [if_pos hn, e, key]
    exact ⟨_, rfl, by omega, by omega⟩
  · obtain ⟨m, rfl⟩ : ∃ m : Nat, a = m := ⟨a.toNat, by omega⟩
    rw [if_neg hn, key]
    exact ⟨_, rfl, by omega, by omega⟩
theorem tmod_bounds (a : Int) (n : Nat) (hn : 0 < n) : -(n : Int) < Int.tmod a n ∧ Int.tmod a n < n := by
  exact ⟨by have := Int.lt_tmod_of_pos a (show (0 : Int) < n by omega); omega, Int.tmod_lt_of_pos a (by omega)⟩
theorem around (a : Int) (n : Nat) (hn : 0 < n) (h2 : n ≤ 4096) : ∃ m : Nat, point_Around.f a n = some (m : Int) ∧ lookasideref08_Around.f a n = some (m : Int) ∧ m < n ∧ (∀ b : Nat, a = b → m = b % n) := by
  obtain ⟨b1, b2⟩ := tmod_bounds a n hn
  have nz : ¬ (n : Int) = 0 := by omega
  unfold point_Around.f lookasideref08_Around.f
  rw [if_neg nz, if_neg nz, wi (Int.tmod a n + n) (by omega) (by omega)]
  by_cases hneg : Int.tmod a n < 0
  · rw [if_pos hneg]
    obtain ⟨m, hm⟩ : ∃ m : Nat, Int.tmod a n + n = m := ⟨(Int.tmod a n + n).toNat, by omega⟩
    refine ⟨m, ?_, ?_, by omega, ?_⟩
    · rw [hm, tmod_nat, Nat.mod_eq_of_lt (by omega)]
    · rw [hm]
    · intro b hb
      subst hb
      rw [tmod_nat] at hneg
      omega
  · rw [if_neg hneg]
    obtain ⟨m, hm⟩ : ∃ m : Nat, Int.tmod a n = m := ⟨(Int.tmod a n).toNat, by omega⟩
    refine ⟨m, ?_, by rw [hm], by omega, ?_⟩
    · rw [hm, show ((m : Int) + (n : Int)) = ((m + n : Nat) : Int) from rfl, tmod_nat, Nat.add_mod_right, Nat.mod_eq_of_lt (by omega)]
    · intro b hb
      subst hb
      rw [tmod_nat] at hm
      omega

theorem rindex (va s n : Nat) (hv : va < 2 ^ 64) (hs : s < 4) (hn : 0 < n) (hn2 : n ≤ 65536) : lookasideref08_Index.f va s n = some ((va / 2 ^ (13 + 3 * s) % n : Nat) : Int) := by
  unfold lookasideref08_Index.f
  have hp : 0 < 2 ^ (13 + 3 * s) := Nat.two_pow_pos _
  have hdiv : va / 2 ^ (13 + 3 * s) ≤ va := Nat.div_le_self _ _
  have hlt : va / 2 ^ (13 + 3 * s) % n < n := Nat.mod_lt _ hn
  rw [rbytes s hs, Option.bind_some, if_neg (by omega), wu (n : Int) (by omega) (by omega), if_neg (by omega), tdiv_nat, wrapu_nat _ (Nat.lt_of_le_of_lt hdiv hv), tmod_nat, wi _ (by omega) (by omega)]
theorem rslot (base va s n : Nat) (hv : va < 2 ^ 64) (hs : s < 4) (hn : 0 < n) (hn2 : n ≤ 65536) : lookasideref08_Slot.f base n va s = some (((base + 16 * (va / 2 ^ (13 + 3 * s) % n)) % 2 ^ 64 : Nat) : Int) := by
  unfold lookasideref08_Slot.f
  rw [rindex va s n hv hs hn hn2, Option.bind_some]
  have : va / 2 ^ (13 + 3 * s) % n < n := Nat.mod_lt _ hn
  rw [wu ((va / 2 ^ (13 + 3 * s) % n : Nat) : Int) (by omega) (by omega)]
  rw [wu (16 * ((va / 2 ^ (13 + 3 * s) % n : Nat) : Int)) (by omega) (by omega)]
  rw [IntKind.wrap_u64]
  congr 1
theorem last_eq (base n : Nat) (h1 : 1 ≤ n) (h2 : n ≤ 4096) : IntKind.u64.wrap ((IntKind.u64.wrap ((base : Int) + (IntKind.u64.wrap (16 * (IntKind.u64.wrap (n : Int)))))) - 16) = IntKind.u64.wrap ((base : Int) + (IntKind.u64.wrap (16 * (IntKind.u64.wrap (wrap64 ((n : Int) - 1)))))) := by
  rw [wi _ (by omega) (by omega), wu (n : Int) (by omega) (by omega), wu ((n : Int) - 1) (by omega) (by omega), wu (16 * (n : Int)) (by omega) (by omega), wu (16 * ((n : Int) - 1)) (by omega) (by omega), IntKind.wrap_u64, IntKind.wrap_u64, IntKind.wrap_u64]
  omega
theorem PointSlots : lookasidelaw08_PointSlots.Pure := by
  intro va s n base i hv0 hs0 hn0 hb0 hi0
  obtain ⟨va, rfl, hv⟩ := wf_u64 hv0
  obtain ⟨base, rfl, hb⟩ := wf_u64 hb0
  obtain ⟨n, e1, n1, n2⟩ := small n (wf_i64 hn0)
  obtain ⟨s, _, e2, s1, _⟩ := around s 4 (by decide) (by decide)
  obtain ⟨m, a1, a2, _, _⟩ := around i n (by omega) n2
  unfold lookasidelaw08_PointSlots.f
  rw [show ((4 : Nat) : Int) = 4 from rfl] at e2
  have hlt : va / 2 ^ (13 + 3 * s) % n < n := Nat.mod_lt _ (by omega)
  have c1 : ((va / 2 ^ (13 + 3 * s) % n : Nat) : Int) ≥ 0 := Int.natCast_nonneg _
  have c2 : ((va / 2 ^ (13 + 3 * s) % n : Nat) : Int) < (n : Int) := Int.ofNat_lt.mpr hlt
  have el : point_Last.f base n = some (IntKind.u64.wrap ((base : Int) + (IntKind.u64.wrap (16 * (IntKind.u64.wrap (wrap64 ((n : Int) - 1))))))) := by unfold point_Last.f; rw [last_eq base n n1 n2]
  rw [e1, Option.bind_some, e2, Option.bind_some, index va s n hv s1 (by omega) (by omega), Option.bind_some, rindex va s n hv s1 (by omega) (by omega), Option.bind_some, if_pos rfl, if_pos c1, if_pos c2, slot base va s n hv s1 (by omega) (by omega), Option.bind_some, rslot base va s n hv s1 (by omega) (by omega), Option.bind_some, if_pos rfl, el, Option.bind_some, if_pos rfl, a1, Option.bind_some, a2, Option.bind_some, if_pos rfl, lives, Option.bind_some]
end Go.Proofs.Ytlkojjkgbcpjjaa.Pure

/- The law PointWhole of layer 8: not split, the pointers of as many pages side by side as there are entries are all entries, each once; for every register's N, page's number and number of these. -/
import Derived.Test.YtlkojjkgbcpjjaaPointG
import Derived.Test.YtlkojjkgbcpjjaaPAx3
namespace Go.Proofs.Ytlkojjkgbcpjjaa.Pure
open Go.RowKit Go.Proofs.Ytlkojjkgbcpjjaa.PA Go.Proofs.Ytlkojjkgbcpjjaa.BitsN Go.Proofs.Ytlkojjkgbcpjjaa.FieldG  Go.Proofs.Ytlkojjkgbcpjjaa.PointG Go.Proofs.YtlkojjkgbcpjjaaW.PrintWords Go.Proofs.YtlkojjkgbcpjjaaW.PrintLast Go.Proofs.YtlkojjkgbcpjjaaW.PrintMore
set_option linter.unusedVariables false
set_option linter.unusedSimpArgs false

theorem norm (a : Int) (h : -9223372036854775808 ≤ a ∧ a ≤ 9223372036854775807) (hn : a < 0) : ∃ n : Nat, wrap64 (-(wrap64 (a + 1))) = n ∧ n < 2 ^ 63 := by
  rw [wi (a + 1) (by omega) (by omega), wi _ (by omega) (by omega)]
  exact ⟨(-(a + 1)).toNat, by omega, by omega⟩
theorem loop (t first many : Nat) (ht : t < 8) (hf : first < 1048576) (hm : many < 301) (d : Nat) : ∀ (k i : Nat), i ≤ many → many - i = d → d < k → lookasidelaw08_PointWhole.l0 k first many t ((ent t : Nat) : Int) i = some true := by
  have hb := ent_bounds t
  induction d with
  | zero =>
    intro k i hi hd hk
    obtain ⟨k, rfl⟩ : ∃ m, k = m + 1 := ⟨k - 1, by omega⟩
    rw [lookasidelaw08_PointWhole.l0, if_neg (by omega), lives, Option.bind_some]
  | succ d ih =>
    intro k i hi hd hk
    obtain ⟨k, rfl⟩ : ∃ m, k = m + 1 := ⟨k - 1, by omega⟩
    have c1 : (i : Int) < (many : Int) := by omega
    have n1 : i + 1 ≤ many := by omega
    have n2 : many - (i + 1) = d := by omega
    have n3 : d < k := by omega
    have e1 : IntKind.u64.wrap (i : Int) = (i : Int) := wu _ (by omega) (by omega)
    have e2 : IntKind.u64.wrap ((first : Int) + (i : Int)) = ((first + i : Nat) : Int) := by rw [wu _ (by omega) (by omega)]; rfl
    have e3 : IntKind.u64.wrap (((first + i : Nat) : Int) * 8192) = (((first + i) * 8192 : Nat) : Int) := by rw [wu _ (by omega) (by omega)]; rfl
    have pp := pointer t ((first + i) * 8192) 0 (by omega) (by omega) (by decide)
    have hlt : (first + i) % ent t < ent t := Nat.mod_lt _ (by omega)
    have ep : ptrN t ((first + i) * 8192) 0 = 16 * ((first + i) % ent t) := by
      unfold ptrN
      rw [if_neg (by omega), show 2 ^ (13 + 3 * 0) = 8192 from rfl, Nat.mul_div_cancel _ (by decide), Nat.div_eq_of_lt (show t < 16 * ent t by omega)]
      omega
    rw [ep, show ((0 : Nat) : Int) = 0 from rfl] at pp
    have c2 : ¬ ((ent t : Nat) : Int) = 0 := by omega
    have e4 : IntKind.u64.wrap (16 * (((first + i) % ent t : Nat) : Int)) = ((16 * ((first + i) % ent t) : Nat) : Int) := by rw [wu _ (by omega) (by omega)]; omega
    have e5 : wrap64 ((i : Int) + 1) = ((i + 1 : Nat) : Int) := by rw [wi _ (by omega) (by omega)]; rfl
    rw [lookasidelaw08_PointWhole.l0, if_pos c1, e1, e2, e3, pp, Option.bind_some, if_pos rfl, if_neg c2, tmod_nat, e4, if_pos rfl, e5]
    exact ih k (i + 1) n1 n2 n3
theorem j0_true (t f m k : Nat) (ht : t < 8) (hk : 302 ≤ k) : lookasidelaw08_PointWhole.j0 (k + 1) f m t = some true := by
  rw [lookasidelaw08_PointWhole.j0, ref_entries t k (by omega), Option.bind_some, show (1048576 : Int) = ((1048576 : Nat) : Int) from rfl, show (301 : Int) = ((301 : Nat) : Int) from rfl, tmod_nat, tmod_nat]
  have hm : m % 301 < 301 := Nat.mod_lt _ (by decide)
  exact loop t (f % 1048576) (m % 301) ht (Nat.mod_lt _ (by decide)) hm (m % 301) k 0 (Nat.zero_le _) (Nat.sub_zero _) (Nat.lt_of_lt_of_le hm (by omega))
theorem PointWhole : lookasidelaw08_PointWhole.Pure := by
  intro n f m hn0 hf0 hm0
  obtain ⟨n, rfl, hn⟩ := wf_u64 hn0
  obtain ⟨f, rfl, hf⟩ := wf_u64 hf0
  have hm := wf_i64 hm0
  refine ⟨400, ?_⟩
  unfold lookasidelaw08_PointWhole.f
  rw [show (8 : Int) = ((8 : Nat) : Int) from rfl, tmod_nat]
  have ht : n % 8 < 8 := Nat.mod_lt _ (by decide)
  by_cases h : m < 0
  · obtain ⟨k, e, _⟩ := norm m hm h
    rw [if_pos h, e]
    exact j0_true _ _ _ 399 ht (by decide)
  · obtain ⟨m, rfl⟩ : ∃ k : Nat, m = k := ⟨m.toNat, by omega⟩
    rw [if_neg h]
    exact j0_true _ _ _ 399 ht (by decide)
end Go.Proofs.Ytlkojjkgbcpjjaa.Pure

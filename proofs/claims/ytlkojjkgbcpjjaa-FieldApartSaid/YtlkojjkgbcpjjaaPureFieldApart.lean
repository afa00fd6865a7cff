/- The law FieldApart of layer 1: numbers in two fields, one behind the other, are got each, for every place, sizes and numbers. -/
import Derived.Test.YtlkojjkgbcpjjaaFieldP
import Derived.Test.YtlkojjkgbcpjjaaPAx6
namespace Go.Proofs.Ytlkojjkgbcpjjaa.Pure
open Go.RowKit Go.Proofs.Ytlkojjkgbcpjjaa.PA Go.Proofs.Ytlkojjkgbcpjjaa.BitsN Go.Proofs.Ytlkojjkgbcpjjaa.FieldG  Go.Proofs.Ytlkojjkgbcpjjaa.FieldP Go.Proofs.YtlkojjkgbcpjjaaW.PrintWords Go.Proofs.YtlkojjkgbcpjjaaW.PrintLast Go.Proofs.YtlkojjkgbcpjjaaW.PrintMore
set_option linter.unusedVariables false
set_option linter.unusedSimpArgs false

theorem norm (a : Int) (h : -9223372036854775808 ≤ a ∧ a ≤ 9223372036854775807) (hn : a < 0) : ∃ n : Nat, wrap64 (-(wrap64 (a + 1))) = n ∧ n < 2 ^ 63 := by
  rw [wi (a + 1) (by omega) (by omega), wi _ (by omega) (by omega)]
  exact ⟨(-(a + 1)).toNat, by omega, by omega⟩
theorem norm0 (a : Int) (h : -9223372036854775808 ≤ a ∧ a ≤ 9223372036854775807) (hn : ¬ a < 0) : ∃ n : Nat, a = n ∧ n < 2 ^ 63 := ⟨a.toNat, by omega, by omega⟩
theorem one_mod (n m : Nat) (hm : 0 < m) (hm2 : m ≤ 4096) : wrap64 (1 + (Int.tmod (n : Int) (m : Int))) = ((1 + n % m : Nat) : Int) := by
  have : n % m < m := Nat.mod_lt _ hm
  rw [tmod_nat, wi _ (by omega) (by omega)]
  omega

theorem put_get (w P S v : Nat) (h : P + S ≤ 64) (hw : w < 2 ^ 64) : get (put w P S v) P S = get v 0 S := by
  apply Nat.eq_of_testBit_eq
  intro i
  rw [tb_get, tb_get, tb_put w P S v _ h hw, Nat.zero_add]
  by_cases hi : i < S
  · rw [if_pos (by omega), show P + i - P = i by omega]
  · simp [hi]
theorem core (P A B x y : Nat) (hP : P < 32) (hA : 1 ≤ A ∧ A ≤ 16) (hB : 1 ≤ B ∧ B ≤ 16) (hx : x < 2 ^ 64) (hy : y < 2 ^ 64) :
    put (put 0 P A x) (P + A) B y = put (put 0 (P + A) B y) P A x ∧ get (put (put 0 P A x) (P + A) B y) P A = get x 0 A ∧ get (put (put 0 P A x) (P + A) B y) (P + A) B = get y 0 B := by
  have l1 := put_lt 0 P A x (by omega) (by decide)
  have l2 := put_lt 0 (P + A) B y (by omega) (by decide)
  have e : put (put 0 P A x) (P + A) B y = put (put 0 (P + A) B y) P A x := by
    apply Nat.eq_of_testBit_eq
    intro i
    rw [tb_put _ (P + A) B y i (by omega) l1, tb_put _ P A x i (by omega) l2, tb_put 0 P A x i (by omega) (by decide), tb_put 0 (P + A) B y i (by omega) (by decide)]
    by_cases h1 : P + A ≤ i ∧ i < P + A + B
    · rw [if_pos h1, if_neg (by omega), if_pos h1]
    · rw [if_neg h1, if_neg h1]
  refine ⟨e, ?_, put_get _ _ _ _ (by omega) l1⟩
  rw [e]
  exact put_get _ _ _ _ (by omega) l2
theorem last (P a b x y k : Nat) (hP : P < 2 ^ 63) (ha : a < 2 ^ 63) (hb : b < 2 ^ 63) (hx : x < 2 ^ 64) (hy : y < 2 ^ 64) (hk : 130 ≤ k) : lookasidelaw01_FieldApart.j2 (k + 1) P a b x y = some true := by
  rw [lookasidelaw01_FieldApart.j2]
  have hp : P % 32 < 32 := Nat.mod_lt _ (by decide)
  have hA : 1 + a % 16 ≤ 16 := by omega
  have hB : 1 + b % 16 ≤ 16 := by omega
  rw [show (32 : Int) = ((32 : Nat) : Int) from rfl, show (16 : Int) = ((16 : Nat) : Int) from rfl, tmod_nat, one_mod a 16 (by decide) (by decide), one_mod b 16 (by decide) (by decide)]
  have c1 : 1 ≤ 1 + a % 16 := by omega
  have c2 : 1 ≤ 1 + b % 16 := by omega
  generalize P % 32 = p at *
  generalize 1 + a % 16 = A at *
  generalize 1 + b % 16 = B at *
  have e1 : wrap64 ((p : Int) + (A : Int)) = ((p + A : Nat) : Int) := by rw [wi _ (by omega) (by omega)]; omega
  rw [e1]
  have p1 := put_yes (P := p) (S := A) 0 x (by decide) hx c1 (by omega)
  have l1 := put_lt 0 p A x (by omega) (by decide)
  have p2 := put_yes (P := p + A) (S := B) (put 0 p A x) y l1 hy c2 (by omega)
  have p3 := put_yes (P := p + A) (S := B) 0 y (by decide) hy c2 (by omega)
  have l3 := put_lt 0 (p + A) B y (by omega) (by decide)
  have p4 := put_yes (P := p) (S := A) (put 0 (p + A) B y) x l3 hx c1 (by omega)
  have l2 := put_lt (put 0 p A x) (p + A) B y (by omega) l1
  have g1 := get_yes (P := p) (S := A) (put (put 0 p A x) (p + A) B y) l2 c1 (by omega)
  have g2 := get_yes (P := p + A) (S := B) (put (put 0 p A x) (p + A) B y) l2 c2 (by omega)
  have r1 := rget_yes (P := 0) (S := A) k x hk hx c1 (by omega)
  have r2 := rget_yes (P := 0) (S := B) k y hk hy c2 (by omega)
  obtain ⟨q1, q2, q3⟩ := core p A B x y hp ⟨c1, hA⟩ ⟨c2, hB⟩ hx hy
  rw [show ((0 : Nat) : Int) = 0 from rfl] at p1 p3 r1 r2
  rw [p1, Option.bind_some, p2, Option.bind_some, p3, Option.bind_some, p4, Option.bind_some, if_pos (by rw [q1]), g1, Option.bind_some, r1, Option.bind_some, if_pos (by rw [q2]), g2, Option.bind_some, r2, Option.bind_some, if_pos (by rw [q3]), lives, Option.bind_some]
theorem j1_true (P : Nat) (a : Nat) (b : Int) (x y k : Nat) (hP : P < 2 ^ 63) (ha : a < 2 ^ 63) (hb : -9223372036854775808 ≤ b ∧ b ≤ 9223372036854775807) (hx : x < 2 ^ 64) (hy : y < 2 ^ 64) (hk : 130 ≤ k) : lookasidelaw01_FieldApart.j1 (k + 2) P a b x y = some true := by
  rw [lookasidelaw01_FieldApart.j1]
  by_cases h : b < 0
  · obtain ⟨n, e, hn⟩ := norm b hb h
    rw [if_pos h, e]
    exact last P a n x y k hP ha hn hx hy hk
  · obtain ⟨n, rfl, hn⟩ := norm0 b hb h
    rw [if_neg h]
    exact last P a n x y k hP ha hn hx hy hk
theorem j0_true (P : Nat) (a b : Int) (x y k : Nat) (hP : P < 2 ^ 63) (ha : -9223372036854775808 ≤ a ∧ a ≤ 9223372036854775807) (hb : -9223372036854775808 ≤ b ∧ b ≤ 9223372036854775807) (hx : x < 2 ^ 64) (hy : y < 2 ^ 64) (hk : 130 ≤ k) : lookasidelaw01_FieldApart.j0 (k + 3) P a b x y = some true := by
  rw [lookasidelaw01_FieldApart.j0]
  by_cases h : a < 0
  · obtain ⟨n, e, hn⟩ := norm a ha h
    rw [if_pos h, e]
    exact j1_true P n b x y k hP hn hb hx hy hk
  · obtain ⟨n, rfl, hn⟩ := norm0 a ha h
    rw [if_neg h]
    exact j1_true P n b x y k hP hn hb hx hy hk
theorem FieldApart : lookasidelaw01_FieldApart.Pure := by
  intro p a b x y hp0 ha0 hb0 hx0 hy0
  obtain ⟨x, rfl, hx⟩ := wf_u64 hx0
  obtain ⟨y, rfl, hy⟩ := wf_u64 hy0
  have hp := wf_i64 hp0
  refine ⟨203, ?_⟩
  unfold lookasidelaw01_FieldApart.f
  by_cases h : p < 0
  · obtain ⟨n, e, hn⟩ := norm p hp h
    rw [if_pos h, e]
    exact j0_true n a b x y 200 hn (wf_i64 ha0) (wf_i64 hb0) hx hy (by decide)
  · obtain ⟨n, rfl, hn⟩ := norm0 p hp h
    rw [if_neg h]
    exact j0_true n a b x y 200 hn (wf_i64 ha0) (wf_i64 hb0) hx hy (by decide)
end Go.Proofs.Ytlkojjkgbcpjjaa.Pure

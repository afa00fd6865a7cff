/- The law PointIn of layer 8: a pointer is among the entries and stands at a multiple of 16, addresses of one page have one, and split, those of both sizes stand apart; for every register, address and offset. -/
import Derived.Test.YtlkojjkgbcpjjaaPointG
import Derived.Test.YtlkojjkgbcpjjaaPAx3
namespace Go.Proofs.Ytlkojjkgbcpjjaa.Pure
open Go.RowKit Go.Proofs.Ytlkojjkgbcpjjaa.PA Go.Proofs.Ytlkojjkgbcpjjaa.BitsN Go.Proofs.Ytlkojjkgbcpjjaa.FieldG  Go.Proofs.Ytlkojjkgbcpjjaa.PointG Go.Proofs.YtlkojjkgbcpjjaaW.PrintWords Go.Proofs.YtlkojjkgbcpjjaaW.PrintLast Go.Proofs.YtlkojjkgbcpjjaaW.PrintMore
set_option linter.unusedVariables false
set_option linter.unusedSimpArgs false

theorem base (va s : Nat) (hv : va < 2 ^ 64) (hs : s < 2) : lookasideref02_Base.f va s = some ((va / 2 ^ (13 + 3 * s) * 2 ^ (13 + 3 * s) : Nat) : Int) := by
  have c : s = 0 ∨ s = 1 := by omega
  have m : lookasideref02_May.f s = some true := by rcases c with rfl | rfl <;> decide +kernel
  unfold lookasideref02_Base.f
  rw [m, Option.bind_some, if_pos rfl, rbytes s (by omega), Option.bind_some, if_neg (by rcases c with rfl | rfl <;> decide), Option.bind_some, tdiv_nat]
  rw [wrapu_nat (va / 2 ^ (13 + 3 * s)) (Nat.lt_of_le_of_lt (Nat.div_le_self _ _) hv), ← Int.natCast_mul, wrapu_nat (va / 2 ^ (13 + 3 * s) * 2 ^ (13 + 3 * s)) (Nat.lt_of_le_of_lt (Nat.div_mul_le_self _ _) hv)]
theorem offset (va s : Nat) (hs : s < 2) : lookasideref02_Offset.f va s = some ((va % 2 ^ (13 + 3 * s) : Nat) : Int) := by
  have c : s = 0 ∨ s = 1 := by omega
  have m : lookasideref02_May.f s = some true := by rcases c with rfl | rfl <;> decide +kernel
  unfold lookasideref02_Offset.f
  rw [m, Option.bind_some, if_pos rfl, rbytes s (by omega), Option.bind_some, if_neg (by rcases c with rfl | rfl <;> decide), tmod_nat]
theorem same_page (va off s : Nat) (hs : s < 2) : (va / 2 ^ (13 + 3 * s) * 2 ^ (13 + 3 * s) + off % 2 ^ (13 + 3 * s)) / 2 ^ (13 + 3 * s) = va / 2 ^ (13 + 3 * s) := by
  have c : s = 0 ∨ s = 1 := by omega
  rcases c with rfl | rfl <;> omega
theorem same_lt (va off s : Nat) (hv : va < 2 ^ 64) (hs : s < 2) : va / 2 ^ (13 + 3 * s) * 2 ^ (13 + 3 * s) + off % 2 ^ (13 + 3 * s) < 2 ^ 64 := by
  have c : s = 0 ∨ s = 1 := by omega
  rcases c with rfl | rfl <;> omega
def wholeN (t : Nat) : Nat := if t / 4096 % 2 = 1 then 32 * ent t else 16 * ent t
theorem ptr_in (t va s : Nat) : ptrN t va s % 16 = 0 ∧ t / wholeN t * wholeN t ≤ ptrN t va s ∧ ptrN t va s - t / wholeN t * wholeN t < wholeN t ∧ (t / 4096 % 2 = 1 → (16 * ent t ≤ ptrN t va s - t / wholeN t * wholeN t ↔ s = 1)) := by
  have hlt : va / 2 ^ (13 + 3 * s) % ent t < ent t := Nat.mod_lt _ (by have := ent_bounds t; omega)
  have hc := ent_c t
  unfold ptrN wholeN
  generalize va / 2 ^ (13 + 3 * s) % ent t = q at *
  generalize ent t = e at *
  by_cases hsp : t / 4096 % 2 = 1
  · rw [if_pos hsp, if_pos hsp]
    by_cases h1 : s = 1
    · rw [if_pos h1]
      rcases hc with rfl | rfl | rfl | rfl | rfl | rfl | rfl | rfl <;> omega
    · rw [if_neg h1]
      rcases hc with rfl | rfl | rfl | rfl | rfl | rfl | rfl | rfl <;> omega
  · rw [if_neg hsp, if_neg hsp]
    rcases hc with rfl | rfl | rfl | rfl | rfl | rfl | rfl | rfl <;> omega
theorem whole_bounds (t : Nat) : 8192 ≤ wholeN t ∧ wholeN t ≤ 2097152 := by
  have := ent_bounds t
  unfold wholeN
  split <;> omega
theorem ptr_lt (t va s : Nat) (ht : t < 2 ^ 64) : ptrN t va s < 2 ^ 64 := by
  have hlt : va / 2 ^ (13 + 3 * s) % ent t < ent t := Nat.mod_lt _ (by have := ent_bounds t; omega)
  have hc := ent_c t
  unfold ptrN
  generalize va / 2 ^ (13 + 3 * s) % ent t = q at *
  generalize ent t = e at *
  by_cases hsp : t / 4096 % 2 = 1
  · rw [if_pos hsp]
    by_cases h1 : s = 1
    · rw [if_pos h1]
      rcases hc with rfl | rfl | rfl | rfl | rfl | rfl | rfl | rfl <;> omega
    · rw [if_neg h1]
      rcases hc with rfl | rfl | rfl | rfl | rfl | rfl | rfl | rfl <;> omega
  · rw [if_neg hsp]
    rcases hc with rfl | rfl | rfl | rfl | rfl | rfl | rfl | rfl <;> omega
theorem rw_j2 {z2 y : Int} (k : Nat) (a b c e w g s p : Int) (sp : Bool) (z : Int) (hz : IntKind.u64.wrap (p - g) = z) (hs : wrap64 (s + 1) = z2) (hw : IntKind.u64.wrap (16 * e) = y) (h : sp = true → (decide (z ≥ y)) = (s == 1)) :
    lookasidelaw08_PointIn.j2 (k + 1) a b c e sp w g s p false = lookasidelaw08_PointIn.l0 k a b c e sp w g z2 := by
  simp only [lookasidelaw08_PointIn.j2]
  rw [if_neg Bool.false_ne_true, hz, hs, hw]
  cases sp with
  | false => rw [if_neg Bool.false_ne_true]
  | true =>
    rw [if_pos rfl, h rfl, bne_self_eq_false, if_neg Bool.false_ne_true]
theorem round (t va off s k : Nat) (ht : t < 2 ^ 64) (hv : va < 2 ^ 64) (ho : off < 2 ^ 64) (hs : s < 2) :
    lookasidelaw08_PointIn.l0 (k + 2) t va off ((ent t : Nat) : Int) (decide (t / 4096 % 2 = 1)) ((wholeN t : Nat) : Int) ((t / wholeN t * wholeN t : Nat) : Int) s =
      lookasidelaw08_PointIn.l0 k t va off ((ent t : Nat) : Int) (decide (t / 4096 % 2 = 1)) ((wholeN t : Nat) : Int) ((t / wholeN t * wholeN t : Nat) : Int) ((s + 1 : Nat) : Int) := by
  obtain ⟨h16, hge, hltw, hsp⟩ := ptr_in t va s
  have hpl := ptr_lt t va s ht
  have hw := whole_bounds t
  have hb := ent_bounds t
  have esame : ptrN t (va / 2 ^ (13 + 3 * s) * 2 ^ (13 + 3 * s) + off % 2 ^ (13 + 3 * s)) s = ptrN t va s := by
    unfold ptrN
    rw [same_page va off s hs]
  have hsl := same_lt va off s hv hs
  have ptr2 := pointer t (va / 2 ^ (13 + 3 * s) * 2 ^ (13 + 3 * s) + off % 2 ^ (13 + 3 * s)) s ht hsl hs
  rw [esame] at ptr2
  have ew : IntKind.u64.wrap (((va / 2 ^ (13 + 3 * s) * 2 ^ (13 + 3 * s) : Nat) : Int) + ((off % 2 ^ (13 + 3 * s) : Nat) : Int)) = ((va / 2 ^ (13 + 3 * s) * 2 ^ (13 + 3 * s) + off % 2 ^ (13 + 3 * s) : Nat) : Int) := by
    rw [← Int.natCast_add]
    exact wrapu_nat _ hsl
  have ptr1 := pointer t va s ht hv hs
  have bs := base va s hv hs
  have os := offset off s hs
  clear esame
  generalize va / 2 ^ (13 + 3 * s) * 2 ^ (13 + 3 * s) + off % 2 ^ (13 + 3 * s) = z at *
  generalize ptrN t va s = p at *
  generalize t / wholeN t * wholeN t = b at *
  have hs2 : (s : Int) < 2 := by omega
  have e16 : (16 : Int) = ((16 : Nat) : Int) := rfl
  have ebw : IntKind.u64.wrap ((p : Int) - (b : Int)) = ((p - b : Nat) : Int) := by
    rw [show (p : Int) - (b : Int) = ((p - b : Nat) : Int) by omega]
    exact wrapu_nat _ (by omega)
  have c1 : ¬ ((p : Int) < (b : Int)) := by omega
  have c2 : ¬ (((p - b : Nat) : Int) ≥ ((wholeN t : Nat) : Int)) := by omega
  have c3 : Int.tmod (p : Int) 16 = 0 := by rw [e16, tmod_nat]; omega
  have ei : wrap64 ((s : Int) + 1) = ((s + 1 : Nat) : Int) := by rw [wi _ (by omega) (by omega)]; rfl
  have ewe : IntKind.u64.wrap (16 * ((ent t : Nat) : Int)) = ((16 * ent t : Nat) : Int) := by rw [wu _ (by omega) (by omega)]; omega
  simp only [lookasidelaw08_PointIn.l0]
  rw [if_pos hs2, ptr1, Option.bind_some, bs, Option.bind_some, os, Option.bind_some, ew, ptr2, Option.bind_some, if_pos rfl, if_pos rfl, if_pos c3, if_neg c1, ebw, decide_eq_false c2]
  refine rw_j2 k _ _ _ _ _ _ _ _ _ _ ebw ei ewe ?_
  intro hd
  have h : t / 4096 % 2 = 1 := of_decide_eq_true hd
  have hsp' := hsp h
  clear hsp hd h ptr1 ptr2 bs os ebw ewe ei c1 c2 c3 ew
  by_cases h1 : s = 1
  · have a1 : ((p - b : Nat) : Int) ≥ ((16 * ent t : Nat) : Int) := by omega
    have a2 : (s : Int) = 1 := by omega
    rw [decide_eq_true a1, a2]
    rfl
  · have a1 : ¬ ((p - b : Nat) : Int) ≥ ((16 * ent t : Nat) : Int) := by omega
    have a2 : ((s : Int) == 1) = false := by rw [beq_eq_false_iff_ne]; omega
    rw [decide_eq_false a1, a2]
theorem PointIn : lookasidelaw08_PointIn.Pure := by
  intro t va off ht0 hv0 ho0
  obtain ⟨t, rfl, ht⟩ := wf_u64 ht0
  obtain ⟨va, rfl, hv⟩ := wf_u64 hv0
  obtain ⟨off, rfl, ho⟩ := wf_u64 ho0
  refine ⟨14, ?_⟩
  have hb := ent_bounds t
  have hw := whole_bounds t
  unfold lookasidelaw08_PointIn.f
  rw [ref_entries t 14 (by omega), Option.bind_some, ref_split t ht, Option.bind_some]
  have go : lookasidelaw08_PointIn.j0 14 t va off ((ent t : Nat) : Int) (decide (t / 4096 % 2 = 1)) ((wholeN t : Nat) : Int) = some true := by
    simp only [lookasidelaw08_PointIn.j0]
    have e1 : IntKind.u64.wrap ((t / wholeN t : Nat) : Int) = ((t / wholeN t : Nat) : Int) := wrapu_nat _ (Nat.lt_of_le_of_lt (Nat.div_le_self _ _) ht)
    have e2 : IntKind.u64.wrap (((t / wholeN t : Nat) : Int) * ((wholeN t : Nat) : Int)) = ((t / wholeN t * wholeN t : Nat) : Int) := by
      rw [← Int.natCast_mul]
      exact wrapu_nat _ (Nat.lt_of_le_of_lt (Nat.div_mul_le_self _ _) ht)
    rw [if_neg (by omega), tdiv_nat, e1, e2]
    have r0 := round t va off 0 11 ht hv ho (by omega)
    have r1 := round t va off 1 9 ht hv ho (by omega)
    refine Eq.trans r0 (Eq.trans r1 ?_)
    simp only [lookasidelaw08_PointIn.l0]
    rw [if_neg (by omega), lives, Option.bind_some]
  by_cases h : t / 4096 % 2 = 1
  · rw [if_pos (decide_eq_true h)]
    have e : IntKind.u64.wrap (32 * ((ent t : Nat) : Int)) = ((wholeN t : Nat) : Int) := by
      rw [wu _ (by omega) (by omega)]; unfold wholeN; rw [if_pos h]; omega
    rw [e]
    exact go
  · rw [if_neg (by rw [decide_eq_false h]; exact Bool.false_ne_true)]
    have e : IntKind.u64.wrap (16 * ((ent t : Nat) : Int)) = ((wholeN t : Nat) : Int) := by
      rw [wu _ (by omega) (by omega)]; unfold wholeN; rw [if_neg h]; omega
    rw [e]
    exact go
end Go.Proofs.Ytlkojjkgbcpjjaa.Pure

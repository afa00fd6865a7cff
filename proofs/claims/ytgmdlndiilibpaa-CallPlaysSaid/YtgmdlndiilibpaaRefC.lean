/- What the document's calls answer (layer 15): the printed functions of lookasideref15, told in plain words. -/
import Derived.Test.YtgmdlndiilibpaaPRx4
import Derived.Test.YtgmdlndiilibpaaPRx5
import Derived.Test.YtgmdlndiilibpaaPRx10
import Derived.Test.YtgmdlndiilibpaaPRx9
import Derived.Test.YtgmdlndiilibpaaPRx7
import Derived.Test.YtgmdlndiilibpaaPRx6
import Derived.Test.YtgmdlndiilibpaaCallJ
namespace Go.Proofs.Ytgmdlndiilibpaa.PR
open Go.RowKit Go.Proofs.YtgmdlndiilibpaaW.PrintWords Go.Proofs.Ytgmdlndiilibpaa.PC Go.Proofs.Ytgmdlndiilibpaa.CallK
set_option linter.unusedVariables false
set_option linter.unusedSimpArgs false
theorem rd_at {l : List Int} {i : Nat} (h : i < l.length) : rd l (i : Int) = l[i] := by simp [rd, List.getD_eq_getElem?_getD, List.getElem?_eq_getElem h]
theorem wrap_at {i : Nat} (h : i ≤ 1000000) : wrap64 ((i : Int) + 1) = ((i + 1 : Nat) : Int) := by unfold wrap64; omega
theorem has_l0 (l : List Int) (x : Int) (hl : l.length ≤ 1000) (d : Nat) : ∀ (k i : Nat), l.length - i = d → i ≤ l.length → d < k → lookasideref15_has.l0 k l x i = some ((l.drop i).contains x) := by
  induction d with
  | zero =>
    intro k i hd hi hk
    obtain ⟨k, rfl⟩ : ∃ m, k = m + 1 := ⟨k - 1, by omega⟩
    simp only [lookasideref15_has.l0]
    rw [if_neg (by omega), List.drop_eq_nil_of_le (by omega)]; rfl
  | succ d ih =>
    intro k i hd hi hk
    obtain ⟨k, rfl⟩ : ∃ m, k = m + 1 := ⟨k - 1, by omega⟩
    have hil : i < l.length := by omega
    simp only [lookasideref15_has.l0]
    rw [if_pos (by omega), if_pos (by omega), rd_at hil, List.drop_eq_getElem_cons hil]
    by_cases h : l[i] = x
    · rw [if_pos h]; simp [h]
    · rw [if_neg h, wrap_at (by omega), ih k (i + 1) (by omega) (by omega) (by omega)]
      have hb : (x == l[i]) = false := by simp [Ne.symm h]
      rw [List.contains_cons, hb, Bool.false_or]
theorem has_f (l : List Int) (x : Int) (hl : l.length ≤ 1000) (k : Nat) (hk : l.length < k) : lookasideref15_has.f k l x = some (l.contains x) :=
  has_l0 l x hl l.length k 0 rfl (by omega) hk
/-- What Send answers. -/
def sendR (N : Int) (L : List S104) (kd cx va : Int) (T : List Int) : Int × List S104 × Int × Int :=
  if sendErr N.toNat kd va T = 0 then (N, L ++ [⟨⟨kd, cx, va⟩, T⟩], (L.length : Int), 0) else (N, L, 0, sendErr N.toNat kd va T)
theorem send_l1 (T : List Int) (hT : T.length ≤ 1000) (N : Int) (L : List S104) (hL : L.length ≤ 1000) (kd cx va : Int) (d : Nat) : ∀ (k i : Nat), T.length - i = d → i ≤ T.length → d + T.length < k →
    ∃ b : Bool, (b = true ↔ ∃ j, i ≤ j ∧ j < T.length ∧ dupAt T j = true) ∧ lookasideref15_Send.l1 k T i N L kd cx va = some (if b = true then (N, L, 0, 9) else (N, L ++ [⟨⟨kd, cx, va⟩, T⟩], (L.length : Int), 0)) := by
  induction d with
  | zero =>
    intro k i hd hi hk
    obtain ⟨k, rfl⟩ : ∃ m, k = m + 1 := ⟨k - 1, by omega⟩
    refine ⟨false, ⟨by simp, by rintro ⟨j, h1, h2, _⟩; omega⟩, ?_⟩
    simp only [lookasideref15_Send.l1]
    rw [if_neg (by omega), if_pos (by simp; omega), Option.bind_some, if_pos (by simp; omega), Option.bind_some]
    have : wrap64 (((([] : List S104) ++ L ++ [(⟨⟨kd, cx, va⟩, T⟩ : S104)]).length : Int) - 1) = (L.length : Int) := by
      simp only [List.nil_append, List.length_append, List.length_singleton]
      unfold wrap64; omega
    rw [this]; rfl
  | succ d ih =>
    intro k i hd hi hk
    obtain ⟨k, rfl⟩ : ∃ m, k = m + 1 := ⟨k - 1, by omega⟩
    have hil : i < T.length := by omega
    have hda : (T.take i).contains (rd T (i : Int)) = dupAt T i := by unfold dupAt rd; rw [Int.toNat_natCast]
    by_cases h : dupAt T i = true
    · refine ⟨true, ⟨fun _ => ⟨i, Nat.le_refl _, hil, h⟩, fun _ => rfl⟩, ?_⟩
      simp only [lookasideref15_Send.l1]
      rw [if_pos (by omega), if_pos (by omega), if_pos (by omega), Int.toNat_natCast, has_f _ _ (by rw [List.length_take]; omega) k (by rw [List.length_take]; omega), Option.bind_some, hda, if_pos h]; rfl
    · obtain ⟨b, hb, he⟩ := ih k (i + 1) (by omega) (by omega) (by omega)
      refine ⟨b, hb.trans ⟨fun ⟨j, a, b, c⟩ => ⟨j, by omega, b, c⟩, fun ⟨j, a, b, c⟩ => ?_⟩, ?_⟩
      · rcases Nat.eq_or_lt_of_le a with e | a
        · subst e; exact absurd c h
        · exact ⟨j, a, b, c⟩
      · simp only [lookasideref15_Send.l1]
        rw [if_pos (by omega), if_pos (by omega), if_pos (by omega), Int.toNat_natCast, has_f _ _ (by rw [List.length_take]; omega) k (by rw [List.length_take]; omega), Option.bind_some, hda, if_neg h, wrap_at (by omega), he]
theorem send_l0 (T : List Int) (hT : T.length ≤ 1000) (N : Nat) (L : List S104) (kd cx va : Int) (d : Nat) : ∀ (k i : Nat), T.length - i = d → i ≤ T.length →
    lookasideref15_Send.l0 (d + 1 + k) T i N L kd cx va = if (T.drop i).all (inR N) = true then lookasideref15_Send.l1 k T 0 N L kd cx va else some (N, L, 0, 5) := by
  induction d with
  | zero =>
    intro k i hd hi
    rw [show 0 + 1 + k = k + 1 by omega]
    simp only [lookasideref15_Send.l0]
    rw [if_neg (by omega), List.drop_eq_nil_of_le (by omega)]; rfl
  | succ d ih =>
    intro k i hd hi
    rw [show d + 1 + 1 + k = (d + 1 + k) + 1 by omega]
    have hil : i < T.length := by omega
    simp only [lookasideref15_Send.l0]
    rw [if_pos (by omega), if_pos (by omega), rd_at hil, List.drop_eq_getElem_cons hil, List.all_cons]
    by_cases h1 : T[i] < 0
    · have : inR N T[i] = false := by unfold inR; simp; omega
      rw [if_pos h1, this]; rfl
    · by_cases h2 : T[i] ≥ (N : Int)
      · have : inR N T[i] = false := by unfold inR; simp; omega
        rw [if_neg h1, if_pos h2, this]; rfl
      · have : inR N T[i] = true := by unfold inR; simp; omega
        rw [if_neg h1, if_neg h2, this, wrap_at (by omega), ih k (i + 1) (by omega) (by omega), Bool.true_and]
theorem dups_iff (T : List Int) : dups T = true ↔ ∃ j, 0 ≤ j ∧ j < T.length ∧ dupAt T j = true := by
  unfold dups
  rw [List.any_eq_true]
  constructor
  · rintro ⟨j, h1, h2⟩; exact ⟨j, by omega, List.mem_range.1 h1, h2⟩
  · rintro ⟨j, _, h1, h2⟩; exact ⟨j, List.mem_range.2 h1, h2⟩
theorem send_f (T : List Int) (hT : T.length ≤ 1000) (N : Nat) (L : List S104) (hL : L.length ≤ 1000) (kd cx va : Int) : lookasideref15_Send.f 5000 N L kd cx va T = some (sendR N L kd cx va T) := by
  have hj : ∀ b : Bool, lookasideref15_Send.j0 5000 T b N L kd cx va = some (if b = true then ((N : Int), L, 0, 1) else if T.all (inR N) = false then ((N : Int), L, 0, 5) else if dups T = true then ((N : Int), L, 0, 9) else ((N : Int), L ++ [⟨⟨kd, cx, va⟩, T⟩], (L.length : Int), 0)) := by
    intro b
    rw [show (5000 : Nat) = 4999 + 1 from rfl]
    simp only [lookasideref15_Send.j0]
    by_cases hb : b = true
    · rw [if_pos hb, if_pos hb]
    · rw [if_neg hb, if_neg hb]
      have h0 := send_l0 T hT N L kd cx va T.length (4999 - (T.length + 1)) 0 (by omega) (by omega)
      rw [show T.length + 1 + (4999 - (T.length + 1)) = 4999 by omega, List.drop_zero] at h0
      rw [show ((0 : Nat) : Int) = 0 from rfl] at h0
      rw [h0]
      cases hall : T.all (inR N) with
      | false => rw [if_neg (by simp), if_pos rfl]
      | true =>
        rw [if_pos rfl, if_neg (by simp)]
        obtain ⟨b, hb, h1⟩ := send_l1 T hT N L hL kd cx va T.length (4999 - (T.length + 1)) 0 (by omega) (by omega) (by omega)
        rw [show ((0 : Nat) : Int) = 0 from rfl] at h1
        have hbd : b = dups T := Bool.eq_iff_iff.2 (hb.trans (dups_iff T).symm)
        rw [h1, hbd]
  unfold lookasideref15_Send.f
  have hfin : ∀ b : Bool, b = (!okB kd va) → (if b = true then ((N : Int), L, (0 : Int), (1 : Int)) else if T.all (inR N) = false then ((N : Int), L, 0, 5) else if dups T = true then ((N : Int), L, 0, 9) else ((N : Int), L ++ [⟨⟨kd, cx, va⟩, T⟩], (L.length : Int), 0)) = sendR N L kd cx va T := by
    rintro b rfl
    unfold sendR sendErr
    rw [Int.toNat_natCast]
    cases okB kd va <;> cases T.all (inR N) <;> cases dups T <;> rfl
  by_cases h1 : kd < 0
  · rw [if_pos h1, hj, hfin true (by unfold okB; simp; omega)]
  · by_cases h2 : kd > 1
    · rw [if_neg h1, if_pos h2, hj, hfin true (by unfold okB; simp; omega)]
    · by_cases h3 : kd = 1
      · rw [if_neg h1, if_neg h2, if_pos h3, hj, hfin]
        subst h3; unfold okB; simp [bne]
      · rw [if_neg h1, if_neg h2, if_neg h3, hj, hfin false (by unfold okB; simp; omega)]
end Go.Proofs.Ytgmdlndiilibpaa.PR

import Derived.Test.YtcbnmmkmgpbfiaaPSx8
import Derived.Test.YtcbnmmkmgpbfiaaPSx6
import Derived.Test.YtcbnmmkmgpbfiaaPSx4
import Derived.Lib.Builder
import Derived.OneCell
import Derived.Test.YtcbnmmkmgpbfiaaPSx9
namespace Go.Proofs.Ytcbnmmkmgpbfiaa.PS
open Go.RowKit Go.Proofs.YtcbnmmkmgpbfiaaW.PrintWords Go.Proofs.YtcbnmmkmgpbfiaaW.PrintLast Go.Proofs.YtcbnmmkmgpbfiaaW.PrintMore
attribute [local go_sem] max2_int min2_int max_two min_two max_three min_three max_four min_four   -- for this text's walks alone
set_option linter.unusedVariables false
set_option linter.unusedSimpArgs false
theorem up_fuel {α : Type} {f : Nat → Option α} (hm : ∀ k, LeO (f k) (f (k + 1))) {n : Nat} {v : α} (h : f n = some v) : ∀ k, n ≤ k → f k = some v := by
  intro k hk
  induction k with
  | zero => obtain rfl : n = 0 := by omega
            exact h
  | succ k ih =>
    by_cases he : n = k + 1
    · exact he ▸ h
    · exact hm k v (ih (by omega))
/-- Whether attributes let less be: both ways, at all attributes. -/
def lessV (a0 a1 a2 a3 a4 a5 b0 b1 b2 b3 b4 b5 : Bool) : Bool := (fault_Less.f 20 a0 a1 a2 a3 a4 a5 b0 b1 b2 b3 b4 b5).getD false
theorem less_both : ∀ a0 a1 a2 a3 a4 a5 b0 b1 b2 b3 b4 b5 : Bool, (fault_Less.f 20 a0 a1 a2 a3 a4 a5 b0 b1 b2 b3 b4 b5).isSome = true ∧ lookasideref09_Less.f 20 a0 a1 a2 a3 a4 a5 b0 b1 b2 b3 b4 b5 = fault_Less.f 20 a0 a1 a2 a3 a4 a5 b0 b1 b2 b3 b4 b5 := by
  decide +kernel
theorem less_ref (k : Nat) (hk : 20 ≤ k) (a0 a1 a2 a3 a4 a5 b0 b1 b2 b3 b4 b5 : Bool) : lookasideref09_Less.f k a0 a1 a2 a3 a4 a5 b0 b1 b2 b3 b4 b5 = fault_Less.f 20 a0 a1 a2 a3 a4 a5 b0 b1 b2 b3 b4 b5 := by
  obtain ⟨h1, h2⟩ := less_both a0 a1 a2 a3 a4 a5 b0 b1 b2 b3 b4 b5
  obtain ⟨v, hv⟩ := Option.isSome_iff_exists.1 h1
  rw [hv] at h2 ⊢
  exact up_fuel (f := fun k => lookasideref09_Less.f k a0 a1 a2 a3 a4 a5 b0 b1 b2 b3 b4 b5) (fun k => lookasideref09_Less.mono _ _ _ _ _ _ _ _ _ _ _ _ k) h2 k hk
theorem less_some (a0 a1 a2 a3 a4 a5 b0 b1 b2 b3 b4 b5 : Bool) : ∃ v, fault_Less.f 20 a0 a1 a2 a3 a4 a5 b0 b1 b2 b3 b4 b5 = some v :=
  Option.isSome_iff_exists.1 (less_both a0 a1 a2 a3 a4 a5 b0 b1 b2 b3 b4 b5).1
theorem sR_some (e : S32) (l : List S30) : ∃ b, sR e l = some b := by
  unfold sR shoot_Right.f
  split
  · split
    · exact less_some _ _ _ _ _ _ _ _ _ _ _ _
    · exact ⟨_, rfl⟩
  · exact ⟨_, rfl⟩
theorem wi (n : Int) (h0 : -9223372036854775808 ≤ n) (h1 : n ≤ 9223372036854775807) : wrap64 n = n := by unfold wrap64; omega
theorem rd30 {l : List S30} {j : Nat} (hj : j < l.length) : rd_T30 l j = l[j] := by simp [rd_T30, List.getD_eq_getElem?_getD, List.getElem?_eq_getElem hj]
theorem rd32 {l : List S32} {j : Nat} (hj : j < l.length) : rd_T32 l j = l[j] := by simp [rd_T32, List.getD_eq_getElem?_getD, List.getElem?_eq_getElem hj]
theorem right_l0 (e : S32) (l : List S30) (hs : l.length ≤ 1000000000000) : ∀ (k j : Nat), j ≤ l.length → l.length + 25 < j + k → (∀ q (hq : q < l.length), q < j → ofP e.f2 e.f0 (l[q]'hq) = false) →
    lookasideref18_Right.l0 k l j e.f0 e.f1 e.f2 e.f3 e.f4.f0 e.f4.f1 e.f4.f2 e.f4.f3 e.f4.f4 e.f4.f5 e.f5 = sR e l
  | 0, j, h1, h2, _ => by omega
  | k + 1, j, h1, h2, hno => by
    unfold lookasideref18_Right.l0
    by_cases hj : j < l.length
    · rw [if_pos (by omega), if_pos (by omega), rd30 hj, less_ref k (by omega)]
      obtain ⟨v, hv⟩ := less_some e.f4.f0 e.f4.f1 e.f4.f2 e.f4.f3 e.f4.f4 e.f4.f5 l[j].f3.f0 l[j].f3.f1 l[j].f3.f2 l[j].f3.f3 l[j].f3.f4 l[j].f3.f5
      rw [hv]
      simp only [Option.bind_some]
      have hrec : ofP e.f2 e.f0 l[j] = false → lookasideref18_Right.l0 k l (wrap64 ((j : Int) + 1)) e.f0 e.f1 e.f2 e.f3 e.f4.f0 e.f4.f1 e.f4.f2 e.f4.f3 e.f4.f4 e.f4.f5 e.f5 = sR e l := fun hf => by
        rw [wi _ (by omega) (by omega)]
        exact right_l0 e l hs k (j + 1) (by omega) (by omega) (fun q hq hqj => by
          rcases Nat.lt_or_ge q j with h | h
          · exact hno q hq h
          · obtain rfl : q = j := by omega
            exact hf)
      by_cases hva : l[j].f0 = e.f2
      · rw [if_pos hva]
        by_cases hsz : l[j].f1 = e.f0
        · rw [if_pos hsz]
          have hp : pidx e.f2 e.f0 l = j := pidx_at _ _ l j hj hno (by simp [ofP, hva, hsz])
          unfold sR shoot_Right.f
          have hp' : pidx e.f2 e.f0 l < l.length := hp ▸ hj
          rw [dif_pos hp']
          simp only [hp]
          by_cases hpa : l[j].f2 = e.f3
          · rw [if_pos hpa, if_pos hpa, hv]
          · rw [if_neg hpa, if_neg hpa]
        · rw [if_neg hsz]
          exact hrec (by simp [ofP, hsz])
      · rw [if_neg hva]
        exact hrec (by simp [ofP, hva])
    · rw [if_neg (by omega)]
      have hp : pidx e.f2 e.f0 l = l.length := pidx_none _ _ l (fun q hq => hno q hq (by omega))
      unfold sR shoot_Right.f
      rw [dif_neg (by rw [hp]; exact Nat.lt_irrefl _)]
theorem right_f (e : S32) (l : List S30) (hs : l.length ≤ 1000000000000) (k : Nat) (hk : l.length + 25 < k) : lookasideref18_Right.f k e.f0 e.f1 e.f2 e.f3 e.f4.f0 e.f4.f1 e.f4.f2 e.f4.f3 e.f4.f4 e.f4.f5 e.f5 l = sR e l :=
  right_l0 e l hs k 0 (Nat.zero_le _) (by omega) (fun q _ h => by omega)
theorem wrong_l0 (l1 : List S30) (hs : l1.length ≤ 1000) (l : List S32) (hl : l.length ≤ 1000) : ∀ (k j : Nat), j ≤ l.length → l.length + l1.length + 30 < j + k →
    lookasideref19_Wrong.l0 k l l1 ((l.take j).filter (sW l1)) j = some (l.filter (sW l1))
  | 0, j, h1, h2 => by omega
  | k + 1, j, h1, h2 => by
    unfold lookasideref19_Wrong.l0
    by_cases hj : j < l.length
    · rw [if_pos (by omega), if_pos (by omega), rd32 hj, right_f l[j] l1 (by omega) k (by omega)]
      obtain ⟨b, hb⟩ := sR_some l[j] l1
      rw [hb]
      simp only [Option.bind_some]
      have hlen : ((l.take j).filter (sW l1)).length ≤ 1000 := Nat.le_trans (List.length_filter_le _ _) (by rw [List.length_take]; omega)
      have htk : (l.take (j + 1)).filter (sW l1) = (l.take j).filter (sW l1) ++ (if b = true then [] else [l[j]]) := by
        rw [List.take_succ_eq_append_getElem hj, List.filter_append]
        cases b <;> simp [List.filter_cons, sW, hb]
      have hrec := wrong_l0 l1 hs l hl k (j + 1) (by omega) (by omega)
      rw [htk] at hrec
      rw [wi _ (by omega) (by omega)]
      cases b with
      | true => simpa using hrec
      | false =>
        rw [if_neg (by simp), if_pos (by omega)]
        simpa using hrec
    · rw [if_neg (by omega), List.take_of_length_le (by omega)]
theorem wrong_f (l1 : List S30) (hs : l1.length ≤ 1000) (l : List S32) (hl : l.length ≤ 1000) (k : Nat) (hk : l.length + l1.length + 30 < k) : lookasideref19_Wrong.f k l l1 = some (l.filter (sW l1)) := by
  have := wrong_l0 l1 hs l hl k 0 (Nat.zero_le _) (by omega)
  unfold lookasideref19_Wrong.f
  simpa using this
theorem wrong_p (l1 : List S30) (l : List S32) (hl : l.length ≤ 1000) : shoot_Wrong.f l l1 = some (l.filter (sW l1)) := by
  unfold shoot_Wrong.f
  rw [if_pos]
  simp only [Bool.and_eq_true, List.all_eq_true, decide_eq_true_eq]
  exact ⟨fun e _ => Option.isSome_iff_exists.2 (sR_some e l1), by omega⟩
theorem same_l0 (l : List S32) (hl : l.length ≤ 1000) : ∀ (k j : Nat), j ≤ l.length → l.length < j + k → lookasideref06_Same.l0 k l l j = some true
  | 0, j, h1, h2 => by omega
  | k + 1, j, h1, h2 => by
    unfold lookasideref06_Same.l0
    by_cases hj : j < l.length
    · rw [if_pos (by omega), if_pos (by omega), if_pos (by omega), if_neg (by simp), wi _ (by omega) (by omega)]
      exact same_l0 l hl k (j + 1) (by omega) (by omega)
    · rw [if_neg (by omega)]
theorem same_f (l : List S32) (hl : l.length ≤ 1000) (k : Nat) (hk : l.length < k) : lookasideref06_Same.f k l l = some true := by
  unfold lookasideref06_Same.f
  rw [if_pos rfl]
  exact same_l0 l hl k 0 (Nat.zero_le _) (by omega)
/-! What makes such as may be tells something always. -/
theorem bytes_some (s : Int) : ∃ v, lookasideref02_Bytes.f s = some v := by
  unfold lookasideref02_Bytes.f
  repeat (first | exact ⟨_, rfl⟩ | split)
theorem base_some (a s : Int) : ∃ v, lookasideref02_Base.f a s = some v := by
  unfold lookasideref02_Base.f lookasideref02_May.f
  by_cases h0 : s = 0
  · subst h0; exact ⟨_, by simp [lookasideref02_Bytes.f]; rfl⟩
  by_cases h1 : s = 1
  · subst h1; exact ⟨_, by simp [lookasideref02_Bytes.f]; rfl⟩
  by_cases h2 : s = 2
  · subst h2; exact ⟨_, by simp [lookasideref02_Bytes.f]; rfl⟩
  by_cases h3 : s = 3
  · subst h3; exact ⟨_, by simp [lookasideref02_Bytes.f]; rfl⟩
  refine ⟨0, ?_⟩
  by_cases h : s ≥ 0
  · rw [if_pos h]
    simp only [Option.bind_some]
    rw [if_neg (by simp; omega)]
  · rw [if_neg h]
    rfl
theorem bit_l0 (n : Nat) (hn : n ≤ 1000) : ∀ (k j : Nat) (a : Int), j ≤ n → n < j + k → ∃ v, lookasideref01_Bit.l0 k a n j = some v
  | 0, j, a, h1, h2 => by omega
  | k + 1, j, a, h1, h2 => by
    unfold lookasideref01_Bit.l0
    by_cases hj : j < n
    · rw [if_pos (by omega), wi _ (by omega) (by omega)]
      exact bit_l0 n hn k (j + 1) _ (by omega) (by omega)
    · rw [if_neg (by omega)]
      exact ⟨_, rfl⟩
theorem va_some (k : Nat) (hk : 50 ≤ k) (a : Int) : ∃ v, lookasideref02_Va.f k a = some v := by
  unfold lookasideref02_Va.f lookasideref01_Bit.f
  obtain ⟨v, hv⟩ := bit_l0 43 (by omega) k 0 a (by omega) (by omega)
  rw [show ((43 : Nat) : Int) = 43 from rfl, show ((0 : Nat) : Int) = 0 from rfl] at hv
  rw [hv]
  simp only [Option.bind_some]
  split <;> exact ⟨_, rfl⟩
theorem good3_some (k : Nat) (hk : 60 ≤ k) (e : S32) : ∃ y : S32, lookasideref03_Good.f k e.f0 e.f1 e.f2 e.f3 e.f4.f0 e.f4.f1 e.f4.f2 e.f4.f3 e.f4.f4 e.f4.f5 e.f5 = some (y.f0, y.f1, y.f2, y.f3, y.f4.f0, y.f4.f1, y.f4.f2, y.f4.f3, y.f4.f4, y.f4.f5, y.f5) := by
  obtain ⟨k, rfl⟩ : ∃ m, k = m + 1 + 1 := ⟨k - 2, by omega⟩
  obtain ⟨v, hv⟩ := va_some k (by omega) e.f2
  unfold lookasideref03_Good.f
  have hj1 : ∀ n x5 : Int, ∃ y : S32, lookasideref03_Good.j1 (k + 1) x5 e.f0 e.f1 e.f2 e.f3 e.f4.f0 e.f4.f1 e.f4.f2 e.f4.f3 e.f4.f4 e.f4.f5 e.f5 n 0 0 0 e.f4.f0 e.f4.f1 e.f4.f2 e.f4.f3 e.f4.f4 e.f4.f5 true = some (y.f0, y.f1, y.f2, y.f3, y.f4.f0, y.f4.f1, y.f4.f2, y.f4.f3, y.f4.f4, y.f4.f5, y.f5) := fun n x5 => by
    rw [lookasideref03_Good.j1]
    obtain ⟨b1, h1⟩ := base_some v n
    obtain ⟨b2, h2⟩ := base_some (Int.tmod e.f3 2199023255552) n
    rw [hv]
    simp only [Option.bind_some]
    rw [h1]
    simp only [Option.bind_some]
    rw [h2]
    simp only [Option.bind_some]
    split
    · exact ⟨⟨_, _, _, _, ⟨_, _, _, _, _, _⟩, _⟩, rfl⟩
    · exact ⟨⟨_, _, _, _, ⟨_, _, _, _, _, _⟩, _⟩, rfl⟩
  have hj0 : ∀ x4 : Int, ∃ y : S32, lookasideref03_Good.j0 (k + 1 + 1) x4 e.f0 e.f1 e.f2 e.f3 e.f4.f0 e.f4.f1 e.f4.f2 e.f4.f3 e.f4.f4 e.f4.f5 e.f5 0 0 0 0 e.f4.f0 e.f4.f1 e.f4.f2 e.f4.f3 e.f4.f4 e.f4.f5 true = some (y.f0, y.f1, y.f2, y.f3, y.f4.f0, y.f4.f1, y.f4.f2, y.f4.f3, y.f4.f4, y.f4.f5, y.f5) := fun x4 => by
    rw [lookasideref03_Good.j0]
    split
    · exact hj1 _ _
    · exact hj1 _ _
  split
  · exact hj0 _
  · exact hj0 _
theorem good12_some (k : Nat) (hk : 60 ≤ k) (p : S30) : ∃ y : S30, lookasideref12_Good.f k p.f0 p.f1 p.f2 p.f3.f0 p.f3.f1 p.f3.f2 p.f3.f3 p.f3.f4 p.f3.f5 p.f4 p.f5 = some (y.f0, y.f1, y.f2, y.f3.f0, y.f3.f1, y.f3.f2, y.f3.f3, y.f3.f4, y.f3.f5, y.f4, y.f5) := by
  obtain ⟨v, hv⟩ := va_some k (by omega) p.f0
  unfold lookasideref12_Good.f
  rw [hv]
  simp only [Option.bind_some]
  split
  · obtain ⟨b1, h1⟩ := base_some v (Int.tmod (wrap64 (-(wrap64 (p.f1 + 1)))) 4)
    obtain ⟨b2, h2⟩ := base_some (Int.tmod p.f2 2199023255552) (Int.tmod (wrap64 (-(wrap64 (p.f1 + 1)))) 4)
    rw [h1]
    simp only [Option.bind_some]
    rw [h2]
    simp only [Option.bind_some]
    exact ⟨⟨_, _, _, ⟨_, _, _, _, _, _⟩, _, _⟩, rfl⟩
  · obtain ⟨b1, h1⟩ := base_some v (Int.tmod p.f1 4)
    obtain ⟨b2, h2⟩ := base_some (Int.tmod p.f2 2199023255552) (Int.tmod p.f1 4)
    rw [h1]
    simp only [Option.bind_some]
    rw [h2]
    simp only [Option.bind_some]
    exact ⟨⟨_, _, _, ⟨_, _, _, _, _, _⟩, _, _⟩, rfl⟩
theorem entries_l0 (l : List S32) : ∀ (k j : Nat) (x : List S32), j ≤ 12 → 12 + 70 < j + k → x.length = j → ∃ r, lookasidelaw19_entries.l0 k l x j = some r ∧ r.length ≤ 12
  | 0, j, x, h1, h2, _ => by omega
  | k + 1, j, x, h1, h2, h3 => by
    unfold lookasidelaw19_entries.l0
    split
    · split
      · rw [if_pos (by omega)]
        obtain ⟨y, hy⟩ := good3_some k (by omega) (rd_T32 l j)
        rw [hy]
        simp only [Option.bind_some]
        rw [if_pos (by omega), wi _ (by omega) (by omega)]
        exact entries_l0 l k (j + 1) _ (by omega) (by omega) (by simp [h3])
      · exact ⟨_, rfl, by omega⟩
    · exact ⟨_, rfl, by omega⟩
theorem entries_some (l : List S32) : ∃ r, lookasidelaw19_entries.f 100 l = some r ∧ r.length ≤ 12 := entries_l0 l 100 0 [] (by omega) (by omega) rfl
theorem pages_l0 (l : List S30) : ∀ (k j : Nat) (x : List S30), j ≤ 12 → 12 + 70 < j + k → x.length = j → ∃ r, lookasidelaw19_pages.l0 k l x j = some r ∧ r.length ≤ 12
  | 0, j, x, h1, h2, _ => by omega
  | k + 1, j, x, h1, h2, h3 => by
    unfold lookasidelaw19_pages.l0
    split
    · split
      · rw [if_pos (by omega)]
        obtain ⟨y, hy⟩ := good12_some k (by omega) (rd_T30 l j)
        rw [hy]
        simp only [Option.bind_some]
        rw [if_pos (by omega), wi _ (by omega) (by omega)]
        exact pages_l0 l k (j + 1) _ (by omega) (by omega) (by simp [h3])
      · exact ⟨_, rfl, by omega⟩
    · exact ⟨_, rfl, by omega⟩
theorem pages_some (l : List S30) : ∃ r, lookasidelaw19_pages.f 100 l = some r ∧ r.length ≤ 12 := pages_l0 l 100 0 [] (by omega) (by omega) rfl
theorem lives_true : lookasidelaw19_lives.f = some true := by decide +kernel
end Go.Proofs.Ytcbnmmkmgpbfiaa.PS

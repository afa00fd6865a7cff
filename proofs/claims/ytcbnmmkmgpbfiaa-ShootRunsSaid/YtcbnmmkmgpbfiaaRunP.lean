/- ShootRuns: plain: the insertion sort, what is kept of a rising list, the law's counting. -/
import Derived.Test.YtcbnmmkmgpbfiaaPNx16
import Derived.Test.YtcbnmmkmgpbfiaaRunS
namespace Go.Proofs.Ytcbnmmkmgpbfiaa.RunP
open Go.RowKit Go.Proofs.Ytcbnmmkmgpbfiaa.PN Go.Proofs.YtcbnmmkmgpbfiaaW.PrintWords Go.Lib
set_option linter.unusedVariables false
set_option linter.unusedSimpArgs false
abbrev g (x : List Int) (q : Nat) : Int := x.getD q 0
def SortedTo (x : List Int) (i : Nat) : Prop := ∀ a b, a < b → b < i → g x a ≤ g x b
def Inv (x : List Int) (i j : Nat) : Prop := (∀ a b, a < b → b ≤ i → a ≠ j → b ≠ j → g x a ≤ g x b) ∧ (∀ b, j < b → b ≤ i → g x j ≤ g x b)
theorem mem_g {x : List Int} {v : Int} : v ∈ x ↔ ∃ q, q < x.length ∧ g x q = v := by
  constructor
  · intro h
    obtain ⟨q, hq, rfl⟩ := List.getElem_of_mem h
    exact ⟨q, hq, by simp [g, List.getD_eq_getElem?_getD, List.getElem?_eq_getElem hq]⟩
  · rintro ⟨q, hq, rfl⟩
    simp only [g, List.getD_eq_getElem?_getD, List.getElem?_eq_getElem hq, Option.getD_some]
    exact List.getElem_mem hq
def swp (x : List Int) (j : Nat) : List Int := (x.set (j + 1) (g x j)).set j (g x (j + 1))
theorem swp_length (x : List Int) (j : Nat) : (swp x j).length = x.length := by simp [swp]
theorem swp_g {x : List Int} {j : Nat} (h : j + 1 < x.length) (q : Nat) : g (swp x j) q = if q = j then g x (j + 1) else if q = j + 1 then g x j else g x q := by
  unfold swp
  simp only [g, List.getD_eq_getElem?_getD, List.getElem?_set]
  by_cases e1 : q = j
  · subst e1
    simp [List.length_set, show q < x.length by omega]
  · rw [if_neg (Ne.symm e1), if_neg e1]
    by_cases e2 : q = j + 1
    · subst e2
      simp [h]
    · rw [if_neg (Ne.symm e2), if_neg e2]
theorem swp_mem {x : List Int} {j : Nat} (h : j + 1 < x.length) (v : Int) : v ∈ swp x j ↔ v ∈ x := by
  rw [mem_g, mem_g, swp_length]
  constructor
  · rintro ⟨q, hq, rfl⟩
    rw [swp_g h]
    split
    · exact ⟨j + 1, h, rfl⟩
    · split
      · exact ⟨j, by omega, rfl⟩
      · exact ⟨q, hq, rfl⟩
  · rintro ⟨q, hq, rfl⟩
    by_cases e1 : q = j
    · exact ⟨j + 1, h, by rw [swp_g h, if_neg (by omega), if_pos rfl, e1]⟩
    · by_cases e2 : q = j + 1
      · exact ⟨j, by omega, by rw [swp_g h, if_pos rfl, e2]⟩
      · exact ⟨q, hq, by rw [swp_g h, if_neg e1, if_neg e2]⟩
def Done (x r : List Int) : Prop := r.length = x.length ∧ (∀ v, v ∈ r ↔ v ∈ x) ∧ SortedTo r r.length
theorem Inv.swp {x : List Int} {i j : Nat} (h : Inv x i (j + 1)) (hi : i < x.length) (hj : j + 1 ≤ i) (hlt : g x (j + 1) < g x j) : Inv (swp x j) i j := by
  have hl : j + 1 < x.length := by omega
  refine ⟨fun a b hab hb ha hb' => ?_, fun b hb hbi => ?_⟩
  · rw [swp_g hl, swp_g hl, if_neg ha, if_neg hb']
    by_cases e1 : a = j + 1
    · rw [if_pos e1, if_neg (by omega)]
      exact h.1 j b (by omega) hb (by omega) (by omega)
    · rw [if_neg e1]
      by_cases e2 : b = j + 1
      · rw [if_pos e2]
        exact h.1 a j (by omega) (by omega) e1 (by omega)
      · rw [if_neg e2]
        exact h.1 a b hab hb e1 e2
  · rw [swp_g hl, swp_g hl, if_pos rfl, if_neg (by omega)]
    by_cases e : b = j + 1
    · rw [if_pos e]; omega
    · rw [if_neg e]
      exact h.2 b (by omega) hbi
theorem Inv.stop {x : List Int} {i j : Nat} (h : Inv x i j) (hj : j ≤ i) (h0 : j = 0 ∨ g x (j - 1) ≤ g x j) : SortedTo x (i + 1) := by
  intro a b hab hb
  by_cases ea : a = j
  · subst ea; exact h.2 b hab (by omega)
  · by_cases eb : b = j
    · subst eb
      rcases h0 with h0 | h0
      · omega
      · by_cases e : a = b - 1
        · rw [e]; exact h0
        · exact Int.le_trans (h.1 a (b - 1) (by omega) (by omega) ea (by omega)) h0
    · exact h.1 a b hab (by omega) ea eb
theorem less_f (a b : Int) : cmp_Less_uint64.f a b = some (decide (a < b)) := by
  unfold cmp_Less_uint64.f cmp_isNaN_uint64.f
  simp
theorem w_small {x : Int} (h : -9223372036854775808 ≤ x ∧ x ≤ 9223372036854775807) : wrap64 x = x := by unfold wrap64; omega
theorem sort_ok (n : Nat) (hn : n ≤ 12) : ∀ k : Nat,
    (∀ (x : List Int) (i : Nat), x.length = n → 1 ≤ i → i ≤ n + 1 → SortedTo x (min i n) → (n - i) * 14 + 1 ≤ k → ∃ r, slices_insertionSortOrdered_uint64.l0 k x 0 n i = some r ∧ Done x r) ∧
    (∀ (x : List Int) (i j : Nat), x.length = n → 1 ≤ i → i < n → j ≤ i → Inv x i j → (n - i - 1) * 14 + j + 2 ≤ k → ∃ r, slices_insertionSortOrdered_uint64.l1 k x 0 n i j = some r ∧ Done x r) := by
  intro k
  induction k with
  | zero => exact ⟨fun x i _ _ _ _ h => absurd h (by omega), fun x i j _ _ _ _ _ h => absurd h (by omega)⟩
  | succ k ih =>
    refine ⟨fun x i hl hi1 hi hs hk => ?_, fun x i j hl hi1 hi hj hv hk => ?_⟩
    · simp only [slices_insertionSortOrdered_uint64.l0]
      by_cases c : i < n
      · rw [if_pos (by omega)]
        rw [show min i n = i by omega] at hs
        refine ih.2 x i i hl hi1 c (Nat.le_refl _) ⟨fun a b hab hb ha hb' => hs a b hab (by omega), fun b hb hbi => absurd hb (by omega)⟩ (by omega)
      · rw [if_neg (by omega)]
        rw [show min i n = n by omega] at hs
        exact ⟨x, rfl, rfl, fun _ => Iff.rfl, by rw [hl]; exact hs⟩
    · simp only [slices_insertionSortOrdered_uint64.l1]
      have hnext : (∃ r, slices_insertionSortOrdered_uint64.l0 k x 0 n (wrap64 ((i : Int) + 1)) = some r ∧ Done x r) ∨ ¬ (j = 0 ∨ g x (j - 1) ≤ g x j) := by
        by_cases c : j = 0 ∨ g x (j - 1) ≤ g x j
        · left
          rw [w_small (by omega), show (i : Int) + 1 = ((i + 1 : Nat) : Int) by push_cast; rfl]
          exact ih.1 x (i + 1) hl (by omega) (by omega) (by rw [show min (i + 1) n = i + 1 by omega]; exact hv.stop hj c) (by omega)
        · exact .inr c
      by_cases c : j = 0
      · subst c
        rw [if_neg (by omega)]
        rcases hnext with h | h
        · exact h
        · exact absurd (.inl rfl) h
      · obtain ⟨j, rfl⟩ : ∃ q, j = q + 1 := ⟨j - 1, by omega⟩
        have e1 : wrap64 (((j + 1 : Nat) : Int) - 1) = (j : Int) := by rw [w_small (by omega)]; omega
        rw [if_pos (by omega), if_pos (by omega), if_pos (by omega), e1, if_pos (by omega), if_pos (by omega), less_f, Option.bind_some]
        by_cases lt : g x (j + 1) < g x j
        · rw [if_pos (decide_eq_true (show rd x ((j + 1 : Nat) : Int) < rd x (j : Int) from lt))]
          have h1 := ih.2 (swp x j) i j (by rw [swp_length]; exact hl) hi1 hi (by omega) (hv.swp (by omega) (by omega) lt) (by omega)
          obtain ⟨r, h2, h3⟩ := h1
          exact ⟨r, h2, by rw [h3.1, swp_length], fun v => (h3.2.1 v).trans (swp_mem (by omega) v), h3.2.2⟩
        · rw [if_neg (by rw [decide_eq_false (show ¬ rd x ((j + 1 : Nat) : Int) < rd x (j : Int) from lt)]; simp)]
          rcases hnext with h | h
          · exact h
          · exact absurd (.inr (by rw [Nat.add_sub_cancel]; omega)) h
theorem isort_f (x : List Int) (hx : x.length ≤ 12) : ∃ r, slices_insertionSortOrdered_uint64.f 1000 x 0 (x.length : Int) = some r ∧ Done x r := by
  unfold slices_insertionSortOrdered_uint64.f
  rw [w_small (by omega)]
  exact (sort_ok x.length hx 1000).1 x 1 rfl (Nat.le_refl _) (by omega) (fun a b hab hb => absurd hb (by omega)) (by omega)
/-- What is kept of a rising list. -/
theorem kept {r : List Int} (hs : SortedTo r r.length) : (compactUpTo r.toArray r.toArray.size).Pairwise (· < ·) ∧ ∀ v, v ∈ compactUpTo r.toArray r.toArray.size ↔ v ∈ r := by
  have hg : ∀ q, q < r.length → r.toArray[q]! = g r q := fun q hq => by
    simp [g, List.getD_eq_getElem?_getD, List.getElem?_eq_getElem hq, hq]
  refine ⟨?_, fun v => ?_⟩
  · unfold compactUpTo
    rw [List.pairwise_map, List.pairwise_filter]
    refine (List.pairwise_lt_range).imp_of_mem ?_
    intro a b ha hb hab ka kb
    have ha := List.mem_range.1 ha
    have hb := List.mem_range.1 hb
    simp only [List.size_toArray] at ha hb
    unfold keeps at kb
    have kb := of_decide_eq_true kb
    rw [hg a ha, hg b hb]
    rw [hg b hb, hg (b - 1) (by omega)] at kb
    have h1 := hs (b - 1) b (by omega) hb
    have h2 : g r a ≤ g r (b - 1) := by
      by_cases e : a = b - 1
      · rw [e]; exact Int.le_refl _
      · exact hs a (b - 1) (by omega) (by omega)
    have h3 : g r (b - 1) ≠ g r b := fun e => by
      rcases kb with h | h
      · omega
      · exact h e.symm
    omega
  · unfold compactUpTo
    rw [List.mem_map, mem_g]
    constructor
    · rintro ⟨q, hq, rfl⟩
      have hq := List.mem_range.1 (List.mem_filter.1 hq).1
      simp only [List.size_toArray] at hq
      exact ⟨q, hq, (hg q hq).symm⟩
    · rintro ⟨q, hq, rfl⟩
      have key : ∀ q, q < r.length → ∃ a, a ∈ (List.range r.toArray.size).filter (keeps r.toArray) ∧ r.toArray[a]! = g r q := by
        intro q
        induction q with
        | zero => exact fun hq => ⟨0, List.mem_filter.2 ⟨List.mem_range.2 (by simpa using hq), by simp [keeps]⟩, hg 0 hq⟩
        | succ q ih =>
          intro hq
          by_cases e : g r (q + 1) = g r q
          · obtain ⟨a, h1, h2⟩ := ih (by omega)
            exact ⟨a, h1, by rw [h2, e]⟩
          · refine ⟨q + 1, List.mem_filter.2 ⟨List.mem_range.2 (by simpa using hq), ?_⟩, hg _ hq⟩
            unfold keeps
            refine decide_eq_true (.inr ?_)
            rw [hg _ hq, Nat.add_sub_cancel, hg q (by omega)]
            exact e
      exact key q hq
/-- The law's count. -/
def cnt (ps r : List Int) (k : Nat) : Int := (ps.countP (fun p => decide (p ∈ r.take k)) : Int)
def eqs (ps : List Int) (v : Int) (i : Nat) : Int := ((ps.take i).countP (fun p => decide (p = v)) : Int)
theorem cnt_zero (ps r : List Int) : cnt ps r 0 = 0 := by simp [cnt]
theorem eqs_zero (ps : List Int) (v : Int) : eqs ps v 0 = 0 := by simp [eqs]
theorem eqs_succ {ps : List Int} {v : Int} {i : Nat} (h : i < ps.length) : eqs ps v (i + 1) = eqs ps v i + (if ps[i] = v then 1 else 0) := by
  unfold eqs
  rw [List.take_succ_eq_append_getElem h, List.countP_append, List.countP_singleton]
  by_cases e : ps[i] = v
  · rw [if_pos (decide_eq_true e), if_pos e]; push_cast; rfl
  · rw [if_neg (by simp [e]), if_neg e]; push_cast; rfl
theorem eqs_bd (ps : List Int) (v : Int) (i : Nat) : 0 ≤ eqs ps v i ∧ eqs ps v i ≤ (ps.length : Int) := by
  unfold eqs
  have h1 := List.countP_le_length (p := fun p : Int => decide (p = v)) (l := ps.take i)
  rw [List.length_take] at h1
  omega
theorem cnt_bd (ps r : List Int) (k : Nat) : 0 ≤ cnt ps r k ∧ cnt ps r k ≤ (ps.length : Int) := by
  unfold cnt
  have h1 := List.countP_le_length (p := fun p : Int => decide (p ∈ r.take k)) (l := ps)
  omega
theorem count_app (T : List Int) (v : Int) (hn : v ∉ T) : ∀ l : List Int, l.countP (fun p => decide (p ∈ T ++ [v])) = l.countP (fun p => decide (p ∈ T)) + l.countP (fun p => decide (p = v))
  | [] => rfl
  | p :: l => by
    rw [List.countP_cons, List.countP_cons, List.countP_cons, count_app T v hn l]
    have e : (if decide (p ∈ T ++ [v]) = true then 1 else 0) = (if decide (p ∈ T) = true then 1 else 0) + (if decide (p = v) = true then 1 else 0) := by
      by_cases e1 : p = v
      · subst e1
        simp [hn]
      · by_cases e2 : p ∈ T
        · simp [e1, e2]
        · simp [e1, e2]
    omega
theorem cnt_succ {ps r : List Int} {k : Nat} (h : k < r.length) (hp : r.Pairwise (· < ·)) : cnt ps r (k + 1) = cnt ps r k + eqs ps r[k] ps.length := by
  unfold cnt eqs
  rw [List.take_of_length_le (Nat.le_refl _)]
  have hn : r[k] ∉ r.take k := fun hm => by
    obtain ⟨a, ha, e⟩ := List.mem_take_iff_getElem.1 hm
    have := List.pairwise_iff_getElem.1 hp a k (by omega) h (by omega)
    omega
  rw [List.take_succ_eq_append_getElem h]
  rw [count_app _ _ hn]; push_cast; rfl
theorem cnt_all {ps r : List Int} (h : ∀ v, v ∈ ps → v ∈ r) : cnt ps r r.length = (ps.length : Int) := by
  unfold cnt
  rw [List.take_of_length_le (Nat.le_refl _), List.countP_eq_length.2 (fun p hp => decide_eq_true (h p hp))]
theorem found_zero (ps : List Int) (v : Int) : decide (v ∈ ps.take 0) = false := by simp
theorem found_succ {ps : List Int} {v : Int} {i : Nat} (h : i < ps.length) : decide (v ∈ ps.take (i + 1)) = (decide (v ∈ ps.take i) || decide (ps[i] = v)) := by
  rw [List.take_succ_eq_append_getElem h, Bool.eq_iff_iff]
  simp only [List.mem_append, List.mem_singleton, decide_eq_true_eq, Bool.or_eq_true]
  constructor
  · rintro (h | h)
    · exact .inl h
    · exact .inr h.symm
  · rintro (h | h)
    · exact .inl h
    · exact .inr h.symm
end Go.Proofs.Ytcbnmmkmgpbfiaa.RunP

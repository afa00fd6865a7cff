/- What the document's calls answer (layer 15), more: First, Waiting, Left, Take and the law's first, in plain words; and how the queues stand to the document's list. -/
import Derived.Test.YtgmdlndiilibpaaRefC
import Derived.Test.YtgmdlndiilibpaaCallL
namespace Go.Proofs.Ytgmdlndiilibpaa.PR
open Go.RowKit Go.Proofs.YtgmdlndiilibpaaW.PrintWords Go.Proofs.Ytgmdlndiilibpaa.PC Go.Proofs.Ytgmdlndiilibpaa.CallK
set_option linter.unusedVariables false
set_option linter.unusedSimpArgs false
theorem rd104_at {L : List S104} {i : Nat} (h : i < L.length) : rd_T104 L (i : Int) = L[i] := by simp [rd_T104, List.getD_eq_getElem?_getD, List.getElem?_eq_getElem h]
def wq (i : Nat) (c : Int) : List S104 → List Sn
  | [] => []
  | s :: t => if s.f1.contains c = true then (packV s.f0.f0 s.f0.f1 s.f0.f2, (i : Int)) :: wq (i + 1) c t else wq (i + 1) c t
def firstL (i : Nat) (c : Int) : List S104 → Int
  | [] => -1
  | s :: t => if s.f1.contains c = true then (i : Int) else firstL (i + 1) c t
def takeL (c : Int) : List S104 → List S104
  | [] => []
  | s :: t => if s.f1.contains c = true then ⟨s.f0, s.f1.filter fun x => x != c⟩ :: t else s :: takeL c t
theorem First_l0 (N c : Int) (L : List S104) (hL : L.length ≤ 1000) (hT : ∀ s ∈ L, s.f1.length ≤ 1000) (d : Nat) : ∀ (k i : Nat), L.length - i = d → i ≤ L.length → d + 1001 < k → lookasideref15_First.l0 k c i N L = some (firstL i c (L.drop i)) := by
  induction d with
  | zero =>
    intro k i hd hi hk
    obtain ⟨k, rfl⟩ : ∃ m, k = m + 1 := ⟨k - 1, by omega⟩
    simp only [lookasideref15_First.l0]
    rw [if_neg (by omega), List.drop_eq_nil_of_le (by omega)]; rfl
  | succ d ih =>
    intro k i hd hi hk
    obtain ⟨k, rfl⟩ : ∃ m, k = m + 1 := ⟨k - 1, by omega⟩
    have hil : i < L.length := by omega
    have hT' := hT _ (List.getElem_mem hil)
    simp only [lookasideref15_First.l0]
    rw [if_pos (by omega), if_pos (by omega), rd104_at hil, has_f _ _ hT' k (by omega), Option.bind_some, List.drop_eq_getElem_cons hil, firstL]
    by_cases h : L[i].f1.contains c = true
    · rw [if_pos h, if_pos h]
    · rw [if_neg h, if_neg h, wrap_at (by omega), ih k (i + 1) (by omega) (by omega) (by omega)]
theorem First_f (N c : Int) (L : List S104) (hL : L.length ≤ 1000) (hT : ∀ s ∈ L, s.f1.length ≤ 1000) : lookasideref15_First.f 5000 N L c = some (firstL 0 c L) :=
  First_l0 N c L hL hT L.length 5000 0 rfl (by omega) (by omega)
theorem Waiting_l0 (N c : Int) (L : List S104) (hL : L.length ≤ 1000) (hT : ∀ s ∈ L, s.f1.length ≤ 1000) (d : Nat) : ∀ (k i n : Nat), L.length - i = d → i ≤ L.length → n ≤ i → d + 1001 < k → lookasideref15_Waiting.l0 k c n i N L = some ((n + (wq i c (L.drop i)).length : Nat) : Int) := by
  induction d with
  | zero =>
    intro k i n hd hi hn hk
    obtain ⟨k, rfl⟩ : ∃ m, k = m + 1 := ⟨k - 1, by omega⟩
    simp only [lookasideref15_Waiting.l0]
    rw [if_neg (by omega), List.drop_eq_nil_of_le (by omega)]; rfl
  | succ d ih =>
    intro k i n hd hi hn hk
    obtain ⟨k, rfl⟩ : ∃ m, k = m + 1 := ⟨k - 1, by omega⟩
    have hil : i < L.length := by omega
    have hT' := hT _ (List.getElem_mem hil)
    simp only [lookasideref15_Waiting.l0]
    rw [if_pos (by omega), if_pos (by omega), rd104_at hil, has_f _ _ hT' k (by omega), Option.bind_some, List.drop_eq_getElem_cons hil, wq]
    by_cases h : L[i].f1.contains c = true
    · rw [if_pos h, if_pos h, wrap_at (by omega), wrap_at (by omega), ih k (i + 1) (n + 1) (by omega) (by omega) (by omega) (by omega), List.length_cons]
      congr 2; omega
    · rw [if_neg h, if_neg h, wrap_at (by omega), ih k (i + 1) n (by omega) (by omega) (by omega) (by omega)]
theorem Waiting_f (N c : Int) (L : List S104) (hL : L.length ≤ 1000) (hT : ∀ s ∈ L, s.f1.length ≤ 1000) : lookasideref15_Waiting.f 5000 N L c = some ((wq 0 c L).length : Int) := by
  have := Waiting_l0 N c L hL hT L.length 5000 0 0 rfl (by omega) (by omega) (by omega)
  rw [Nat.zero_add, List.drop_zero] at this
  exact this
def lens (L : List S104) : List Int := L.map fun s => (s.f1.length : Int)
theorem Left_f (N id : Int) (L : List S104) : lookasideref15_Left.f N L id = some (lefts (lens L) id) := by
  unfold lookasideref15_Left.f lefts lens
  by_cases h0 : id < 0
  · rw [if_pos h0, if_neg (by omega)]
  · rw [if_neg h0, if_pos (show (0 : Int) ≤ id by omega)]
    obtain ⟨n, rfl⟩ : ∃ n : Nat, id = n := ⟨id.toNat, by omega⟩
    by_cases h1 : (n : Int) ≥ (L.length : Int)
    · rw [if_pos h1, List.getD_eq_getElem?_getD, List.getElem?_eq_none (by simp; omega)]; rfl
    · have hn : n < L.length := by omega
      rw [if_neg h1, if_pos (by omega), if_pos (by omega), rd104_at hn, List.getD_eq_getElem?_getD, List.getElem?_map, Int.toNat_natCast, List.getElem?_eq_getElem hn]; rfl
theorem firstL_ge : ∀ (L : List S104) (j : Nat) (c : Int), firstL j c L = -1 ∨ ∃ i : Nat, j ≤ i ∧ i < j + L.length ∧ firstL j c L = i
  | [], j, c => .inl rfl
  | s :: t, j, c => by
    unfold firstL
    split
    · exact .inr ⟨j, Nat.le_refl _, by simp, rfl⟩
    · rcases firstL_ge t (j + 1) c with h | ⟨i, h1, h2, h3⟩
      · exact .inl h
      · exact .inr ⟨i, by omega, by simp at h2 ⊢; omega, h3⟩
/-- The first one that waits: the list parts there. -/
theorem firstL_split : ∀ (L : List S104) (j i : Nat) (c : Int), firstL j c L = (i : Int) → ∃ (a b : List S104) (s : S104), L = a ++ s :: b ∧ i = j + a.length ∧ (∀ x ∈ a, x.f1.contains c = false) ∧ s.f1.contains c = true
  | [], j, i, c, h => by simp [firstL] at h
  | s :: t, j, i, c, h => by
    unfold firstL at h
    split at h
    · rename_i hs
      exact ⟨[], t, s, rfl, by simp; omega, by simp, hs⟩
    · rename_i hs
      obtain ⟨a, b, s', h1, h2, h3, h4⟩ := firstL_split t (j + 1) i c h
      refine ⟨s :: a, b, s', by rw [h1]; rfl, by simp; omega, fun x hx => ?_, h4⟩
      rcases List.mem_cons.1 hx with rfl | hx
      · simpa using hs
      · exact h3 x hx
theorem takeL_split (c : Int) : ∀ (a b : List S104) (s : S104), (∀ x ∈ a, x.f1.contains c = false) → s.f1.contains c = true → takeL c (a ++ s :: b) = a ++ ⟨s.f0, s.f1.filter fun x => x != c⟩ :: b
  | [], b, s, _, h => by simp only [List.nil_append, takeL]; rw [if_pos h]
  | x :: a, b, s, ha, h => by
    have hx : x.f1.contains c = false := ha x (by simp)
    simp only [List.cons_append, takeL]
    rw [if_neg (by rw [hx]; simp), takeL_split c a b s (fun y hy => ha y (by simp [hy])) h]
theorem wq_none (c : Int) : ∀ (a : List S104) (j : Nat) (b : List S104), (∀ x ∈ a, x.f1.contains c = false) → wq j c (a ++ b) = wq (j + a.length) c b
  | [], j, b, _ => by simp
  | x :: a, j, b, h => by
    have hx : x.f1.contains c = false := h x (by simp)
    simp only [List.cons_append, wq]
    rw [if_neg (by rw [hx]; simp), wq_none c a (j + 1) b (fun y hy => h y (by simp [hy])), List.length_cons]
    congr 1; omega
/-- wq goes by where a call waits alone. -/
theorem wq_set (c : Int) : ∀ (a : List S104) (j : Nat) (b : List S104) (s s' : S104), s.f0 = s'.f0 → s.f1.contains c = s'.f1.contains c → wq j c (a ++ s :: b) = wq j c (a ++ s' :: b)
  | [], j, b, s, s', h0, h1 => by simp only [List.nil_append, wq, h0, h1]
  | x :: a, j, b, s, s', h0, h1 => by
    simp only [List.cons_append, wq]
    rw [wq_set c a (j + 1) b s s' h0 h1]
theorem wq_snoc (c : Int) : ∀ (a : List S104) (j : Nat) (s : S104), wq j c (a ++ [s]) = wq j c a ++ (if s.f1.contains c = true then [(packV s.f0.f0 s.f0.f1 s.f0.f2, ((j + a.length : Nat) : Int))] else [])
  | [], j, s => by simp only [List.nil_append, wq]; split <;> rfl
  | x :: a, j, s => by
    simp only [List.cons_append, wq]
    rw [wq_snoc c a (j + 1) s, show j + 1 + a.length = j + (x :: a).length by simp; omega]
    split <;> rfl
theorem wq_first (c : Int) (L : List S104) (h : firstL 0 c L = -1) : wq 0 c L = [] := by
  have : ∀ (L : List S104) (j : Nat), firstL j c L = -1 → wq j c L = [] := by
    intro L
    induction L with
    | nil => intro j _; rfl
    | cons s t ih =>
      intro j h
      unfold firstL at h
      split at h
      · omega
      · rename_i hs
        unfold wq
        rw [if_neg hs]; exact ih (j + 1) h
  exact this L 0 h
theorem Take_l0 (N c : Int) (L : List S104) (i : Nat) (hi : i < L.length) (hT : L[i].f1.length ≤ 1000) (d : Nat) : ∀ (k j : Nat) (acc : List Int), L[i].f1.length - j = d → j ≤ L[i].f1.length → acc.length ≤ j → d < k →
    lookasideref15_Take.l0 k c i L acc j N L = some (N, L.set i ⟨L[i].f0, acc ++ (L[i].f1.drop j).filter fun x => x != c⟩) := by
  induction d with
  | zero =>
    intro k j acc hd hj ha hk
    obtain ⟨k, rfl⟩ : ∃ m, k = m + 1 := ⟨k - 1, by omega⟩
    simp only [lookasideref15_Take.l0]
    rw [if_pos (by omega), if_pos (by omega), rd104_at hi, if_neg (by omega), List.drop_eq_nil_of_le (by omega)]
    simp
  | succ d ih =>
    intro k j acc hd hj ha hk
    obtain ⟨k, rfl⟩ : ∃ m, k = m + 1 := ⟨k - 1, by omega⟩
    have hjl : j < L[i].f1.length := by omega
    simp only [lookasideref15_Take.l0]
    rw [if_pos (by omega), if_pos (by omega), rd104_at hi, if_pos (by omega), if_pos (by omega), rd_at hjl]
    by_cases h : L[i].f1[j] = c
    · rw [if_pos h, wrap_at (by omega), ih k (j + 1) acc (by omega) (by omega) (by omega) (by omega), List.drop_eq_getElem_cons hjl, List.filter_cons, h]
      simp
    · rw [if_neg h, if_pos (by omega), wrap_at (by omega), ih k (j + 1) _ (by omega) (by omega) (by simp; omega) (by omega), List.drop_eq_getElem_cons hjl, List.filter_cons, if_pos (by simpa using h)]
      simp
theorem Take_f (N c : Int) (L : List S104) (hL : L.length ≤ 1000) (hT : ∀ s ∈ L, s.f1.length ≤ 1000) (h : 0 ≤ firstL 0 c L) : lookasideref15_Take.f 5000 N L c = some (N, takeL c L) := by
  rcases firstL_ge L 0 c with h1 | ⟨i, _, hi, h1⟩
  · omega
  · obtain ⟨a, b, s, h2, h3, h4, h5⟩ := firstL_split L 0 i c h1
    have hil : i < L.length := by omega
    unfold lookasideref15_Take.f
    rw [First_f N c L hL hT, Option.bind_some, if_pos (by simp; omega), h1, List.nil_append, show (0 : Int) = ((0 : Nat) : Int) from rfl]
    rw [Take_l0 N c L i hil (hT _ (List.getElem_mem hil)) L[i].f1.length 5000 0 [] (by omega) (by omega) (by simp) (by have := hT _ (List.getElem_mem hil); omega)]
    have hia : i = a.length := by omega
    have hs : L[i] = s := by
      have : L[i]? = some s := by rw [h2, hia]; simp
      rw [List.getElem?_eq_getElem hil] at this
      exact Option.some.inj this
    rw [hs, h2, takeL_split c a b s h4 h5, hia]
    simp
end Go.Proofs.Ytgmdlndiilibpaa.PR

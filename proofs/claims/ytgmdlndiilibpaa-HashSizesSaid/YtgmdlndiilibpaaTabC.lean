/- What a store makes of a table that lies in memory: a block taken out, a thing set. -/
import Derived.Test.YtgmdlndiilibpaaTabW
set_option linter.unusedVariables false
namespace Go.Proofs.Ytgmdlndiilibpaa.Tab
open Go.RowKit
theorem heap_set_ne {w : World} {k o q : Nat} (v : Value) (h : q ≠ k) : (w.setCell ⟨k, o, none⟩ v).heap[q]? = w.heap[q]? := Below.heap_setCell w ⟨k, o, none⟩ v q h
theorem lists_apart {L : List (List Nd)} (hn : (L.flatten.map Nd.id).Nodup) {i i' : Nat} {l l' : List Nd} (hi : L[i]? = some l) (hi' : L[i']? = some l') (hne : i ≠ i') {m m' : Nd} (hm : m ∈ l) (hm' : m' ∈ l') : m.id ≠ m'.id := by
  rw [List.map_flatten] at hn
  have hp := List.pairwise_iff_getElem.1 (List.pairwise_flatten.1 hn).2
  obtain ⟨h1, rfl⟩ := List.getElem?_eq_some_iff.1 hi
  obtain ⟨h2, rfl⟩ := List.getElem?_eq_some_iff.1 hi'
  intro e
  rcases Nat.lt_or_ge i i' with h | h
  · have := hp i i' (by simpa using h1) (by simpa using h2) h
    simp only [List.getElem_map] at this
    exact this _ (List.mem_map_of_mem hm) _ (List.mem_map_of_mem hm') e
  · have := hp i' i (by simpa using h2) (by simpa using h1) (by omega)
    simp only [List.getElem_map] at this
    exact this _ (List.mem_map_of_mem hm') _ (List.mem_map_of_mem hm) e.symm
theorem ptr_erase : ∀ (l : List Nd) (j : Nat), l ≠ [] → ptr (l.eraseIdx (j + 1)) = ptr l
  | [], _, h => absurd rfl h
  | m :: r, j, _ => rfl
theorem chain_cut {T : Nat} {w : World} : ∀ (l : List Nd) (j : Nat) (hj : j + 1 < l.length), Chain T w l → (l.map Nd.id).Nodup →
    Chain T (w.setCell ⟨(l[j]'(by omega)).id, 4, none⟩ (ptr (l.drop (j + 2)))) (l.eraseIdx (j + 1))
  | [], _, hj, _, _ => by simp at hj
  | [m], 0, hj, _, _ => by simp at hj
  | [m], j + 1, hj, _, _ => by simp at hj
  | m :: m2 :: r, 0, hj, h, hn => by
    simp only [List.map_cons, List.nodup_cons] at hn
    refine ⟨?_, ?_⟩
    · have := heap_set_same (o := 4) (ptr r) h.1
      simpa [cells] using this
    · refine (h.2.2).move (fun q hq => heap_set_ne _ (fun e => hn.1 ?_))
      have : q.id ∈ List.map Nd.id r := List.mem_map_of_mem hq
      simp only [List.getElem_cons_zero] at e
      rw [← e]
      exact List.mem_cons_of_mem _ this
  | m :: m2 :: r, j + 1, hj, h, hn => by
    have hn' := hn
    simp only [List.map_cons] at hn
    rw [List.nodup_cons] at hn
    have hj2 : j + 1 < (m2 :: r).length := by simpa using hj
    have ih := chain_cut (m2 :: r) j hj2 h.2 (by simpa using hn.2)
    have hlt : j < (m2 :: r).length := by omega
    have hne : m.id ≠ ((m2 :: r)[j]'hlt).id := fun e => hn.1 (by
      rw [e]
      have := List.mem_map_of_mem (f := Nd.id) (List.getElem_mem hlt)
      simpa using this)
    refine ⟨?_, ih⟩
    have h1 := heap_set_ne (w := w) (k := ((m2 :: r)[j]'hlt).id) (o := 4) (q := m.id) (ptr ((m2 :: r).drop (j + 2))) hne
    refine h1.trans (h.1.trans ?_)
    unfold cells
    rw [ptr_erase (m2 :: r) j (by simp)]
theorem chain_set {T : Nat} {w : World} (v : Int) : ∀ (l : List Nd) (j : Nat) (hj : j < l.length), Chain T w l → (l.map Nd.id).Nodup →
    Chain T (w.setCell ⟨(l[j]'hj).id, 3, none⟩ (.int .i64 v)) (l.set j { (l[j]'hj) with v := v })
  | [], _, hj, _, _ => by simp at hj
  | m :: r, 0, hj, h, hn => by
    simp only [List.map_cons, List.nodup_cons] at hn
    refine ⟨?_, ?_⟩
    · have := heap_set_same (o := 3) (.int .i64 v) h.1
      simpa [cells] using this
    · refine (h.2).move (fun q hq => heap_set_ne _ (fun e => hn.1 ?_))
      simp only [List.getElem_cons_zero] at e
      rw [← e]
      exact List.mem_map_of_mem hq
  | m :: r, j + 1, hj, h, hn => by
    simp only [List.map_cons, List.nodup_cons] at hn
    have hlt : j < r.length := by simpa using hj
    have ih := chain_set v r j hlt h.2 hn.2
    have hne : m.id ≠ (r[j]'hlt).id := fun e => hn.1 (by rw [e]; exact List.mem_map_of_mem (List.getElem_mem hlt))
    refine ⟨?_, ih⟩
    have h1 := heap_set_ne (w := w) (k := (r[j]'hlt).id) (o := 3) (q := m.id) (.int .i64 v) hne
    refine h1.trans (h.1.trans ?_)
    unfold cells
    congr 3
    cases r with
    | nil => simp at hlt
    | cons a r => cases j <;> rfl
section
variable {TT PT T : Nat} {w : World} {b c : Nat} {L : List (List Nd)} {free n : Int} {i : Nat} {l : List Nd}
/-- A block of a chain written, the chain another one by it. -/
theorem At.write (h : At TT PT T w b c L free n) (hli : L[i]? = some l) (j : Nat) (hj : j < l.length) (o : Nat) (u : Value) (l' : List Nd)
    (hc : Chain T (w.setCell ⟨(l[j]'hj).id, o, none⟩ u) l') (hp : ptr l' = ptr l) (hs : (l'.map Nd.id).Sublist (l.map Nd.id)) : At TT PT T (w.setCell ⟨(l[j]'hj).id, o, none⟩ u) b c (L.set i l') free n := by
  have hmem : l[j] ∈ l := List.getElem_mem hj
  obtain ⟨nb, nc⟩ := h.node_ne hli hmem
  have hnd := h.nd
  simp only [ids, List.nodup_cons] at hnd
  obtain ⟨hi, hil⟩ := List.getElem?_eq_some_iff.1 hli
  refine ⟨?_, ?_, ?_, ?_, by simpa using h.pos, by simpa using h.small, ?_⟩
  · have := (heap_set_ne (w := w) (o := o) u nb.symm).trans h.hb
    simpa using this
  · have := (heap_set_ne (w := w) (o := o) u nc.symm).trans h.hc
    rw [this, List.map_set, hp, ← hil]
    congr 2
    rw [← List.getElem_map ptr, List.set_getElem_self]
    simpa using hi
  · intro l0 hl0
    obtain ⟨q, hq, rfl⟩ := List.getElem_of_mem hl0
    rw [List.getElem_set]
    split
    · exact hc
    · rename_i hne
      have hq' : q < L.length := by simpa using hq
      exact (h.hl _ (List.getElem_mem hq')).move (fun m hm => heap_set_ne u (lists_apart hnd.2.2 (List.getElem?_eq_getElem hq') hli (fun e => hne e.symm) hm hmem))
  · have hsub : ((L.set i l').flatten.map Nd.id).Sublist (L.flatten.map Nd.id) := by
      rw [List.map_flatten, List.map_flatten, List.map_set]
      have e : L.map (List.map Nd.id) = (L.map (List.map Nd.id)).set i (l.map Nd.id) := by
        rw [← hil, ← List.getElem_map (List.map Nd.id), List.set_getElem_self]
        simpa using hi
      have aux : ∀ (M : List (List Nat)) (i : Nat) (a a' : List Nat), a'.Sublist a → ((M.set i a').flatten).Sublist ((M.set i a).flatten) := by
        intro M
        induction M with
        | nil => intro i a a' _; simp
        | cons x M ih =>
          intro i a a' hs
          cases i with
          | zero => simpa using hs.append (List.Sublist.refl M.flatten)
          | succ i => simpa using (List.Sublist.refl x).append (ih i a a' hs)
      have := aux (L.map (List.map Nd.id)) i _ _ hs
      rw [← e] at this
      exact this
    simp only [ids]
    exact (h.nd).sublist ((hsub.cons_cons c).cons_cons b)
  · intro l0 hl0
    rcases List.mem_or_eq_of_mem_set hl0 with hl0 | rfl
    · exact h.few l0 hl0
    · have h1 := hs.length_le
      simp only [List.length_map] at h1
      exact Nat.le_trans h1 (h.few l (List.mem_of_getElem? hli))
theorem At.setv (h : At TT PT T w b c L free n) (hli : L[i]? = some l) (j : Nat) (hj : j < l.length) (v : Int) : At TT PT T (w.setCell ⟨(l[j]'hj).id, 3, none⟩ (.int .i64 v)) b c (L.set i (l.set j { (l[j]'hj) with v := v })) free n := by
  refine h.write hli j hj 3 _ _ (chain_set v l j hj (h.hl l (List.mem_of_getElem? hli)) (h.chain_nd hli)) ?_ ?_
  · cases l with
    | nil => rfl
    | cons a r => cases j <;> rfl
  · rw [List.map_set]
    have : (l.map Nd.id).set j (l[j]).id = l.map Nd.id := by
      rw [← List.getElem_map Nd.id, List.set_getElem_self]
      simpa using hj
    rw [this]
    exact List.Sublist.refl _
theorem At.cut (h : At TT PT T w b c L free n) (hli : L[i]? = some l) (j : Nat) (hj : j < l.length) : At TT PT T (w.setCell (slot c i l j) (ptr (l.drop (j + 1)))) b c (L.set i (l.eraseIdx j)) free n := by
  have hnd := h.nd
  simp only [ids, List.nodup_cons] at hnd
  obtain ⟨hi, hil⟩ := List.getElem?_eq_some_iff.1 hli
  cases j with
  | succ j =>
    have hjl : j < l.length := by omega
    simp only [slot, List.getElem?_eq_getElem hjl]
    refine h.write hli j hjl 4 _ _ (chain_cut l j hj (h.hl l (List.mem_of_getElem? hli)) (h.chain_nd hli)) (ptr_erase l j (fun e => by simp [e] at hj)) ?_
    exact (List.eraseIdx_sublist l (j + 1)).map _
  | zero =>
    simp only [slot]
    have he : l.eraseIdx 0 = l.drop 1 := by cases l <;> rfl
    have hmv : ∀ l0 ∈ L, Chain T (w.setCell ⟨c, i, none⟩ (ptr (l.drop 1))) l0 := fun l0 hl0 => (h.hl l0 hl0).move (fun m hm => by
      obtain ⟨q, hq, rfl⟩ := List.getElem_of_mem hl0
      exact heap_set_ne _ (h.node_ne (List.getElem?_eq_getElem hq) hm).2)
    refine ⟨?_, ?_, ?_, ?_, by simpa using h.pos, by simpa using h.small, ?_⟩
    · have := (heap_set_ne (w := w) (k := c) (o := i) (ptr (l.drop 1)) h.ne_bc).trans h.hb
      simpa using this
    · rw [heap_set_same _ h.hc, List.map_set, he, ← List.setIfInBounds_toArray]
    · intro l0 hl0
      rcases List.mem_or_eq_of_mem_set hl0 with hl0 | rfl
      · exact hmv l0 hl0
      · rw [he]
        exact (hmv l (List.mem_of_getElem? hli)).drop 1
    · simp only [ids]
      exact (h.nd).sublist (((((flatten_set_sub hli (List.eraseIdx_sublist l 0)).map Nd.id)).cons_cons c).cons_cons b)
    · intro l0 hl0
      rcases List.mem_or_eq_of_mem_set hl0 with hl0 | rfl
      · exact h.few l0 hl0
      · exact Nat.le_trans (List.eraseIdx_sublist l 0).length_le (h.few l (List.mem_of_getElem? hli))
end
end Go.Proofs.Ytgmdlndiilibpaa.Tab

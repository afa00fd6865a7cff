/- What a store makes of a table that lies in memory: a block pushed, cut, set. -/
import Derived.Test.YtgmdlndiilibpaaTabR
set_option linter.unusedVariables false
namespace Go.Proofs.Ytgmdlndiilibpaa.Tab
open Go.RowKit
theorem heap_set_same {w : World} {k o : Nat} {cs : Array Value} {e : TypeId} {fr : Nat × Nat} (v : Value) (h : w.heap[k]? = some (.cells cs e fr)) : (w.setCell ⟨k, o, none⟩ v).heap[k]? = some (.cells (cs.setIfInBounds o v) e fr) := by
  simp [World.setCell, Array.getElem?_modify, h]
theorem flatten_set_perm {x : Nd} : ∀ {L : List (List Nd)} {i : Nat} {l : List Nd}, L[i]? = some l → ((L.set i (x :: l)).flatten).Perm (x :: L.flatten)
  | [], i, l, h => by simp at h
  | a :: L, 0, l, h => by
    simp only [List.getElem?_cons_zero, Option.some.injEq] at h
    subst h
    simp
  | a :: L, i + 1, l, h => by
    simp only [List.getElem?_cons_succ] at h
    have := flatten_set_perm (x := x) h
    simp only [List.set_cons_succ, List.flatten_cons]
    exact (List.Perm.append_left a this).trans List.perm_middle
theorem flatten_set_sub : ∀ {L : List (List Nd)} {i : Nat} {l l' : List Nd}, L[i]? = some l → l'.Sublist l → ((L.set i l').flatten).Sublist L.flatten
  | [], i, l, l', h, _ => by simp at h
  | a :: L, 0, l, l', h, hs => by
    simp only [List.getElem?_cons_zero, Option.some.injEq] at h
    subst h
    simpa using hs
  | a :: L, i + 1, l, l', h, hs => by
    simp only [List.getElem?_cons_succ] at h
    have := flatten_set_sub h hs
    simpa using (List.Sublist.refl a).append this
theorem mem_ids {b c : Nat} {L : List (List Nd)} {i : Nat} {l : List Nd} (h : L[i]? = some l) {m : Nd} (hm : m ∈ l) : m.id ∈ ids b c L := by
  simp only [ids, List.mem_cons, List.mem_map, List.mem_flatten]
  exact Or.inr (Or.inr ⟨m, ⟨l, List.mem_of_getElem? h, hm⟩, rfl⟩)
theorem ids_cases {b c : Nat} {L : List (List Nd)} {k : Nat} (h : k ∈ ids b c L) : k = b ∨ k = c ∨ ∃ (i : Nat) (l : List Nd) (m : Nd), L[i]? = some l ∧ m ∈ l ∧ m.id = k := by
  simp only [ids, List.mem_cons, List.mem_map, List.mem_flatten] at h
  rcases h with h | h | ⟨m, ⟨l, hl, hml⟩, rfl⟩
  · exact Or.inl h
  · exact Or.inr (Or.inl h)
  · obtain ⟨i, hi, rfl⟩ := List.getElem_of_mem hl
    exact Or.inr (Or.inr ⟨i, _, m, List.getElem?_eq_getElem hi, hml, rfl⟩)
section
variable {TT PT T : Nat} {w w2 : World} {b c : Nat} {L : List (List Nd)} {free n : Int} {i : Nat} {l : List Nd}
theorem At.ne_bc (h : At TT PT T w b c L free n) : b ≠ c := by
  have := h.nd
  simp only [ids, List.nodup_cons, List.mem_cons] at this
  exact fun e => this.1 (Or.inl e)
theorem At.node_ne (h : At TT PT T w b c L free n) (hli : L[i]? = some l) {m : Nd} (hm : m ∈ l) : m.id ≠ b ∧ m.id ≠ c := by
  have hn := h.nd
  simp only [ids, List.nodup_cons, List.mem_cons] at hn
  have hmem : m.id ∈ L.flatten.map Nd.id := by
    simp only [List.mem_map, List.mem_flatten]
    exact ⟨m, ⟨l, List.mem_of_getElem? hli, hm⟩, rfl⟩
  exact ⟨fun e => hn.1 (Or.inr (e ▸ hmem)), fun e => hn.2.1 (e ▸ hmem)⟩
/-- The blocks of one chain are apart. -/
theorem At.chain_nd (h : At TT PT T w b c L free n) (hli : L[i]? = some l) : (l.map Nd.id).Nodup := by
  have hn := h.nd
  simp only [ids, List.nodup_cons] at hn
  have hs : (l.map Nd.id).Sublist (L.flatten.map Nd.id) := (List.sublist_flatten_of_mem (List.mem_of_getElem? hli)).map _
  exact hn.2.2.sublist hs
/-- A block pushed. -/
theorem At.push (h : At TT PT T w b c L free n) (hli : L[i]? = some l) (g : Nat) (sp va sz v : Int) (hg : g ∉ ids b c L)
    (hnew : w2.heap[g]? = some (.cells (cells ⟨g, sp, va, sz, v⟩ l) T (0, 0)))
    (hc2 : w2.heap[c]? = some (.cells ((L.map ptr).toArray.setIfInBounds i (.pointer (some ⟨g, 0, none⟩))) PT (0, 0)))
    (hm : ∀ k ∈ ids b c L, k ≠ c → w2.heap[k]? = w.heap[k]?) (hfew : l.length + 1 ≤ 10000000) : At TT PT T w2 b c (L.set i (⟨g, sp, va, sz, v⟩ :: l)) free n where
  hb := by
    have := (hm b (by simp [ids]) h.ne_bc).trans h.hb
    simpa using this
  hc := by
    rw [hc2, List.map_set, ← List.setIfInBounds_toArray]
    rfl
  hl := by
    intro l' hl'
    have hold : ∀ l0 ∈ L, Chain T w2 l0 := fun l0 hl0 => (h.hl l0 hl0).move (fun m hm0 => by
      obtain ⟨q, hq, rfl⟩ := List.getElem_of_mem hl0
      exact hm m.id (mem_ids (List.getElem?_eq_getElem hq) hm0) (h.node_ne (List.getElem?_eq_getElem hq) hm0).2)
    rcases List.mem_or_eq_of_mem_set hl' with hl' | rfl
    · exact hold l' hl'
    · exact ⟨hnew, hold l (List.mem_of_getElem? hli)⟩
  nd := by
    have hp : (ids b c (L.set i (⟨g, sp, va, sz, v⟩ :: l))).Perm (g :: ids b c L) := by
      have h1 := (flatten_set_perm (x := ⟨g, sp, va, sz, v⟩) hli).map Nd.id
      simp only [List.map_cons] at h1
      simp only [ids]
      refine ((h1.cons c).cons b).trans ?_
      exact ((List.Perm.swap g c _).cons b).trans (List.Perm.swap g b _)
    exact hp.nodup_iff.2 (List.nodup_cons.2 ⟨hg, h.nd⟩)
  pos := by simpa using h.pos
  small := by simpa using h.small
  few := by
    intro l' hl'
    rcases List.mem_or_eq_of_mem_set hl' with hl' | rfl
    · exact h.few l' hl'
    · simpa using hfew
/-- The counts, set. -/
theorem At.counts (h : At TT PT T w b c L free n) (free' n' : Int) (hb2 : w2.heap[b]? = some (.cells #[.slice (some ⟨c, 0, none⟩) L.length L.length, .int .i64 free', .int .i64 n'] TT (0, 0)))
    (hm : ∀ k ∈ ids b c L, k ≠ b → w2.heap[k]? = w.heap[k]?) : At TT PT T w2 b c L free' n' where
  hb := hb2
  hc := (hm c (by simp [ids]) h.ne_bc.symm).trans h.hc
  hl := fun l0 hl0 => (h.hl l0 hl0).move (fun m hm0 => by
    obtain ⟨q, hq, rfl⟩ := List.getElem_of_mem hl0
    exact hm m.id (mem_ids (List.getElem?_eq_getElem hq) hm0) (h.node_ne (List.getElem?_eq_getElem hq) hm0).1)
  nd := h.nd
  pos := h.pos
  small := h.small
  few := h.few
end
/-- From w to w' the blocks below w's size that are not in S kept what they had; nothing else of the world changed but new blocks and draws. -/
structure Mv (S : List Nat) (w w' : World) : Prop where
  os : w'.os = w.os
  tape : w'.tape = w.tape
  output : w'.output = w.output
  size : w.heap.size ≤ w'.heap.size
  block : ∀ k, k < w.heap.size → k ∉ S → w'.heap[k]? = w.heap[k]?
theorem Mv.of_below {S : List Nat} {w w' : World} (h : Below w.heap.size w w') : Mv S w w' := ⟨h.os, h.tape, h.output, h.size, fun k hk _ => h.block k hk⟩
theorem Mv.below {S : List Nat} {B : Nat} {w w' : World} (h : Mv S w w') (hB : B ≤ w.heap.size) (hS : ∀ k ∈ S, B ≤ k) : Below B w w' :=
  ⟨h.os, h.tape, h.output, h.size, fun k hk => h.block k (Nat.lt_of_lt_of_le hk hB) (fun hm => Nat.not_lt.2 (hS k hm) hk)⟩
theorem Mv.trans {S S' : List Nat} {w w1 w2 : World} (h : Mv S w w1) (h' : Mv S' w1 w2) (hS : ∀ k ∈ S', k ∈ S ∨ w.heap.size ≤ k) : Mv S w w2 :=
  ⟨h'.os.trans h.os, h'.tape.trans h.tape, h'.output.trans h.output, Nat.le_trans h.size h'.size, fun k hk hn =>
    (h'.block k (Nat.lt_of_lt_of_le hk h.size) (fun hm => (hS k hm).elim hn (fun hge => absurd hk (Nat.not_lt.2 hge)))).trans (h.block k hk hn)⟩
theorem ids_set {b c : Nat} {L : List (List Nd)} {i : Nat} {l' : List Nd} {k : Nat} (h : k ∈ ids b c (L.set i l')) : k ∈ ids b c L ∨ k ∈ l'.map Nd.id := by
  simp only [ids, List.mem_cons, List.mem_map, List.mem_flatten] at h ⊢
  rcases h with h | h | ⟨m, ⟨l, hl, hml⟩, rfl⟩
  · exact Or.inl (Or.inl h)
  · exact Or.inl (Or.inr (Or.inl h))
  · rcases List.mem_or_eq_of_mem_set hl with hl | rfl
    · exact Or.inl (Or.inr (Or.inr ⟨m, ⟨l, hl, hml⟩, rfl⟩))
    · exact Or.inr ⟨m, hml, rfl⟩
end Go.Proofs.Ytgmdlndiilibpaa.Tab

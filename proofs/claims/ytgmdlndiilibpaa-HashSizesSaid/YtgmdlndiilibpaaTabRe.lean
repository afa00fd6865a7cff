/- Resize: plain words: what a table's things become when the chains are made anew. -/
import Derived.Test.YtgmdlndiilibpaaTabBk
set_option linter.unusedVariables false
set_option linter.unusedSimpArgs false
namespace Go.Proofs.Ytgmdlndiilibpaa.PH
open Go.RowKit Go.Shelf Go.Proofs.YtgmdlndiilibpaaW.PrintWords Go.Proofs.YtgmdlndiilibpaaW.PrintLast Go.Proofs.YtgmdlndiilibpaaW.PrintMore Go.Proofs.Ytgmdlndiilibpaa.Tab
/-- A block's key and its thing. -/
def kv (n : Nd) : (Int × Int × Int) × Int := (n.key, n.v)
/-- Things, each in its chain, in their row. -/
def redo (ch : Int × Int × Int → Nat) (q : Nat) (M : List ((Int × Int × Int) × Int)) : List (List ((Int × Int × Int) × Int)) := (List.range q).map (fun i => M.filter (fun x => decide (ch x.1 = i)))
theorem redo_nil (ch : Int × Int × Int → Nat) (q : Nat) : redo ch q [] = List.replicate q [] := by
  apply List.ext_getElem
  · simp [redo]
  · intro i h1 h2
    simp [redo]
theorem redo_len (ch : Int × Int × Int → Nat) (q : Nat) (M : List ((Int × Int × Int) × Int)) : (redo ch q M).length = q := by simp [redo]
theorem redo_cons {ch : Int × Int × Int → Nat} {q : Nat} (x : (Int × Int × Int) × Int) (M : List ((Int × Int × Int) × Int)) :
    redo ch q (x :: M) = (redo ch q M).set (ch x.1) (x :: M.filter (fun y => decide (ch y.1 = ch x.1))) := by
  apply List.ext_getElem
  · simp [redo]
  · intro i h1 h2
    simp only [redo_len] at h1
    rw [List.getElem_set]
    simp only [redo, List.getElem_map, List.getElem_range, List.filter_cons]
    by_cases h : ch x.1 = i
    · simp [h]
    · simp [h]
theorem redo_get {ch : Int × Int × Int → Nat} {q i : Nat} {M : List ((Int × Int × Int) × Int)} (h : i < q) : (redo ch q M)[i]? = some (M.filter (fun y => decide (ch y.1 = i))) := by
  rw [List.getElem?_eq_getElem (by rw [redo_len]; exact h)]
  simp [redo]
/-- The blocks from the last down, with their places. -/
def bkN (ns : List Nd) : List (Int × Nd) := (List.range ns.length).map (fun j => (((ns.length - 1 - j : Nat) : Int), ns.getD (ns.length - 1 - j) ⟨0, 0, 0, 0, 0⟩))
theorem bkN_map (ns : List Nd) : (bkN ns).map (fun x => (x.1, x.2.id)) = bkQ (ns.map Nd.id) := by
  apply List.ext_getElem
  · simp [bkN, bkQ]
  · intro i h1 h2
    simp only [bkN, List.length_map, List.length_range] at h1
    simp only [bkN, bkQ, List.map_map, List.getElem_map, List.getElem_range, Function.comp, List.length_map]
    rw [List.getD_eq_getElem?_getD, List.getD_eq_getElem?_getD, List.getElem?_map, List.getElem?_eq_getElem (by omega)]
    rfl
theorem bkN_snd (ns : List Nd) : (bkN ns).map Prod.snd = ns.reverse := by
  apply List.ext_getElem
  · simp [bkN]
  · intro i h1 h2
    simp only [List.length_reverse] at h2
    simp only [bkN, List.map_map, List.getElem_map, List.getElem_range, Function.comp, List.getElem_reverse]
    rw [List.getD_eq_getElem?_getD, List.getElem?_eq_getElem (by omega)]
    rfl
theorem bkN_mem {ns : List Nd} {x : Int × Nd} (h : x ∈ bkN ns) : x.2 ∈ ns := by
  have : x.2 ∈ (bkN ns).map Prod.snd := List.mem_map_of_mem h
  rw [bkN_snd] at this
  exact List.mem_reverse.1 this
/-- A block that is in no chain yet. -/
def Loose (W : World) (n₀ : Nat) (ns : List Nd) : Prop := ∀ m ∈ ns, n₀ ≤ m.id ∧ W.heap[m.id]? = some (.cells (cells m []) 123 (0, 0))
theorem Loose.grown {W W' : World} {n₀ : Nat} {ns : List Nd} {row : Option Nat} (h : Loose W n₀ ns) (hg : W.grownBy W' row) (hr : ∀ r, row = some r → ∃ o : Obj, W.heap[r]? = some o ∧ o.isCells = false) : Loose W' n₀ ns := fun m hm =>
  ⟨(h m hm).1, (grownBy_keeps_cells hg hr (h m hm).2 rfl).trans (h m hm).2⟩
theorem Loose.move {W W' : World} {n₀ : Nat} {ns : List Nd} (h : Loose W n₀ ns) (hm : ∀ m ∈ ns, W'.heap[m.id]? = W.heap[m.id]?) : Loose W' n₀ ns := fun m hm' => ⟨(h m hm').1, (hm m hm').trans (h m hm').2⟩
theorem Loose.lt {W : World} {n₀ : Nat} {ns : List Nd} (h : Loose W n₀ ns) : ∀ m ∈ ns, m.id < W.heap.size := fun m hm => (Array.getElem?_eq_some_iff.1 (h m hm).2).1
theorem _root_.Go.Proofs.Ytgmdlndiilibpaa.Tab.At.typedR {w : World} {b c : Nat} {L : List (List Nd)} {free n : Int} (h : At 116 120 123 w b c L free n) : ∀ k ∈ ids b c L, ∃ cs t, w.heap[k]? = some (.cells cs t (0, 0)) := by
  intro k hk
  rcases ids_cases hk with rfl | rfl | ⟨i, l, m, hi, hm, rfl⟩
  · exact ⟨_, _, h.hb⟩
  · exact ⟨_, _, h.hc⟩
  · obtain ⟨j, hj, rfl⟩ := List.getElem_of_mem hm
    exact ⟨_, _, (h.hl _ (List.mem_of_getElem? hi)).at_ j hj⟩
theorem _root_.Go.Proofs.Ytgmdlndiilibpaa.Tab.At.grownR {w w' : World} {b c : Nat} {L : List (List Nd)} {free n : Int} {row : Option Nat} (h : At 116 120 123 w b c L free n) (hg : w.grownBy w' row) (hr : ∀ r, row = some r → ∃ o : Obj, w.heap[r]? = some o ∧ o.isCells = false) : At 116 120 123 w' b c L free n :=
  h.move (fun k hk => by
    obtain ⟨cs, t, e⟩ := h.typedR k hk
    exact grownBy_keeps_cells hg hr e rfl)
theorem _root_.Go.Proofs.Ytgmdlndiilibpaa.Tab.Mv.grownR {S : List Nat} {w W W' : World} {row : Option Nat} (h : Mv S w W) (hg : W.grownBy W' row) (hr : ∀ r, row = some r → w.heap.size ≤ r) : Mv S w W' := by
  obtain ⟨h1, h2, h3, h4, h5⟩ := hg
  exact ⟨h1.trans h.os, h2.trans h.tape, h3.trans h.output, Nat.le_trans h.size h4, fun k hk hn => (h5 k (Nat.lt_of_lt_of_le hk h.size) (fun e => Nat.not_lt.2 (hr k e.symm) hk)).trans (h.block k hk hn)⟩
theorem ownsRow_grown {W W' : World} {row : Option Nat} {base : Nat} {e : TypeId} {size : Nat} {v : Value} {k : Nat} {xs : List Value} (h : W.ownsRow base e size v k xs) (hg : W.grownBy W' row)
    (hrow : ∀ r, row = some r → ∃ o : Obj, W.heap[r]? = some o ∧ o.isCells = false) : W'.ownsRow base e size v k xs := by
  refine h.kept hg ?_
  rcases h.2 with ⟨rfl, _⟩ | ⟨g, cap, cur, rfl, _, hgb, _⟩
  · exact .inl rfl
  · refine .inr fun e' => ?_
    obtain ⟨o, ho, hc⟩ := hrow g (by rw [← e']; rfl)
    rw [hgb] at ho
    obtain rfl := Option.some.inj ho
    cases hc
/-- The table whose chains are made anew. -/
theorem _root_.Go.Proofs.Ytgmdlndiilibpaa.Tab.At.redone {w w' : World} {b c c' q : Nat} {L : List (List Nd)} {free n : Int} (h : At 116 120 123 w b c L free n) (hq1 : 1 ≤ q) (hq2 : q ≤ 10000000) (hne : b ≠ c')
    (hb : w'.heap[b]? = some (.cells #[.slice (some ⟨c', 0, none⟩) q q, .int .i64 free, .int .i64 n] 116 (0, 0))) (hc : w'.heap[c']? = some (.cells (madeCells #[.pointer none] q) 120 (0, 0))) : At 116 120 123 w' b c' (List.replicate q []) free n where
  hb := by rw [hb]; simp
  hc := by
    have e : madeCells #[Value.pointer none] q = ((List.replicate q ([] : List Nd)).map ptr).toArray := by
      apply Array.ext
      · simp [madeCells]
      · intro i h1 h2
        simp [madeCells, ptr, Nat.mod_one]
    rw [← e]
    exact hc
  hl := fun l hl => by rw [(List.mem_replicate.1 hl).2]; trivial
  nd := by simp [ids, hne]
  pos := by simp; omega
  small := by simp; omega
  few := fun l hl => by rw [(List.mem_replicate.1 hl).2]; simp
end Go.Proofs.Ytgmdlndiilibpaa.PH


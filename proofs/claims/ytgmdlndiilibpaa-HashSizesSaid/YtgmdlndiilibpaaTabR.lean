/- How a table of layer 11 lies in memory: the words, and what turns them. -/
import Derived.Below
import Derived.OneCell
import Derived.Lib.Builder
set_option linter.unusedVariables false
namespace Go.Proofs.Ytgmdlndiilibpaa.Tab
open Go.RowKit

/-- A block of a chain: its place in memory, its key, its thing. -/
structure Nd where
  id : Nat
  sp : Int
  va : Int
  sz : Int
  v : Int
def Nd.key (n : Nd) : Int × Int × Int := (n.sp, n.va, n.sz)
/-- The pointer to the first of a chain's blocks. -/
def ptr : List Nd → Value
  | [] => .pointer none
  | n :: _ => .pointer (some ⟨n.id, 0, none⟩)
/-- The cells of a block of type T, ahead of the chain r. -/
def cells (n : Nd) (r : List Nd) : Array Value := #[.int .i64 n.sp, .int .u64 n.va, .int .i64 n.sz, .int .i64 n.v, ptr r]
/-- The blocks of a chain. -/
def Chain (T : Nat) (w : World) : List Nd → Prop
  | [] => True
  | n :: r => w.heap[n.id]? = some (.cells (cells n r) T (0, 0)) ∧ Chain T w r
theorem Chain.move {T : Nat} {w w' : World} : ∀ {l : List Nd}, Chain T w l → (∀ n ∈ l, w'.heap[n.id]? = w.heap[n.id]?) → Chain T w' l
  | [], _, _ => trivial
  | n :: r, h, hm => ⟨(hm n List.mem_cons_self).trans h.1, Chain.move h.2 (fun m hm' => hm m (List.mem_cons_of_mem _ hm'))⟩
theorem Chain.drop {T : Nat} {w : World} : ∀ {l : List Nd} (j : Nat), Chain T w l → Chain T w (l.drop j)
  | [], j, _ => by simp [Chain]
  | n :: r, 0, h => h
  | n :: r, j + 1, h => by simpa using Chain.drop j h.2
theorem Chain.at_ {T : Nat} {w : World} {l : List Nd} (h : Chain T w l) (j : Nat) (hj : j < l.length) : w.heap[l[j].id]? = some (.cells (cells l[j] (l.drop (j + 1))) T (0, 0)) := by
  have := h.drop j
  rw [List.drop_eq_getElem_cons hj] at this
  exact this.1
/-- All numbers of blocks of a table. -/
def ids (b c : Nat) (L : List (List Nd)) : List Nat := b :: c :: (L.flatten.map Nd.id)
/-- A table at block b (type TT), its chains at block c (type PT), blocks of type T. -/
structure At (TT PT T : Nat) (w : World) (b c : Nat) (L : List (List Nd)) (free n : Int) : Prop where
  hb : w.heap[b]? = some (.cells #[.slice (some ⟨c, 0, none⟩) L.length L.length, .int .i64 free, .int .i64 n] TT (0, 0))
  hc : w.heap[c]? = some (.cells (L.map ptr).toArray PT (0, 0))
  hl : ∀ l ∈ L, Chain T w l
  nd : (ids b c L).Nodup
  pos : 0 < L.length
  small : L.length ≤ 10000000
  few : ∀ l ∈ L, l.length ≤ 10000000
section
variable {TT PT T : Nat} {w w' : World} {b c : Nat} {L : List (List Nd)} {free n : Int}
theorem At.move (h : At TT PT T w b c L free n) (hm : ∀ k ∈ ids b c L, w'.heap[k]? = w.heap[k]?) : At TT PT T w' b c L free n where
  hb := (hm b (by simp [ids])).trans h.hb
  hc := (hm c (by simp [ids])).trans h.hc
  hl := fun l hl => (h.hl l hl).move (fun m hm' => hm m.id (by
    simp only [ids, List.mem_cons, List.mem_map, List.mem_flatten]
    exact Or.inr (Or.inr ⟨m, ⟨l, hl, hm'⟩, rfl⟩)))
  nd := h.nd
  pos := h.pos
  small := h.small
  few := h.few
theorem At.lt (h : At TT PT T w b c L free n) : ∀ k ∈ ids b c L, k < w.heap.size := by
  intro k hk
  simp only [ids, List.mem_cons, List.mem_map, List.mem_flatten] at hk
  have key : ∀ j : Nat, (∃ o, w.heap[j]? = some o) → j < w.heap.size := fun j ⟨o, ho⟩ => (Array.getElem?_eq_some_iff.1 ho).1
  rcases hk with rfl | rfl | ⟨m, ⟨l, hl, hml⟩, rfl⟩
  · exact key _ ⟨_, h.hb⟩
  · exact key _ ⟨_, h.hc⟩
  · obtain ⟨j, hj, rfl⟩ := List.getElem_of_mem hml
    exact key _ ⟨_, (h.hl l hl).at_ j hj⟩
theorem At.below (h : At TT PT T w b c L free n) (hb : Below w.heap.size w w') : At TT PT T w' b c L free n :=
  h.move (fun k hk => hb.block k (h.lt k hk))
/-- The cells of a place. -/
theorem At.cell_ptr (h : At TT PT T w b c L free n) (i : Nat) (hi : i < L.length) : w.cell? ⟨c, i, none⟩ = some (ptr L[i]) := by
  rw [Lib.cell_of_heap h.hc]
  simp [hi]
end
/-- Where the pointer to the block number j of chain number i stands. -/
def slot (c i : Nat) (l : List Nd) : Nat → Addr
  | 0 => ⟨c, i, none⟩
  | j + 1 => match l[j]? with
    | some m => ⟨m.id, 4, none⟩
    | none => ⟨c, i, none⟩
theorem At.cell_slot {TT PT T : Nat} {w : World} {b c : Nat} {L : List (List Nd)} {free n : Int} (h : At TT PT T w b c L free n) (i : Nat) (hi : i < L.length) (j : Nat) (hj : j ≤ L[i].length) :
    w.cell? (slot c i L[i] j) = some (ptr (L[i].drop j)) ∧ w.frozen? (slot c i L[i] j) = false := by
  cases j with
  | zero => exact ⟨by simpa [slot] using h.cell_ptr i hi, by simpa [slot] using Lib.frozen_of_heap h.hc i⟩
  | succ j =>
    have hlt : j < L[i].length := by omega
    have hb := (h.hl L[i] (List.getElem_mem hi)).at_ j hlt
    simp only [slot, List.getElem?_eq_getElem hlt]
    exact ⟨by rw [Lib.cell_of_heap hb]; rfl, Lib.frozen_of_heap hb 4⟩
/-- Where a key stands in a chain: the number of blocks ahead of it (all, if it is none). -/
def pos (key : Int × Int × Int) (l : List Nd) : Nat := l.findIdx (fun n => decide (n.key = key))
theorem pos_at {key : Int × Int × Int} {l : List Nd} {j : Nat} (hj : j < l.length) (hno : ∀ q (hq : q < l.length), q < j → (l[q]'hq).key ≠ key) (hk : (l[j]'hj).key = key) : pos key l = j := by
  unfold pos
  rw [List.findIdx_eq hj]
  exact ⟨by simpa using hk, fun q hq => by simpa using hno q (by omega) hq⟩
theorem pos_none {key : Int × Int × Int} {l : List Nd} (hno : ∀ q (hq : q < l.length), (l[q]'hq).key ≠ key) : pos key l = l.length := by
  unfold pos
  rw [List.findIdx_eq_length]
  intro x hx
  obtain ⟨q, hq, rfl⟩ := List.getElem_of_mem hx
  simpa using hno q hq
theorem pos_le (key : Int × Int × Int) (l : List Nd) : pos key l ≤ l.length := List.findIdx_le_length
theorem pos_key {key : Int × Int × Int} {l : List Nd} (h : pos key l < l.length) : (l[pos key l]'h).key = key := by
  have := List.findIdx_getElem (p := fun n : Nd => decide (n.key = key)) (xs := l) (w := h)
  exact of_decide_eq_true this
theorem At.slots {TT PT T : Nat} {w w1 : World} {b c : Nat} {L : List (List Nd)} {free n : Int} (h : At TT PT T w b c L free n) (hb : Below w.heap.size w w1) {i : Nat} {l : List Nd} (hli : L[i]? = some l) (j : Nat) (hj : j ≤ l.length) :
    w1.cell? (slot c i l j) = some (ptr (l.drop j)) ∧ w1.frozen? (slot c i l j) = false := by
  obtain ⟨hi, rfl⟩ := List.getElem?_eq_some_iff.1 hli
  exact (h.below hb).cell_slot i hi j hj
theorem At.node {TT PT T : Nat} {w w1 : World} {b c : Nat} {L : List (List Nd)} {free n : Int} (h : At TT PT T w b c L free n) (hb : Below w.heap.size w w1) {i : Nat} {l : List Nd} (hli : L[i]? = some l) (j : Nat) (hj : j < l.length) :
    w1.heap[(l[j]'hj).id]? = some (.cells (cells (l[j]'hj) (l.drop (j + 1))) T (0, 0)) := by
  obtain ⟨hi, rfl⟩ := List.getElem?_eq_some_iff.1 hli
  exact ((h.below hb).hl _ (List.getElem_mem hi)).at_ j hj
/-- What Get tells of a chain. -/
def getN (key : Int × Int × Int) (l : List Nd) : Int × Nat × Bool := if h : pos key l < l.length then ((l[pos key l]'h).v, pos key l + 1, true) else (0, l.length, false)
end Go.Proofs.Ytgmdlndiilibpaa.Tab

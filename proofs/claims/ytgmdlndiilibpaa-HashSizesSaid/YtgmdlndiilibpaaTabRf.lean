/- Resize: what one round of the gathering leaves. -/
import Derived.Test.YtgmdlndiilibpaaTabRe
import Derived.RangeFuncNested
set_option linter.unusedVariables false
set_option linter.unusedSimpArgs false
namespace Go.Proofs.Ytgmdlndiilibpaa.PH
open Go.RowKit Go.Shelf Go.Proofs.YtgmdlndiilibpaaW.PrintWords Go.Proofs.YtgmdlndiilibpaaW.PrintLast Go.Proofs.YtgmdlndiilibpaaW.PrintMore Go.Proofs.Ytgmdlndiilibpaa.Tab
/-- The gathering: the blocks made so far, their pointers in a row. -/
def Gath (w : World) (D b : Nat) (pre : List Nd) (W : World) : Prop :=
  Boxed W D 58 (.pointer (some ⟨b, 0, none⟩)) ∧ (∃ v ns, ns.map kv = pre.map kv ∧ Boxed W (D + 1) 114 v ∧ W.ownsRow D 120 1 v ns.length (ns.map (fun m => pv m.id)) ∧ Loose W D ns) ∧ Below D w W ∧ D + 3 ≤ W.heap.size
theorem gath_own (w : World) (D b B : Nat) (hD : D ≤ w.heap.size) (hB : D ≤ B) : OwnFrom B (Gath w D b) := by
  intro pre X Y row ⟨h1, ⟨v, ns, h2, h3, h4, h5⟩, h6, h7⟩ hg hr
  have hr' := fun r e => (hr r e).2
  exact ⟨boxed_own _ _ (fun _ : Unit => _) () X Y row h1 hg hr', ⟨v, ns, h2, boxed_own _ _ (fun _ : Unit => _) () X Y row h3 hg hr', ownsRow_grown h4 hg hr', h5.grown hg hr'⟩, ownFrom_below hD hB () X Y row h6 hg hr, Nat.le_trans h7 hg.size⟩
theorem own_lt {W : World} {base e size k : Nat} {v : Value} {xs : List Value} (h : W.ownsRow base e size v k xs) : ∀ j, v.ownBlock = some j → base ≤ j ∧ j < W.heap.size ∧ ∃ cur, W.heap[j]? = some (.cells cur e (0, 0)) := by
  intro j hj
  rcases h.2 with ⟨rfl, _⟩ | ⟨g, cap, cur, rfl, hg0, hgb, _⟩
  · cases hj
  · obtain rfl : g = j := by simpa [Value.ownBlock] using hj
    exact ⟨hg0, (Array.getElem?_eq_some_iff.1 hgb).1, _, hgb⟩
theorem own_form {W : World} {base e size k : Nat} {v : Value} {xs : List Value} (h : W.ownsRow base e size v k xs) (hk : 0 < k) : ∃ g cap, v = .slice (some ⟨g, 0, none⟩) k cap := by
  rcases h.2 with ⟨rfl, h0⟩ | ⟨g, cap, cur, rfl, hg0, hgb, _⟩
  · omega
  · exact ⟨g, cap, rfl⟩
theorem own_ne {W : World} {base e size k : Nat} {v : Value} {xs : List Value} (h : W.ownsRow base e size v k xs) {j : Nat} {o : Obj} (hj : W.heap[j]? = some o) (hno : ∀ cur, o ≠ .cells cur e (0, 0)) : some j ≠ v.ownBlock := fun e' => by
  obtain ⟨_, _, cur, hc⟩ := own_lt h j e'.symm
  rw [hj] at hc
  exact hno cur (Option.some.inj hc)
theorem own_ne' {W : World} {base e size k : Nat} {v : Value} {xs : List Value} (h : W.ownsRow base e size v k xs) {j : Nat} {o : Obj} (hj : W.heap[j]? = some o) (hno : ∀ cur, o ≠ .cells cur e (0, 0)) : v.ownBlock = none ∨ v.ownBlock ≠ some j := .inr (fun e => own_ne h hj hno e.symm)
theorem gath_step {w W w3 : World} {D b : Nat} {pre ns : List Nd} {x : Nd} {v v' : Value} (h1 : Boxed W D 58 (.pointer (some ⟨b, 0, none⟩))) (h2 : ns.map kv = pre.map kv) (h3 : Boxed W (D + 1) 114 v)
    (h4 : W.ownsRow D 120 1 v ns.length (ns.map (fun m => pv m.id))) (h5 : Loose W D ns) (h6 : Below D w W) (hD : D ≤ w.heap.size) (h7 : D + 3 ≤ W.heap.size)
    (hg : ((W.alloc (.cells #[.int .i64 x.sp, .int .u64 x.va, .int .i64 x.sz, .int .i64 x.v, .pointer none] 123)).alloc (.cells #[.pointer (some ⟨W.heap.size, 0, none⟩)] 120)).grownBy w3 v.ownBlock)
    (ho : w3.ownsRow D 120 1 v' (ns.length + 1) (ns.map (fun m => pv m.id) ++ [.pointer (some ⟨W.heap.size, 0, none⟩)])) :
    Boxed w3 (D + 1) 114 v ∧ KeepsFrom (D + 3) W (w3.setCell ⟨D + 1, 0, none⟩ v') ∧ Below D W (w3.setCell ⟨D + 1, 0, none⟩ v') ∧ Gath w D b (pre ++ [x]) (w3.setCell ⟨D + 1, 0, none⟩ v') := by
  obtain ⟨W2, hW2⟩ : ∃ W2, (W.alloc (.cells #[.int .i64 x.sp, .int .u64 x.va, .int .i64 x.sz, .int .i64 x.v, .pointer none] 123)).alloc (.cells #[.pointer (some ⟨W.heap.size, 0, none⟩)] 120) = W2 := ⟨_, rfl⟩
  have hb2 : Below W.heap.size W W2 := by rw [← hW2]; exact ((Below.refl _ W).alloc (Nat.le_refl _) _).alloc (by simp) _
  have hs2 : W2.heap.size = W.heap.size + 2 := by rw [← hW2]; simp
  have hnew : W2.heap[W.heap.size]? = some (.cells (cells ⟨W.heap.size, x.sp, x.va, x.sz, x.v⟩ []) 123 (0, 0)) := by
    rw [← hW2]
    exact (Below.heap_alloc _ _ _ (by simp)).trans (World.alloc_heap_new W _)
  rw [hW2] at hg
  clear hW2
  have hDW : D + 1 < W.heap.size := h3.lt
  have hv := own_lt h4
  have key : ∀ k, k < W.heap.size → some k ≠ v.ownBlock → w3.heap[k]? = W.heap[k]? := fun k hk hn => (hg.block k (by omega) hn).trans (hb2.block k hk)
  have h1' : Boxed w3 D 58 (.pointer (some ⟨b, 0, none⟩)) := (key D (by omega) (own_ne h4 h1 (fun cur e => by cases e))).trans h1
  have h3' : Boxed w3 (D + 1) 114 v := (key (D + 1) hDW (own_ne h4 h3 (fun cur e => by cases e))).trans h3
  have hn3 : w3.heap[W.heap.size]? = some (.cells (cells ⟨W.heap.size, x.sp, x.va, x.sz, x.v⟩ []) 123 (0, 0)) :=
    (hg.block _ (by omega) (fun e => by obtain ⟨_, h, _⟩ := hv _ e.symm; omega)).trans hnew
  have hs3 : W.heap.size + 2 ≤ w3.heap.size := by rw [← hs2]; exact hg.size
  have hs4 : (w3.setCell ⟨D + 1, 0, none⟩ v').heap.size = w3.heap.size := by simp [World.setCell]
  have hbelow : Below D W (w3.setCell ⟨D + 1, 0, none⟩ v') :=
    ((hb2.mono (by omega)).grown hg (by omega) (fun k e => (hv k e).1)).setCell (p := ⟨D + 1, 0, none⟩) (by simp) _
  have oth : ∀ k, k ≠ D + 1 → (w3.setCell ⟨D + 1, 0, none⟩ v').heap[k]? = w3.heap[k]? := fun k hk => Below.heap_setCell w3 ⟨D + 1, 0, none⟩ v' k hk
  refine ⟨h3', ⟨by omega, fun k o hk h0 hoc => ?_⟩, hbelow, ?_, ⟨v', ns ++ [⟨W.heap.size, x.sp, x.va, x.sz, x.v⟩], ?_, ?_, ?_, ?_⟩, ?_, ?_⟩
  · rw [oth k (by omega), key k (Array.getElem?_eq_some_iff.1 h0).1 (own_ne h4 h0 (fun cur e => by subst e; cases hoc))]
    exact h0
  · exact (oth D (by omega)).trans h1'
  · rw [List.map_append, List.map_append, h2]; rfl
  · exact Boxed.set v' h3'
  · have := ho.kept (grownBy_setCell' w3 (D + 1) v') (own_ne' ho h3' (fun cur e => by cases e))
    simpa [pv] using this
  · intro m hm
    rcases List.mem_append.1 hm with hm | hm
    · obtain ⟨e1, e2⟩ := h5 m hm
      have hlt := h5.lt m hm
      have hne : m.id ≠ D + 1 := fun e => by
        rw [e, h3] at e2
        cases e2
      exact ⟨e1, by rw [oth _ hne, key _ hlt (own_ne h4 e2 (fun cur e => by cases e))]; exact e2⟩
    · obtain rfl := List.mem_singleton.1 hm
      exact ⟨by show D ≤ W.heap.size; omega, (oth W.heap.size (by omega)).trans hn3⟩
  · exact h6.trans hbelow
  · omega
end Go.Proofs.Ytgmdlndiilibpaa.PH


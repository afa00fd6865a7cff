/- Resize: what one round of the giving-out leaves. -/
import Derived.Test.YtgmdlndiilibpaaTabRf
set_option linter.unusedVariables false
set_option linter.unusedSimpArgs false
namespace Go.Proofs.Ytgmdlndiilibpaa.PH
open Go.RowKit Go.Shelf Go.Proofs.YtgmdlndiilibpaaW.PrintWords Go.Proofs.YtgmdlndiilibpaaW.PrintLast Go.Proofs.YtgmdlndiilibpaaW.PrintMore Go.Proofs.Ytgmdlndiilibpaa.Tab
/-- The giving-out: the table has what was given, each in its chain. -/
def Dist {α : Type} (nd : α → Nd) (W1 : World) (D b c' q : Nat) (ch : Int × Int × Int → Nat) (free n : Int) (pre : List α) (W : World) : Prop :=
  Boxed W D 58 (.pointer (some ⟨b, 0, none⟩)) ∧ (∃ L', L'.map (List.map kv) = redo ch q ((pre.map (fun x => kv (nd x))).reverse) ∧ At 116 120 123 W b c' L' free n ∧ (∀ k ∈ ids b c' L', k = b ∨ D ≤ k)) ∧ Mv [c'] W1 W
theorem dist_own {α : Type} (nd : α → Nd) (W1 : World) (D b c' q : Nat) (ch : Int × Int × Int → Nat) (free n : Int) (B : Nat) (hB : W1.heap.size ≤ B) : OwnFrom B (Dist nd W1 D b c' q ch free n) := by
  intro pre X Y row ⟨h1, ⟨L', h2, h3, h4⟩, h5⟩ hg hr
  have hr' := fun r e => (hr r e).2
  exact ⟨boxed_own _ _ (fun _ : Unit => _) () X Y row h1 hg hr', ⟨L', h2, h3.grownR hg hr', h4⟩, h5.grownR hg (fun r e => Nat.le_trans hB (hr r e).1)⟩
theorem dist_chain {q i : Nat} {ch : Int × Int × Int → Nat} {M : List ((Int × Int × Int) × Int)} {L' : List (List Nd)} (h : L'.map (List.map kv) = redo ch q M) (hi : i < q) : ∃ l, L'[i]? = some l ∧ l.map kv = M.filter (fun y => decide (ch y.1 = i)) ∧ l.length ≤ M.length := by
  have h1 := redo_get (ch := ch) (M := M) hi
  rw [← h, List.getElem?_map] at h1
  cases hl : L'[i]? with
  | none => rw [hl] at h1; cases h1
  | some l =>
    rw [hl] at h1
    have h2 : l.map kv = M.filter (fun y => decide (ch y.1 = i)) := Option.some.inj h1
    refine ⟨l, rfl, h2, ?_⟩
    have := congrArg List.length h2
    rw [List.length_map] at this
    rw [this]
    exact List.length_filter_le _ _
theorem dist_len {q : Nat} {ch : Int × Int × Int → Nat} {M : List ((Int × Int × Int) × Int)} {L' : List (List Nd)} (h : L'.map (List.map kv) = redo ch q M) : L'.length = q := by
  have := congrArg List.length h
  rwa [List.length_map, redo_len] at this
theorem dist_step {α : Type} {nd : α → Nd} {W1 W W' : World} {D b c' q : Nat} {ch : Int × Int × Int → Nat} {free n : Int} {pre : List α} {x : α} {L' : List (List Nd)} {l : List Nd} {g : Nat}
    (h1 : Boxed W D 58 (.pointer (some ⟨b, 0, none⟩))) (h2 : L'.map (List.map kv) = redo ch q ((pre.map (fun x => kv (nd x))).reverse)) (h3 : At 116 120 123 W b c' L' free n) (h4 : ∀ k ∈ ids b c' L', k = b ∨ D ≤ k) (h5 : Mv [c'] W1 W)
    (hl : L'[ch (nd x).key]? = some l) (hlm : l.map kv = ((pre.map (fun x => kv (nd x))).reverse).filter (fun y => decide (ch y.1 = ch (nd x).key))) (hg : W.heap.size ≤ g)
    (hA : At 116 120 123 W' b c' (L'.set (ch (nd x).key) (⟨g, (nd x).sp, (nd x).va, (nd x).sz, (nd x).v⟩ :: l)) free n) (hM : Mv [c'] W W') :
    Dist nd W1 D b c' q ch free n (pre ++ [x]) W' ∧ KpB W1.heap.size [c'] W W' ∧ KeepsFrom W1.heap.size W W' := by
  have hDc : D ≠ c' := fun e => by
    have := h3.hc
    rw [← e, h1] at this
    have := Option.some.inj this
    simp at this
  have hDW := h1.lt
  refine ⟨⟨(hM.block D hDW (by simpa using hDc)).trans h1, ⟨_, ?_, hA, ?_⟩, h5.trans hM (fun k hk => .inl hk)⟩, ⟨hM.size, fun k hk hn => hM.block k (Nat.lt_of_lt_of_le hk h5.size) hn⟩, ⟨hM.size, fun k o hk h0 ho => ?_⟩⟩
  · rw [List.map_set, List.map_cons, h2, hlm, List.map_append, List.reverse_append]
    show _ = redo ch q (kv (nd x) :: _)
    rw [redo_cons]
    rfl
  · intro k hk
    rcases ids_set hk with hk | hk
    · exact h4 k hk
    · simp only [List.map_cons, List.mem_cons] at hk
      rcases hk with rfl | hk
      · exact .inr (by omega)
      · obtain ⟨m, hm, rfl⟩ := List.mem_map.1 hk
        exact h4 _ (mem_ids hl hm)
  · refine (hM.block k (Array.getElem?_eq_some_iff.1 h0).1 ?_).trans h0
    intro hk'
    obtain rfl := List.mem_singleton.1 hk'
    rw [h3.hc] at h0
    obtain rfl := Option.some.inj h0
    cases ho
theorem own_slice {β : Type} {W : World} {base e : Nat} {v : Value} {ns : List β} {f : β → Value} (h : W.ownsRow base e 1 v ns.length (ns.map f)) :
    ∃ A c, v = .slice A ns.length c ∧ ns.length ≤ c ∧ ∀ i (hi : i < ns.length), ∃ g, A = some ⟨g, 0, none⟩ ∧ base ≤ g ∧ g < W.heap.size ∧ W.cell? ⟨g, i, none⟩ = some (f ns[i]) := by
  rcases h.2 with ⟨rfl, h0⟩ | ⟨g, cap, cur, rfl, hg0, hgb, hc1, hc2, hc3, hc4⟩
  · exact ⟨none, 0, by rw [h0], by omega, fun i hi => by omega⟩
  · refine ⟨_, cap, rfl, hc1, fun i hi => ⟨g, rfl, hg0, (Array.getElem?_eq_some_iff.1 hgb).1, ?_⟩⟩
    have h1 : (cur.toList.take (ns.length * 1))[i]? = some (f ns[i]) := by rw [hc4]; simp [hi]
    rw [List.getElem?_take, if_pos (by omega)] at h1
    rw [Lib.cell_of_heap hgb]
    simpa using h1
theorem kpb_put {n₀ : Nat} {S : List Nat} (X : World) (l : Nat) (o' : Obj) (hl : n₀ ≤ l) : KpB n₀ S X (X.putObj l o') := by
  refine ⟨by simp [World.putObj], fun k hk _ => ?_⟩
  simp [World.putObj, Array.getElem?_setIfInBounds_ne (show l ≠ k by omega)]
end Go.Proofs.Ytgmdlndiilibpaa.PH


/- The calls that wait (layer 15): how they lie in memory, and what turns them. -/
import Derived.Test.YtgmdlndiilibpaaCallK
import Derived.Test.YtgmdlndiilibpaaTabW
set_option linter.unusedVariables false
set_option linter.unusedSimpArgs false
namespace Go.Proofs.Ytgmdlndiilibpaa.CallK
open Go.RowKit Go.Proofs.YtgmdlndiilibpaaW.PrintWords Go.Proofs.Ytgmdlndiilibpaa.Tab
/-- The blocks of a Calls. -/
def ids (B gw : Nat) (vs : List Value) (lv : Value) : List Nat := B :: gw :: (vs.filterMap blk ++ lv.ownBlock.toList)
structure CA (w : World) (base B gw : Nat) (vs : List Value) (lv : Value) (qs : List (List Sn)) (left : List Int) : Prop where
  hB : w.heap[B]? = some (.cells #[.slice (some ⟨gw, 0, none⟩) qs.length qs.length, lv] 101 (0, 0))
  hw : w.heap[gw]? = some (.cells vs.toArray 108 (0, 0))
  hl : vs.length = qs.length
  hq : ∀ (k : Nat) (v : Value) (l : List Sn), vs[k]? = some v → qs[k]? = some l → QV w base v l
  hd : ∀ (j k : Nat) (v u : Value), j ≠ k → vs[j]? = some v → vs[k]? = some u → blk v = blk u → blk v = none
  hL : (Kd.int .i64).R 3 w base (fun k => some k = lv.ownBlock) lv left
  bB : base ≤ B
  bw : base ≤ gw
  n0 : 0 < qs.length
  n8 : qs.length ≤ 8
theorem mem_ids {B gw : Nat} {vs : List Value} {lv : Value} {k : Nat} : k ∈ ids B gw vs lv ↔ k = B ∨ k = gw ∨ (∃ v ∈ vs, blk v = some k) ∨ lv.ownBlock = some k := by
  simp [ids, List.mem_filterMap, Option.mem_toList]
section
variable {w w1 w' : World} {base B gw : Nat} {vs : List Value} {lv : Value} {qs : List (List Sn)} {left : List Int}
theorem CA.qv (h : CA w base B gw vs lv qs left) {v : Value} (hv : v ∈ vs) : ∃ (k : Nat) (l : List Sn), vs[k]? = some v ∧ qs[k]? = some l ∧ QV w base v l := by
  obtain ⟨k, hk, rfl⟩ := List.getElem_of_mem hv
  have hk2 : k < qs.length := by rw [← h.hl]; exact hk
  exact ⟨k, qs[k], List.getElem?_eq_getElem hk, List.getElem?_eq_getElem hk2, h.hq k _ _ (List.getElem?_eq_getElem hk) (List.getElem?_eq_getElem hk2)⟩
/-- Each block is the call's own, and of a type of its kind. -/
theorem CA.typed (h : CA w base B gw vs lv qs left) {k : Nat} (hk : k ∈ ids B gw vs lv) : base ≤ k ∧ k < w.heap.size := by
  rcases mem_ids.1 hk with rfl | rfl | ⟨v, hv, hb⟩ | hb
  · exact ⟨h.bB, (Array.getElem?_eq_some_iff.1 h.hB).1⟩
  · exact ⟨h.bw, (Array.getElem?_eq_some_iff.1 h.hw).1⟩
  · obtain ⟨j, l, _, _, hq⟩ := h.qv hv
    obtain ⟨h1, h2, _⟩ := hq.lt k hb
    exact ⟨h1, h2⟩
  · exact ⟨Kd.R_base h.hL k hb, Kd.R_lt h.hL k hb⟩
theorem CA.step (h : CA w base B gw vs lv qs left) (hk : ∀ k, k ∈ ids B gw vs lv → w'.heap[k]? = w.heap[k]?) : CA w' base B gw vs lv qs left where
  hB := (hk B (mem_ids.2 (.inl rfl))).trans h.hB
  hw := (hk gw (mem_ids.2 (.inr (.inl rfl)))).trans h.hw
  hl := h.hl
  hq := fun k v l h1 h2 => (h.hq k v l h1 h2).step (fun g hg => hk g (mem_ids.2 (.inr (.inr (.inl ⟨v, List.mem_of_getElem? h1, hg⟩)))))
  hd := h.hd
  hL := Kd.R_move h.hL (fun k hk' => hk k (mem_ids.2 (.inr (.inr (.inr hk'.symm)))))
  bB := h.bB
  bw := h.bw
  n0 := h.n0
  n8 := h.n8
theorem CA.mv (h : CA w base B gw vs lv qs left) {S : List Nat} (hm : Mv S w w') (hS : ∀ k ∈ ids B gw vs lv, k ∉ S) : CA w' base B gw vs lv qs left :=
  h.step fun k hk => hm.block k (h.typed hk).2 (hS k hk)
theorem CA.below (h : CA w base B gw vs lv qs left) (hb : Below w.heap.size w w') : CA w' base B gw vs lv qs left := h.step fun k hk => hb.block k (h.typed hk).2
theorem CA.cell0 (h : CA w base B gw vs lv qs left) : w.cell? ⟨B, 0, none⟩ = some (.slice (some ⟨gw, 0, none⟩) qs.length qs.length) := (blk_cell h.hB 0).trans rfl
theorem CA.cell1 (h : CA w base B gw vs lv qs left) : w.cell? ⟨B, 1, none⟩ = some lv := (blk_cell h.hB 1).trans rfl
theorem CA.frB (h : CA w base B gw vs lv qs left) (i : Nat) : w.frozen? ⟨B, i, none⟩ = false := blk_frozen h.hB i
theorem CA.frw (h : CA w base B gw vs lv qs left) (i : Nat) : w.frozen? ⟨gw, i, none⟩ = false := blk_frozen h.hw i
theorem CA.cellq (h : CA w base B gw vs lv qs left) {k : Nat} {v : Value} (hk : vs[k]? = some v) : w.cell? ⟨gw, k, none⟩ = some v := by
  rw [blk_cell h.hw, List.getElem?_toArray]; exact hk
theorem CA.at (h : CA w base B gw vs lv qs left) {k : Nat} (hk : k < qs.length) : ∃ v, vs[k]? = some v ∧ QV w base v (qs[k]) :=
  ⟨vs[k]'(by rw [h.hl]; exact hk), List.getElem?_eq_getElem _, h.hq k _ _ (List.getElem?_eq_getElem (by rw [h.hl]; exact hk)) (List.getElem?_eq_getElem hk)⟩
theorem CA.ne_Bw (h : CA w base B gw vs lv qs left) : B ≠ gw := fun e => by
  have h1 := h.hB
  rw [e, h.hw] at h1
  injection h1 with h1
  injection h1 with _ h1
  cases h1
theorem CA.ne_Bq (h : CA w base B gw vs lv qs left) {v : Value} (hv : v ∈ vs) : blk v ≠ some B ∧ blk v ≠ some gw := by
  obtain ⟨k, l, _, _, hq⟩ := h.qv hv
  refine ⟨fun e => ?_, fun e => ?_⟩
  · obtain ⟨_, _, cells, hc⟩ := hq.lt B e
    rw [h.hB] at hc
    injection hc with hc
    injection hc with _ hc
    cases hc
  · obtain ⟨_, _, cells, hc⟩ := hq.lt gw e
    rw [h.hw] at hc
    injection hc with hc
    injection hc with _ hc
    cases hc
theorem CA.ne_l (h : CA w base B gw vs lv qs left) {g : Nat} (hg : lv.ownBlock = some g) : g ≠ B ∧ g ≠ gw ∧ ∀ v ∈ vs, blk v ≠ some g := by
  obtain ⟨cells, hc⟩ := Kd.R_typed h.hL g hg
  refine ⟨fun e => ?_, fun e => ?_, fun v hv e => ?_⟩
  · rw [e, h.hB] at hc
    injection hc with hc
    injection hc with _ hc
    cases hc
  · rw [e, h.hw] at hc
    injection hc with hc
    injection hc with _ hc
    cases hc
  · obtain ⟨k, l, _, _, hq⟩ := h.qv hv
    obtain ⟨_, _, c2, hc2⟩ := hq.lt g e
    rw [hc] at hc2
    injection hc2 with hc2
    injection hc2 with _ hc2
    cases hc2
/-- One queue is another one (v1, in w1); its slice is stored. -/
theorem CA.setq (h : CA w base B gw vs lv qs left) {k : Nat} {v v1 : Value} {l l1 : List Sn} (hk : vs[k]? = some v) (hqk : qs[k]? = some l) (hg : w.grownBy w1 (blk v)) (hq1 : QV w1 base v1 l1) (hat : blk v1 = blk v ∨ blk v1 = none ∨ ∃ b, blk v1 = some b ∧ w.heap.size ≤ b) :
    CA (w1.setCell ⟨gw, k, none⟩ v1) base B gw (vs.set k v1) lv (qs.set k l1) left ∧ Mv (ids B gw vs lv) w (w1.setCell ⟨gw, k, none⟩ v1) ∧ ∀ i ∈ ids B gw (vs.set k v1) lv, i ∈ ids B gw vs lv ∨ w.heap.size ≤ i := by
  have hvm := List.mem_of_getElem? hk
  have hkl : k < vs.length := (List.getElem?_eq_some_iff.1 hk).1
  have hw1 : w1.heap[gw]? = some (.cells vs.toArray 108 (0, 0)) := (hg.block gw (Array.getElem?_eq_some_iff.1 h.hw).1 (fun e => (h.ne_Bq hvm).2 e.symm)).trans h.hw
  have hsame : ∀ i, i < w.heap.size → i ≠ gw → some i ≠ blk v → (w1.setCell ⟨gw, k, none⟩ v1).heap[i]? = w.heap[i]? := fun i hi h1 h2 => (Below.heap_setCell w1 ⟨gw, k, none⟩ v1 i h1).trans (hg.block i hi h2)
  have hv1 : ∀ u, u ∈ vs → blk v1 = blk u → blk v1 = none ∨ blk u = blk v := fun u hu e => by
    rcases hat with e1 | e1 | ⟨b, e1, e2⟩
    · exact .inr (e.symm.trans e1)
    · exact .inl e1
    · obtain ⟨j, l', _, _, hq⟩ := h.qv hu
      rw [e1] at e
      have := (hq.lt b e.symm).2.1
      omega
  have hq1' : QV (w1.setCell ⟨gw, k, none⟩ v1) base v1 l1 := hq1.step fun g hg1 => Below.heap_setCell w1 ⟨gw, k, none⟩ v1 g (fun e => by
    rcases hat with e1 | e1 | ⟨b, e1, e2⟩
    · exact (h.ne_Bq hvm).2 (by rw [← e1, hg1, e])
    · rw [e1] at hg1; cases hg1
    · rw [e1] at hg1
      obtain rfl := Option.some.inj hg1
      have h7 := (Array.getElem?_eq_some_iff.1 h.hw).1
      have h8 : _ = gw := e
      omega)
  refine ⟨⟨?_, ?_, by simp [h.hl], ?_, ?_, ?_, h.bB, h.bw, by simpa using h.n0, by simpa using h.n8⟩, ⟨?_, ?_, ?_, ?_, ?_⟩, ?_⟩
  · rw [List.length_set]
    exact (hsame B (Array.getElem?_eq_some_iff.1 h.hB).1 h.ne_Bw (fun e => (h.ne_Bq hvm).1 e.symm)).trans h.hB
  · have := blk_set hw1 k v1
    rwa [List.setIfInBounds_toArray] at this
  · intro j u m hj hm
    by_cases hjk : j = k
    · subst hjk
      rw [List.getElem?_set_self hkl] at hj
      rw [List.getElem?_set_self (by rw [← h.hl]; exact hkl)] at hm
      obtain rfl := Option.some.inj hj
      obtain rfl := Option.some.inj hm
      exact hq1'
    · rw [List.getElem?_set_ne (Ne.symm hjk)] at hj hm
      have hq := h.hq j u m hj hm
      refine hq.step fun g hg1 => hsame g (hq.lt g hg1).2.1 (fun e => (h.ne_Bq (List.mem_of_getElem? hj)).2 (by rw [hg1, e])) (fun e => ?_)
      have := h.hd j k u v hjk hj hk (hg1.trans e)
      rw [hg1] at this
      cases this
  · intro j i u t hji hj hi e
    by_cases hjk : j = k
    · subst hjk
      rw [List.getElem?_set_self hkl] at hj
      rw [List.getElem?_set_ne hji] at hi
      obtain rfl := Option.some.inj hj
      rcases hv1 t (List.mem_of_getElem? hi) e with e1 | e1
      · exact e1
      · rw [e, e1]
        exact h.hd j i v t hji hk hi e1.symm
    · rw [List.getElem?_set_ne (Ne.symm hjk)] at hj
      by_cases hik : i = k
      · subst hik
        rw [List.getElem?_set_self hkl] at hi
        obtain rfl := Option.some.inj hi
        rcases hv1 u (List.mem_of_getElem? hj) e.symm with e1 | e1
        · rw [e]; exact e1
        · exact h.hd j i u v hji hj hk e1
      · rw [List.getElem?_set_ne (Ne.symm hik)] at hi
        exact h.hd j i u t hji hj hi e
  · refine Kd.R_step h.hL fun g hg1 hlt => hsame g hlt (h.ne_l hg1.symm).2.1 (fun e => (h.ne_l hg1.symm).2.2 v hvm e.symm)
  · exact hg.os
  · exact hg.tape
  · exact hg.output
  · have : (w1.setCell ⟨gw, k, none⟩ v1).heap.size = w1.heap.size := by simp [World.setCell]
    rw [this]; exact hg.size
  · intro i hi hn
    refine hsame i hi (fun e => hn (mem_ids.2 (.inr (.inl e)))) (fun e => hn (mem_ids.2 (.inr (.inr (.inl ⟨v, hvm, e.symm⟩)))))
  · intro i hi
    rcases mem_ids.1 hi with rfl | rfl | ⟨u, hu, hb⟩ | hb
    · exact .inl (mem_ids.2 (.inl rfl))
    · exact .inl (mem_ids.2 (.inr (.inl rfl)))
    · rcases List.mem_or_eq_of_mem_set hu with hu | rfl
      · exact .inl (mem_ids.2 (.inr (.inr (.inl ⟨u, hu, hb⟩))))
      · rcases hat with e1 | e1 | ⟨b, e1, e2⟩
        · exact .inl (mem_ids.2 (.inr (.inr (.inl ⟨v, hvm, by rw [← e1]; exact hb⟩))))
        · rw [e1] at hb; cases hb
        · rw [e1] at hb
          obtain rfl := Option.some.inj hb
          exact .inr e2
    · exact .inl (mem_ids.2 (.inr (.inr (.inr hb))))
/-- What waits is counted anew (lv1, in w1); the slice is stored. -/
theorem CA.setl (h : CA w base B gw vs lv qs left) {lv1 : Value} {left1 : List Int} (hg : w.grownBy w1 lv.ownBlock) (hR : (Kd.int .i64).R 3 w1 base (fun k => some k = lv1.ownBlock) lv1 left1) (hat : lv1.ownBlock = lv.ownBlock ∨ ∃ b, lv1.ownBlock = some b ∧ w.heap.size ≤ b) :
    CA (w1.setCell ⟨B, 1, none⟩ lv1) base B gw vs lv1 qs left1 ∧ Mv (ids B gw vs lv) w (w1.setCell ⟨B, 1, none⟩ lv1) ∧ ∀ i ∈ ids B gw vs lv1, i ∈ ids B gw vs lv ∨ w.heap.size ≤ i := by
  have hBlt := (Array.getElem?_eq_some_iff.1 h.hB).1
  have hB1 : w1.heap[B]? = some (.cells #[.slice (some ⟨gw, 0, none⟩) qs.length qs.length, lv] 101 (0, 0)) := (hg.block B hBlt (fun e => (h.ne_l e.symm).1 rfl)).trans h.hB
  have hsame : ∀ i, i < w.heap.size → i ≠ B → some i ≠ lv.ownBlock → (w1.setCell ⟨B, 1, none⟩ lv1).heap[i]? = w.heap[i]? := fun i hi h1 h2 => (Below.heap_setCell w1 ⟨B, 1, none⟩ lv1 i h1).trans (hg.block i hi h2)
  have hnl : ∀ g, lv1.ownBlock = some g → g ≠ B := fun g hg1 e => by
    rcases hat with e1 | ⟨b, e1, e2⟩
    · exact (h.ne_l (e1.symm.trans hg1)).1 e
    · rw [hg1] at e1
      obtain rfl := Option.some.inj e1
      omega
  refine ⟨⟨?_, ?_, h.hl, ?_, h.hd, ?_, h.bB, h.bw, h.n0, h.n8⟩, ⟨?_, ?_, ?_, ?_, ?_⟩, ?_⟩
  · exact blk_put hB1 1 lv1 rfl
  · exact (hsame gw (Array.getElem?_eq_some_iff.1 h.hw).1 (Ne.symm h.ne_Bw) (fun e => (h.ne_l e.symm).2.1 rfl)).trans h.hw
  · intro k v l hk hq
    have h1 := h.hq k v l hk hq
    refine h1.step fun g hg1 => hsame g (h1.lt g hg1).2.1 (fun e => (h.ne_Bq (List.mem_of_getElem? hk)).1 (by rw [hg1, e])) (fun e => (h.ne_l e.symm).2.2 v (List.mem_of_getElem? hk) hg1)
  · exact Kd.R_step hR fun g hg1 _ => Below.heap_setCell w1 ⟨B, 1, none⟩ lv1 g (hnl g hg1.symm)
  · exact hg.os
  · exact hg.tape
  · exact hg.output
  · have : (w1.setCell ⟨B, 1, none⟩ lv1).heap.size = w1.heap.size := by simp [World.setCell]
    rw [this]; exact hg.size
  · intro i hi hn
    exact hsame i hi (fun e => hn (mem_ids.2 (.inl e))) (fun e => hn (mem_ids.2 (.inr (.inr (.inr e.symm)))))
  · intro i hi
    rcases mem_ids.1 hi with rfl | rfl | hb | hb
    · exact .inl (mem_ids.2 (.inl rfl))
    · exact .inl (mem_ids.2 (.inr (.inl rfl)))
    · exact .inl (mem_ids.2 (.inr (.inr (.inl hb))))
    · rcases hat with e1 | ⟨b, e1, e2⟩
      · exact .inl (mem_ids.2 (.inr (.inr (.inr (e1.symm.trans hb)))))
      · rw [e1] at hb
        obtain rfl := Option.some.inj hb
        exact .inr e2
/-- One count is another one. -/
theorem CA.setn {g n c : Nat} (h : CA w base B gw vs (.slice (some ⟨g, 0, none⟩) n c) qs left) (i : Nat) (x : Int) :
    CA (w.setCell ⟨g, i, none⟩ (.int .i64 x)) base B gw vs (.slice (some ⟨g, 0, none⟩) n c) qs (left.set i x) ∧ Mv (ids B gw vs (.slice (some ⟨g, 0, none⟩) n c)) w (w.setCell ⟨g, i, none⟩ (.int .i64 x)) := by
  have hne := h.ne_l (g := g) rfl
  have hsame : ∀ i', i' ≠ g → (w.setCell ⟨g, i, none⟩ (.int .i64 x)).heap[i']? = w.heap[i']? := fun i' h1 => Below.heap_setCell w ⟨g, i, none⟩ _ i' h1
  refine ⟨⟨?_, ?_, h.hl, ?_, h.hd, ?_, h.bB, h.bw, h.n0, h.n8⟩, ⟨?_, ?_, ?_, ?_, ?_⟩⟩
  · exact (hsame B (Ne.symm hne.1)).trans h.hB
  · exact (hsame gw (Ne.symm hne.2.1)).trans h.hw
  · intro k v l hk hq
    exact (h.hq k v l hk hq).step fun b hb => hsame b (fun e => hne.2.2 v (List.mem_of_getElem? hk) (by rw [hb, e]))
  · have := Kd.R_putn h.hL (i : Int) x
    rwa [Int.toNat_natCast] at this
  · simp [World.setCell]
  · simp [World.setCell]
  · simp [World.setCell]
  · simp [World.setCell]
  · intro k hk hn
    exact hsame k (fun e => hn (mem_ids.2 (.inr (.inr (.inr (by rw [e]; rfl))))))
end
end Go.Proofs.Ytgmdlndiilibpaa.CallK

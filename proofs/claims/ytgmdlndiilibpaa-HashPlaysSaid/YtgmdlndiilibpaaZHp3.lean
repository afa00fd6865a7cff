import Derived.Test.YtgmdlndiilibpaaZHp2
import Derived.Deep.OwnRows
import Derived.Laws.BitsLemmas
import Derived.Laws.Bits64
import Derived.Test.YtgmdlndiilibpaaZHp1
import Derived.RangeFuncNested
import Derived.RangeFuncBound
import Derived.RangeFuncCalls
import Derived.RangeFuncLeaves
import Derived.Shelf.Abstract
import Derived.Shelf.RegionOpen
import Derived.WalkKit
import Derived.OwnWalkIn
import Derived.TacticsInMore
import Derived.LoopNIn
import Derived.LoopIn
import Derived.Sort.LoopGhostIn
/- What a store makes of a table that lies in memory: a block pushed, cut, set. -/
set_option linter.unusedVariables false
namespace Go.Proofs.Ytgmdlndiilibpaa.Tab
open Go.RowKit
theorem heap_set_same {w : World} {k o : Nat} {cs : Array Value} {e : TypeId} {fr : Nat × Nat} (v : Value) (h : w.heap[k]? = some (.cells cs e fr)) : (w.setCell ⟨k, o, none⟩ v).heap[k]? = some (.cells (cs.setIfInBounds o v) e fr) := by
  simp [World.setCell, Array.getElem?_modify, h]
theorem flatten_set_perm {x : Nd} : ∀ {L : List (List Nd)} {i : Nat} {l : List Nd}, L[i]? = some l → ((L.set i (x :: l)).flatten).Perm (x :: L.flatten)
  | [], i, l, h => by simp at h
  | a :: L, 0, l, h => by
    simp only [List.getElem?_cons_zero, Option.some.injEq] at h
    subst h
    simp
  | a :: L, i + 1, l, h => by
    simp only [List.getElem?_cons_succ] at h
    have := flatten_set_perm (x := x) h
    simp only [List.set_cons_succ, List.flatten_cons]
    exact (List.Perm.append_left a this).trans List.perm_middle
theorem flatten_set_sub : ∀ {L : List (List Nd)} {i : Nat} {l l' : List Nd}, L[i]? = some l → l'.Sublist l → ((L.set i l').flatten).Sublist L.flatten
  | [], i, l, l', h, _ => by simp at h
  | a :: L, 0, l, l', h, hs => by
    simp only [List.getElem?_cons_zero, Option.some.injEq] at h
    subst h
    simpa using hs
  | a :: L, i + 1, l, l', h, hs => by
    simp only [List.getElem?_cons_succ] at h
    have := flatten_set_sub h hs
    simpa using (List.Sublist.refl a).append this
theorem mem_ids {b c : Nat} {L : List (List Nd)} {i : Nat} {l : List Nd} (h : L[i]? = some l) {m : Nd} (hm : m ∈ l) : m.id ∈ ids b c L := by
  simp only [ids, List.mem_cons, List.mem_map, List.mem_flatten]
  exact Or.inr (Or.inr ⟨m, ⟨l, List.mem_of_getElem? h, hm⟩, rfl⟩)
theorem ids_cases {b c : Nat} {L : List (List Nd)} {k : Nat} (h : k ∈ ids b c L) : k = b ∨ k = c ∨ ∃ (i : Nat) (l : List Nd) (m : Nd), L[i]? = some l ∧ m ∈ l ∧ m.id = k := by
  simp only [ids, List.mem_cons, List.mem_map, List.mem_flatten] at h
  rcases h with h | h | ⟨m, ⟨l, hl, hml⟩, rfl⟩
  · exact Or.inl h
  · exact Or.inr (Or.inl h)
  · obtain ⟨i, hi, rfl⟩ := List.getElem_of_mem hl
    exact Or.inr (Or.inr ⟨i, _, m, List.getElem?_eq_getElem hi, hml, rfl⟩)
section
variable {TT PT T : Nat} {w w2 : World} {b c : Nat} {L : List (List Nd)} {free n : Int} {i : Nat} {l : List Nd}
theorem At.ne_bc (h : At TT PT T w b c L free n) : b ≠ c := by
  have := h.nd
  simp only [ids, List.nodup_cons, List.mem_cons] at this
  exact fun e => this.1 (Or.inl e)
theorem At.node_ne (h : At TT PT T w b c L free n) (hli : L[i]? = some l) {m : Nd} (hm : m ∈ l) : m.id ≠ b ∧ m.id ≠ c := by
  have hn := h.nd
  simp only [ids, List.nodup_cons, List.mem_cons] at hn
  have hmem : m.id ∈ L.flatten.map Nd.id := by
    simp only [List.mem_map, List.mem_flatten]
    exact ⟨m, ⟨l, List.mem_of_getElem? hli, hm⟩, rfl⟩
  exact ⟨fun e => hn.1 (Or.inr (e ▸ hmem)), fun e => hn.2.1 (e ▸ hmem)⟩
/-- The blocks of one chain are apart. -/
theorem At.chain_nd (h : At TT PT T w b c L free n) (hli : L[i]? = some l) : (l.map Nd.id).Nodup := by
  have hn := h.nd
  simp only [ids, List.nodup_cons] at hn
  have hs : (l.map Nd.id).Sublist (L.flatten.map Nd.id) := (List.sublist_flatten_of_mem (List.mem_of_getElem? hli)).map _
  exact hn.2.2.sublist hs
/-- A block pushed. -/
theorem At.push (h : At TT PT T w b c L free n) (hli : L[i]? = some l) (g : Nat) (sp va sz v : Int) (hg : g ∉ ids b c L)
    (hnew : w2.heap[g]? = some (.cells (cells ⟨g, sp, va, sz, v⟩ l) T (0, 0)))
    (hc2 : w2.heap[c]? = some (.cells ((L.map ptr).toArray.setIfInBounds i (.pointer (some ⟨g, 0, none⟩))) PT (0, 0)))
    (hm : ∀ k ∈ ids b c L, k ≠ c → w2.heap[k]? = w.heap[k]?) (hfew : l.length + 1 ≤ 10000000) : At TT PT T w2 b c (L.set i (⟨g, sp, va, sz, v⟩ :: l)) free n where
  hb := by
    have := (hm b (by simp [ids]) h.ne_bc).trans h.hb
    simpa using this
  hc := by
    rw [hc2, List.map_set, ← List.setIfInBounds_toArray]
    rfl
  hl := by
    intro l' hl'
    have hold : ∀ l0 ∈ L, Chain T w2 l0 := fun l0 hl0 => (h.hl l0 hl0).move (fun m hm0 => by
      obtain ⟨q, hq, rfl⟩ := List.getElem_of_mem hl0
      exact hm m.id (mem_ids (List.getElem?_eq_getElem hq) hm0) (h.node_ne (List.getElem?_eq_getElem hq) hm0).2)
    rcases List.mem_or_eq_of_mem_set hl' with hl' | rfl
    · exact hold l' hl'
    · exact ⟨hnew, hold l (List.mem_of_getElem? hli)⟩
  nd := by
    have hp : (ids b c (L.set i (⟨g, sp, va, sz, v⟩ :: l))).Perm (g :: ids b c L) := by
      have h1 := (flatten_set_perm (x := ⟨g, sp, va, sz, v⟩) hli).map Nd.id
      simp only [List.map_cons] at h1
      simp only [ids]
      refine ((h1.cons c).cons b).trans ?_
      exact ((List.Perm.swap g c _).cons b).trans (List.Perm.swap g b _)
    exact hp.nodup_iff.2 (List.nodup_cons.2 ⟨hg, h.nd⟩)
  pos := by simpa using h.pos
  small := by simpa using h.small
  few := by
    intro l' hl'
    rcases List.mem_or_eq_of_mem_set hl' with hl' | rfl
    · exact h.few l' hl'
    · simpa using hfew
/-- The counts, set. -/
theorem At.counts (h : At TT PT T w b c L free n) (free' n' : Int) (hb2 : w2.heap[b]? = some (.cells #[.slice (some ⟨c, 0, none⟩) L.length L.length, .int .i64 free', .int .i64 n'] TT (0, 0)))
    (hm : ∀ k ∈ ids b c L, k ≠ b → w2.heap[k]? = w.heap[k]?) : At TT PT T w2 b c L free' n' where
  hb := hb2
  hc := (hm c (by simp [ids]) h.ne_bc.symm).trans h.hc
  hl := fun l0 hl0 => (h.hl l0 hl0).move (fun m hm0 => by
    obtain ⟨q, hq, rfl⟩ := List.getElem_of_mem hl0
    exact hm m.id (mem_ids (List.getElem?_eq_getElem hq) hm0) (h.node_ne (List.getElem?_eq_getElem hq) hm0).1)
  nd := h.nd
  pos := h.pos
  small := h.small
  few := h.few
end
/-- From w to w' the blocks below w's size that are not in S kept what they had; nothing else of the world changed but new blocks and draws. -/
structure Mv (S : List Nat) (w w' : World) : Prop where
  os : w'.os = w.os
  tape : w'.tape = w.tape
  output : w'.output = w.output
  size : w.heap.size ≤ w'.heap.size
  block : ∀ k, k < w.heap.size → k ∉ S → w'.heap[k]? = w.heap[k]?
theorem Mv.of_below {S : List Nat} {w w' : World} (h : Below w.heap.size w w') : Mv S w w' := ⟨h.os, h.tape, h.output, h.size, fun k hk _ => h.block k hk⟩
theorem Mv.below {S : List Nat} {B : Nat} {w w' : World} (h : Mv S w w') (hB : B ≤ w.heap.size) (hS : ∀ k ∈ S, B ≤ k) : Below B w w' :=
  ⟨h.os, h.tape, h.output, h.size, fun k hk => h.block k (Nat.lt_of_lt_of_le hk hB) (fun hm => Nat.not_lt.2 (hS k hm) hk)⟩
theorem Mv.trans {S S' : List Nat} {w w1 w2 : World} (h : Mv S w w1) (h' : Mv S' w1 w2) (hS : ∀ k ∈ S', k ∈ S ∨ w.heap.size ≤ k) : Mv S w w2 :=
  ⟨h'.os.trans h.os, h'.tape.trans h.tape, h'.output.trans h.output, Nat.le_trans h.size h'.size, fun k hk hn =>
    (h'.block k (Nat.lt_of_lt_of_le hk h.size) (fun hm => (hS k hm).elim hn (fun hge => absurd hk (Nat.not_lt.2 hge)))).trans (h.block k hk hn)⟩
theorem ids_set {b c : Nat} {L : List (List Nd)} {i : Nat} {l' : List Nd} {k : Nat} (h : k ∈ ids b c (L.set i l')) : k ∈ ids b c L ∨ k ∈ l'.map Nd.id := by
  simp only [ids, List.mem_cons, List.mem_map, List.mem_flatten] at h ⊢
  rcases h with h | h | ⟨m, ⟨l, hl, hml⟩, rfl⟩
  · exact Or.inl (Or.inl h)
  · exact Or.inl (Or.inr (Or.inl h))
  · rcases List.mem_or_eq_of_mem_set hl with hl | rfl
    · exact Or.inl (Or.inr (Or.inr ⟨m, ⟨l, hl, hml⟩, rfl⟩))
    · exact Or.inr ⟨m, hml, rfl⟩
end Go.Proofs.Ytgmdlndiilibpaa.Tab

/- hash.Table.push: a block, first in its chain. -/
namespace Go.Proofs.Ytgmdlndiilibpaa.PH
open Go.RowKit Go.Proofs.YtgmdlndiilibpaaW.PrintWords Go.Proofs.YtgmdlndiilibpaaW.PrintLast Go.Proofs.YtgmdlndiilibpaaW.PrintMore Go.Proofs.Ytgmdlndiilibpaa.Tab
attribute [local go_sem] max2_int min2_int max_two min_two max_three min_three max_four min_four   -- for this text's walks alone
set_option linter.unusedVariables false
set_option linter.unusedSimpArgs false
attribute [local go_sem high] eqA27
set_option maxHeartbeats 8000000 in
set_option maxRecDepth 100000 in
theorem push_calls (w : World) (b c : Nat) (L : List (List Nd)) (free n : Int) (hT : At 116 120 123 w b c L free n) (sp va sz v : Int) (i : Nat) (l : List Nd) (hli : L[i]? = some l) (hfew : l.length + 1 ≤ 10000000)
    (hch : hash_Chain.f sp va sz (L.length : Int) = some (i : Int)) :
    Calls Try.prog 67 #[.pointer (some ⟨b, 0, none⟩), .agg #[.int .i64 sp, .int .u64 va, .int .i64 sz], .int .i64 v] w fun e w' => e = .returned (.tuple #[]) ∧
      ∃ g, w.heap.size ≤ g ∧ At 116 120 123 w' b c (L.set i (⟨g, sp, va, sz, v⟩ :: l)) free n ∧ Mv [c] w w' := by
  obtain ⟨hi, hl⟩ := List.getElem?_eq_some_iff.1 hli
  have hbl : b < w.heap.size := hT.lt b (by simp [ids])
  have cb : w.cell? ⟨b, 0, none⟩ = some (.slice (some ⟨c, 0, none⟩) L.length L.length) := by rw [Lib.cell_of_heap hT.hb]; rfl
  have hch' := Aside0.mk hch
  have hli' := Aside0.mk hli
  have hsm := hT.small
  have hi0 : (0 : Int) ≤ (i : Int) := by omega
  have hi1 : (i : Int) < (L.length : Int) := by omega
  clear hch hli hl
  go_enter Try.func67, Try.ntmps67
  go_wp2_with fail
  have hB0 : Below w.heap.size w (w.alloc (Obj.cells #[Value.int IntKind.i64 sp, Value.int IntKind.u64 va, Value.int IntKind.i64 sz] 27)).drew := ((Below.refl _ w).alloc (Nat.le_refl _) _).drew
  go_region_held3 (fun w' => Below w.heap.size w w' ∧ w'.cell? ⟨b, 0, none⟩ = some (.slice (some ⟨c, 0, none⟩) L.length L.length) ∧ w'.cell? ⟨w.heap.size, 0, none⟩ = some (.int .i64 sp) ∧ w'.cell? ⟨w.heap.size, 1, none⟩ = some (.int .u64 va) ∧ w'.cell? ⟨w.heap.size, 2, none⟩ = some (.int .i64 sz))
    (first | go_keep | (refine ⟨((Below.refl _ w).alloc (Nat.le_refl _) _).drew, ?_, ?_, ?_, ?_⟩ <;> go_simp) | (go_split_ands; refine ⟨?_, pw_cell_below hbel (by assumption), pw_cell_below hbel (by assumption), pw_cell_below hbel (by assumption), pw_cell_below hbel (by assumption)⟩; exact below_then (by assumption) (Below.size (by assumption)) hbel))
    ((go_at_call 15; refine (hash_Chain.calls sp va sz _ _ _ hch'.out).mono ?_; rintro e w' ⟨rfl, hbel⟩))
  rename_i hS
  obtain ⟨hB, g0, g1, g2, g3⟩ := hS
  clear hbel hB0
  have hsl := (hT.slots hB hli'.out 0 (by omega)).1
  have hfz := (hT.slots hB hli'.out 0 (by omega)).2
  simp only [slot, List.drop_zero] at hsl hfz
  have hsz := hB.size
  obtain ⟨pa, hpa⟩ : ∃ pa : Option Addr, ptr l = .pointer pa := by cases l <;> exact ⟨_, rfl⟩
  rw [hpa] at hsl
  have hP := Aside0.mk hpa
  clear hpa
  have hcl : c < w'.heap.size := Nat.lt_of_lt_of_le (hT.lt c (by simp [ids])) hsz
  have hs2 : (w'.alloc (Obj.cells #[.int .i64 sp, .int .u64 va, .int .i64 sz, .int .i64 v, .pointer pa] 123)).cell? ⟨c, i, none⟩ = some (.pointer pa) := (World.cell?_alloc_lt _ _ _ hcl).trans hsl
  have hf2 : (w'.alloc (Obj.cells #[.int .i64 sp, .int .u64 va, .int .i64 sz, .int .i64 v, .pointer pa] 123)).frozen? ⟨c, i, none⟩ = false := ((Below.refl _ w').alloc (Nat.le_refl _) _).frozen (p := ⟨c, i, none⟩) hcl |>.trans hfz
  go_wp2_with fail
  go_region
  all_goals
    go_end0
    have hss : (w'.setCell ⟨c, i, none⟩ (.pointer (some ⟨w'.heap.size, 0, none⟩))).heap.size = w'.heap.size := by simp [World.setCell]
    have hT1 := hT.below hB
    have hold : ∀ k, k < w'.heap.size → k ≠ c → (((w'.setCell ⟨c, i, none⟩ (.pointer (some ⟨w'.heap.size, 0, none⟩))).alloc (Obj.cells #[.int .i64 sp, .int .u64 va, .int .i64 sz, .int .i64 v, .pointer pa] 123)).drew).heap[k]? = w'.heap[k]? := fun k hk hkc => by
      refine (Below.heap_alloc (w'.setCell ⟨c, i, none⟩ (.pointer (some ⟨w'.heap.size, 0, none⟩))) _ k (by rw [hss]; exact hk)).trans ?_
      exact Below.heap_setCell w' ⟨c, i, none⟩ _ k hkc
    refine ⟨rfl, w'.heap.size, hsz, At.push hT1 hli'.out w'.heap.size sp va sz v (fun hmem => absurd (hT1.lt _ hmem) (Nat.lt_irrefl _)) ?_ ?_ (fun k hk hkc => hold k (hT1.lt k hk) hkc) hfew, ⟨hB.os, hB.tape, hB.output, ?_, fun k hk hkc => (hold k (by omega) (by simpa using hkc)).trans (hB.block k hk)⟩⟩
    · have := heap_alloc_new (w'.setCell ⟨c, i, none⟩ (.pointer (some ⟨w'.heap.size, 0, none⟩))) (Obj.cells #[.int .i64 sp, .int .u64 va, .int .i64 sz, .int .i64 v, .pointer pa] 123)
      rw [hss] at this
      refine this.trans ?_
      unfold cells
      rw [hP.out]
    · refine (Below.heap_alloc (w'.setCell ⟨c, i, none⟩ (.pointer (some ⟨w'.heap.size, 0, none⟩))) _ c (by rw [hss]; exact hcl)).trans ?_
      exact heap_set_same _ hT1.hc
    · show w.heap.size ≤ ((w'.setCell ⟨c, i, none⟩ (.pointer (some ⟨w'.heap.size, 0, none⟩))).alloc _).heap.size
      rw [World.size_alloc, hss]
      omega
end Go.Proofs.Ytgmdlndiilibpaa.PH

/- hash.Table.Get: what stands at a key. -/
namespace Go.Proofs.Ytgmdlndiilibpaa.PH
open Go.RowKit Go.Proofs.YtgmdlndiilibpaaW.PrintWords Go.Proofs.YtgmdlndiilibpaaW.PrintLast Go.Proofs.YtgmdlndiilibpaaW.PrintMore Go.Proofs.Ytgmdlndiilibpaa.Tab
attribute [local go_sem] max2_int min2_int max_two min_two max_three min_three max_four min_four   -- for this text's walks alone
set_option linter.unusedVariables false
set_option linter.unusedSimpArgs false
attribute [local go_sem high] eqA27
theorem box_below {w : World} {o : Obj} {w1 : World} (hb : Below (w.alloc o).heap.size (w.alloc o) w1) : Below w.heap.size w w1 := below_then ((Below.refl _ w).alloc (Nat.le_refl _) _) (by simp) hb
set_option maxHeartbeats 8000000 in
set_option maxRecDepth 100000 in
theorem get_no (w : World) (t : Value) (sp va sz : Int) (hmay : hash_May.f sp va sz = some false) :
    Calls Try.prog 35 #[t, .agg #[.int .i64 sp, .int .u64 va, .int .i64 sz]] w fun e w' => e = .returned (.tuple #[.int .i64 0, .int .i64 0, .bool false]) ∧ Below w.heap.size w w' := by
  have hm := Aside0.mk hmay
  clear hmay
  go_enter Try.func35, Try.ntmps35
  go_wp2_with (first | (go_at_call 17; refine (hash_May.calls sp va sz false _ hm.out).mono ?_; rintro e w1 ⟨rfl, hb1⟩))
  go_ret3
  exact ⟨rfl, box_below hb1⟩
set_option maxHeartbeats 8000000 in
set_option maxRecDepth 100000 in
theorem get_yes (w : World) (b c : Nat) (L : List (List Nd)) (free n : Int) (hT : At 116 120 123 w b c L free n) (sp va sz : Int) (i : Nat) (l : List Nd) (hli : L[i]? = some l)
    (hmay : hash_May.f sp va sz = some true) (hch : hash_Chain.f sp va sz (L.length : Int) = some (i : Int)) :
    Calls Try.prog 35 #[.pointer (some ⟨b, 0, none⟩), .agg #[.int .i64 sp, .int .u64 va, .int .i64 sz]] w fun e w' =>
      e = .returned (.tuple #[.int .i64 (getN (sp, va, sz) l).1, .int .i64 ((getN (sp, va, sz) l).2.1 : Nat), .bool (getN (sp, va, sz) l).2.2]) ∧ Below w.heap.size w w' := by
  have hm := Aside0.mk hmay
  have hc := Aside0.mk hch
  have hl := Aside0.mk hli
  clear hmay hch hli
  by_cases hlt : pos (sp, va, sz) l < l.length
  · obtain ⟨m, hmm⟩ : ∃ m, l[pos (sp, va, sz) l] = m := ⟨_, rfl⟩
    have hg : getN (sp, va, sz) l = (m.v, pos (sp, va, sz) l + 1, true) := by unfold getN; rw [dif_pos hlt, hmm]
    rw [hg]
    have hM := Aside0.mk hmm
    clear hg hmm
    go_enter Try.func35, Try.ntmps35
    go_wp2_with fail
    refine (hash_May.calls sp va sz true _ hm.out).mono ?_
    rintro e w1 ⟨rfl, hb1⟩
    have q0 := pw_cell_below hb1 (a := ⟨w.heap.size, 0, none⟩) (v := .int .i64 sp) (by go_simp)
    have q1 := pw_cell_below hb1 (a := ⟨w.heap.size, 1, none⟩) (v := .int .u64 va) (by go_simp)
    have q2 := pw_cell_below hb1 (a := ⟨w.heap.size, 2, none⟩) (v := .int .i64 sz) (by go_simp)
    replace hb1 := box_below hb1
    go_wp2_with fail
    refine (find_calls _ b c L free n (hT.below hb1) sp va sz i l hl.out hc.out).mono ?_
    rintro e w2 ⟨j, hj, rfl, hb2⟩
    have hb3 := below_then hb1 hb1.size hb2
    have hlt2 : j < l.length := by rw [hj]; exact hlt
    have hjm : l[j] = m := by rw [← hM.out]; congr 1
    have hs := (hT.slots hb3 hl.out j (Nat.le_of_lt hlt2)).1
    have hn := hT.node hb3 hl.out j hlt2
    rw [List.drop_eq_getElem_cons hlt2, hjm] at hs
    rw [hjm] at hn
    simp only [ptr] at hs
    have d3 : w2.cell? ⟨m.id, 3, none⟩ = some (.int .i64 m.v) := by rw [Lib.cell_of_heap hn]; rfl
    rw [if_pos hlt2]
    have hJ := Aside0.mk hj
    clear hn hjm hj
    go_wp2
    go_ret3
    exact ⟨by rw [hJ.out]; rfl, hb3⟩
  · have hg : getN (sp, va, sz) l = (0, l.length, false) := by unfold getN; rw [dif_neg hlt]
    have hpl := pos_le (sp, va, sz) l
    rw [hg]
    clear hg
    go_enter Try.func35, Try.ntmps35
    go_wp2_with fail
    refine (hash_May.calls sp va sz true _ hm.out).mono ?_
    rintro e w1 ⟨rfl, hb1⟩
    have q0 := pw_cell_below hb1 (a := ⟨w.heap.size, 0, none⟩) (v := .int .i64 sp) (by go_simp)
    have q1 := pw_cell_below hb1 (a := ⟨w.heap.size, 1, none⟩) (v := .int .u64 va) (by go_simp)
    have q2 := pw_cell_below hb1 (a := ⟨w.heap.size, 2, none⟩) (v := .int .i64 sz) (by go_simp)
    replace hb1 := box_below hb1
    go_wp2_with fail
    refine (find_calls _ b c L free n (hT.below hb1) sp va sz i l hl.out hc.out).mono ?_
    rintro e w2 ⟨j, hj, rfl, hb2⟩
    have hb3 := below_then hb1 hb1.size hb2
    have hjl : j = l.length := by omega
    have hs := (hT.slots hb3 hl.out j (by omega)).1
    rw [List.drop_of_length_le (by omega)] at hs
    simp only [ptr] at hs
    rw [if_neg (by omega)]
    have hJ := Aside0.mk hjl
    clear hjl hj
    go_wp2
    go_ret3
    exact ⟨by rw [hJ.out]; rfl, hb3⟩
end Go.Proofs.Ytgmdlndiilibpaa.PH

/- What a store makes of a table that lies in memory: a block taken out, a thing set. -/
set_option linter.unusedVariables false
namespace Go.Proofs.Ytgmdlndiilibpaa.Tab
open Go.RowKit
theorem heap_set_ne {w : World} {k o q : Nat} (v : Value) (h : q ≠ k) : (w.setCell ⟨k, o, none⟩ v).heap[q]? = w.heap[q]? := Below.heap_setCell w ⟨k, o, none⟩ v q h
theorem lists_apart {L : List (List Nd)} (hn : (L.flatten.map Nd.id).Nodup) {i i' : Nat} {l l' : List Nd} (hi : L[i]? = some l) (hi' : L[i']? = some l') (hne : i ≠ i') {m m' : Nd} (hm : m ∈ l) (hm' : m' ∈ l') : m.id ≠ m'.id := by
  rw [List.map_flatten] at hn
  have hp := List.pairwise_iff_getElem.1 (List.pairwise_flatten.1 hn).2
  obtain ⟨h1, rfl⟩ := List.getElem?_eq_some_iff.1 hi
  obtain ⟨h2, rfl⟩ := List.getElem?_eq_some_iff.1 hi'
  intro e
  rcases Nat.lt_or_ge i i' with h | h
  · have := hp i i' (by simpa using h1) (by simpa using h2) h
    simp only [List.getElem_map] at this
    exact this _ (List.mem_map_of_mem hm) _ (List.mem_map_of_mem hm') e
  · have := hp i' i (by simpa using h2) (by simpa using h1) (by omega)
    simp only [List.getElem_map] at this
    exact this _ (List.mem_map_of_mem hm') _ (List.mem_map_of_mem hm) e.symm
theorem ptr_erase : ∀ (l : List Nd) (j : Nat), l ≠ [] → ptr (l.eraseIdx (j + 1)) = ptr l
  | [], _, h => absurd rfl h
  | m :: r, j, _ => rfl
theorem chain_cut {T : Nat} {w : World} : ∀ (l : List Nd) (j : Nat) (hj : j + 1 < l.length), Chain T w l → (l.map Nd.id).Nodup →
    Chain T (w.setCell ⟨(l[j]'(by omega)).id, 4, none⟩ (ptr (l.drop (j + 2)))) (l.eraseIdx (j + 1))
  | [], _, hj, _, _ => by simp at hj
  | [m], 0, hj, _, _ => by simp at hj
  | [m], j + 1, hj, _, _ => by simp at hj
  | m :: m2 :: r, 0, hj, h, hn => by
    simp only [List.map_cons, List.nodup_cons] at hn
    refine ⟨?_, ?_⟩
    · have := heap_set_same (o := 4) (ptr r) h.1
      simpa [cells] using this
    · refine (h.2.2).move (fun q hq => heap_set_ne _ (fun e => hn.1 ?_))
      have : q.id ∈ List.map Nd.id r := List.mem_map_of_mem hq
      simp only [List.getElem_cons_zero] at e
      rw [← e]
      exact List.mem_cons_of_mem _ this
  | m :: m2 :: r, j + 1, hj, h, hn => by
    have hn' := hn
    simp only [List.map_cons] at hn
    rw [List.nodup_cons] at hn
    have hj2 : j + 1 < (m2 :: r).length := by simpa using hj
    have ih := chain_cut (m2 :: r) j hj2 h.2 (by simpa using hn.2)
    have hlt : j < (m2 :: r).length := by omega
    have hne : m.id ≠ ((m2 :: r)[j]'hlt).id := fun e => hn.1 (by
      rw [e]
      have := List.mem_map_of_mem (f := Nd.id) (List.getElem_mem hlt)
      simpa using this)
    refine ⟨?_, ih⟩
    have h1 := heap_set_ne (w := w) (k := ((m2 :: r)[j]'hlt).id) (o := 4) (q := m.id) (ptr ((m2 :: r).drop (j + 2))) hne
    refine h1.trans (h.1.trans ?_)
    unfold cells
    rw [ptr_erase (m2 :: r) j (by simp)]
theorem chain_set {T : Nat} {w : World} (v : Int) : ∀ (l : List Nd) (j : Nat) (hj : j < l.length), Chain T w l → (l.map Nd.id).Nodup →
    Chain T (w.setCell ⟨(l[j]'hj).id, 3, none⟩ (.int .i64 v)) (l.set j { (l[j]'hj) with v := v })
  | [], _, hj, _, _ => by simp at hj
  | m :: r, 0, hj, h, hn => by
    simp only [List.map_cons, List.nodup_cons] at hn
    refine ⟨?_, ?_⟩
    · have := heap_set_same (o := 3) (.int .i64 v) h.1
      simpa [cells] using this
    · refine (h.2).move (fun q hq => heap_set_ne _ (fun e => hn.1 ?_))
      simp only [List.getElem_cons_zero] at e
      rw [← e]
      exact List.mem_map_of_mem hq
  | m :: r, j + 1, hj, h, hn => by
    simp only [List.map_cons, List.nodup_cons] at hn
    have hlt : j < r.length := by simpa using hj
    have ih := chain_set v r j hlt h.2 hn.2
    have hne : m.id ≠ (r[j]'hlt).id := fun e => hn.1 (by rw [e]; exact List.mem_map_of_mem (List.getElem_mem hlt))
    refine ⟨?_, ih⟩
    have h1 := heap_set_ne (w := w) (k := (r[j]'hlt).id) (o := 3) (q := m.id) (.int .i64 v) hne
    refine h1.trans (h.1.trans ?_)
    unfold cells
    congr 3
    cases r with
    | nil => simp at hlt
    | cons a r => cases j <;> rfl
section
variable {TT PT T : Nat} {w : World} {b c : Nat} {L : List (List Nd)} {free n : Int} {i : Nat} {l : List Nd}
/-- A block of a chain written, the chain another one by it. -/
theorem At.write (h : At TT PT T w b c L free n) (hli : L[i]? = some l) (j : Nat) (hj : j < l.length) (o : Nat) (u : Value) (l' : List Nd)
    (hc : Chain T (w.setCell ⟨(l[j]'hj).id, o, none⟩ u) l') (hp : ptr l' = ptr l) (hs : (l'.map Nd.id).Sublist (l.map Nd.id)) : At TT PT T (w.setCell ⟨(l[j]'hj).id, o, none⟩ u) b c (L.set i l') free n := by
  have hmem : l[j] ∈ l := List.getElem_mem hj
  obtain ⟨nb, nc⟩ := h.node_ne hli hmem
  have hnd := h.nd
  simp only [ids, List.nodup_cons] at hnd
  obtain ⟨hi, hil⟩ := List.getElem?_eq_some_iff.1 hli
  refine ⟨?_, ?_, ?_, ?_, by simpa using h.pos, by simpa using h.small, ?_⟩
  · have := (heap_set_ne (w := w) (o := o) u nb.symm).trans h.hb
    simpa using this
  · have := (heap_set_ne (w := w) (o := o) u nc.symm).trans h.hc
    rw [this, List.map_set, hp, ← hil]
    congr 2
    rw [← List.getElem_map ptr, List.set_getElem_self]
    simpa using hi
  · intro l0 hl0
    obtain ⟨q, hq, rfl⟩ := List.getElem_of_mem hl0
    rw [List.getElem_set]
    split
    · exact hc
    · rename_i hne
      have hq' : q < L.length := by simpa using hq
      exact (h.hl _ (List.getElem_mem hq')).move (fun m hm => heap_set_ne u (lists_apart hnd.2.2 (List.getElem?_eq_getElem hq') hli (fun e => hne e.symm) hm hmem))
  · have hsub : ((L.set i l').flatten.map Nd.id).Sublist (L.flatten.map Nd.id) := by
      rw [List.map_flatten, List.map_flatten, List.map_set]
      have e : L.map (List.map Nd.id) = (L.map (List.map Nd.id)).set i (l.map Nd.id) := by
        rw [← hil, ← List.getElem_map (List.map Nd.id), List.set_getElem_self]
        simpa using hi
      have aux : ∀ (M : List (List Nat)) (i : Nat) (a a' : List Nat), a'.Sublist a → ((M.set i a').flatten).Sublist ((M.set i a).flatten) := by
        intro M
        induction M with
        | nil => intro i a a' _; simp
        | cons x M ih =>
          intro i a a' hs
          cases i with
          | zero => simpa using hs.append (List.Sublist.refl M.flatten)
          | succ i => simpa using (List.Sublist.refl x).append (ih i a a' hs)
      have := aux (L.map (List.map Nd.id)) i _ _ hs
      rw [← e] at this
      exact this
    simp only [ids]
    exact (h.nd).sublist ((hsub.cons_cons c).cons_cons b)
  · intro l0 hl0
    rcases List.mem_or_eq_of_mem_set hl0 with hl0 | rfl
    · exact h.few l0 hl0
    · have h1 := hs.length_le
      simp only [List.length_map] at h1
      exact Nat.le_trans h1 (h.few l (List.mem_of_getElem? hli))
theorem At.setv (h : At TT PT T w b c L free n) (hli : L[i]? = some l) (j : Nat) (hj : j < l.length) (v : Int) : At TT PT T (w.setCell ⟨(l[j]'hj).id, 3, none⟩ (.int .i64 v)) b c (L.set i (l.set j { (l[j]'hj) with v := v })) free n := by
  refine h.write hli j hj 3 _ _ (chain_set v l j hj (h.hl l (List.mem_of_getElem? hli)) (h.chain_nd hli)) ?_ ?_
  · cases l with
    | nil => rfl
    | cons a r => cases j <;> rfl
  · rw [List.map_set]
    have : (l.map Nd.id).set j (l[j]).id = l.map Nd.id := by
      rw [← List.getElem_map Nd.id, List.set_getElem_self]
      simpa using hj
    rw [this]
    exact List.Sublist.refl _
theorem At.cut (h : At TT PT T w b c L free n) (hli : L[i]? = some l) (j : Nat) (hj : j < l.length) : At TT PT T (w.setCell (slot c i l j) (ptr (l.drop (j + 1)))) b c (L.set i (l.eraseIdx j)) free n := by
  have hnd := h.nd
  simp only [ids, List.nodup_cons] at hnd
  obtain ⟨hi, hil⟩ := List.getElem?_eq_some_iff.1 hli
  cases j with
  | succ j =>
    have hjl : j < l.length := by omega
    simp only [slot, List.getElem?_eq_getElem hjl]
    refine h.write hli j hjl 4 _ _ (chain_cut l j hj (h.hl l (List.mem_of_getElem? hli)) (h.chain_nd hli)) (ptr_erase l j (fun e => by simp [e] at hj)) ?_
    exact (List.eraseIdx_sublist l (j + 1)).map _
  | zero =>
    simp only [slot]
    have he : l.eraseIdx 0 = l.drop 1 := by cases l <;> rfl
    have hmv : ∀ l0 ∈ L, Chain T (w.setCell ⟨c, i, none⟩ (ptr (l.drop 1))) l0 := fun l0 hl0 => (h.hl l0 hl0).move (fun m hm => by
      obtain ⟨q, hq, rfl⟩ := List.getElem_of_mem hl0
      exact heap_set_ne _ (h.node_ne (List.getElem?_eq_getElem hq) hm).2)
    refine ⟨?_, ?_, ?_, ?_, by simpa using h.pos, by simpa using h.small, ?_⟩
    · have := (heap_set_ne (w := w) (k := c) (o := i) (ptr (l.drop 1)) h.ne_bc).trans h.hb
      simpa using this
    · rw [heap_set_same _ h.hc, List.map_set, he, ← List.setIfInBounds_toArray]
    · intro l0 hl0
      rcases List.mem_or_eq_of_mem_set hl0 with hl0 | rfl
      · exact hmv l0 hl0
      · rw [he]
        exact (hmv l (List.mem_of_getElem? hli)).drop 1
    · simp only [ids]
      exact (h.nd).sublist (((((flatten_set_sub hli (List.eraseIdx_sublist l 0)).map Nd.id)).cons_cons c).cons_cons b)
    · intro l0 hl0
      rcases List.mem_or_eq_of_mem_set hl0 with hl0 | rfl
      · exact h.few l0 hl0
      · exact Nat.le_trans (List.eraseIdx_sublist l 0).length_le (h.few l (List.mem_of_getElem? hli))
end
end Go.Proofs.Ytgmdlndiilibpaa.Tab

/- hash.Table.Set, Cut. -/
namespace Go.Proofs.Ytgmdlndiilibpaa.PH
open Go.RowKit Go.Proofs.YtgmdlndiilibpaaW.PrintWords Go.Proofs.YtgmdlndiilibpaaW.PrintLast Go.Proofs.YtgmdlndiilibpaaW.PrintMore Go.Proofs.Ytgmdlndiilibpaa.Tab
attribute [local go_sem] max2_int min2_int max_two min_two max_three min_three max_four min_four   -- for this text's walks alone
set_option linter.unusedVariables false
set_option linter.unusedSimpArgs false
attribute [local go_sem high] eqA27
set_option maxHeartbeats 8000000 in
set_option maxRecDepth 100000 in
theorem set_arg (w : World) (t : Value) (sp va sz v : Int) (hmay : hash_May.f sp va sz = some false) :
    Calls Try.prog 34 #[t, .agg #[.int .i64 sp, .int .u64 va, .int .i64 sz], .int .i64 v] w fun e w' => e = .returned (.int .i64 10) ∧ Below w.heap.size w w' := by
  have hm := Aside0.mk hmay
  clear hmay
  go_enter Try.func34, Try.ntmps34
  go_wp2_with fail
  refine (get_no _ t sp va sz hm.out).mono ?_
  rintro e w1 ⟨rfl, hb1⟩
  replace hb1 := box_below hb1
  go_wp2
  go_ret
  exact ⟨rfl, hb1⟩
set_option maxHeartbeats 8000000 in
set_option maxRecDepth 100000 in
theorem set_none (w : World) (b c : Nat) (L : List (List Nd)) (free n : Int) (hT : At 116 120 123 w b c L free n) (sp va sz v : Int) (i : Nat) (l : List Nd) (hli : L[i]? = some l)
    (hmay : hash_May.f sp va sz = some true) (hch : hash_Chain.f sp va sz (L.length : Int) = some (i : Int)) (hlt : ¬ pos (sp, va, sz) l < l.length) :
    Calls Try.prog 34 #[.pointer (some ⟨b, 0, none⟩), .agg #[.int .i64 sp, .int .u64 va, .int .i64 sz], .int .i64 v] w fun e w' => e = .returned (.int .i64 10) ∧ Below w.heap.size w w' := by
  have hm := Aside0.mk hmay
  have hc := Aside0.mk hch
  have hl := Aside0.mk hli
  clear hmay hch hli
  have hTa := hT.below ((Below.refl _ w).alloc (Nat.le_refl _) (Obj.cells #[Value.int IntKind.i64 sp, Value.int IntKind.u64 va, Value.int IntKind.i64 sz] 27))
  have hg : getN (sp, va, sz) l = (0, l.length, false) := by unfold getN; rw [dif_neg hlt]
  have hgy := fun W hW => get_yes W b c L free n hW sp va sz i l hl.out hm.out hc.out
  rw [hg] at hgy
  have HG := Aside0.mk hgy
  clear hgy hg
  go_enter Try.func34, Try.ntmps34
  go_wp2_with fail
  refine (HG.out _ hTa).mono ?_
  rintro e w1 ⟨rfl, hb1⟩
  replace hb1 := box_below hb1
  go_wp2
  go_ret
  exact ⟨rfl, hb1⟩
set_option maxHeartbeats 8000000 in
set_option maxRecDepth 100000 in
theorem cut_arg (w : World) (t : Value) (sp va sz : Int) (hmay : hash_May.f sp va sz = some false) :
    Calls Try.prog 33 #[t, .agg #[.int .i64 sp, .int .u64 va, .int .i64 sz]] w fun e w' => e = .returned (.int .i64 10) ∧ Below w.heap.size w w' := by
  have hm := Aside0.mk hmay
  clear hmay
  go_enter Try.func33, Try.ntmps33
  go_wp2_with fail
  refine (get_no _ t sp va sz hm.out).mono ?_
  rintro e w1 ⟨rfl, hb1⟩
  replace hb1 := box_below hb1
  go_wp2
  go_ret
  exact ⟨rfl, hb1⟩
set_option maxHeartbeats 8000000 in
set_option maxRecDepth 100000 in
theorem cut_none (w : World) (b c : Nat) (L : List (List Nd)) (free n : Int) (hT : At 116 120 123 w b c L free n) (sp va sz : Int) (i : Nat) (l : List Nd) (hli : L[i]? = some l)
    (hmay : hash_May.f sp va sz = some true) (hch : hash_Chain.f sp va sz (L.length : Int) = some (i : Int)) (hlt : ¬ pos (sp, va, sz) l < l.length) :
    Calls Try.prog 33 #[.pointer (some ⟨b, 0, none⟩), .agg #[.int .i64 sp, .int .u64 va, .int .i64 sz]] w fun e w' => e = .returned (.int .i64 10) ∧ Below w.heap.size w w' := by
  have hm := Aside0.mk hmay
  have hc := Aside0.mk hch
  have hl := Aside0.mk hli
  clear hmay hch hli
  have hTa := hT.below ((Below.refl _ w).alloc (Nat.le_refl _) (Obj.cells #[Value.int IntKind.i64 sp, Value.int IntKind.u64 va, Value.int IntKind.i64 sz] 27))
  have hg : getN (sp, va, sz) l = (0, l.length, false) := by unfold getN; rw [dif_neg hlt]
  have hgy := fun W hW => get_yes W b c L free n hW sp va sz i l hl.out hm.out hc.out
  rw [hg] at hgy
  have HG := Aside0.mk hgy
  clear hgy hg
  go_enter Try.func33, Try.ntmps33
  go_wp2_with fail
  refine (HG.out _ hTa).mono ?_
  rintro e w1 ⟨rfl, hb1⟩
  replace hb1 := box_below hb1
  go_wp2
  go_ret
  exact ⟨rfl, hb1⟩
set_option maxHeartbeats 8000000 in
set_option maxRecDepth 100000 in
theorem set_ok (w : World) (b c : Nat) (L : List (List Nd)) (free n : Int) (hT : At 116 120 123 w b c L free n) (sp va sz v : Int) (i : Nat) (l : List Nd) (hli : L[i]? = some l)
    (hmay : hash_May.f sp va sz = some true) (hch : hash_Chain.f sp va sz (L.length : Int) = some (i : Int)) (hlt : pos (sp, va, sz) l < l.length) :
    Calls Try.prog 34 #[.pointer (some ⟨b, 0, none⟩), .agg #[.int .i64 sp, .int .u64 va, .int .i64 sz], .int .i64 v] w fun e w' => e = .returned (.int .i64 0) ∧
      At 116 120 123 w' b c (L.set i (l.set (pos (sp, va, sz) l) { (l[pos (sp, va, sz) l]'hlt) with v := v })) free n ∧ Mv (ids b c L) w w' := by
  have hm := Aside0.mk hmay
  have hc := Aside0.mk hch
  have hl := Aside0.mk hli
  clear hmay hch hli
  have hTa := hT.below ((Below.refl _ w).alloc (Nat.le_refl _) (Obj.cells #[Value.int IntKind.i64 sp, Value.int IntKind.u64 va, Value.int IntKind.i64 sz] 27))
  have hg : getN (sp, va, sz) l = ((l[pos (sp, va, sz) l]'hlt).v, pos (sp, va, sz) l + 1, true) := by unfold getN; rw [dif_pos hlt]
  have hgy := fun W hW => get_yes W b c L free n hW sp va sz i l hl.out hm.out hc.out
  rw [hg] at hgy
  have HG := Aside0.mk hgy
  clear hgy hg
  go_enter Try.func34, Try.ntmps34
  go_wp2_with fail
  refine (HG.out _ hTa).mono ?_
  rintro e w1 ⟨rfl, hb1⟩
  have q0 := pw_cell_below hb1 (a := ⟨w.heap.size, 0, none⟩) (v := .int .i64 sp) (by go_simp)
  have q1 := pw_cell_below hb1 (a := ⟨w.heap.size, 1, none⟩) (v := .int .u64 va) (by go_simp)
  have q2 := pw_cell_below hb1 (a := ⟨w.heap.size, 2, none⟩) (v := .int .i64 sz) (by go_simp)
  replace hb1 := box_below hb1
  go_wp2_with fail
  refine (find_calls _ b c L free n (hT.below hb1) sp va sz i l hl.out hc.out).mono ?_
  rintro e w2 ⟨j, hj, rfl, hb2⟩
  have hb3 := below_then hb1 hb1.size hb2
  have hlt2 : j < l.length := by rw [hj]; exact hlt
  have hs := (hT.slots hb3 hl.out j (Nat.le_of_lt hlt2)).1
  have hsf := (hT.slots hb3 hl.out j (Nat.le_of_lt hlt2)).2
  have hn := hT.node hb3 hl.out j hlt2
  rw [List.drop_eq_getElem_cons hlt2] at hs
  simp only [ptr] at hs
  rw [if_pos hlt2]
  have hT2 := hT.below hb3
  have hid : (l[j]'hlt2).id ∈ ids b c L := mem_ids hl.out (List.getElem_mem hlt2)
  have hset := hT2.setv hl.out j hlt2 v
  obtain ⟨m, hm2⟩ : ∃ m, (l[j]'hlt2) = m := ⟨_, rfl⟩
  rw [hm2] at hs hn hset hid
  have d3 : w2.cell? ⟨m.id, 3, none⟩ = some (.int .i64 m.v) := by rw [Lib.cell_of_heap hn]; rfl
  have f3 : w2.frozen? ⟨m.id, 3, none⟩ = false := Lib.frozen_of_heap hn 3
  have HS := Aside0.mk hset
  have HJ := Aside0.mk hj
  have HM := Aside0.mk hm2
  have HI := Aside0.mk hid
  clear hset hj hm2 hn hid
  go_wp2
  go_ret
  have hsz := hb3.size
  refine ⟨rfl, ?_, ⟨hb3.os, hb3.tape, hb3.output, by simp only [World.setCell, Array.size_modify]; exact hsz, fun k hk hkn => (heap_set_ne _ (fun (e : k = m.id) => hkn (by rw [e]; exact HI.out))).trans (hb3.block k hk)⟩⟩
  have := HS.out
  have hj := HJ.out
  subst hj
  have hid : m.id = (l[pos (sp, va, sz) l]'hlt).id := by rw [← HM.out]
  rw [hid]
  rw [← HM.out] at this
  exact this
set_option maxHeartbeats 8000000 in
set_option maxRecDepth 100000 in
theorem cut_ok (w : World) (b c : Nat) (L : List (List Nd)) (free n : Int) (hT : At 116 120 123 w b c L free n) (sp va sz : Int) (i : Nat) (l : List Nd) (hli : L[i]? = some l)
    (hmay : hash_May.f sp va sz = some true) (hch : hash_Chain.f sp va sz (L.length : Int) = some (i : Int)) (hlt : pos (sp, va, sz) l < l.length) (hf0 : 0 ≤ free) (hf2 : free ≤ 4611686018427387904) (hn0 : 0 < n) (hn2 : n ≤ 4611686018427387904) :
    Calls Try.prog 33 #[.pointer (some ⟨b, 0, none⟩), .agg #[.int .i64 sp, .int .u64 va, .int .i64 sz]] w fun e w' => e = .returned (.int .i64 0) ∧
      At 116 120 123 w' b c (L.set i (l.eraseIdx (pos (sp, va, sz) l))) (free + 1) (n - 1) ∧ Mv (ids b c L) w w' := by
  have hm := Aside0.mk hmay
  have hc := Aside0.mk hch
  have hl := Aside0.mk hli
  clear hmay hch hli
  have hTa := hT.below ((Below.refl _ w).alloc (Nat.le_refl _) (Obj.cells #[Value.int IntKind.i64 sp, Value.int IntKind.u64 va, Value.int IntKind.i64 sz] 27))
  have hg : getN (sp, va, sz) l = ((l[pos (sp, va, sz) l]'hlt).v, pos (sp, va, sz) l + 1, true) := by unfold getN; rw [dif_pos hlt]
  have hgy := fun W hW => get_yes W b c L free n hW sp va sz i l hl.out hm.out hc.out
  rw [hg] at hgy
  have HG := Aside0.mk hgy
  clear hgy hg
  go_enter Try.func33, Try.ntmps33
  go_wp2_with fail
  refine (HG.out _ hTa).mono ?_
  rintro e w1 ⟨rfl, hb1⟩
  have q0 := pw_cell_below hb1 (a := ⟨w.heap.size, 0, none⟩) (v := .int .i64 sp) (by go_simp)
  have q1 := pw_cell_below hb1 (a := ⟨w.heap.size, 1, none⟩) (v := .int .u64 va) (by go_simp)
  have q2 := pw_cell_below hb1 (a := ⟨w.heap.size, 2, none⟩) (v := .int .i64 sz) (by go_simp)
  replace hb1 := box_below hb1
  go_wp2_with fail
  refine (find_calls _ b c L free n (hT.below hb1) sp va sz i l hl.out hc.out).mono ?_
  rintro e w2 ⟨j, hj, rfl, hb2⟩
  have hb3 := below_then hb1 hb1.size hb2
  have hlt2 : j < l.length := by rw [hj]; exact hlt
  have hs := (hT.slots hb3 hl.out j (Nat.le_of_lt hlt2)).1
  have hsf := (hT.slots hb3 hl.out j (Nat.le_of_lt hlt2)).2
  have hn := hT.node hb3 hl.out j hlt2
  rw [List.drop_eq_getElem_cons hlt2] at hs
  simp only [ptr] at hs
  rw [if_pos hlt2]
  have hT2 := hT.below hb3
  have hcut := hT2.cut hl.out j hlt2
  have hsid : (slot c i l j).block ∈ ids b c L ∧ (slot c i l j).spot = none := by
    cases j with
    | zero => exact ⟨by simp [slot, ids], rfl⟩
    | succ j =>
      have hjl : j < l.length := by omega
      simp only [slot, List.getElem?_eq_getElem hjl]
      exact ⟨mem_ids hl.out (List.getElem_mem hjl), trivial⟩
  obtain ⟨m, hm2⟩ : ∃ m, (l[j]'hlt2) = m := ⟨_, rfl⟩
  rw [hm2] at hs hn
  have d4 : w2.cell? ⟨m.id, 4, none⟩ = some (ptr (l.drop (j + 1))) := by rw [Lib.cell_of_heap hn]; rfl
  obtain ⟨pa, hpa⟩ : ∃ pa : Option Addr, ptr (l.drop (j + 1)) = .pointer pa := by cases l.drop (j + 1) <;> exact ⟨_, rfl⟩
  rw [hpa] at d4 hcut
  obtain ⟨sl, hsl⟩ : ∃ sl, slot c i l j = sl := ⟨_, rfl⟩
  rw [hsl] at hs hsf hcut hsid ⊢
  have c1 : (w2.setCell sl (.pointer pa)).cell? ⟨b, 1, none⟩ = some (.int .i64 free) := by rw [Lib.cell_of_heap hcut.hb]; rfl
  have c2 : (w2.setCell sl (.pointer pa)).cell? ⟨b, 2, none⟩ = some (.int .i64 n) := by rw [Lib.cell_of_heap hcut.hb]; rfl
  have f1 : (w2.setCell sl (.pointer pa)).frozen? ⟨b, 1, none⟩ = false := Lib.frozen_of_heap hcut.hb 1
  have f2 : (w2.setCell sl (.pointer pa)).frozen? ⟨b, 2, none⟩ = false := Lib.frozen_of_heap hcut.hb 2
  have HC := Aside0.mk hcut
  have HJ := Aside0.mk hj
  have HI := Aside0.mk hsid
  have HP := Aside0.mk hpa
  clear hcut hj hn hsid hpa hm2 hsl
  go_wp2_with fail
  generalize hw3 : w2.setCell sl (.pointer pa) = w3 at *
  have HW := Aside0.mk hw3
  clear hw3
  go_wp2
  go_ret
  have hsz := hb3.size
  have hj := HJ.out
  subst hj
  have hother : ∀ k, k ≠ b → ((w3.setCell ⟨b, 1, none⟩ (.int .i64 (free + 1))).setCell ⟨b, 2, none⟩ (.int .i64 (n - 1))).heap[k]? = w3.heap[k]? := fun k hk => (heap_set_ne _ hk).trans (heap_set_ne _ hk)
  have h3 : ∀ k, k ∉ ids b c L → w3.heap[k]? = w2.heap[k]? := fun k hk => by rw [← HW.out]; exact Below.heap_setCell w2 sl _ k (fun e => hk (e ▸ HI.out.1))
  have hs3 : w3.heap.size = w2.heap.size := by rw [← HW.out]; simp [World.setCell]
  refine ⟨rfl, At.counts HC.out _ _ ?_ (fun k _ hk => hother k hk), ⟨?_, ?_, ?_, ?_, fun k hk hkn => (hother k (fun e => hkn (by rw [e]; simp [ids]))).trans ((h3 k hkn).trans (hb3.block k hk))⟩⟩
  · have := heap_set_same (o := 2) (.int .i64 (n - 1)) (heap_set_same (o := 1) (.int .i64 (free + 1)) HC.out.hb)
    simpa using this
  · show w3.os = w.os
    rw [← HW.out]; exact hb3.os
  · show w3.tape = w.tape
    rw [← HW.out]; exact hb3.tape
  · show w3.output = w.output
    rw [← HW.out]; exact hb3.output
  · simp only [World.setCell, Array.size_modify]
    omega
end Go.Proofs.Ytgmdlndiilibpaa.PH

/- hash.Table.Put. -/
namespace Go.Proofs.Ytgmdlndiilibpaa.PH
open Go.RowKit Go.Proofs.YtgmdlndiilibpaaW.PrintWords Go.Proofs.YtgmdlndiilibpaaW.PrintLast Go.Proofs.YtgmdlndiilibpaaW.PrintMore Go.Proofs.Ytgmdlndiilibpaa.Tab
attribute [local go_sem] max2_int min2_int max_two min_two max_three min_three max_four min_four   -- for this text's walks alone
set_option linter.unusedVariables false
set_option linter.unusedSimpArgs false
attribute [local go_sem high] eqA27
set_option maxHeartbeats 8000000 in
set_option maxRecDepth 100000 in
theorem put_arg (w : World) (t : Value) (sp va sz v : Int) (hmay : hash_May.f sp va sz = some false) :
    Calls Try.prog 32 #[t, .agg #[.int .i64 sp, .int .u64 va, .int .i64 sz], .int .i64 v] w fun e w' => e = .returned (.int .i64 1) ∧ Below w.heap.size w w' := by
  have hm := Aside0.mk hmay
  clear hmay
  go_enter Try.func32, Try.ntmps32
  go_wp2_with (first | (go_at_call 17; refine (hash_May.calls sp va sz false _ hm.out).mono ?_; rintro e w1 ⟨rfl, hb1⟩))
  go_ret
  exact ⟨rfl, box_below hb1⟩
set_option maxHeartbeats 8000000 in
set_option maxRecDepth 100000 in
theorem put_exist (w : World) (b c : Nat) (L : List (List Nd)) (free n : Int) (hT : At 116 120 123 w b c L free n) (sp va sz v : Int) (i : Nat) (l : List Nd) (hli : L[i]? = some l)
    (hmay : hash_May.f sp va sz = some true) (hch : hash_Chain.f sp va sz (L.length : Int) = some (i : Int)) (hlt : pos (sp, va, sz) l < l.length) :
    Calls Try.prog 32 #[.pointer (some ⟨b, 0, none⟩), .agg #[.int .i64 sp, .int .u64 va, .int .i64 sz], .int .i64 v] w fun e w' => e = .returned (.int .i64 9) ∧ Below w.heap.size w w' := by
  have hm := Aside0.mk hmay
  have hc := Aside0.mk hch
  have hl := Aside0.mk hli
  clear hmay hch hli
  go_enter Try.func32, Try.ntmps32
  go_wp2_with fail
  refine (hash_May.calls sp va sz true _ hm.out).mono ?_
  rintro e w1 ⟨rfl, hb1⟩
  have q0 := pw_cell_below hb1 (a := ⟨w.heap.size, 0, none⟩) (v := .int .i64 sp) (by go_simp)
  have q1 := pw_cell_below hb1 (a := ⟨w.heap.size, 1, none⟩) (v := .int .u64 va) (by go_simp)
  have q2 := pw_cell_below hb1 (a := ⟨w.heap.size, 2, none⟩) (v := .int .i64 sz) (by go_simp)
  replace hb1 := box_below hb1
  go_wp2_with fail
  refine (find_calls _ b c L free n (hT.below hb1) sp va sz i l hl.out hc.out).mono ?_
  rintro e w2 ⟨j, hj, rfl, hb2⟩
  have hb3 := below_then hb1 hb1.size hb2
  have hlt2 : j < l.length := by rw [hj]; exact hlt
  have hs := (hT.slots hb3 hl.out j (Nat.le_of_lt hlt2)).1
  rw [List.drop_eq_getElem_cons hlt2] at hs
  simp only [ptr] at hs
  rw [if_pos hlt2]
  clear hj
  go_wp2
  go_ret
  exact ⟨rfl, hb3⟩
set_option maxHeartbeats 8000000 in
set_option maxRecDepth 100000 in
theorem put_mem (w : World) (b c : Nat) (L : List (List Nd)) (free n : Int) (hT : At 116 120 123 w b c L free n) (sp va sz v : Int) (i : Nat) (l : List Nd) (hli : L[i]? = some l)
    (hmay : hash_May.f sp va sz = some true) (hch : hash_Chain.f sp va sz (L.length : Int) = some (i : Int)) (hlt : ¬ pos (sp, va, sz) l < l.length) (hfree : free = 0) :
    Calls Try.prog 32 #[.pointer (some ⟨b, 0, none⟩), .agg #[.int .i64 sp, .int .u64 va, .int .i64 sz], .int .i64 v] w fun e w' => e = .returned (.int .i64 6) ∧ Below w.heap.size w w' := by
  subst hfree
  have hm := Aside0.mk hmay
  have hc := Aside0.mk hch
  have hl := Aside0.mk hli
  clear hmay hch hli
  go_enter Try.func32, Try.ntmps32
  go_wp2_with fail
  refine (hash_May.calls sp va sz true _ hm.out).mono ?_
  rintro e w1 ⟨rfl, hb1⟩
  have q0 := pw_cell_below hb1 (a := ⟨w.heap.size, 0, none⟩) (v := .int .i64 sp) (by go_simp)
  have q1 := pw_cell_below hb1 (a := ⟨w.heap.size, 1, none⟩) (v := .int .u64 va) (by go_simp)
  have q2 := pw_cell_below hb1 (a := ⟨w.heap.size, 2, none⟩) (v := .int .i64 sz) (by go_simp)
  replace hb1 := box_below hb1
  go_wp2_with fail
  refine (find_calls _ b c L 0 n (hT.below hb1) sp va sz i l hl.out hc.out).mono ?_
  rintro e w2 ⟨j, hj, rfl, hb2⟩
  have hb3 := below_then hb1 hb1.size hb2
  have hjl : j = l.length := by have := pos_le (sp, va, sz) l; omega
  have hs := (hT.slots hb3 hl.out j (by omega)).1
  rw [List.drop_of_length_le (by omega)] at hs
  simp only [ptr] at hs
  rw [if_neg (by omega)]
  clear hj hjl
  have cf : w2.cell? ⟨b, 1, none⟩ = some (.int .i64 0) := by rw [Lib.cell_of_heap (hT.below hb3).hb]; rfl
  go_wp2
  go_ret
  exact ⟨rfl, hb3⟩
set_option maxHeartbeats 8000000 in
set_option maxRecDepth 100000 in
theorem put_ok (w : World) (b c : Nat) (L : List (List Nd)) (free n : Int) (hT : At 116 120 123 w b c L free n) (sp va sz v : Int) (i : Nat) (l : List Nd) (hli : L[i]? = some l)
    (hmay : hash_May.f sp va sz = some true) (hch : hash_Chain.f sp va sz (L.length : Int) = some (i : Int)) (hlt : ¬ pos (sp, va, sz) l < l.length) (hfree : 0 < free) (hf2 : free ≤ 4611686018427387904) (hn : 0 ≤ n) (hn2 : n ≤ 4611686018427387904) (hfew : l.length + 1 ≤ 10000000) :
    Calls Try.prog 32 #[.pointer (some ⟨b, 0, none⟩), .agg #[.int .i64 sp, .int .u64 va, .int .i64 sz], .int .i64 v] w fun e w' => e = .returned (.int .i64 0) ∧
      ∃ g, w.heap.size ≤ g ∧ At 116 120 123 w' b c (L.set i (⟨g, sp, va, sz, v⟩ :: l)) (free - 1) (n + 1) ∧ Mv (ids b c L) w w' := by
  have hm := Aside0.mk hmay
  have hc := Aside0.mk hch
  have hl := Aside0.mk hli
  clear hmay hch hli
  have hfz : (free == 0) = false := by simp; omega
  go_enter Try.func32, Try.ntmps32
  go_wp2_with fail
  refine (hash_May.calls sp va sz true _ hm.out).mono ?_
  rintro e w1 ⟨rfl, hb1⟩
  have q0 := pw_cell_below hb1 (a := ⟨w.heap.size, 0, none⟩) (v := .int .i64 sp) (by go_simp)
  have q1 := pw_cell_below hb1 (a := ⟨w.heap.size, 1, none⟩) (v := .int .u64 va) (by go_simp)
  have q2 := pw_cell_below hb1 (a := ⟨w.heap.size, 2, none⟩) (v := .int .i64 sz) (by go_simp)
  replace hb1 := box_below hb1
  go_wp2_with fail
  refine (find_calls _ b c L free n (hT.below hb1) sp va sz i l hl.out hc.out).mono ?_
  rintro e w2 ⟨j, hj, rfl, hb2⟩
  have hb3 := below_then hb1 hb1.size hb2
  have r0 := pw_cell_below hb2 q0
  have r1 := pw_cell_below hb2 q1
  have r2 := pw_cell_below hb2 q2
  have hjl : j = l.length := by have := pos_le (sp, va, sz) l; omega
  have hs := (hT.slots hb3 hl.out j (by omega)).1
  rw [List.drop_of_length_le (by omega)] at hs
  simp only [ptr] at hs
  rw [if_neg (by omega)]
  clear hj hjl
  have cf : w2.cell? ⟨b, 1, none⟩ = some (.int .i64 free) := by rw [Lib.cell_of_heap (hT.below hb3).hb]; rfl
  go_wp2_with fail
  refine (push_calls _ b c L free n (hT.below hb3) sp va sz v i l hl.out hfew hc.out).mono ?_
  rintro e w3 ⟨rfl, g, hg, hT3, hmv3⟩
  have c1 : w3.cell? ⟨b, 1, none⟩ = some (.int .i64 free) := by rw [Lib.cell_of_heap hT3.hb]; rfl
  have c2 : w3.cell? ⟨b, 2, none⟩ = some (.int .i64 n) := by rw [Lib.cell_of_heap hT3.hb]; rfl
  have f1 : w3.frozen? ⟨b, 1, none⟩ = false := Lib.frozen_of_heap hT3.hb 1
  have f2 : w3.frozen? ⟨b, 2, none⟩ = false := Lib.frozen_of_heap hT3.hb 2
  go_wp2
  go_ret
  have hsz := hb3.size
  have hs3 := hmv3.size
  have hother : ∀ k, k ≠ b → (((w3.setCell ⟨b, 1, none⟩ (.int .i64 (free - 1))).setCell ⟨b, 2, none⟩ (.int .i64 (n + 1)))).heap[k]? = w3.heap[k]? := fun k hk =>
    (Below.heap_setCell _ ⟨b, 2, none⟩ _ k hk).trans (Below.heap_setCell _ ⟨b, 1, none⟩ _ k hk)
  refine ⟨rfl, g, by omega, At.counts hT3 _ _ ?_ (fun k _ hk => hother k hk), ⟨hmv3.os.trans hb3.os, hmv3.tape.trans hb3.tape, hmv3.output.trans hb3.output, ?_, fun k hk hkn => (hother k (fun e => hkn (by rw [e]; simp [ids]))).trans ((hmv3.block k (by omega) (fun e => hkn (by rw [List.mem_singleton.1 e]; simp [ids]))).trans (hb3.block k hk))⟩⟩
  · have := heap_set_same (o := 2) (.int .i64 (n + 1)) (heap_set_same (o := 1) (.int .i64 (free - 1)) hT3.hb)
    simpa using this
  · simp only [World.setCell, Array.size_modify]
    omega
end Go.Proofs.Ytgmdlndiilibpaa.PH

namespace Go.Proofs.Ytgmdlndiilibpaa.PH
open Go.RowKit Go.Proofs.YtgmdlndiilibpaaW.PrintWords Go.Proofs.YtgmdlndiilibpaaW.PrintLast Go.Proofs.YtgmdlndiilibpaaW.PrintMore Go.Proofs.Ytgmdlndiilibpaa.Tab
attribute [local go_sem] max2_int min2_int max_two min_two max_three min_three max_four min_four   -- for this text's walks alone
set_option linter.unusedVariables false
set_option linter.unusedSimpArgs false
attribute [local go_sem high] eqA27
theorem info120 : (Try.prog.info? 120).map (fun i => (i.zero, i.size, i.bytes)) = some (some (.pointer none), 1, 8) := by kernel_rfl
theorem new_at (w : World) (q : Nat) (hq1 : 1 ≤ q) (hq2 : q ≤ 10000000) (f : Int) :
    At 116 120 123 ((w.alloc (.cells (madeCells #[.pointer none] q) 120)).alloc (.cells #[.slice (some ⟨w.heap.size, 0, none⟩) q q, .int .i64 f, .int .i64 0] 116)) (w.heap.size + 1) w.heap.size (List.replicate q []) f 0 where
  hb := by
    show ((w.heap.push _).push _)[w.heap.size + 1]? = _
    rw [show w.heap.size + 1 = (w.heap.push (Obj.cells (madeCells #[Value.pointer none] q) 120)).size by simp, Array.getElem?_push_size]
    simp
  hc := by
    have e : madeCells #[Value.pointer none] q = ((List.replicate q ([] : List Nd)).map ptr).toArray := by
      apply Array.ext
      · simp [madeCells]
      · intro i h1 h2
        simp [madeCells, ptr, Nat.mod_one]
    rw [e]
    show ((w.heap.push _).push _)[w.heap.size]? = _
    rw [Array.getElem?_push_lt (by simp)]
    simp
  hl := fun l hl => by rw [(List.mem_replicate.1 hl).2]; trivial
  nd := by simp [ids]
  pos := by simp; omega
  small := by simp; omega
  few := fun l hl => by rw [(List.mem_replicate.1 hl).2]; simp
set_option maxHeartbeats 8000000 in
set_option maxRecDepth 100000 in
theorem new_calls (w : World) (blocks : Int) (chains : Int) (q : Nat) (hq : (q : Int) = max chains 1) (hq2 : q ≤ 10000000) :
    Calls Try.prog 31 #[.int .i64 blocks, .int .i64 chains] w fun e w' => ∃ b c : Nat, e = .returned (.pointer (some ⟨b, 0, none⟩)) ∧
      At 116 120 123 w' b c (List.replicate q []) (max blocks 0) 0 ∧ w.heap.size ≤ b ∧ w.heap.size ≤ c ∧ Below w.heap.size w w' := by
  have hmk := fun wx => run_make_row' (P := Try.prog) 114 120 (.pointer none) 8 Try.underlying114 info120 rfl .i64 .i64 q (by omega) (by omega) wx
  have hq1 : 1 ≤ q := by omega
  have hbl : ∀ f : Int, Below w.heap.size w ((w.alloc (.cells (madeCells #[.pointer none] q) 120)).alloc (.cells #[.slice (some ⟨w.heap.size, 0, none⟩) q q, .int .i64 f, .int .i64 0] 116)) := fun f => ((Below.refl _ w).alloc (Nat.le_refl _) _).alloc (by simp) _
  have hat := new_at w q hq1 hq2
  by_cases hc : 1 ≤ chains <;> by_cases hf : 0 ≤ blocks
  · have e : chains = (q : Int) := by omega
    subst e; clear hq
    rw [Int.max_eq_left hf]
    go_enter Try.func31, Try.ntmps31
    go_wp2_with fail
    go_ret
    first
      | exact ⟨_, _, rfl, hat _, Nat.le_succ _, Nat.le_refl _, hbl _⟩
      | exact ⟨_, rfl, _, hat _, Nat.le_succ _, Nat.le_refl _, hbl _⟩
  · have e : chains = (q : Int) := by omega
    subst e; clear hq
    rw [Int.max_eq_right (by omega)]
    go_enter Try.func31, Try.ntmps31
    go_wp2_with fail
    go_ret
    first
      | exact ⟨_, _, rfl, hat _, Nat.le_succ _, Nat.le_refl _, hbl _⟩
      | exact ⟨_, rfl, _, hat _, Nat.le_succ _, Nat.le_refl _, hbl _⟩
  · have e : q = 1 := by omega
    subst e; clear hq
    rw [Int.max_eq_left hf]
    have hmk1 : ∀ wx, _ := fun wx => (show (Instr.makeSlice 114 (.int .i64 1) (.int .i64 1)).run Try.prog wx = _ from hmk wx)
    clear hmk
    go_enter Try.func31, Try.ntmps31
    go_wp2_with fail
    go_ret
    first
      | exact ⟨_, _, rfl, hat _, Nat.le_succ _, Nat.le_refl _, hbl _⟩
      | exact ⟨_, rfl, _, hat _, Nat.le_succ _, Nat.le_refl _, hbl _⟩
  · have e : q = 1 := by omega
    subst e; clear hq
    rw [Int.max_eq_right (by omega)]
    have hmk1 : ∀ wx, _ := fun wx => (show (Instr.makeSlice 114 (.int .i64 1) (.int .i64 1)).run Try.prog wx = _ from hmk wx)
    clear hmk
    go_enter Try.func31, Try.ntmps31
    go_wp2_with fail
    go_ret
    first
      | exact ⟨_, _, rfl, hat _, Nat.le_succ _, Nat.le_refl _, hbl _⟩
      | exact ⟨_, rfl, _, hat _, Nat.le_succ _, Nat.le_refl _, hbl _⟩
theorem len_calls (w : World) (b c : Nat) (L : List (List Nd)) (free n : Int) (hT : At 116 120 123 w b c L free n) :
    Calls Try.prog 36 #[.pointer (some ⟨b, 0, none⟩)] w fun e w' => e = .returned (.int .i64 n) ∧ w = w' := by
  have c1 : w.cell? ⟨b, 2, none⟩ = some (.int .i64 n) := by rw [Lib.cell_of_heap hT.hb]; rfl
  go_enter Try.func36, Try.ntmps36
  go_wp2
  go_ret
  exact ⟨rfl, rfl⟩
theorem free_calls (w : World) (b c : Nat) (L : List (List Nd)) (free n : Int) (hT : At 116 120 123 w b c L free n) :
    Calls Try.prog 37 #[.pointer (some ⟨b, 0, none⟩)] w fun e w' => e = .returned (.int .i64 free) ∧ w = w' := by
  have c1 : w.cell? ⟨b, 1, none⟩ = some (.int .i64 free) := by rw [Lib.cell_of_heap hT.hb]; rfl
  go_enter Try.func37, Try.ntmps37
  go_wp2
  go_ret
  exact ⟨rfl, rfl⟩
theorem chains_calls (w : World) (b c : Nat) (L : List (List Nd)) (free n : Int) (hT : At 116 120 123 w b c L free n) :
    Calls Try.prog 48 #[.pointer (some ⟨b, 0, none⟩)] w fun e w' => e = .returned (.int .i64 L.length) ∧ w = w' := by
  have c1 : w.cell? ⟨b, 0, none⟩ = some (.slice (some ⟨c, 0, none⟩) L.length L.length) := by rw [Lib.cell_of_heap hT.hb]; rfl
  go_enter Try.func48, Try.ntmps48
  go_wp2
  go_ret
  exact ⟨rfl, rfl⟩
end Go.Proofs.Ytgmdlndiilibpaa.PH

namespace Go.Proofs.Ytgmdlndiilibpaa.PH
open Go.RowKit Go.Proofs.YtgmdlndiilibpaaW.PrintWords Go.Proofs.YtgmdlndiilibpaaW.PrintLast Go.Proofs.YtgmdlndiilibpaaW.PrintMore Go.Proofs.Ytgmdlndiilibpaa.Tab
attribute [local go_sem] max2_int min2_int max_two min_two max_three min_three max_four min_four   -- for this text's walks alone
set_option linter.unusedVariables false
set_option linter.unusedSimpArgs false
attribute [local go_sem high] eqA27
def lookasidelaw11_lives.f : Option Bool := some true
theorem may1 : hash_May.f 0 8192 0 = some true := by kernel_rfl
theorem may2 : hash_May.f 0 16384 0 = some true := by kernel_rfl
theorem ch1 : hash_Chain.f 0 8192 0 4 = some 1 := by kernel_rfl
theorem ch2 : hash_Chain.f 0 16384 0 4 = some 2 := by kernel_rfl
set_option maxHeartbeats 8000000 in
set_option maxRecDepth 100000 in
theorem lookasidelaw11_lives.calls (r : Bool) (w : World) (h : lookasidelaw11_lives.f = some r) :
    Calls Try.prog 20 #[] w fun e w' => e = .returned (.bool r) ∧ Below w.heap.size w w' := by
  obtain rfl : true = r := Option.some.inj h
  clear h
  go_enter Try.func20, Try.ntmps20
  go_wp2_with fail
  refine (new_calls w 1 4 4 (by decide) (by decide)).mono ?_
  rintro e w1 ⟨b, c, rfl, hT1, hb1, hc1, hB1⟩
  rw [show max (1 : Int) 0 = 1 from rfl] at hT1
  have hs1 := hB1.size
  go_wp2_with fail
  refine (put_ok w1 b c _ _ _ hT1 0 8192 0 5 1 [] rfl may1 ch1 (by simp) (by omega) (by omega) (by omega) (by omega) (by simp)).mono ?_
  rintro e w2 ⟨rfl, g1, hg1, hT2, hM2⟩
  rw [show (1 : Int) - 1 = 0 from rfl, show (0 : Int) + 1 = 1 from rfl] at hT2
  have hb2 : w1.heap.size ≤ w2.heap.size := hM2.size
  go_wp2_with fail
  refine (put_mem w2 b c _ _ _ hT2 0 16384 0 6 2 [] rfl may2 ch2 (by simp) rfl).mono ?_
  rintro e w3 ⟨rfl, hB3⟩
  have hT3 := hT2.below hB3
  have hb3 := hB3.size
  go_wp2_with fail
  refine (cut_ok w3 b c _ _ _ hT3 0 8192 0 1 [⟨g1, 0, 8192, 0, 5⟩] rfl may1 ch1 (show pos (0, 8192, 0) [⟨g1, 0, 8192, 0, 5⟩] < 1 from Nat.zero_lt_one) (by omega) (by omega) (by omega) (by omega)).mono ?_
  rintro e w4 ⟨rfl, hT4, hM4⟩
  rw [show (1 : Int) - 1 = 0 from rfl, show (0 : Int) + 1 = 1 from rfl] at hT4
  rw [show List.eraseIdx [(⟨g1, 0, 8192, 0, 5⟩ : Nd)] (pos (0, 8192, 0) [⟨g1, 0, 8192, 0, 5⟩]) = [] from rfl] at hT4
  have hb4 := hM4.size
  go_wp2_with fail
  refine (put_ok w4 b c _ _ _ hT4 0 16384 0 6 2 [] rfl may2 ch2 (by simp) (by omega) (by omega) (by omega) (by omega) (by simp)).mono ?_
  rintro e w5 ⟨rfl, g2, hg2, hT5, hM5⟩
  go_wp2_with fail
  refine (get_yes w5 b c _ _ _ hT5 0 16384 0 2 [⟨g2, 0, 16384, 0, 6⟩] rfl may2 ch2).mono ?_
  rintro e w6 ⟨rfl, hB6⟩
  rw [show getN (0, 16384, 0) [⟨g2, 0, 16384, 0, 6⟩] = (6, 1, true) from rfl]
  go_wp2
  go_ret
  have hi1 : ∀ k ∈ ids b c (List.replicate 4 []), w.heap.size ≤ k := by
    intro k hk
    simp [ids] at hk
    rcases hk with rfl | rfl <;> assumption
  have hi2 : ∀ k ∈ ids b c ((List.replicate 4 []).set 1 [⟨g1, 0, 8192, 0, 5⟩]), w.heap.size ≤ k := by
    intro k hk
    rcases ids_set hk with hk | hk
    · exact hi1 k hk
    · simp at hk; omega
  have hi4 : ∀ k ∈ ids b c (((List.replicate 4 []).set 1 [⟨g1, 0, 8192, 0, 5⟩]).set 1 []), w.heap.size ≤ k := by
    intro k hk
    rcases ids_set hk with hk | hk
    · exact hi2 k hk
    · simp at hk
  have B2 := hB1.trans (hM2.below hs1 hi1)
  have B3 := below_then B2 B2.size hB3
  have B4 := B3.trans (hM4.below B3.size hi2)
  have B5 := B4.trans (hM5.below B4.size hi4)
  exact ⟨rfl, below_then B5 B5.size hB6⟩
end Go.Proofs.Ytgmdlndiilibpaa.PH

-- written by xprint.py, a program of this session, over the kit's print (functions told by hand: see the texts)
namespace Go.Proofs.Ytgmdlndiilibpaa.PH
open Go.RowKit Go.Proofs.YtgmdlndiilibpaaW.PrintWords Go.Proofs.YtgmdlndiilibpaaW.PrintLast Go.Proofs.YtgmdlndiilibpaaW.PrintMore
attribute [local go_sem] max2_int min2_int max_two min_two max_three min_three max_four min_four   -- for this text's walks alone
set_option linter.unusedVariables false
set_option linter.unusedSimpArgs false

/-! ### lookasideref11_May: function 18 -/
def lookasideref11_May.f (a0_0 : Int) (a0_1 : Int) (a0_2 : Int) : Option (Bool) := (lookasideref02_Starts.f a0_1 a0_2).bind fun t128 => (if a0_0 ≥ 0 then (if a0_0 ≤ 63 then (some t128) else (some false)) else (some false))
set_option maxHeartbeats 8000000 in
set_option maxRecDepth 100000 in
theorem lookasideref11_May.calls (a0_0 : Int) (a0_1 : Int) (a0_2 : Int) (r : Bool) (w : World) (h : lookasideref11_May.f a0_0 a0_1 a0_2 = some r) :
    Calls Try.prog 18 #[.agg #[.int .i64 a0_0, .int .u64 a0_1, .int .i64 a0_2]] w fun e w' => e = .returned (.bool r) ∧ Below w.heap.size w w' := by
  have hu24 := Try.underlying24
  have HB := Aside0.mk (Below.refl w.heap.size w)
  have H : ((lookasideref02_Starts.f a0_1 a0_2).bind fun t128 => (if a0_0 ≥ 0 then (if a0_0 ≤ 63 then (some t128) else (some false)) else (some false))) = some r := h
  clear h
  replace H := Option.bind_eq_some_iff.mp H
  obtain ⟨t128, A20, H⟩ := H
  replace H : (if a0_0 ≥ 0 then (if a0_0 ≤ 63 then (some t128) else (some false)) else (some false)) = some r := H
  have A2 := Aside0.mk A20
  clear A20
  by_cases c3 : a0_0 ≥ 0
  · rw [if_pos c3] at H
    have c3b0 : decide (0 ≤ a0_0) = true := decide_eq_true c3
    clear c3
    by_cases c4 : a0_0 ≤ 63
    · rw [if_pos c4] at H
      have c4b0 : decide (a0_0 ≤ 63) = true := decide_eq_true c4
      clear c4
      obtain rfl := Option.some.inj H
      go_enter Try.func18, Try.ntmps18
      go_wp2_with (first | ((with_reducible refine gate_dst (N := 1) rfl ?_); refine box_event ?hg (N := 1) ?hd (cs := #[.int .i64 a0_0, .int .u64 a0_1, .int .i64 a0_2]) (t := 24) ?hr ?_; (case hd => rfl); (case hg => rfl); (case hr => first | (go_simp; done) | (go_simp; rfl)); intro gb127 hg w5 hbox hb; have n0_ := Aside0.mk (below_step (by repeat (first | (with_reducible first | exact HB.out | apply below_alloc | apply pw_below_drewN | apply below_drew1) | exact HB.out)) hb); have n1_ := Aside0.mk (hbox); have n2_ := Aside0.mk ((by rw [hg]; exact (below_size (by repeat (first | (with_reducible first | exact HB.out | apply below_alloc | apply pw_below_drewN | apply below_drew1) | exact HB.out))) : w.heap.size ≤ gb127)); have n3_ := Aside0.mk ((by rw [hg]; exact (below_size (by repeat (first | (with_reducible first | exact HB.out | apply below_alloc | apply pw_below_drewN | apply below_drew1) | exact HB.out))) : w.heap.size ≤ gb127)); clear HB; have HB := n0_; have BK127 := n1_; have GW127 := n2_; have GE127 := n3_; clear n0_ n1_ n2_ n3_; clear hb hbox hg; have hcz6_0 : w5.cell? ⟨gb127, 0, none⟩ = some (.int .i64 a0_0) := (blk_cell BK127.out 0).trans rfl; have hcz6_1 : w5.cell? ⟨gb127, 1, none⟩ = some (.int .u64 a0_1) := (blk_cell BK127.out 1).trans rfl; have hcz6_2 : w5.cell? ⟨gb127, 2, none⟩ = some (.int .i64 a0_2) := (blk_cell BK127.out 2).trans rfl; have hfz6_0 := blk_frozen BK127.out 0; have hfz6_1 := blk_frozen BK127.out 1; have hfz6_2 := blk_frozen BK127.out 2) | ((with_reducible refine gate_callee (f := 55) rfl ?_); refine goesL_ (some 8) rfl rfl Try.func55 (by kernel_rfl) rfl #[.int .u64 a0_1, .int .i64 a0_2] rfl (by (try simp only [List.map_toArray, List.map_cons, List.map_nil]); first | done | rfl | (simp only [List.length_drop, List.length_take]; rfl)) ?_; (with_reducible refine (lookasideref02_Starts.calls a0_1 a0_2 t128 _ A2.out).mono ?_); rintro e w' ⟨rfl, ⟨nd, rfl⟩⟩; refine ⟨_, rfl, ?_⟩))
      go_ret
      exact ⟨by first | rfl | (simp [errW_none, errW_some] <;> rfl) | (simp [*, errW_none, errW_some] <;> rfl), by repeat (first | (with_reducible first | exact HB.out | apply below_alloc | apply pw_below_drewN | apply below_drew1 | refine below_set ?_ GE127.out) | exact HB.out)⟩
    · rw [if_neg c4] at H
      have c4b0 : decide (a0_0 ≤ 63) = false := decide_eq_false c4
      clear c4
      obtain rfl := Option.some.inj H
      go_enter Try.func18, Try.ntmps18
      go_wp2_with (first | ((with_reducible refine gate_dst (N := 1) rfl ?_); refine box_event ?hg (N := 1) ?hd (cs := #[.int .i64 a0_0, .int .u64 a0_1, .int .i64 a0_2]) (t := 24) ?hr ?_; (case hd => rfl); (case hg => rfl); (case hr => first | (go_simp; done) | (go_simp; rfl)); intro gb127 hg w7 hbox hb; have n0_ := Aside0.mk (below_step (by repeat (first | (with_reducible first | exact HB.out | apply below_alloc | apply pw_below_drewN | apply below_drew1) | exact HB.out)) hb); have n1_ := Aside0.mk (hbox); have n2_ := Aside0.mk ((by rw [hg]; exact (below_size (by repeat (first | (with_reducible first | exact HB.out | apply below_alloc | apply pw_below_drewN | apply below_drew1) | exact HB.out))) : w.heap.size ≤ gb127)); have n3_ := Aside0.mk ((by rw [hg]; exact (below_size (by repeat (first | (with_reducible first | exact HB.out | apply below_alloc | apply pw_below_drewN | apply below_drew1) | exact HB.out))) : w.heap.size ≤ gb127)); clear HB; have HB := n0_; have BK127 := n1_; have GW127 := n2_; have GE127 := n3_; clear n0_ n1_ n2_ n3_; clear hb hbox hg; have hcz8_0 : w7.cell? ⟨gb127, 0, none⟩ = some (.int .i64 a0_0) := (blk_cell BK127.out 0).trans rfl; have hcz8_1 : w7.cell? ⟨gb127, 1, none⟩ = some (.int .u64 a0_1) := (blk_cell BK127.out 1).trans rfl; have hcz8_2 : w7.cell? ⟨gb127, 2, none⟩ = some (.int .i64 a0_2) := (blk_cell BK127.out 2).trans rfl; have hfz8_0 := blk_frozen BK127.out 0; have hfz8_1 := blk_frozen BK127.out 1; have hfz8_2 := blk_frozen BK127.out 2) | ((with_reducible refine gate_callee (f := 55) rfl ?_); refine goesL_ (some 8) rfl rfl Try.func55 (by kernel_rfl) rfl #[.int .u64 a0_1, .int .i64 a0_2] rfl (by (try simp only [List.map_toArray, List.map_cons, List.map_nil]); first | done | rfl | (simp only [List.length_drop, List.length_take]; rfl)) ?_; (with_reducible refine (lookasideref02_Starts.calls a0_1 a0_2 t128 _ A2.out).mono ?_); rintro e w' ⟨rfl, ⟨nd, rfl⟩⟩; refine ⟨_, rfl, ?_⟩))
      go_ret
      exact ⟨by first | rfl | (simp [errW_none, errW_some] <;> rfl) | (simp [*, errW_none, errW_some] <;> rfl), by repeat (first | (with_reducible first | exact HB.out | apply below_alloc | apply pw_below_drewN | apply below_drew1 | refine below_set ?_ GE127.out) | exact HB.out)⟩
  · rw [if_neg c3] at H
    have c3b0 : decide (0 ≤ a0_0) = false := decide_eq_false c3
    clear c3
    obtain rfl := Option.some.inj H
    go_enter Try.func18, Try.ntmps18
    go_wp2_with (first | ((with_reducible refine gate_dst (N := 1) rfl ?_); refine box_event ?hg (N := 1) ?hd (cs := #[.int .i64 a0_0, .int .u64 a0_1, .int .i64 a0_2]) (t := 24) ?hr ?_; (case hd => rfl); (case hg => rfl); (case hr => first | (go_simp; done) | (go_simp; rfl)); intro gb127 hg w9 hbox hb; have n0_ := Aside0.mk (below_step (by repeat (first | (with_reducible first | exact HB.out | apply below_alloc | apply pw_below_drewN | apply below_drew1) | exact HB.out)) hb); have n1_ := Aside0.mk (hbox); have n2_ := Aside0.mk ((by rw [hg]; exact (below_size (by repeat (first | (with_reducible first | exact HB.out | apply below_alloc | apply pw_below_drewN | apply below_drew1) | exact HB.out))) : w.heap.size ≤ gb127)); have n3_ := Aside0.mk ((by rw [hg]; exact (below_size (by repeat (first | (with_reducible first | exact HB.out | apply below_alloc | apply pw_below_drewN | apply below_drew1) | exact HB.out))) : w.heap.size ≤ gb127)); clear HB; have HB := n0_; have BK127 := n1_; have GW127 := n2_; have GE127 := n3_; clear n0_ n1_ n2_ n3_; clear hb hbox hg; have hcz10_0 : w9.cell? ⟨gb127, 0, none⟩ = some (.int .i64 a0_0) := (blk_cell BK127.out 0).trans rfl; have hcz10_1 : w9.cell? ⟨gb127, 1, none⟩ = some (.int .u64 a0_1) := (blk_cell BK127.out 1).trans rfl; have hcz10_2 : w9.cell? ⟨gb127, 2, none⟩ = some (.int .i64 a0_2) := (blk_cell BK127.out 2).trans rfl; have hfz10_0 := blk_frozen BK127.out 0; have hfz10_1 := blk_frozen BK127.out 1; have hfz10_2 := blk_frozen BK127.out 2) | ((with_reducible refine gate_callee (f := 55) rfl ?_); refine goesL_ (some 8) rfl rfl Try.func55 (by kernel_rfl) rfl #[.int .u64 a0_1, .int .i64 a0_2] rfl (by (try simp only [List.map_toArray, List.map_cons, List.map_nil]); first | done | rfl | (simp only [List.length_drop, List.length_take]; rfl)) ?_; (with_reducible refine (lookasideref02_Starts.calls a0_1 a0_2 t128 _ A2.out).mono ?_); rintro e w' ⟨rfl, ⟨nd, rfl⟩⟩; refine ⟨_, rfl, ?_⟩))
    go_ret
    exact ⟨by first | rfl | (simp [errW_none, errW_some] <;> rfl) | (simp [*, errW_none, errW_some] <;> rfl), by repeat (first | (with_reducible first | exact HB.out | apply below_alloc | apply pw_below_drewN | apply below_drew1 | refine below_set ?_ GE127.out) | exact HB.out)⟩

/-! ### lookasideref11_Chain: function 19 -/
def lookasideref11_Chain.f (a0_0 : Int) (a0_1 : Int) (a0_2 : Int) (a1 : Int) : Option (Int) := (lookasideref02_Bytes.f a0_2).bind fun t130 => (if t130 = 0 then (none) else (if (IntKind.u64.wrap (a1)) = 0 then (none) else (some (wrap64 (Int.tmod (IntKind.u64.wrap ((IntKind.u64.wrap ((IntKind.u64.wrap (Int.tdiv a0_1 t130)) + (IntKind.u64.wrap (wrap64 (7 * a0_2))))) + (IntKind.u64.wrap (wrap64 (31 * a0_0))))) (IntKind.u64.wrap (a1)))))))
set_option maxHeartbeats 8000000 in
set_option maxRecDepth 100000 in
theorem lookasideref11_Chain.calls (a0_0 : Int) (a0_1 : Int) (a0_2 : Int) (a1 : Int) (r : Int) (w : World) (h : lookasideref11_Chain.f a0_0 a0_1 a0_2 a1 = some r) :
    Calls Try.prog 19 #[.agg #[.int .i64 a0_0, .int .u64 a0_1, .int .i64 a0_2], .int .i64 a1] w fun e w' => e = .returned (.int .i64 r) ∧ Below w.heap.size w w' := by
  have hu24 := Try.underlying24
  have HB := Aside0.mk (Below.refl w.heap.size w)
  have H : ((lookasideref02_Bytes.f a0_2).bind fun t130 => (if t130 = 0 then (none) else (if (IntKind.u64.wrap (a1)) = 0 then (none) else (some (wrap64 (Int.tmod (IntKind.u64.wrap ((IntKind.u64.wrap ((IntKind.u64.wrap (Int.tdiv a0_1 t130)) + (IntKind.u64.wrap (wrap64 (7 * a0_2))))) + (IntKind.u64.wrap (wrap64 (31 * a0_0))))) (IntKind.u64.wrap (a1)))))))) = some r := h
  clear h
  replace H := Option.bind_eq_some_iff.mp H
  obtain ⟨t130, A30, H⟩ := H
  replace H : (if t130 = 0 then (none) else (if (IntKind.u64.wrap (a1)) = 0 then (none) else (some (wrap64 (Int.tmod (IntKind.u64.wrap ((IntKind.u64.wrap ((IntKind.u64.wrap (Int.tdiv a0_1 t130)) + (IntKind.u64.wrap (wrap64 (7 * a0_2))))) + (IntKind.u64.wrap (wrap64 (31 * a0_0))))) (IntKind.u64.wrap (a1))))))) = some r := H
  have A3 := Aside0.mk A30
  clear A30
  by_cases c4 : t130 = 0
  · rw [if_pos c4] at H
    exact absurd H (by simp)
  · rw [if_neg c4] at H
    have c4b0 : (t130 == 0) = false := beq_eq_false_iff_ne.mpr c4
    have c4b1 : (t130 != 0) = true := bne_iff_ne.mpr c4
    by_cases c5 : (IntKind.u64.wrap (a1)) = 0
    · rw [if_pos c5] at H
      exact absurd H (by simp)
    · rw [if_neg c5] at H
      have c5b0 : ((IntKind.u64.wrap (a1)) == 0) = false := beq_eq_false_iff_ne.mpr c5
      have c5b1 : ((IntKind.u64.wrap (a1)) != 0) = true := bne_iff_ne.mpr c5
      obtain rfl := Option.some.inj H
      go_enter Try.func19, Try.ntmps19
      go_wp2_with (first | ((with_reducible refine gate_dst (N := 2) rfl ?_); refine box_event ?hg (N := 2) ?hd (cs := #[.int .i64 a0_0, .int .u64 a0_1, .int .i64 a0_2]) (t := 24) ?hr ?_; (case hd => rfl); (case hg => rfl); (case hr => first | (go_simp; done) | (go_simp; rfl)); intro gb129 hg w6 hbox hb; have n0_ := Aside0.mk (below_step (by repeat (first | (with_reducible first | exact HB.out | apply below_alloc | apply pw_below_drewN | apply below_drew1) | exact HB.out)) hb); have n1_ := Aside0.mk (hbox); have n2_ := Aside0.mk ((by rw [hg]; exact (below_size (by repeat (first | (with_reducible first | exact HB.out | apply below_alloc | apply pw_below_drewN | apply below_drew1) | exact HB.out))) : w.heap.size ≤ gb129)); have n3_ := Aside0.mk ((by rw [hg]; exact (below_size (by repeat (first | (with_reducible first | exact HB.out | apply below_alloc | apply pw_below_drewN | apply below_drew1) | exact HB.out))) : w.heap.size ≤ gb129)); clear HB; have HB := n0_; have BK129 := n1_; have GW129 := n2_; have GE129 := n3_; clear n0_ n1_ n2_ n3_; clear hb hbox hg; have hcz7_0 : w6.cell? ⟨gb129, 0, none⟩ = some (.int .i64 a0_0) := (blk_cell BK129.out 0).trans rfl; have hcz7_1 : w6.cell? ⟨gb129, 1, none⟩ = some (.int .u64 a0_1) := (blk_cell BK129.out 1).trans rfl; have hcz7_2 : w6.cell? ⟨gb129, 2, none⟩ = some (.int .i64 a0_2) := (blk_cell BK129.out 2).trans rfl; have hfz7_0 := blk_frozen BK129.out 0; have hfz7_1 := blk_frozen BK129.out 1; have hfz7_2 := blk_frozen BK129.out 2) | (go_at_call 56; (with_reducible refine (lookasideref02_Bytes.calls a0_2 t130 _ A3.out).mono ?_); rintro e w' ⟨rfl, ⟨nd, rfl⟩⟩; (try first | exact ⟨rfl, _, World.drewN_drewN _ _ _⟩ | exact ⟨rfl, _, Eq.trans (World.drewN_drewN _ _ _) (congrArg (World.drewN _) (Nat.add_assoc _ _ _))⟩)))
      repeat (go_quiet (first | ((with_reducible refine gate_dst (N := 2) rfl ?_); refine box_event ?hg (N := 2) ?hd (cs := #[.int .i64 a0_0, .int .u64 a0_1, .int .i64 a0_2]) (t := 24) ?hr ?_; (case hd => rfl); (case hg => rfl); (case hr => first | (go_simp; done) | (go_simp; rfl)); intro gb129 hg w6 hbox hb; have n0_ := Aside0.mk (below_step (by repeat (first | (with_reducible first | exact HB.out | apply below_alloc | apply pw_below_drewN | apply below_drew1) | exact HB.out)) hb); have n1_ := Aside0.mk (hbox); have n2_ := Aside0.mk ((by rw [hg]; exact (below_size (by repeat (first | (with_reducible first | exact HB.out | apply below_alloc | apply pw_below_drewN | apply below_drew1) | exact HB.out))) : w.heap.size ≤ gb129)); have n3_ := Aside0.mk ((by rw [hg]; exact (below_size (by repeat (first | (with_reducible first | exact HB.out | apply below_alloc | apply pw_below_drewN | apply below_drew1) | exact HB.out))) : w.heap.size ≤ gb129)); clear HB; have HB := n0_; have BK129 := n1_; have GW129 := n2_; have GE129 := n3_; clear n0_ n1_ n2_ n3_; clear hb hbox hg; have hcz7_0 : w6.cell? ⟨gb129, 0, none⟩ = some (.int .i64 a0_0) := (blk_cell BK129.out 0).trans rfl; have hcz7_1 : w6.cell? ⟨gb129, 1, none⟩ = some (.int .u64 a0_1) := (blk_cell BK129.out 1).trans rfl; have hcz7_2 : w6.cell? ⟨gb129, 2, none⟩ = some (.int .i64 a0_2) := (blk_cell BK129.out 2).trans rfl; have hfz7_0 := blk_frozen BK129.out 0; have hfz7_1 := blk_frozen BK129.out 1; have hfz7_2 := blk_frozen BK129.out 2) | (go_at_call 56; (with_reducible refine (lookasideref02_Bytes.calls a0_2 t130 _ A3.out).mono ?_); rintro e w' ⟨rfl, ⟨nd, rfl⟩⟩; (try first | exact ⟨rfl, _, World.drewN_drewN _ _ _⟩ | exact ⟨rfl, _, Eq.trans (World.drewN_drewN _ _ _) (congrArg (World.drewN _) (Nat.add_assoc _ _ _))⟩))); try go_wp2_with (first | ((with_reducible refine gate_dst (N := 2) rfl ?_); refine box_event ?hg (N := 2) ?hd (cs := #[.int .i64 a0_0, .int .u64 a0_1, .int .i64 a0_2]) (t := 24) ?hr ?_; (case hd => rfl); (case hg => rfl); (case hr => first | (go_simp; done) | (go_simp; rfl)); intro gb129 hg w6 hbox hb; have n0_ := Aside0.mk (below_step (by repeat (first | (with_reducible first | exact HB.out | apply below_alloc | apply pw_below_drewN | apply below_drew1) | exact HB.out)) hb); have n1_ := Aside0.mk (hbox); have n2_ := Aside0.mk ((by rw [hg]; exact (below_size (by repeat (first | (with_reducible first | exact HB.out | apply below_alloc | apply pw_below_drewN | apply below_drew1) | exact HB.out))) : w.heap.size ≤ gb129)); have n3_ := Aside0.mk ((by rw [hg]; exact (below_size (by repeat (first | (with_reducible first | exact HB.out | apply below_alloc | apply pw_below_drewN | apply below_drew1) | exact HB.out))) : w.heap.size ≤ gb129)); clear HB; have HB := n0_; have BK129 := n1_; have GW129 := n2_; have GE129 := n3_; clear n0_ n1_ n2_ n3_; clear hb hbox hg; have hcz7_0 : w6.cell? ⟨gb129, 0, none⟩ = some (.int .i64 a0_0) := (blk_cell BK129.out 0).trans rfl; have hcz7_1 : w6.cell? ⟨gb129, 1, none⟩ = some (.int .u64 a0_1) := (blk_cell BK129.out 1).trans rfl; have hcz7_2 : w6.cell? ⟨gb129, 2, none⟩ = some (.int .i64 a0_2) := (blk_cell BK129.out 2).trans rfl; have hfz7_0 := blk_frozen BK129.out 0; have hfz7_1 := blk_frozen BK129.out 1; have hfz7_2 := blk_frozen BK129.out 2) | (go_at_call 56; (with_reducible refine (lookasideref02_Bytes.calls a0_2 t130 _ A3.out).mono ?_); rintro e w' ⟨rfl, ⟨nd, rfl⟩⟩; (try first | exact ⟨rfl, _, World.drewN_drewN _ _ _⟩ | exact ⟨rfl, _, Eq.trans (World.drewN_drewN _ _ _) (congrArg (World.drewN _) (Nat.add_assoc _ _ _))⟩))))
      go_ret
      exact ⟨by first | rfl | (simp [errW_none, errW_some] <;> rfl) | (simp [*, errW_none, errW_some] <;> rfl), by repeat (first | (with_reducible first | exact HB.out | apply below_alloc | apply pw_below_drewN | apply below_drew1 | refine below_set ?_ GE129.out) | exact HB.out)⟩

-- NOT PRINTED: function 31 (hash_New_int)

-- NOT PRINTED: function 66 (hash_Table_int_find)

-- NOT PRINTED: function 67 (hash_Table_int_push)

-- NOT PRINTED: function 32 (hash_Table_int_Put)

-- NOT PRINTED: function 35 (hash_Table_int_Get)

-- NOT PRINTED: function 33 (hash_Table_int_Cut)

/-! ### lookasidelaw11_lives: function 20, told by hand -/
-- MAKES
-- IMPORT Derived.Test.@N@Tab

end Go.Proofs.Ytgmdlndiilibpaa.PH

namespace Go.Proofs.Ytgmdlndiilibpaa.BitsN
open Go.Proofs.YtgmdlndiilibpaaW.PrintMore

theorem w64 (n : Int) (h₀ : 0 ≤ n) (h₁ : n < 2 ^ 64) : IntKind.u64.wrap n = n := by rw [IntKind.wrap_u64]; omega
theorem and_nat (a b : Nat) (ha : a < 2 ^ 64) (hb : b < 2 ^ 64) : Go.bits .and .u64 (a : Int) (b : Int) = ((a &&& b : Nat) : Int) := (bits_nat .u64 64 (by decide) w64 a b ha hb).1
/-- the field's mask -/
def mk (P S : Nat) : Nat := (2 ^ S - 1) * 2 ^ P
theorem tb_mk (P S i : Nat) : (mk P S).testBit i = (decide (P ≤ i) && decide (i < P + S)) := by
  unfold mk
  rw [Nat.testBit_mul_two_pow, Nat.testBit_two_pow_sub_one]
  by_cases h : P ≤ i
  · have : (i - P < S) ↔ (i < P + S) := by omega
    simp [h, this]
  · simp [h]
theorem mk_lt (P S : Nat) (h : P + S ≤ 64) : mk P S < 2 ^ 64 := by
  unfold mk
  have h1 : 0 < 2 ^ S := Nat.two_pow_pos S
  have h2 : (2 ^ S - 1) * 2 ^ P < 2 ^ S * 2 ^ P := Nat.mul_lt_mul_of_pos_right (by omega) (Nat.two_pow_pos P)
  rw [← Nat.pow_add] at h2
  exact Nat.lt_of_lt_of_le h2 (Nat.pow_le_pow_right (by decide) (by omega))
/-- what stands in the field -/
def get (w P S : Nat) : Nat := w / 2 ^ P % 2 ^ S
theorem tb_get (w P S i : Nat) : (get w P S).testBit i = (decide (i < S) && w.testBit (P + i)) := by
  unfold get
  rw [Nat.testBit_mod_two_pow, Nat.testBit_div_two_pow, Nat.add_comm]
theorem and_mk_div (w P S : Nat) : (w &&& mk P S) / 2 ^ P = get w P S := by
  apply Nat.eq_of_testBit_eq
  intro i
  rw [Nat.testBit_div_two_pow, Nat.testBit_and, tb_mk, tb_get, Nat.add_comm i P]
  have : P ≤ P + i := by omega
  have h2 : (P + i < P + S) ↔ i < S := by omega
  simp [this, h2, Bool.and_comm]
/-- a word with a number in the field -/
def put (w P S v : Nat) : Nat := (w &&& (2 ^ 64 - (mk P S + 1))) ||| (v * 2 ^ P % 2 ^ 64 &&& mk P S)
end Go.Proofs.Ytgmdlndiilibpaa.BitsN

namespace Go.Proofs.Ytgmdlndiilibpaa.FieldG
open Go.RowKit Go.Proofs.Ytgmdlndiilibpaa.PH Go.Proofs.Ytgmdlndiilibpaa.BitsN Go.Proofs.YtgmdlndiilibpaaW.PrintWords Go.Proofs.YtgmdlndiilibpaaW.PrintLast Go.Proofs.YtgmdlndiilibpaaW.PrintMore

theorem wf_u64 {a : Int} (h : (Lit.int .u64 a).wf = true) : ∃ n : Nat, a = n ∧ n < 2 ^ 64 := by
  have : 0 ≤ a ∧ a ≤ 18446744073709551615 := by simpa [Lit.wf, IntKind.min, IntKind.max, IntKind.signed, IntKind.bits] using h
  exact ⟨a.toNat, by omega, by omega⟩
theorem wf_i64 {a : Int} (h : (Lit.int .i64 a).wf = true) : -9223372036854775808 ≤ a ∧ a ≤ 9223372036854775807 := by
  simpa [Lit.wf, IntKind.min, IntKind.max, IntKind.signed, IntKind.bits] using h
def May (p s : Int) : Prop := 0 ≤ p ∧ 1 ≤ s ∧ s ≤ 64 ∧ p + s ≤ 64
instance (p s : Int) : Decidable (May p s) := by unfold May; infer_instance
theorem may_eq (p s : Int) : field_May.f p s = some (decide (May p s)) := by
  unfold field_May.f May
  by_cases h1 : p ≥ 0
  · rw [if_pos h1]
    by_cases h2 : s ≥ 1
    · rw [if_pos h2]
      by_cases h3 : s ≤ 64
      · rw [if_pos h3]
        have : wrap64 (64 - s) = 64 - s := by unfold wrap64; omega
        rw [this]
        congr 1
        apply decide_eq_decide.mpr
        omega
      · rw [if_neg h3]; exact congrArg some (decide_eq_false (by omega)).symm
    · rw [if_neg h2]; exact congrArg some (decide_eq_false (by omega)).symm
  · rw [if_neg h1]; exact congrArg some (decide_eq_false (by omega)).symm
theorem may_of {P S : Nat} (h1 : 1 ≤ S) (h : P + S ≤ 64) : May (P : Int) (S : Int) := ⟨by omega, by omega, by omega, by omega⟩
theorem pow_cast (n : Nat) : ((2 : Int) ^ n) = ((2 ^ n : Nat) : Int) := by simp
theorem shr_nat (a n : Nat) (hn : n ≤ 64) : shr .u64 (a : Int) (n : Int) = ((a / 2 ^ n : Nat) : Int) := by
  unfold shr
  have : min (n : Int).toNat IntKind.u64.bits = n := by
    have : IntKind.u64.bits = 64 := rfl
    omega
  rw [this, pow_cast, Int.natCast_ediv]
theorem shl_nat (a n : Nat) (hn : n ≤ 64) : shl .u64 (a : Int) (n : Int) = ((a * 2 ^ n % 2 ^ 64 : Nat) : Int) := by
  unfold shl
  have : min (n : Int).toNat IntKind.u64.bits = n := by
    have : IntKind.u64.bits = 64 := rfl
    omega
  rw [this, pow_cast, IntKind.wrap_u64, ← Int.natCast_mul]
  omega
theorem mask_yes {P S : Nat} (h1 : 1 ≤ S) (h : P + S ≤ 64) : field_Mask.f P S = some ((mk P S : Nat) : Int) := by
  unfold field_Mask.f
  rw [may_eq, decide_eq_true (may_of h1 h)]
  simp only [Option.bind_some, if_true]
  have e : wrap64 (64 - (S : Int)) = ((64 - S : Nat) : Int) := by unfold wrap64; omega
  rw [e, if_pos (by omega), if_pos (by omega)]
  have e2 : (18446744073709551615 : Int) = ((2 ^ 64 - 1 : Nat) : Int) := by simp
  rw [e2, shr_nat _ _ (by omega), shl_nat _ _ (by omega)]
  congr 2
  have hp : (2 : Nat) ^ 64 = 2 ^ S * 2 ^ (64 - S) := by rw [← Nat.pow_add]; congr 1; omega
  have : (2 ^ 64 - 1) / 2 ^ (64 - S) = 2 ^ S - 1 := by
    rw [hp]
    have hq : 0 < 2 ^ (64 - S) := Nat.two_pow_pos _
    have hs : 0 < 2 ^ S := Nat.two_pow_pos _
    have e3 : 2 ^ S * 2 ^ (64 - S) - 1 = (2 ^ S - 1) * 2 ^ (64 - S) + (2 ^ (64 - S) - 1) := by
      have : (2 ^ S - 1) * 2 ^ (64 - S) = 2 ^ S * 2 ^ (64 - S) - 2 ^ (64 - S) := by rw [Nat.sub_mul, Nat.one_mul]
      have : 2 ^ (64 - S) ≤ 2 ^ S * 2 ^ (64 - S) := Nat.le_mul_of_pos_left _ hs
      omega
    rw [e3, Nat.add_comm, Nat.add_mul_div_right _ _ hq, Nat.div_eq_of_lt (by omega)]
    omega
  rw [this]
  exact Nat.mod_eq_of_lt (mk_lt P S h)
theorem get_yes {P S : Nat} (w : Nat) (hw : w < 2 ^ 64) (h1 : 1 ≤ S) (h : P + S ≤ 64) : field_Get.f w P S = some ((get w P S : Nat) : Int) := by
  unfold field_Get.f
  rw [may_eq, decide_eq_true (may_of h1 h)]
  simp only [Option.bind_some, if_true]
  rw [mask_yes h1 h]
  simp only [Option.bind_some]
  rw [if_pos (by omega), and_nat _ _ hw (mk_lt P S h), shr_nat _ _ (by omega), and_mk_div]
theorem get_no {p s : Int} (w : Int) (h : ¬ May p s) : field_Get.f w p s = some 0 := by
  unfold field_Get.f
  rw [may_eq, decide_eq_false h]
  simp
end Go.Proofs.Ytgmdlndiilibpaa.FieldG

/- Keys and chains of layer 11: which keys may be, which chain is whose: the program's and the reference's. -/
set_option linter.unusedVariables false
set_option linter.unusedSimpArgs false
namespace Go.Proofs.Ytgmdlndiilibpaa.KeyG
open Go.RowKit Go.Proofs.Ytgmdlndiilibpaa.PH Go.Proofs.Ytgmdlndiilibpaa.BitsN Go.Proofs.YtgmdlndiilibpaaW.PrintWords Go.Proofs.YtgmdlndiilibpaaW.PrintLast Go.Proofs.YtgmdlndiilibpaaW.PrintMore
theorem pmay (s : Int) : page_May.f s = some (decide (0 ≤ s ∧ s < 4)) := by
  unfold page_May.f
  split
  · congr 1; rw [Bool.eq_iff_iff]; simp; omega
  · congr 1; rw [Bool.eq_iff_iff]; simp; omega
theorem rmay (s : Int) : lookasideref02_May.f s = some (decide (0 ≤ s ∧ s < 4)) := by
  unfold lookasideref02_May.f
  split
  · congr 1; rw [Bool.eq_iff_iff]; simp; omega
  · congr 1; rw [Bool.eq_iff_iff]; simp; omega
theorem pbits (s : Nat) (h : s < 4) : page_Bits.f s = some ((13 + 3 * s : Nat) : Int) := by
  have : s = 0 ∨ s = 1 ∨ s = 2 ∨ s = 3 := by omega
  rcases this with rfl | rfl | rfl | rfl <;> decide +kernel
theorem rbytes (s : Nat) (h : s < 4) : lookasideref02_Bytes.f s = some ((2 ^ (13 + 3 * s) : Nat) : Int) := by
  have : s = 0 ∨ s = 1 ∨ s = 2 ∨ s = 3 := by omega
  rcases this with rfl | rfl | rfl | rfl <;> decide +kernel
theorem tmod_nat (a b : Nat) : Int.tmod (a : Int) (b : Int) = ((a % b : Nat) : Int) := by
  rw [Int.tmod_eq_emod_of_nonneg (by omega)]; omega
theorem tdiv_nat (a b : Nat) : Int.tdiv (a : Int) (b : Int) = ((a / b : Nat) : Int) := by
  rw [Int.tdiv_eq_ediv_of_nonneg (by omega)]; exact (Int.natCast_ediv a b).symm
theorem wi (n : Int) (h0 : -9223372036854775808 ≤ n) (h1 : n ≤ 9223372036854775807) : wrap64 n = n := by unfold wrap64; omega
theorem wu (n : Int) (h0 : 0 ≤ n) (h1 : n < 18446744073709551616) : IntKind.u64.wrap n = n := by rw [IntKind.wrap_u64]; omega
/-- Whether an address begins a page of the size s. -/
def startsB (va : Nat) (s : Int) : Bool := decide ((0 ≤ s ∧ s < 4) ∧ va % 2 ^ (13 + 3 * s.toNat) = 0)
theorem pow_pos' (s : Nat) : 0 < 2 ^ (13 + 3 * s) := Nat.two_pow_pos _
theorem starts_p (va : Nat) (s : Int) (hv : va < 2 ^ 64) : page_Starts.f va s = some (startsB va s) := by
  unfold page_Starts.f page_Offset.f
  rw [pmay]
  rw [Option.bind_some]
  by_cases h : 0 ≤ s ∧ s < 4
  · obtain ⟨S, rfl⟩ : ∃ S : Nat, s = S := ⟨s.toNat, by omega⟩
    have hS : S < 4 := by omega
    rw [if_pos (by simpa using h), pbits S hS]
    rw [Option.bind_some]
    rw [if_pos (by simpa using h)]
    rw [Option.bind_some]
    have hg := FieldG.get_yes (P := 0) (S := 13 + 3 * S) va hv (by omega) (by omega)
    rw [show ((0 : Nat) : Int) = 0 from rfl] at hg
    rw [hg]
    rw [Option.bind_some, Option.bind_some]
    unfold BitsN.get startsB
    simp only [Nat.pow_zero, Nat.div_one, Int.toNat_natCast]
    congr 1
    by_cases hz : va % 2 ^ (13 + 3 * S) = 0
    · rw [decide_eq_true (⟨h, hz⟩ : (0 ≤ (S : Int) ∧ (S : Int) < 4) ∧ va % 2 ^ (13 + 3 * S) = 0), hz]; rfl
    · rw [decide_eq_false (fun hh : (0 ≤ (S : Int) ∧ (S : Int) < 4) ∧ va % 2 ^ (13 + 3 * S) = 0 => hz hh.2), beq_eq_false_iff_ne]; omega
  · rw [if_neg (by simpa using h)]
    unfold startsB
    simp [h]
theorem starts_r (va : Nat) (s : Int) (hv : va < 2 ^ 64) : lookasideref02_Starts.f va s = some (startsB va s) := by
  unfold lookasideref02_Starts.f
  rw [rmay]
  rw [Option.bind_some]
  by_cases h : 0 ≤ s ∧ s < 4
  · obtain ⟨S, rfl⟩ : ∃ S : Nat, s = S := ⟨s.toNat, by omega⟩
    have hS : S < 4 := by omega
    have hp := pow_pos' S
    rw [if_pos (by simpa using h), rbytes S hS]
    rw [Option.bind_some]
    rw [if_neg (by omega), tmod_nat]
    unfold startsB
    simp only [Int.toNat_natCast]
    congr 1
    by_cases hz : va % 2 ^ (13 + 3 * S) = 0
    · rw [decide_eq_true (⟨h, hz⟩ : (0 ≤ (S : Int) ∧ (S : Int) < 4) ∧ va % 2 ^ (13 + 3 * S) = 0), hz]; rfl
    · rw [decide_eq_false (fun hh : (0 ≤ (S : Int) ∧ (S : Int) < 4) ∧ va % 2 ^ (13 + 3 * S) = 0 => hz hh.2), beq_eq_false_iff_ne]; omega
  · rw [if_neg (by simpa using h)]
    unfold startsB
    simp [h]
/-- Whether a key may be. -/
def mayB (sp : Int) (va : Nat) (s : Int) : Bool := decide (0 ≤ sp ∧ sp < 64) && startsB va s
theorem may_p (sp : Int) (va : Nat) (s : Int) (hv : va < 2 ^ 64) : hash_May.f sp va s = some (mayB sp va s) := by
  unfold hash_May.f mayB
  rw [starts_p va s hv]
  rw [Option.bind_some]
  generalize startsB va s = z
  by_cases h0 : sp ≥ 0
  · by_cases h1 : sp < 64
    · rw [if_pos h0, if_pos h1]; simp [h0, h1]
    · rw [if_pos h0, if_neg h1]; simp [h1]
  · rw [if_neg h0]; simp [h0]
theorem may_r (sp : Int) (va : Nat) (s : Int) (hv : va < 2 ^ 64) : lookasideref11_May.f sp va s = some (mayB sp va s) := by
  unfold lookasideref11_May.f mayB
  rw [starts_r va s hv]
  rw [Option.bind_some]
  generalize startsB va s = z
  by_cases h0 : sp ≥ 0
  · by_cases h1 : sp ≤ 63
    · rw [if_pos h0, if_pos h1, decide_eq_true (show 0 ≤ sp ∧ sp < 64 by omega)]; simp
    · rw [if_pos h0, if_neg h1, decide_eq_false (show ¬ (0 ≤ sp ∧ sp < 64) by omega)]; simp
  · rw [if_neg h0, decide_eq_false (show ¬ (0 ≤ sp ∧ sp < 64) by omega)]; simp
/-- Which chain is whose. -/
def chN (sp va s n : Nat) : Nat := (va / 2 ^ (13 + 3 * s) + 7 * s + 31 * sp) % n
theorem div_lt (va s : Nat) (hv : va < 2 ^ 64) : va / 2 ^ (13 + 3 * s) < 2 ^ 51 := by
  refine Nat.lt_of_le_of_lt (Nat.div_le_div_left (c := 2 ^ 13) ?_ (by omega)) (by omega)
  exact Nat.pow_le_pow_right (by omega) (by omega)
theorem ch_p (sp va s n : Nat) (hsp : sp < 64) (hv : va < 2 ^ 64) (hs : s < 4) (hn : 0 < n) (hn2 : n ≤ 10000000) : hash_Chain.f sp va s n = some ((chN sp va s n : Nat) : Int) := by
  unfold hash_Chain.f chN
  rw [pbits s hs]
  rw [Option.bind_some]
  have hd := div_lt va s hv
  have hw : wrap64 (7 * (s : Int)) = ((7 * s : Nat) : Int) := by rw [wi _ (by omega) (by omega)]; omega
  have hw2 : wrap64 (31 * (sp : Int)) = ((31 * sp : Nat) : Int) := by rw [wi _ (by omega) (by omega)]; omega
  rw [if_pos (by omega), wu (n : Int) (by omega) (by omega), if_neg (by omega), FieldG.shr_nat _ _ (by omega), hw, hw2]
  generalize va / 2 ^ (13 + 3 * s) = q at hd ⊢
  rw [wu ((7 * s : Nat) : Int) (by omega) (by omega), wu ((31 * sp : Nat) : Int) (by omega) (by omega), ← Int.natCast_add, wu ((q + 7 * s : Nat) : Int) (by omega) (by omega), ← Int.natCast_add, wu ((q + 7 * s + 31 * sp : Nat) : Int) (by omega) (by omega), tmod_nat]
  have : (q + 7 * s + 31 * sp) % n < n := Nat.mod_lt _ hn
  rw [wi _ (by omega) (by omega)]
theorem ch_r (sp va s n : Nat) (hsp : sp < 64) (hv : va < 2 ^ 64) (hs : s < 4) (hn : 0 < n) (hn2 : n ≤ 10000000) : lookasideref11_Chain.f sp va s n = some ((chN sp va s n : Nat) : Int) := by
  unfold lookasideref11_Chain.f chN
  rw [rbytes s hs]
  rw [Option.bind_some]
  have hp := pow_pos' s
  have hd := div_lt va s hv
  have hw : wrap64 (7 * (s : Int)) = ((7 * s : Nat) : Int) := by rw [wi _ (by omega) (by omega)]; omega
  have hw2 : wrap64 (31 * (sp : Int)) = ((31 * sp : Nat) : Int) := by rw [wi _ (by omega) (by omega)]; omega
  rw [if_neg (by omega), wu (n : Int) (by omega) (by omega), if_neg (by omega), tdiv_nat, hw, hw2]
  generalize va / 2 ^ (13 + 3 * s) = q at hd ⊢
  rw [wu (q : Int) (by omega) (by omega), wu ((7 * s : Nat) : Int) (by omega) (by omega), wu ((31 * sp : Nat) : Int) (by omega) (by omega), ← Int.natCast_add, wu ((q + 7 * s : Nat) : Int) (by omega) (by omega), ← Int.natCast_add, wu ((q + 7 * s + 31 * sp : Nat) : Int) (by omega) (by omega), tmod_nat]
  have : (q + 7 * s + 31 * sp) % n < n := Nat.mod_lt _ hn
  rw [wi _ (by omega) (by omega)]
theorem chN_lt (sp va s n : Nat) (hn : 0 < n) : chN sp va s n < n := Nat.mod_lt _ hn
theorem norm (a : Int) (h : -9223372036854775808 ≤ a ∧ a ≤ 9223372036854775807) (hn : a < 0) : ∃ n : Nat, wrap64 (-(wrap64 (a + 1))) = n ∧ n < 2 ^ 63 := by
  rw [wi (a + 1) (by omega) (by omega), wi _ (by omega) (by omega)]
  exact ⟨(-(a + 1)).toNat, by omega, by omega⟩
theorem base (va s : Nat) (hv : va < 2 ^ 64) (hs : s < 4) : ∃ v : Nat, lookasideref02_Base.f va s = some (v : Int) ∧ v < 2 ^ 64 ∧ v % 2 ^ (13 + 3 * s) = 0 := by
  unfold lookasideref02_Base.f
  rw [rmay]
  rw [Option.bind_some]
  rw [if_pos (by simp; omega), rbytes s hs]
  rw [Option.bind_some]
  have hp := pow_pos' s
  rw [if_neg (by omega)]
  rw [Option.bind_some]
  rw [tdiv_nat]
  have hle : va / 2 ^ (13 + 3 * s) * 2 ^ (13 + 3 * s) ≤ va := Nat.div_mul_le_self _ _
  have hd := div_lt va s hv
  refine ⟨va / 2 ^ (13 + 3 * s) * 2 ^ (13 + 3 * s), ?_, by omega, Nat.mul_mod_left _ _⟩
  generalize va / 2 ^ (13 + 3 * s) = q at *
  generalize 2 ^ (13 + 3 * s) = m at *
  rw [wu (q : Int) (by omega) (by omega), ← Int.natCast_mul, wu _ (by omega) (by omega)]
/-- A key made such as may be. -/
theorem good (sp : Int) (va : Nat) (s : Int) (hsp : -9223372036854775808 ≤ sp ∧ sp ≤ 9223372036854775807) (hv : va < 2 ^ 64) (hs : -9223372036854775808 ≤ s ∧ s ≤ 9223372036854775807) :
    ∃ g v z : Nat, lookasideref11_Good.f sp va s = some ((g : Int), (v : Int), (z : Int)) ∧ g < 64 ∧ v < 2 ^ 64 ∧ z < 4 ∧ mayB g v z = true := by
  have key : ∀ (g v z : Nat), g < 64 → v < 2 ^ 64 → z < 4 → v % 2 ^ (13 + 3 * z) = 0 → mayB g v z = true := by
    intro g v z hg hv hz hm
    unfold mayB startsB
    simp only [Int.toNat_natCast]
    rw [decide_eq_true (show (0 : Int) ≤ (g : Int) ∧ (g : Int) < 64 by omega), decide_eq_true (show ((0 : Int) ≤ (z : Int) ∧ (z : Int) < 4) ∧ v % 2 ^ (13 + 3 * z) = 0 by exact ⟨by omega, hm⟩)]
    rfl
  have fin : ∀ (a b : Nat), ∃ g v z : Nat, ((lookasideref02_Base.f va (Int.tmod (b : Int) 4)).bind fun t => (some (Int.tmod (a : Int) 64, t, Int.tmod (b : Int) 4))) = some ((g : Int), (v : Int), (z : Int)) ∧ g < 64 ∧ v < 2 ^ 64 ∧ z < 4 ∧ mayB g v z = true := by
    intro a b
    rw [show (4 : Int) = ((4 : Nat) : Int) from rfl, show (64 : Int) = ((64 : Nat) : Int) from rfl, tmod_nat, tmod_nat]
    obtain ⟨v, hb, h1, h2⟩ := base va (b % 4) hv (by omega)
    rw [hb]
    exact ⟨a % 64, v, b % 4, rfl, by omega, h1, by omega, key _ _ _ (by omega) h1 (by omega) h2⟩
  unfold lookasideref11_Good.f
  by_cases h1 : sp < 0
  · obtain ⟨a, ha, _⟩ := norm sp hsp h1
    by_cases h2 : s < 0
    · obtain ⟨b, hb, _⟩ := norm s hs h2
      rw [if_pos h1, if_pos h2, ha, hb]
      exact fin a b
    · obtain ⟨b, rfl⟩ : ∃ b : Nat, s = b := ⟨s.toNat, by omega⟩
      rw [if_pos h1, if_neg h2, ha]
      exact fin a b
  · obtain ⟨a, rfl⟩ : ∃ a : Nat, sp = a := ⟨sp.toNat, by omega⟩
    by_cases h2 : s < 0
    · obtain ⟨b, hb, _⟩ := norm s hs h2
      rw [if_neg h1, if_pos h2, hb]
      exact fin a b
    · obtain ⟨b, rfl⟩ : ∃ b : Nat, s = b := ⟨s.toNat, by omega⟩
      rw [if_neg h1, if_neg h2]
      exact fin a b
end Go.Proofs.Ytgmdlndiilibpaa.KeyG

/- What a table's chains have: plain laws. -/
set_option linter.unusedVariables false
set_option linter.unusedSimpArgs false
namespace Go.Proofs.Ytgmdlndiilibpaa.Tab
open Go.RowKit Go.Proofs.Ytgmdlndiilibpaa.PH Go.Proofs.Ytgmdlndiilibpaa.KeyG
/-- What a chain has of a key. -/
def val (key : Int × Int × Int) : List Nd → Option Int
  | [] => none
  | n :: r => if n.key = key then some n.v else val key r
theorem pos_cons (key : Int × Int × Int) (n : Nd) (r : List Nd) : pos key (n :: r) = if n.key = key then 0 else pos key r + 1 := by
  unfold pos
  rw [List.findIdx_cons]
  by_cases h : n.key = key <;> simp [h]
theorem val_iff {key : Int × Int × Int} : ∀ {l : List Nd}, val key l = none ↔ key ∉ l.map Nd.key
  | [] => by simp [val]
  | n :: r => by
    unfold val
    by_cases hk : n.key = key
    · simp [hk]
    · rw [if_neg hk, val_iff (l := r), List.map_cons, List.mem_cons, not_or]
      exact ⟨fun h => ⟨fun e => hk e.symm, h⟩, fun h => h.2⟩
theorem val_erase_ne {key key' : Int × Int × Int} (hne : key' ≠ key) : ∀ (l : List Nd), val key' (l.eraseIdx (pos key l)) = val key' l
  | [] => by simp [val]
  | n :: r => by
    rw [pos_cons]
    by_cases hk : n.key = key
    · rw [if_pos hk, List.eraseIdx_cons_zero]
      unfold val
      rw [if_neg (fun e => hne (e.symm.trans hk))]
      try (cases r <;> rfl)
    · rw [if_neg hk, List.eraseIdx_cons_succ]
      unfold val
      rw [val_erase_ne hne r]
      try (cases r <;> rfl)
theorem val_erase_self {key : Int × Int × Int} : ∀ (l : List Nd), (l.map Nd.key).Nodup → val key (l.eraseIdx (pos key l)) = none
  | [], _ => by simp [val]
  | n :: r, hn => by
    rw [pos_cons]
    rw [List.map_cons, List.nodup_cons] at hn
    by_cases hk : n.key = key
    · rw [if_pos hk, List.eraseIdx_cons_zero]
      exact val_iff.2 (hk ▸ hn.1)
    · rw [if_neg hk, List.eraseIdx_cons_succ]
      unfold val
      rw [if_neg hk]
      exact val_erase_self r hn.2
/-- A key, of the reference's form. -/
def k3 (x : S24) : Int × Int × Int := (x.f0, x.f1, x.f2)
theorem k3_inj {x y : S24} (h : k3 x = k3 y) : x = y := by
  obtain ⟨a, b, c⟩ := x
  obtain ⟨a', b', c'⟩ := y
  simp only [k3, Prod.mk.injEq] at h
  obtain ⟨rfl, rfl, rfl⟩ := h
  rfl
/-- A key that may be. -/
def Gk (x : S24) : Prop := ∃ g v z : Nat, x = ⟨g, v, z⟩ ∧ g < 64 ∧ v < 2 ^ 64 ∧ z < 4 ∧ mayB g v z = true
def cN (x : S24) (N : Nat) : Nat := chN x.f0.toNat x.f1.toNat x.f2.toNat N
theorem Gk.may {x : S24} (h : Gk x) : hash_May.f x.f0 x.f1 x.f2 = some true := by
  obtain ⟨g, v, z, rfl, h1, h2, h3, h4⟩ := h
  rw [may_p g v z h2, h4]
theorem Gk.ch {x : S24} (h : Gk x) {N : Nat} (h0 : 0 < N) (hN : N ≤ 10000000) : hash_Chain.f x.f0 x.f1 x.f2 N = some ((cN x N : Nat) : Int) := by
  obtain ⟨g, v, z, rfl, h1, h2, h3, h4⟩ := h
  exact ch_p g v z N h1 h2 h3 h0 hN
theorem cN_lt (x : S24) {N : Nat} (h0 : 0 < N) : cN x N < N := chN_lt _ _ _ _ h0
/-- The chains have the keys xs, each with its place, and no others. -/
structure Has (N : Nat) (L : List (List Nd)) (xs : List S24) : Prop where
  len : L.length = N
  gk : ∀ x ∈ xs, Gk x
  yes : ∀ (j : Nat) (x : S24) (l : List Nd), xs[j]? = some x → L[cN x N]? = some l → val (k3 x) l = some (j : Int)
  no : ∀ (x : S24) (l : List Nd), Gk x → x ∉ xs → L[cN x N]? = some l → val (k3 x) l = none
  nd : ∀ l ∈ L, (l.map Nd.key).Nodup
  few : ∀ l ∈ L, l.length ≤ xs.length
theorem Has.new (N : Nat) : Has N (List.replicate N []) [] where
  len := by simp
  gk := by simp
  yes := by simp
  no := fun x l hx _ hl => by
    have := List.mem_of_getElem? hl
    rw [(List.mem_replicate.1 this).2]; rfl
  nd := fun l hl => by rw [(List.mem_replicate.1 hl).2]; simp
  few := fun l hl => by rw [(List.mem_replicate.1 hl).2]; simp
theorem Has.push {N : Nat} {L : List (List Nd)} {xs : List S24} (h : Has N L xs) {x : S24} {l : List Nd} (hx : Gk x) (hn : x ∉ xs) (hl : L[cN x N]? = some l) (g : Nat) :
    Has N (L.set (cN x N) (⟨g, x.f0, x.f1, x.f2, (xs.length : Int)⟩ :: l)) (xs ++ [x]) where
  len := by rw [List.length_set]; exact h.len
  gk := fun y hy => by
    rcases List.mem_append.1 hy with hy | hy
    · exact h.gk y hy
    · rw [List.mem_singleton.1 hy]; exact hx
  yes := fun j y l' hj hl' => by
    have hlt : cN x N < L.length := (List.getElem?_eq_some_iff.1 hl).1
    by_cases hc : cN x N = cN y N
    · rw [← hc, List.getElem?_set_self hlt] at hl'
      cases hl'
      unfold val
      by_cases hxy : x = y
      · subst hxy
        rw [if_pos (show (⟨g, x.f0, x.f1, x.f2, (xs.length : Int)⟩ : Nd).key = k3 x from rfl)]
        by_cases hjl : j < xs.length
        · rw [List.getElem?_append_left hjl] at hj
          exact absurd (List.mem_of_getElem? hj) hn
        · have : j < (xs ++ [x]).length := (List.getElem?_eq_some_iff.1 hj).1
          rw [List.length_append, List.length_singleton] at this
          have : j = xs.length := by omega
          rw [this]
      · rw [if_neg (show ¬ (⟨g, x.f0, x.f1, x.f2, (xs.length : Int)⟩ : Nd).key = k3 y from fun e => hxy (k3_inj e))]
        have hj2 : xs[j]? = some y := by
          by_cases hjl : j < xs.length
          · rwa [List.getElem?_append_left hjl] at hj
          · rw [List.getElem?_append_right (by omega)] at hj
            have : y ∈ [x] := List.mem_of_getElem? hj
            exact absurd (List.mem_singleton.1 this).symm hxy
        have := h.yes j y l hj2 (hc ▸ hl)
        exact this
    · rw [List.getElem?_set_ne hc] at hl'
      have hj2 : xs[j]? = some y := by
        by_cases hjl : j < xs.length
        · rwa [List.getElem?_append_left hjl] at hj
        · rw [List.getElem?_append_right (by omega)] at hj
          have : y ∈ [x] := List.mem_of_getElem? hj
          exact absurd (by rw [List.mem_singleton.1 this]) hc
      exact h.yes j y l' hj2 hl'
  no := fun y l' hy hny hl' => by
    have hlt : cN x N < L.length := (List.getElem?_eq_some_iff.1 hl).1
    have hny1 : y ∉ xs := fun hh => hny (List.mem_append_left _ hh)
    have hxy : x ≠ y := fun e => hny (List.mem_append_right _ (by simp [e]))
    by_cases hc : cN x N = cN y N
    · rw [← hc, List.getElem?_set_self hlt] at hl'
      cases hl'
      unfold val
      rw [if_neg (show ¬ (⟨g, x.f0, x.f1, x.f2, (xs.length : Int)⟩ : Nd).key = k3 y from fun e => hxy (k3_inj e))]
      exact h.no y l hy hny1 (hc ▸ hl)
    · rw [List.getElem?_set_ne hc] at hl'
      exact h.no y l' hy hny1 hl'
  nd := fun l' hl' => by
    rcases List.mem_or_eq_of_mem_set hl' with hl' | rfl
    · exact h.nd l' hl'
    · rw [List.map_cons, List.nodup_cons]
      exact ⟨val_iff.1 (h.no x l hx hn hl), h.nd l (List.mem_of_getElem? hl)⟩
  few := fun l' hl' => by
    rw [List.length_append, List.length_singleton]
    rcases List.mem_or_eq_of_mem_set hl' with hl' | rfl
    · exact Nat.le_succ_of_le (h.few l' hl')
    · have := h.few l (List.mem_of_getElem? hl)
      rw [List.length_cons]; omega
theorem Has.cut {N : Nat} {L : List (List Nd)} {xs : List S24} (h : Has N L xs) {k : Nat} {x : S24} {l : List Nd} (hk : xs[k]? = some x) (hl : L[cN x N]? = some l) (j : Nat) (z : S24) (l' : List Nd)
    (hj : xs[j]? = some z) (hl' : (L.set (cN x N) (l.eraseIdx (pos (k3 x) l)))[cN z N]? = some l') : val (k3 z) l' = if j = k then none else some (j : Int) := by
  have hlt : cN x N < L.length := (List.getElem?_eq_some_iff.1 hl).1
  have hvx := h.yes k x l hk hl
  by_cases hjk : j = k
  · subst hjk
    rw [if_pos rfl]
    have hzx : x = z := Option.some.inj (hk.symm.trans hj)
    subst hzx
    rw [List.getElem?_set_self hlt] at hl'
    cases hl'
    exact val_erase_self l (h.nd l (List.mem_of_getElem? hl))
  · rw [if_neg hjk]
    have hzx : z ≠ x := by
      rintro rfl
      have := h.yes j z l hj hl
      rw [hvx] at this
      injection this with this
      omega
    by_cases hc : cN x N = cN z N
    · rw [← hc, List.getElem?_set_self hlt] at hl'
      cases hl'
      rw [val_erase_ne (fun e => hzx (k3_inj e))]
      exact h.yes j z l hj (hc ▸ hl)
    · rw [List.getElem?_set_ne hc] at hl'
      exact h.yes j z l' hj hl'
end Go.Proofs.Ytgmdlndiilibpaa.Tab

/- Keys that came in; words for the walks of the hash laws. -/
namespace Go.Proofs.Ytgmdlndiilibpaa.PH
open Go.RowKit Go.Proofs.YtgmdlndiilibpaaW.PrintWords Go.Proofs.YtgmdlndiilibpaaW.PrintLast Go.Proofs.YtgmdlndiilibpaaW.PrintMore Go.Proofs.Ytgmdlndiilibpaa.Tab
attribute [local go_sem] max2_int min2_int max_two min_two max_three min_three max_four min_four   -- for this text's walks alone
set_option linter.unusedVariables false
set_option linter.unusedSimpArgs false
open Go.Proofs.Ytgmdlndiilibpaa.KeyG
/-- A key that was read. -/
def Ok24 (x : S24) : Prop := (-9223372036854775808 ≤ x.f0 ∧ x.f0 ≤ 9223372036854775807) ∧ (∃ v : Nat, x.f1 = v ∧ v < 2 ^ 64) ∧ (-9223372036854775808 ≤ x.f2 ∧ x.f2 ≤ 9223372036854775807)
theorem good24 {x : S24} (h : Ok24 x) : ∃ y : S24, lookasideref11_Good.f x.f0 x.f1 x.f2 = some (y.f0, y.f1, y.f2) ∧ Gk y := by
  obtain ⟨a, b, c⟩ := x
  obtain ⟨h0, ⟨v, rfl, hv⟩, h2⟩ := h
  obtain ⟨g, v', z, hg, g1, g2, g3, g4⟩ := good a v c h0 hv h2
  exact ⟨⟨g, v', z⟩, hg, g, v', z, rfl, g1, g2, g3, g4⟩
end Go.Proofs.Ytgmdlndiilibpaa.PH

/- hash.Table.All: the iterator's contract. -/
set_option linter.unusedVariables false
set_option linter.unusedSimpArgs false
namespace Go.Proofs.Ytgmdlndiilibpaa.PH
open Go.RowKit Go.Shelf Go.Proofs.YtgmdlndiilibpaaW.PrintWords Go.Proofs.YtgmdlndiilibpaaW.PrintLast Go.Proofs.YtgmdlndiilibpaaW.PrintMore Go.Proofs.Ytgmdlndiilibpaa.Tab
attribute [local go_sem] Oper.semAt_some
theorem two_ways {e : Ending} {p q : Prop} (h : (e = .returned (.bool true) ∧ p) ∨ (e = .returned (.bool false) ∧ q)) : ∃ rb : Bool, e = .returned (.bool rb) ∧ ((rb = true ∧ p) ∨ (rb = false ∧ q)) := by
  rcases h with ⟨h1, h2⟩ | ⟨h1, h2⟩
  · exact ⟨true, h1, .inl ⟨rfl, h2⟩⟩
  · exact ⟨false, h1, .inr ⟨rfl, h2⟩⟩
def encN (n : Nd) : Array Value := #[.agg #[.int .i64 n.sp, .int .u64 n.va, .int .i64 n.sz], .int .i64 n.v]
set_option maxHeartbeats 4000000 in
set_option maxRecDepth 100000 in
theorem all_in (F : Fence) (n : Nat) (h71 : F.fn 71) (hro : F.round = none) (p0 : Option Addr) (w : World) :
    CallsIn F n Try.prog 71 #[.pointer p0] w fun e w' => e = .returned (.func (.func 92) #[] #[.pointer (some ⟨w.heap.size, 0, none⟩)]) ∧ w' = w.alloc (.cells #[.pointer p0] 58) := by
  refine callsIn_of_wp Try.func71 rfl h71 ?_ hro
  simp only [Try.ntmps71, List.size_toArray, List.length_cons, List.length_nil, Nat.reduceAdd, Nat.reduceSub, Array.replicate_succ, Array.replicate_zero, List.push_toArray, List.append_toArray, List.nil_append, List.cons_append]
  gi_wp2
  go_ret
  exact ⟨rfl, rfl⟩
theorem flat_split {L : List (List Nd)} {i : Nat} {l : List Nd} (h : L[i]? = some l) : L.flatten = (L.take i).flatten ++ (l ++ (L.drop (i + 1)).flatten) := by
  obtain ⟨hi, hl⟩ := List.getElem?_eq_some_iff.1 h
  rw [← List.flatten_cons, ← List.flatten_append, ← hl, ← List.drop_eq_getElem_cons hi, List.take_append_drop]
theorem flat_take {L : List (List Nd)} {i : Nat} {l : List Nd} (h : L[i]? = some l) : (L.take (i + 1)).flatten = (L.take i).flatten ++ l := by
  obtain ⟨hi, hl⟩ := List.getElem?_eq_some_iff.1 h
  rw [List.take_succ_eq_append_getElem hi, hl, List.flatten_append]
  simp
set_option maxHeartbeats 4000000 in
set_option maxRecDepth 100000 in
theorem all1_in (n : Nat) (hn : 1 ≤ n) (lq Bn n₀ b c : Nat) (L : List (List Nd)) (free m : Int) (J Jx : List Nd → World → Prop)
    (hY : ∀ pre x W, J pre W → pre.length < L.flatten.length → YieldAt Fence.wide (n - 1) Try.prog lq (encN x) W fun e W' =>
      (e = .returned (.bool true) ∧ J (pre ++ [x]) W' ∧ Below n₀ W W') ∨ (e = .returned (.bool false) ∧ Jx (pre ++ [x]) W'))
    (hJd : ∀ pre W, J pre W → J pre W.drew)
    (W : World) (hBn : W.cell? ⟨Bn, 0, none⟩ = some (.pointer (some ⟨b, 0, none⟩))) (hT : At 116 120 123 W b c L free m) (hlt : ∀ k ∈ ids b c L, k < n₀) (h0 : J [] W) :
    CallsIn Fence.wide n Try.prog 92 #[.func (.yield lq) #[] #[], .pointer (some ⟨Bn, 0, none⟩)] W fun e W' => (∃ v, e = .returned v) ∧
      ((∃ ys, ys = L.flatten ∧ J ys W') ∨ (∃ pre, pre <+: L.flatten ∧ Jx pre W')) := by
  have cb : W.cell? ⟨b, 0, none⟩ = some (.slice (some ⟨c, 0, none⟩) L.length L.length) := by rw [Lib.cell_of_heap hT.hb]; rfl
  have hsm := hT.small
  have HLT := Aside0.mk hlt
  have HT := Aside0.mk hT
  clear hlt hT
  refine callsIn_of_wp Try.func92 rfl trivial ?_ rfl
  simp only [Try.ntmps92, List.size_toArray, List.length_cons, List.length_nil, Nat.reduceAdd, Nat.reduceSub, Array.replicate_succ, Array.replicate_zero, List.push_toArray, List.append_toArray, List.nil_append, List.cons_append]
  gi_wp2
  gi_loopw [4, 10] (fun pv iv wr => ∃ i : Nat, iv = .int .i64 i ∧ i ≤ L.length ∧ J (L.take i).flatten wr ∧ Aside0 (At 116 120 123 wr b c L free m)) (fun _ iv _ => L.length - (intOf iv).toNat)
  case atStart => exact ⟨0, rfl, by omega, h0, HT⟩
  case round =>
    obtain ⟨i, rfl, hi, hJ, HTr⟩ := hrel
    by_cases hil : (i : Int) < (L.length : Int)
    · have hil' : i < L.length := by omega
      obtain ⟨l, hll⟩ : ∃ l, L[i]? = some l := ⟨_, List.getElem?_eq_getElem hil'⟩
      have hl2 : L[i] = l := (List.getElem?_eq_some_iff.1 hll).2
      have hc0 : wr.cell? ⟨c, i, none⟩ = some (ptr l) := by rw [HTr.out.cell_ptr i hil', hl2]
      obtain ⟨pa, hpa⟩ : ∃ pa : Option Addr, ptr l = .pointer pa := by cases l <;> exact ⟨_, rfl⟩
      rw [hpa] at hc0
      have HPA := Aside0.mk hpa
      have HL := Aside0.mk hll
      clear hl2 hll hpa
      gi_wp2
      gi_loopg [4] (l.length) (fun kq pv wr => ∃ j : Nat, j + kq = l.length ∧ pv = ptr (l.drop j) ∧ J ((L.take i).flatten ++ l.take j) wr ∧ Aside0 (At 116 120 123 wr b c L free m))
      case atStart => exact ⟨0, by omega, HPA.out.symm, by simpa using hJ, HTr⟩
      case round =>
        clear hJ HTr hc0
        obtain ⟨j, hjk, rfl, hJ, HTr⟩ := hrel
        by_cases hjl : j < l.length
        · have hnd := HTr.out.node (Below.refl _ _) HL.out j hjl
          have hdr : l.drop j = l[j] :: l.drop (j + 1) := List.drop_eq_getElem_cons hjl
          have htk : (L.take i).flatten ++ l.take (j + 1) = ((L.take i).flatten ++ l.take j) ++ [l[j]] := by rw [List.take_succ_eq_append_getElem hjl, List.append_assoc]
          have hpl : ((L.take i).flatten ++ l.take j).length < L.flatten.length := by
            rw [flat_split HL.out]
            simp only [List.length_append, List.length_take]
            omega
          have hmi : l[j].id ∈ ids b c L := mem_ids HL.out (List.getElem_mem hjl)
          have hpre : (L.take i).flatten ++ l.take (j + 1) <+: L.flatten := by
            rw [flat_split HL.out]
            exact (List.prefix_append_right_inj _).2 ((List.take_prefix _ _).trans (List.prefix_append _ _))
          obtain ⟨mm, hm⟩ : ∃ mm, l[j] = mm := ⟨_, rfl⟩
          rw [hm] at hnd hdr htk hmi
          rw [hdr]
          simp only [ptr]
          have d0 : wr.cell? ⟨mm.id, 0, none⟩ = some (.int .i64 mm.sp) := by rw [Lib.cell_of_heap hnd]; rfl
          have d1 : wr.cell? ⟨mm.id, 1, none⟩ = some (.int .u64 mm.va) := by rw [Lib.cell_of_heap hnd]; rfl
          have d2 : wr.cell? ⟨mm.id, 2, none⟩ = some (.int .i64 mm.sz) := by rw [Lib.cell_of_heap hnd]; rfl
          have d3 : wr.cell? ⟨mm.id, 3, none⟩ = some (.int .i64 mm.v) := by rw [Lib.cell_of_heap hnd]; rfl
          obtain ⟨pa2, hpa2⟩ : ∃ pa2 : Option Addr, ptr (l.drop (j + 1)) = .pointer pa2 := by cases l.drop (j + 1) <;> exact ⟨_, rfl⟩
          have HPA2 := Aside0.mk hpa2
          have HTK := Aside0.mk htk
          have HMI := Aside0.mk hmi
          have HM := Aside0.mk hm
          have HPRE := Aside0.mk hpre
          obtain ⟨fn, tmps, assign, body, hy, hR⟩ := hY _ mm wr.drew (hJd _ _ hJ) hpl
          clear hnd hdr htk hm hmi hpa2 hpl hpre
          gi_wp2
          dsimp only [encN] at hy
          have hR2 := hR.mono (R' := fun e W' => ∃ rb : Bool, e = .returned (.bool rb) ∧ ((rb = true ∧ J (((L.take i).flatten ++ l.take j) ++ [mm]) W' ∧ Below n₀ wr.drew W') ∨ (rb = false ∧ Jx (((L.take i).flatten ++ l.take j) ++ [mm]) W'))) (fun e W' h => two_ways h)
          have HY := Aside0.mk hY
          have HJ := Aside0.mk hJ
          clear hR hY hJ
          refine Code.wpIn_mono (Q := fun e a' w' => match e with | .normal => ∃ (rb : Bool) (x20 x21 x22 x23 x24 x25 x26 x27 x28 : Value), (a' = { tmps := #[.func (.yield lq) #[] #[], .pointer (some ⟨Bn, 0, none⟩), undef, undef, .pointer (some ⟨mm.id, 0, none⟩), .pointer (some ⟨b, 0, none⟩), .pointer (some ⟨b, 0, none⟩), .pointer (some ⟨b, 0, none⟩), .slice (some ⟨c, 0, none⟩) L.length L.length, .int .i64 L.length, .int .i64 i, .bool true, .pointer (some ⟨c, i, none⟩), .pointer pa, .pointer (some ⟨mm.id, 0, none⟩), .bool true, u16, u17, u18, u19, x20, x21, x22, x23, x24, x25, x26, x27, x28, .bool rb, .bool (!rb), u31], defers := [] }) ∧ ((rb = true ∧ J (((L.take i).flatten ++ l.take j) ++ [mm]) w' ∧ Below n₀ wr.drew w') ∨ (rb = false ∧ Jx (((L.take i).flatten ++ l.take j) ++ [mm]) w')) | _ => False) ?_ ?_
          · rintro e a' w' hq
            have HTr2 := HTr
            cases e with
            | normal =>
              obtain ⟨rb, x20, x21, x22, x23, x24, x25, x26, x27, x28, rfl, ⟨rfl, hJ3, hk3⟩ | ⟨rfl, hJ3⟩⟩ := hq
              · have HT3 : At 116 120 123 w' b c L free m := HTr.out.move (fun k hk => hk3.block k (HLT.out k hk))
                have hnd3 := HT3.node (Below.refl _ _) HL.out j hjl
                rw [HM.out] at hnd3
                have d4 : w'.cell? ⟨mm.id, 4, none⟩ = some (.pointer pa2) := by rw [Lib.cell_of_heap hnd3]; simp only [cells]; rw [HPA2.out]; rfl
                have HT3' := Aside0.mk HT3
                rw [List.append_assoc] at hJ3
                have hJ4 : J ((L.take i).flatten ++ l.take (j + 1)) w' := by rw [HTK.out]; simpa using hJ3
                have HJ4 := Aside0.mk hJ4
                clear hk3 HT3 hnd3 hJ3 hJ4 HTr HTr2
                gi_wp2
                go_roundg (l.length - (j + 1))
                case rel => exact ⟨j + 1, by omega, HPA2.out.symm, HJ4.out, HT3'⟩
                case measure => omega
              · gi_wp2
                refine bodyPost_ret (results_none rfl _ _ _) rfl ?_
                refine ⟨⟨_, rfl⟩, .inr ⟨_, ?_, hJ3⟩⟩
                rw [← HTK.out]
                exact HPRE.out
            | _ => exact hq.elim
          · clear HLT HT cb hBn h0 HPA HL hjk HTr HPA2 HTK HMI HM HPRE HY HJ hJd hsm hi hil hil' hjl
            gi_region_with (refine hR2.mono ?_; rintro e W3 ⟨rb, rfl, hE2⟩; replace hE2 := Aside0.mk hE2)
            all_goals exact ⟨rb, _, _, _, _, _, _, _, _, _, rfl, hE2.out⟩
        · obtain rfl : j = l.length := by omega
          have hd0 : l.drop l.length = [] := List.drop_length
          have hft := flat_take HL.out
          rw [List.take_length, ← hft] at hJ
          rw [hd0]
          simp only [ptr]
          have HJ := Aside0.mk hJ
          clear hft hd0 hJ
          gi_wp2
          exact ⟨⟨i + 1, by simp, by omega, HJ.out, HTr⟩, by simp [intOf]; omega⟩
    · obtain rfl : i = L.length := by omega
      rw [List.take_length] at hJ
      gi_wp2
      go_end0
      exact ⟨⟨_, rfl⟩, .inl hJ⟩
/-- What All hands back, as a contract for callers. -/
theorem all_stops (n : Nat) (hn : 1 ≤ n) (Bn n₀ b c : Nat) (L : List (List Nd)) (free m : Int) (w : World) (hBn : Bn < w.heap.size) (hn₀ : n₀ ≤ w.heap.size)
    (hc : w.cell? ⟨Bn, 0, none⟩ = some (.pointer (some ⟨b, 0, none⟩))) (hT : At 116 120 123 w b c L free m) (hlt : ∀ k ∈ ids b c L, k < n₀) :
    SeqStopsK Fence.wide n Try.prog 92 #[.pointer (some ⟨Bn, 0, none⟩)] encN (Below n₀) (fun ys => ys = L.flatten) (fun pre => pre <+: L.flatten) L.flatten.length w := fun l J Jx W hW hJ _ hY h0 =>
  all1_in n hn l Bn n₀ b c L free m J Jx hY (fun pre W' hw => hJ pre W' W'.drew none hw ⟨rfl, rfl, rfl, Nat.le_refl _, fun _ _ _ => rfl⟩ (fun r e => by cases e)) W ((hW.cell (p := ⟨Bn, 0, none⟩) hBn).trans hc) (hT.below hW) hlt h0
end Go.Proofs.Ytgmdlndiilibpaa.PH


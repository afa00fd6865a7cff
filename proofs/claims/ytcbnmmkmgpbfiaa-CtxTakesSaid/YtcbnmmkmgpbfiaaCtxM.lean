/- A pool of numbers (layer 14): how it lies in memory; its map. -/
import Derived.Test.YtcbnmmkmgpbfiaaPXx0
import Derived.Maps.Own
import Derived.Maps.OwnSet
import Derived.Maps.Views
import Derived.WideKeyEntry
set_option linter.unusedVariables false
set_option linter.unusedSimpArgs false
namespace Go.Proofs.Ytcbnmmkmgpbfiaa.PP
open Go.RowKit Go.Proofs.YtcbnmmkmgpbfiaaW.PrintWords Go.Maps Go.ChangeMaps Go.MapKept
open Go.WideElems (Fit)
def key (k : Int) : Lit := .int .i64 k
def Wf (k : Int) : Prop := -9223372036854775808 ≤ k ∧ k ≤ 9223372036854775807
theorem wf_key {k : Int} (h : Wf k) : (Lit.int .i64 k).wf = true := by
  obtain ⟨h1, h2⟩ := h
  simp [Lit.wf, IntKind.min, IntKind.max, IntKind.signed, IntKind.bits]
  omega
theorem law3 : Keyed Try.prog 3 := int_keyed Try.underlying3
theorem zero3 (w : World) : (zeroValue 3).run Try.prog w = .ok (.int .i64 0) w := by kernel_rfl
theorem key3 {k : Int} (h : Wf k) : keyOf Try.prog 3 (.int .i64 k) = some (key k) := keyOf_int_mk Try.underlying3 (wf_key h)
/-- A map of numbers: what it has for each key, and how many. -/
def PM (w : World) (b : Nat) (f : Int → Option Int) (n : Nat) : Prop :=
  ∃ D : DataW Unit, w.ownsMap Try.prog 3 (plainElem Try.prog 3) b n D ∧ Maps.size D = n ∧ ∀ k, Wf k → Maps.has D (key k) = (f k).isSome ∧ ∀ v, f k = some v → ∀ z, D.atKey (key k) z = .lit (.int .i64 v)
section
variable {w w' : World} {b n : Nat} {f : Int → Option Int}
theorem PM.lt (h : PM w b f n) : b < w.heap.size := by
  obtain ⟨D, h1, _⟩ := h
  exact h1.lt
theorem PM.move (h : PM w b f n) (hb : w'.heap[b]? = w.heap[b]?) : PM w' b f n := by
  obtain ⟨D, ⟨es, clock, h1, h2⟩, h3⟩ := h
  exact ⟨D, ⟨es, clock, hb.trans h1, h2⟩, h3⟩
theorem PM.block (h : PM w b f n) : ∃ es clock, w.heap[b]? = some (.map es clock) := by
  obtain ⟨D, ⟨es, clock, h1, h2⟩, h3⟩ := h
  exact ⟨es, clock, h1⟩
theorem PM.new (w : World) : PM (w.alloc (.map #[] 0)) w.heap.size (fun _ => none) 0 :=
  ⟨.map [], World.ownsMap_made w Try.prog 3 _, rfl, fun k _ => ⟨rfl, fun v h => by cases h⟩⟩
set_option maxRecDepth 100000 in
theorem PM.look (h : PM w b f n) {k : Int} (hk : Wf k) : (Instr.lookup 101 (.map (some b)) (.int .i64 k) true).run Try.prog w = .ok (.tuple #[.int .i64 ((f k).getD 0), .bool (f k).isSome]) w := by
  obtain ⟨D, h1, h2, h3⟩ := h
  obtain ⟨v, ps, hrun, hv⟩ := h1.look_ok law3 Try.underlying101 (zero3 w) (plainElem_int Try.underlying3 (by decide)) (key3 hk)
  obtain ⟨h4, h5⟩ := h3 k hk
  obtain ⟨a, rfl, ha, _⟩ := plainElem_int_inv Try.underlying3 hv
  simp only [Prod.mk.injEq] at ha
  rw [hrun, h4]
  cases hf : f k with
  | none =>
    rw [hf] at h4
    have := Maps.atKey_of_not_has (by simpa using h4) (.lit (.int .i64 0) : DataW Unit)
    rw [ha.1] at this
    injection this with this
    injection this with _ this
    rw [this]; rfl
  | some x =>
    have := h5 x hf (.lit (.int .i64 0))
    rw [ha.1] at this
    injection this with this
    injection this with _ this
    rw [this]; rfl
theorem PM.len (h : PM w b f n) (ty : TypeId) : (Builtin.len_ #[101] ty #[.map (some b)]).run Try.prog w = .ok (.int .i64 n) w := by
  obtain ⟨D, h1, h2, h3⟩ := h
  rw [h1.len Try.underlying101 ty, h2]
theorem own_size {D : DataW Unit} {m : Nat} (h : w.ownsMap Try.prog 3 (plainElem Try.prog 3) b m D) : w.ownsMap Try.prog 3 (plainElem Try.prog 3) b (Maps.size D) D := by
  obtain ⟨es, clock, h1, h2, h3, rfl⟩ := h
  refine ⟨es, clock, h1, h2, ?_, rfl⟩
  simp [Maps.size, length_sorted]
theorem isKey (k : Int) : WideAt.IsKeyLit (key k) := by unfold key WideAt.IsKeyLit; simp
theorem key_ne {j k : Int} (h : j ≠ k) : key j ≠ key k := fun e => by injection e with _ e; exact h e
/-- delete. -/
theorem PM.drop (h : PM w b f n) {k : Int} (hk : Wf k) (ty : TypeId) : ∃ w', (Builtin.delete_ #[101, 3] ty #[.map (some b), .int .i64 k]).run Try.prog w = .ok (.tuple #[]) w' ∧
    PM w' b (fun j => if j = k then none else f j) (n - (if (f k).isSome then 1 else 0)) ∧ w.mapTurned w' b := by
  obtain ⟨D, h1, h2, h3⟩ := h
  obtain ⟨w', hrun, h4, h5⟩ := h1.drop law3 Try.underlying101 (key3 hk) ty
  refine ⟨w', hrun, ⟨D.del (key k), ?_, ?_, fun j hj => ?_⟩, h5⟩
  · have hs := Maps.size_del (k := key k) (h1.tidy law3)
    rw [(h3 k hk).1] at hs
    have := own_size h4
    rwa [show Maps.size (D.del (key k)) = n - (if (f k).isSome then 1 else 0) by rw [← h2, ← hs]; split <;> omega] at this
  · have hs := Maps.size_del (k := key k) (h1.tidy law3)
    rw [(h3 k hk).1] at hs
    rw [← h2, ← hs]; split <;> omega
  · by_cases e : j = k
    · subst e
      simp only [if_pos rfl]
      exact ⟨by rw [Maps.has_del_same]; rfl, fun v h => by cases h⟩
    · simp only [if_neg e]
      refine ⟨by rw [Maps.has_del_other (key_ne e)]; exact (h3 j hj).1, fun v h z => ?_⟩
      rw [Maps.atKey_del_other (key_ne e)]
      exact (h3 j hj).2 v h z
/-- An entry made or found, and then stored: what the one store does. -/
theorem entry3 {es : Array MapEntry} {clock : Nat} (hb : w.heap[b]? = some (.map es clock)) (F : Fit Try.prog 3 (plainElem (H := Unit) Try.prog 3) es clock) {k : Int} (hk : Wf k) :
    ∃ (v0 : Value) (st : Nat) (es1 : Array MapEntry) (clock1 : Nat), (Instr.mapEntry 101 (.map (some b)) (.int .i64 k)).run Try.prog w = .ok (.tuple #[v0, goInt st]) (setBlock w b (.map es1 clock1)) ∧
      ∀ (w2 : World) (val : Value), w2.heap[b]? = some (.map es1 clock1) → ∃ es' clock', (Instr.entryStore 101 (.map (some b)) (goInt st) val).run Try.prog w2 = .ok () (setBlock w2 b (.map es' clock')) ∧
        (Instr.mapUpdate 101 (.map (some b)) (.int .i64 k) val).run Try.prog w = .ok () (setBlock w b (.map es' clock')) := by
  have hnd := F.stamped.2.1
  have hck := law3.check w false (key3 hk)
  rcases law3.find w (key3 hk) es.toList F.keys with ⟨hf, _⟩ | ⟨j, e0, hf, hj, hek⟩
  · have hnd2 : ((es.push ⟨.int .i64 k, .int .i64 0, clock⟩).toList.map (·.born)).Nodup := by
      rw [Array.toList_push, List.map_append, List.nodup_append]
      refine ⟨hnd, by simp, fun x hx y hy e => ?_⟩
      obtain ⟨e1, he1, rfl⟩ := List.mem_map.1 hx
      simp at hy
      have := F.stamped.1 e1 he1
      omega
    have hix : (es.push ⟨.int .i64 k, .int .i64 0, clock⟩).findIdx? (fun e => ((e.born : Nat) : Int) == ((clock : Nat) : Int)) = some es.size := by
      rw [Go.WideElems.findIdx_arr]
      exact Go.WideElems.findIdx_born (e0 := ⟨.int .i64 k, .int .i64 0, clock⟩) hnd2 (by simp)
    refine ⟨.int .i64 0, clock, es.push ⟨.int .i64 k, .int .i64 0, clock⟩, clock + 1, ?_, fun w2 val hw2 => ⟨es.push ⟨.int .i64 k, val, clock⟩, clock + 1, ?_, ?_⟩⟩
    · simp [Instr.mapEntry, run_underlying Try.underlying101, Go.MapKept.run_getObj_map hb, hck, hf, zero3, Go.MapKept.run_setObj_map _ hb, Result.andThen, setBlock]
    · have hm : (es.push ⟨.int .i64 k, .int .i64 0, clock⟩).modify es.size (fun e => { e with val := val }) = es.push ⟨.int .i64 k, val, clock⟩ := by
        apply Array.ext'
        rw [Array.toList_modify, Array.toList_push, Array.toList_push, ← Array.length_toList, Go.WideElems.modify_last]
      simp [Instr.entryStore, Go.MapKept.run_getObj_map hw2, asInt, asIntOf, goInt, hix, hm, Go.MapKept.run_setObj_map _ hw2, Result.andThen, setBlock]
    · simp [Instr.mapUpdate, run_underlying Try.underlying101, Go.MapKept.run_getObj_map hb, hck, hf, Go.MapKept.run_setObj_map _ hb, Result.andThen, setBlock]
  · have hj2 : es[j]? = some e0 := by simpa using hj
    have hst := law3.stays w (key3 hk)
    have hsame : es.modify j (fun e => { e with key := Value.int .i64 k }) = es := by
      apply Array.ext'
      rw [Array.toList_modify, modify_eq_set _ _ _ _ hj, ← hek]
      exact Go.WideElems.set_self _ _ _ hj
    have hix : es.findIdx? (fun e => ((e.born : Nat) : Int) == ((e0.born : Nat) : Int)) = some j := by
      rw [Go.WideElems.findIdx_arr]
      exact Go.WideElems.findIdx_born hnd hj
    refine ⟨e0.val, e0.born, es, clock, ?_, fun w2 val hw2 => ⟨es.modify j (fun e => { e with key := Value.int .i64 k, val := val }), clock, ?_, ?_⟩⟩
    · simp [Instr.mapEntry, run_underlying Try.underlying101, Go.MapKept.run_getObj_map hb, hck, hf, hj2, hek, hst, hsame, Go.MapKept.run_setObj_map _ hb, Result.andThen, setBlock]
    · have hm : es.modify j (fun e => { e with val := val }) = es.modify j (fun e => { e with key := Value.int .i64 k, val := val }) := by
        apply Array.ext'
        rw [Array.toList_modify, Array.toList_modify, modify_eq_set _ _ _ _ hj, modify_eq_set _ _ _ _ hj, ← hek]
      simp [Instr.entryStore, Go.MapKept.run_getObj_map hw2, asInt, asIntOf, goInt, hix, hm, Go.MapKept.run_setObj_map _ hw2, Result.andThen, setBlock]
    · simp [Instr.mapUpdate, run_underlying Try.underlying101, Go.MapKept.run_getObj_map hb, hck, hf, hj2, hek, hst, Go.MapKept.run_setObj_map _ hb, Result.andThen, setBlock]
/-- m[k] = v, in its two steps. -/
theorem PM.put (h : PM w b f n) {k v : Int} (hk : Wf k) (hv : Wf v) (hn : n < 1000000) :
    ∃ (v0 : Value) (st : Nat) (o1 : Obj), (Instr.mapEntry 101 (.map (some b)) (.int .i64 k)).run Try.prog w = .ok (.tuple #[v0, goInt st]) (setBlock w b o1) ∧
      ∃ o2 : Obj, (∀ w2 : World, w2.heap[b]? = some o1 → (Instr.entryStore 101 (.map (some b)) (goInt st) (.int .i64 v)).run Try.prog w2 = .ok () (setBlock w2 b o2) ∧
        PM (setBlock w2 b o2) b (fun j => if j = k then some v else f j) (n + (if (f k).isSome then 0 else 1))) := by
  obtain ⟨D, h1, h2, h3⟩ := h
  obtain ⟨es, clock, hb, F, hs, hD⟩ := h1
  have h1 : w.ownsMap Try.prog 3 (plainElem Try.prog 3) b n D := ⟨es, clock, hb, F, hs, hD⟩
  obtain ⟨v0, st, es1, clock1, hr1, hst⟩ := entry3 hb F hk
  obtain ⟨w', hrun, h4, h5⟩ := h1.store law3 Try.underlying101 (by unfold maxLen; omega) (key3 hk) (plainElem_int Try.underlying3 (wf_key hv))
  have hb1 : (setBlock w b (.map es1 clock1)).heap[b]? = some (.map es1 clock1) := heap_setBlock_same hb _
  obtain ⟨es', clock', hr2, hr3⟩ := hst _ (.int .i64 v) hb1
  refine ⟨v0, st, .map es1 clock1, hr1, .map es' clock', fun w2 hw2 => ?_⟩
  obtain ⟨es'', clock'', hr4, hr5⟩ := hst w2 (.int .i64 v) hw2
  rw [hr3] at hr5
  have e12 := (Result.ok.inj hr5).2
  have e3 : (Obj.map es' clock') = .map es'' clock'' := by
    have := congrArg (fun u : World => u.heap[b]?) e12
    simp only [heap_setBlock_same hb] at this
    exact Option.some.inj this
  rw [hr3] at hrun
  have e4 := (Result.ok.inj hrun).2
  refine ⟨by rw [e3]; exact hr4, ?_⟩
  have hfin : PM w' b (fun j => if j = k then some v else f j) (n + (if (f k).isSome then 0 else 1)) := by
    have hsz := Maps.size_put (k := key k) (h1.tidy law3) (.lit (.int .i64 v) : DataW Unit)
    rw [(h3 k hk).1] at hsz
    have hsz2 : Maps.size (D.put (key k) (.lit (.int .i64 v))) = n + (if (f k).isSome then 0 else 1) := by rw [hsz, ← h2]; split <;> rfl
    refine ⟨D.put (key k) (.lit (.int .i64 v)), ?_, hsz2, fun j hj => ?_⟩
    · have := own_size h4
      rw [hsz2] at this
      exact this
    · by_cases e : j = k
      · subst e
        simp only [if_pos rfl]
        refine ⟨by rw [Maps.has_put_same h1.isMap (isKey _)]; rfl, fun v' h z => ?_⟩
        cases h
        exact Maps.atKey_put_same h1.isMap (isKey _) _ _
      · simp only [if_neg e]
        refine ⟨by rw [Maps.has_put_other (key_ne e)]; exact (h3 j hj).1, fun v' h z => ?_⟩
        rw [Maps.atKey_put_other (key_ne e)]
        exact (h3 j hj).2 v' h z
  refine hfin.move ?_
  rw [heap_setBlock_same hw2, ← e4, heap_setBlock_same hb]
end
end Go.Proofs.Ytcbnmmkmgpbfiaa.PP

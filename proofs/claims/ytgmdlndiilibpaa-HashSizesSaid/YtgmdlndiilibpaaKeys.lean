/- A parameter that is a slice of keys, opened. -/
import Derived.Test.YtgmdlndiilibpaaTabK
import Derived.Deep.Slices
import Derived.WalkKit
import Derived.ProofKit
import Derived.Deep.Strs
import Derived.ChangeSame
import Derived.Carry
set_option linter.unusedVariables false
namespace Go.Proofs.Ytgmdlndiilibpaa.Keys
open Go.ChangeShapes Go.WideShapes Go.RowKit Go.Deep Go.Proofs.Ytgmdlndiilibpaa.PH Go.Proofs.YtgmdlndiilibpaaW.PrintWords
theorem cells24 : Try.prog.cellsOf 24 = 3 := by kernel_rfl
theorem cells3 : Try.prog.cellsOf 3 = 1 := by kernel_rfl
theorem cells22 : Try.prog.cellsOf 22 = 1 := by kernel_rfl
theorem laid : laidOutB Try.prog = true := by kernel_rfl
theorem rec57 : Try.prog.readableRec 57 = true := by kernel_rfl
theorem lt57 : 57 < Try.prog.types.size := of_decide_eq_true (by kernel_rfl)
section
variable {H : Type} {enc : TypeId × Value → H} {W : World}
theorem list3 {α : Type} {l : List α} (h : l.length = 3) : ∃ a b c, l = [a, b, c] := by
  match l, h with
  | [a, b, c], _ => exact ⟨a, b, c, rfl⟩

set_option maxRecDepth 100000 in
theorem key_open {n : Nat} {cs : List Value} {x : DataW H × List MemPlace} {base : Nat} {sp : Nat → Bool} {held : Bool} (h : DataW.trod enc Try.prog W base sp held n 24 cs = some x) :
    ∃ k : S24, cs = [.int .i64 k.f0, .int .u64 k.f1, .int .i64 k.f2] ∧ Ok24 k := by
  obtain ⟨y0, y1, y2, m, rfl, hl, h0, h1, h2⟩ := trod_struct3 Try.underlying24 h
  rw [cells24] at hl
  obtain ⟨c0, c1, c2, rfl⟩ := list3 hl
  rw [cells3] at h0 h2
  rw [cells22] at h1
  obtain ⟨a, e0, _, w0⟩ := DataW.trod_int Try.underlying3 h0
  obtain ⟨b, e1, _, w1⟩ := DataW.trod_int Try.underlying22 h1
  obtain ⟨c, e2, _, w2⟩ := DataW.trod_int Try.underlying3 h2
  simp at e0 e1 e2
  subst e0 e1 e2
  exact ⟨⟨a, b, c⟩, rfl, FieldG.wf_i64 w0, FieldG.wf_u64 w1, FieldG.wf_i64 w2⟩
theorem choose_list {α : Type} [Inhabited α] {P : Nat → α → Prop} (n : Nat) (h : ∀ i, i < n → ∃ x, P i x) : ∃ xs : List α, xs.length = n ∧ ∀ i x, xs[i]? = some x → P i x := by
  induction n with
  | zero => exact ⟨[], rfl, by simp⟩
  | succ n ih =>
    obtain ⟨xs, hl, hx⟩ := ih (fun i hi => h i (by omega))
    obtain ⟨y, hy⟩ := h n (by omega)
    refine ⟨xs ++ [y], by simp [hl], fun i x hix => ?_⟩
    by_cases hi : i < xs.length
    · rw [List.getElem?_append_left hi] at hix
      exact hx i x hix
    · have : i < (xs ++ [y]).length := (List.getElem?_eq_some_iff.1 hix).1
      rw [List.length_append, List.length_singleton] at this
      obtain rfl : i = n := by omega
      rw [List.getElem?_append_right (by omega), show i - xs.length = 0 by omega] at hix
      cases hix
      exact hy
instance : Inhabited S24 := ⟨z24⟩
set_option maxRecDepth 100000 in
theorem open_keys {v : Value} {d : DataW H} {p : List MemPlace} (hval : Value.okWide Try.prog W .any 0 57 v) (h : DataW.Trod enc Try.prog W 0 (fun _ => true) true 57 v d p) :
    ∃ (A : Option Addr) (n c : Nat) (xs : List S24), v = .slice A xs.length c ∧ xs.length ≤ c ∧ Kd.C k24 W A xs.length xs ∧ ∀ x ∈ xs, Ok24 x := by
  obtain ⟨a0, len, cap, rfl⟩ := okWide_slice Try.underlying57 hval
  obtain ⟨fuel, hf⟩ := h
  rcases open_slice Try.underlying57 hf with ⟨hcs, _⟩ | ⟨a, len', cap', m, n, D, Pl, hcs, hb, hl, hm, hmm, hx, hi⟩
  · simp [Value.cells] at hcs
    obtain ⟨rfl, rfl, rfl⟩ := hcs
    exact ⟨none, 0, 0, [], rfl, by simp, ⟨rfl, by simp, fun h => absurd h (by simp)⟩, by simp⟩
  · simp [Value.cells] at hcs
    obtain ⟨rfl, rfl, rfl⟩ := hcs
    have hlm : len ≤ m := by rw [hmm]; simp; omega
    obtain ⟨xs, hxl, hxs⟩ := choose_list (P := fun i (k : S24) => (∀ j u, [Value.int .i64 k.f0, .int .u64 k.f1, .int .i64 k.f2][j]? = some u → W.cell? (a.add (i * 3 + j)) = some u) ∧ Ok24 k) len (fun i him => by
      obtain ⟨cs', h1, h2⟩ := hi i (by omega)
      obtain ⟨k, rfl, hk⟩ := key_open h2
      rw [cells24] at h1
      obtain ⟨_, hlen, hat⟩ := World.cells?_some h1
      refine ⟨k, fun j u hu => ?_, hk⟩
      have hj : j < 3 := by
        have := (List.getElem?_eq_some_iff.1 hu).1
        simpa using this
      have := hat j hj
      rw [Go.Deep.add_add] at this
      rw [this, hu])
    refine ⟨some a, 0, cap, xs, by rw [hxl], by omega, ⟨rfl, by unfold maxLen at hm; omega, fun _ => ⟨a, rfl, fun j k hj => ?_⟩⟩, fun k hk => ?_⟩
    · exact ⟨_, rfl, k24_mk W k, (hxs j k hj).1⟩
    · obtain ⟨j, hj, rfl⟩ := List.getElem_of_mem hk
      exact (hxs j _ (List.getElem?_eq_getElem hj)).2
end
end Go.Proofs.Ytgmdlndiilibpaa.Keys

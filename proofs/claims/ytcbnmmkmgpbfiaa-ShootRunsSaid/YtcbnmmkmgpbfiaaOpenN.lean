/- Parameters that are slices of entries or of pages, opened. -/
import Derived.Test.YtcbnmmkmgpbfiaaPNx0
import Derived.Deep.Slices
import Derived.WalkKit
import Derived.ProofKit
import Derived.Deep.Strs
import Derived.ChangeSame
import Derived.Carry
set_option linter.unusedVariables false
namespace Go.Proofs.Ytcbnmmkmgpbfiaa.OpenE
open Go.ChangeShapes Go.WideShapes Go.RowKit Go.Deep Go.Proofs.Ytcbnmmkmgpbfiaa.PN Go.Proofs.YtcbnmmkmgpbfiaaW.PrintWords
theorem cells28 : Try.prog.cellsOf 28 = 6 := by kernel_rfl
theorem cells32 : Try.prog.cellsOf 32 = 11 := by kernel_rfl
theorem cells30 : Try.prog.cellsOf 30 = 11 := by kernel_rfl
theorem cells3 : Try.prog.cellsOf 3 = 1 := by kernel_rfl
theorem cells4 : Try.prog.cellsOf 4 = 1 := by kernel_rfl
theorem cells26 : Try.prog.cellsOf 26 = 1 := by kernel_rfl
theorem laid : laidOutB Try.prog = true := by kernel_rfl
theorem rec22 : Try.prog.readableRec 22 = true := by kernel_rfl
theorem lt22 : 22 < Try.prog.types.size := of_decide_eq_true (by kernel_rfl)
theorem rec23 : Try.prog.readableRec 23 = true := by kernel_rfl
theorem lt23 : 23 < Try.prog.types.size := of_decide_eq_true (by kernel_rfl)
theorem wf_i64 {n : Int} (h : (Lit.int .i64 n).wf = true) : -9223372036854775808 ≤ n ∧ n ≤ 9223372036854775807 := by
  simp [Lit.wf, IntKind.min, IntKind.max, IntKind.bits, IntKind.signed] at h; omega
theorem wf_u64 {n : Int} (h : (Lit.int .u64 n).wf = true) : 0 ≤ n ∧ n < 18446744073709551616 := by
  simp [Lit.wf, IntKind.min, IntKind.max, IntKind.bits, IntKind.signed] at h; omega
/-- Whole numbers of an entry, of a page, as their types let them be. -/
def Ok32 (e : S32) : Prop := (-9223372036854775808 ≤ e.f0 ∧ e.f0 ≤ 9223372036854775807) ∧ (-9223372036854775808 ≤ e.f1 ∧ e.f1 ≤ 9223372036854775807) ∧ (0 ≤ e.f2 ∧ e.f2 < 18446744073709551616) ∧ (0 ≤ e.f3 ∧ e.f3 < 18446744073709551616)
def Ok30 (e : S30) : Prop := (0 ≤ e.f0 ∧ e.f0 < 18446744073709551616) ∧ (-9223372036854775808 ≤ e.f1 ∧ e.f1 ≤ 9223372036854775807) ∧ (0 ≤ e.f2 ∧ e.f2 < 18446744073709551616)
section
variable {H : Type} {enc : TypeId × Value → H} {W : World}
theorem list6 {α : Type} {l : List α} (h : l.length = 6) : ∃ a b c d e f, l = [a, b, c, d, e, f] := by
  match l, h with
  | [a, b, c, d, e, f], _ => exact ⟨a, b, c, d, e, f, rfl⟩
theorem list11 {α : Type} {l : List α} (h : l.length = 11) : ∃ a b c d e f g i j k m, l = [a, b, c, d, e, f, g, i, j, k, m] := by
  match l, h with
  | [a, b, c, d, e, f, g, i, j, k, m], _ => exact ⟨a, b, c, d, e, f, g, i, j, k, m, rfl⟩
set_option maxRecDepth 100000 in
theorem attr_open {n : Nat} {cs : List Value} {x : DataW H × List MemPlace} {base : Nat} {sp : Nat → Bool} {held : Bool} (h : DataW.trod enc Try.prog W base sp held n 28 cs = some x) :
    ∃ k : S28, cs = [.bool k.f0, .bool k.f1, .bool k.f2, .bool k.f3, .bool k.f4, .bool k.f5] := by
  obtain ⟨xs, m, _, rfl, hl, hlen, hf⟩ := DataW.trod_struct Try.underlying28 h
  rw [cells28] at hl
  obtain ⟨c0, c1, c2, c3, c4, c5, rfl⟩ := list6 hl
  obtain ⟨y0, y1, y2, y3, y4, y5, rfl⟩ := list6 hlen
  have h0 : DataW.trod enc Try.prog W base sp held m 4 (([c0, c1, c2, c3, c4, c5].drop 0).take (Try.prog.cellsOf 4)) = some y0 := hf 0 _ rfl
  have h1 : DataW.trod enc Try.prog W base sp held m 4 (([c0, c1, c2, c3, c4, c5].drop 1).take (Try.prog.cellsOf 4)) = some y1 := hf 1 _ rfl
  have h2 : DataW.trod enc Try.prog W base sp held m 4 (([c0, c1, c2, c3, c4, c5].drop 2).take (Try.prog.cellsOf 4)) = some y2 := hf 2 _ rfl
  have h3 : DataW.trod enc Try.prog W base sp held m 4 (([c0, c1, c2, c3, c4, c5].drop 3).take (Try.prog.cellsOf 4)) = some y3 := hf 3 _ rfl
  have h4 : DataW.trod enc Try.prog W base sp held m 4 (([c0, c1, c2, c3, c4, c5].drop 4).take (Try.prog.cellsOf 4)) = some y4 := hf 4 _ rfl
  have h5 : DataW.trod enc Try.prog W base sp held m 4 (([c0, c1, c2, c3, c4, c5].drop 5).take (Try.prog.cellsOf 4)) = some y5 := hf 5 _ rfl
  simp only [cells4] at h0 h1 h2 h3 h4 h5
  obtain ⟨a0, e0, _⟩ := DataW.trod_bool Try.underlying4 h0
  obtain ⟨a1, e1, _⟩ := DataW.trod_bool Try.underlying4 h1
  obtain ⟨a2, e2, _⟩ := DataW.trod_bool Try.underlying4 h2
  obtain ⟨a3, e3, _⟩ := DataW.trod_bool Try.underlying4 h3
  obtain ⟨a4, e4, _⟩ := DataW.trod_bool Try.underlying4 h4
  obtain ⟨a5, e5, _⟩ := DataW.trod_bool Try.underlying4 h5
  simp at e0 e1 e2 e3 e4 e5
  subst e0 e1 e2 e3 e4 e5
  exact ⟨⟨a0, a1, a2, a3, a4, a5⟩, rfl⟩
set_option maxRecDepth 100000 in
theorem entry_open {n : Nat} {cs : List Value} {x : DataW H × List MemPlace} {base : Nat} {sp : Nat → Bool} {held : Bool} (h : DataW.trod enc Try.prog W base sp held n 32 cs = some x) :
    ∃ k : S32, cs = [.int .i64 k.f0, .int .i64 k.f1, .int .u64 k.f2, .int .u64 k.f3, .bool k.f4.f0, .bool k.f4.f1, .bool k.f4.f2, .bool k.f4.f3, .bool k.f4.f4, .bool k.f4.f5, .bool k.f5] ∧ Ok32 k := by
  obtain ⟨xs, m, _, rfl, hl, hlen, hf⟩ := DataW.trod_struct Try.underlying32 h
  rw [cells32] at hl
  obtain ⟨c0, c1, c2, c3, c4, c5, c6, c7, c8, c9, c10, rfl⟩ := list11 hl
  obtain ⟨y0, y1, y2, y3, y4, y5, rfl⟩ := list6 hlen
  have h0 : DataW.trod enc Try.prog W base sp held m 3 (([c0, c1, c2, c3, c4, c5, c6, c7, c8, c9, c10].drop 0).take (Try.prog.cellsOf 3)) = some y0 := hf 0 _ rfl
  have h1 : DataW.trod enc Try.prog W base sp held m 3 (([c0, c1, c2, c3, c4, c5, c6, c7, c8, c9, c10].drop 1).take (Try.prog.cellsOf 3)) = some y1 := hf 1 _ rfl
  have h2 : DataW.trod enc Try.prog W base sp held m 26 (([c0, c1, c2, c3, c4, c5, c6, c7, c8, c9, c10].drop 2).take (Try.prog.cellsOf 26)) = some y2 := hf 2 _ rfl
  have h3 : DataW.trod enc Try.prog W base sp held m 26 (([c0, c1, c2, c3, c4, c5, c6, c7, c8, c9, c10].drop 3).take (Try.prog.cellsOf 26)) = some y3 := hf 3 _ rfl
  have h4 : DataW.trod enc Try.prog W base sp held m 28 (([c0, c1, c2, c3, c4, c5, c6, c7, c8, c9, c10].drop 4).take (Try.prog.cellsOf 28)) = some y4 := hf 4 _ rfl
  have h5 : DataW.trod enc Try.prog W base sp held m 4 (([c0, c1, c2, c3, c4, c5, c6, c7, c8, c9, c10].drop 10).take (Try.prog.cellsOf 4)) = some y5 := hf 5 _ rfl
  simp only [cells4, cells3, cells26, cells28] at h0 h1 h2 h3 h4 h5
  obtain ⟨a0, e0, _, w0⟩ := DataW.trod_int Try.underlying3 h0
  obtain ⟨a1, e1, _, w1⟩ := DataW.trod_int Try.underlying3 h1
  obtain ⟨a2, e2, _, w2⟩ := DataW.trod_int Try.underlying26 h2
  obtain ⟨a3, e3, _, w3⟩ := DataW.trod_int Try.underlying26 h3
  obtain ⟨k, e4⟩ := attr_open h4
  obtain ⟨a5, e5, _⟩ := DataW.trod_bool Try.underlying4 h5
  simp at e0 e1 e2 e3 e4 e5
  obtain ⟨g0, g1, g2, g3, g4, g5⟩ := e4
  subst e0 e1 e2 e3 g0 g1 g2 g3 g4 g5 e5
  exact ⟨⟨a0, a1, a2, a3, k, a5⟩, rfl, wf_i64 w0, wf_i64 w1, wf_u64 w2, wf_u64 w3⟩
set_option maxRecDepth 100000 in
theorem page_open {n : Nat} {cs : List Value} {x : DataW H × List MemPlace} {base : Nat} {sp : Nat → Bool} {held : Bool} (h : DataW.trod enc Try.prog W base sp held n 30 cs = some x) :
    ∃ k : S30, cs = [.int .u64 k.f0, .int .i64 k.f1, .int .u64 k.f2, .bool k.f3.f0, .bool k.f3.f1, .bool k.f3.f2, .bool k.f3.f3, .bool k.f3.f4, .bool k.f3.f5, .bool k.f4, .bool k.f5] ∧ Ok30 k := by
  obtain ⟨xs, m, _, rfl, hl, hlen, hf⟩ := DataW.trod_struct Try.underlying30 h
  rw [cells30] at hl
  obtain ⟨c0, c1, c2, c3, c4, c5, c6, c7, c8, c9, c10, rfl⟩ := list11 hl
  obtain ⟨y0, y1, y2, y3, y4, y5, rfl⟩ := list6 hlen
  have h0 : DataW.trod enc Try.prog W base sp held m 26 (([c0, c1, c2, c3, c4, c5, c6, c7, c8, c9, c10].drop 0).take (Try.prog.cellsOf 26)) = some y0 := hf 0 _ rfl
  have h1 : DataW.trod enc Try.prog W base sp held m 3 (([c0, c1, c2, c3, c4, c5, c6, c7, c8, c9, c10].drop 1).take (Try.prog.cellsOf 3)) = some y1 := hf 1 _ rfl
  have h2 : DataW.trod enc Try.prog W base sp held m 26 (([c0, c1, c2, c3, c4, c5, c6, c7, c8, c9, c10].drop 2).take (Try.prog.cellsOf 26)) = some y2 := hf 2 _ rfl
  have h3 : DataW.trod enc Try.prog W base sp held m 28 (([c0, c1, c2, c3, c4, c5, c6, c7, c8, c9, c10].drop 3).take (Try.prog.cellsOf 28)) = some y3 := hf 3 _ rfl
  have h4 : DataW.trod enc Try.prog W base sp held m 4 (([c0, c1, c2, c3, c4, c5, c6, c7, c8, c9, c10].drop 9).take (Try.prog.cellsOf 4)) = some y4 := hf 4 _ rfl
  have h5 : DataW.trod enc Try.prog W base sp held m 4 (([c0, c1, c2, c3, c4, c5, c6, c7, c8, c9, c10].drop 10).take (Try.prog.cellsOf 4)) = some y5 := hf 5 _ rfl
  simp only [cells4, cells3, cells26, cells28] at h0 h1 h2 h3 h4 h5
  obtain ⟨a0, e0, _, w0⟩ := DataW.trod_int Try.underlying26 h0
  obtain ⟨a1, e1, _, w1⟩ := DataW.trod_int Try.underlying3 h1
  obtain ⟨a2, e2, _, w2⟩ := DataW.trod_int Try.underlying26 h2
  obtain ⟨k, e3⟩ := attr_open h3
  obtain ⟨a4, e4, _⟩ := DataW.trod_bool Try.underlying4 h4
  obtain ⟨a5, e5, _⟩ := DataW.trod_bool Try.underlying4 h5
  simp at e0 e1 e2 e3 e4 e5
  obtain ⟨g0, g1, g2, g3, g4, g5⟩ := e3
  subst e0 e1 e2 g0 g1 g2 g3 g4 g5 e4 e5
  exact ⟨⟨a0, a1, a2, k, a4, a5⟩, rfl, wf_u64 w0, wf_i64 w1, wf_u64 w2⟩
theorem choose_list {α : Type} {P : Nat → α → Prop} (n : Nat) (h : ∀ i, i < n → ∃ x, P i x) : ∃ xs : List α, xs.length = n ∧ ∀ i x, xs[i]? = some x → P i x := by
  induction n with
  | zero => exact ⟨[], rfl, by simp⟩
  | succ n ih =>
    obtain ⟨xs, hl, hx⟩ := ih (fun i hi => h i (by omega))
    obtain ⟨y, hy⟩ := h n (by omega)
    refine ⟨xs ++ [y], by simp [hl], fun i x hix => ?_⟩
    by_cases hi : i < xs.length
    · rw [List.getElem?_append_left hi] at hix
      exact hx i x hix
    · have : i < (xs ++ [y]).length := (List.getElem?_eq_some_iff.1 hix).1
      rw [List.length_append, List.length_singleton] at this
      obtain rfl : i = n := by omega
      rw [List.getElem?_append_right (by omega), show i - xs.length = 0 by omega] at hix
      cases hix
      exact hy
set_option maxRecDepth 100000 in
theorem open_entries {v : Value} {d : DataW H} {p : List MemPlace} (hval : Value.okWide Try.prog W .any 0 22 v) (h : DataW.Trod enc Try.prog W 0 (fun _ => true) true 22 v d p) :
    ∃ (A : Option Addr) (n c : Nat) (xs : List S32), v = .slice A xs.length c ∧ xs.length ≤ c ∧ Kd.C k32 W A xs.length xs ∧ ∀ x ∈ xs, Ok32 x := by
  obtain ⟨a0, len, cap, rfl⟩ := okWide_slice Try.underlying22 hval
  obtain ⟨fuel, hf⟩ := h
  rcases open_slice Try.underlying22 hf with ⟨hcs, _⟩ | ⟨a, len', cap', m, n, D, Pl, hcs, hb, hl, hm, hmm, hx, hi⟩
  · simp [Value.cells] at hcs
    obtain ⟨rfl, rfl, rfl⟩ := hcs
    exact ⟨none, 0, 0, [], rfl, by simp, ⟨rfl, by simp, fun h => absurd h (by simp)⟩, by simp⟩
  · simp [Value.cells] at hcs
    obtain ⟨rfl, rfl, rfl⟩ := hcs
    have hlm : len ≤ m := by rw [hmm]; simp; omega
    obtain ⟨xs, hxl, hxs⟩ := choose_list (P := fun i (k : S32) => (∀ j u, [Value.int .i64 k.f0, .int .i64 k.f1, .int .u64 k.f2, .int .u64 k.f3, .bool k.f4.f0, .bool k.f4.f1, .bool k.f4.f2, .bool k.f4.f3, .bool k.f4.f4, .bool k.f4.f5, .bool k.f5][j]? = some u → W.cell? (a.add (i * 11 + j)) = some u) ∧ Ok32 k) len (fun i him => by
      obtain ⟨cs', h1, h2⟩ := hi i (by omega)
      obtain ⟨k, rfl, hk⟩ := entry_open h2
      rw [cells32] at h1
      obtain ⟨_, hlen, hat⟩ := World.cells?_some h1
      refine ⟨k, fun j u hu => ?_, hk⟩
      have hj : j < 11 := by
        have := (List.getElem?_eq_some_iff.1 hu).1
        simpa using this
      have := hat j hj
      rw [Go.Deep.add_add] at this
      rw [this, hu])
    refine ⟨some a, 0, cap, xs, by rw [hxl], by omega, ⟨rfl, by unfold maxLen at hm; omega, fun _ => ⟨a, rfl, fun j k hj => ?_⟩⟩, fun k hk => ?_⟩
    · exact ⟨_, rfl, k32_mk W k, (hxs j k hj).1⟩
    · obtain ⟨j, hj, rfl⟩ := List.getElem_of_mem hk
      exact (hxs j _ (List.getElem?_eq_getElem hj)).2
set_option maxRecDepth 100000 in
theorem open_pages {v : Value} {d : DataW H} {p : List MemPlace} (hval : Value.okWide Try.prog W .any 0 23 v) (h : DataW.Trod enc Try.prog W 0 (fun _ => true) true 23 v d p) :
    ∃ (A : Option Addr) (n c : Nat) (xs : List S30), v = .slice A xs.length c ∧ xs.length ≤ c ∧ Kd.C k30 W A xs.length xs ∧ ∀ x ∈ xs, Ok30 x := by
  obtain ⟨a0, len, cap, rfl⟩ := okWide_slice Try.underlying23 hval
  obtain ⟨fuel, hf⟩ := h
  rcases open_slice Try.underlying23 hf with ⟨hcs, _⟩ | ⟨a, len', cap', m, n, D, Pl, hcs, hb, hl, hm, hmm, hx, hi⟩
  · simp [Value.cells] at hcs
    obtain ⟨rfl, rfl, rfl⟩ := hcs
    exact ⟨none, 0, 0, [], rfl, by simp, ⟨rfl, by simp, fun h => absurd h (by simp)⟩, by simp⟩
  · simp [Value.cells] at hcs
    obtain ⟨rfl, rfl, rfl⟩ := hcs
    have hlm : len ≤ m := by rw [hmm]; simp; omega
    obtain ⟨xs, hxl, hxs⟩ := choose_list (P := fun i (k : S30) => (∀ j u, [Value.int .u64 k.f0, .int .i64 k.f1, .int .u64 k.f2, .bool k.f3.f0, .bool k.f3.f1, .bool k.f3.f2, .bool k.f3.f3, .bool k.f3.f4, .bool k.f3.f5, .bool k.f4, .bool k.f5][j]? = some u → W.cell? (a.add (i * 11 + j)) = some u) ∧ Ok30 k) len (fun i him => by
      obtain ⟨cs', h1, h2⟩ := hi i (by omega)
      obtain ⟨k, rfl, hk⟩ := page_open h2
      rw [cells30] at h1
      obtain ⟨_, hlen, hat⟩ := World.cells?_some h1
      refine ⟨k, fun j u hu => ?_, hk⟩
      have hj : j < 11 := by
        have := (List.getElem?_eq_some_iff.1 hu).1
        simpa using this
      have := hat j hj
      rw [Go.Deep.add_add] at this
      rw [this, hu])
    refine ⟨some a, 0, cap, xs, by rw [hxl], by omega, ⟨rfl, by unfold maxLen at hm; omega, fun _ => ⟨a, rfl, fun j k hj => ?_⟩⟩, fun k hk => ?_⟩
    · exact ⟨_, rfl, k30_mk W k, (hxs j k hj).1⟩
    · obtain ⟨j, hj, rfl⟩ := List.getElem_of_mem hk
      exact (hxs j _ (List.getElem?_eq_getElem hj)).2

end
end Go.Proofs.Ytcbnmmkmgpbfiaa.OpenE

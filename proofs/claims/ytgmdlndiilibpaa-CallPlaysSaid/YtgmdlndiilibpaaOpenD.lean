/- A parameter of deeds (lookasidelaw15.Deed), opened. -/
import Derived.Test.YtgmdlndiilibpaaPlaysW
namespace Go.Proofs.Ytgmdlndiilibpaa.OpenD
open Go.WideMaps Go.Joins Go.ChangeShapes Go.WideShapes Go.RowKit Go.Deep Go.Proofs.YtgmdlndiilibpaaW.PrintWords Go.Proofs.Ytgmdlndiilibpaa.PC Go.Proofs.Ytgmdlndiilibpaa.MsO Go.Proofs.Ytgmdlndiilibpaa.Args2
set_option linter.unusedVariables false
theorem cells83 : Try.prog.cellsOf 83 = 6 := by kernel_rfl
theorem cells36 : Try.prog.cellsOf 36 = 1 := by kernel_rfl
theorem list6 {α : Type} {l : List α} (h : l.length = 6) : ∃ a b c d e f, l = [a, b, c, d, e, f] := by
  match l, h with
  | [a, b, c, d, e, f], _ => exact ⟨a, b, c, d, e, f, rfl⟩
section
variable {H : Type} {enc : TypeId × Value → H} {W : World}
set_option maxRecDepth 100000 in
theorem d_open {n : Nat} {cs : List Value} {x : DataW H × List MemPlace} (h : DataW.trod enc Try.prog W 0 (fun _ => true) true n 83 cs = some x) :
    ∃ (k : S83) (A : Option Addr) (c : Nat), cs = [.int .i64 k.f0, .int .i64 k.f1, .int .i64 k.m.f0, .int .i64 k.m.f1, .int .u64 k.m.f2, .slice A k.ts.length c] ∧ k.ts.length ≤ c ∧ Kd.C (Kd.int .i64) W A k.ts.length k.ts := by
  obtain ⟨y0, y1, y2, y3, m, rfl, hl, h0, h1, h2, h3⟩ := trod_struct4 Try.underlying83 h
  rw [cells83] at hl
  obtain ⟨c0, c1, c2, c3, c4, c5, rfl⟩ := list6 hl
  rw [cells3] at h0 h1
  rw [cells35] at h2
  rw [cells36] at h3
  obtain ⟨a, e0, _, w0⟩ := DataW.trod_int Try.underlying3 h0
  obtain ⟨b, e1, _, w1⟩ := DataW.trod_int Try.underlying3 h1
  obtain ⟨k, e2, _⟩ := m_open h2
  obtain ⟨A, c, xs, e3, hc, hC, _⟩ := il_open h3
  simp at e0 e1 e2 e3
  obtain ⟨rfl, rfl, rfl⟩ := e2
  subst e0 e1 e3
  exact ⟨⟨a, b, k, xs⟩, A, c, rfl, hc, hC⟩
instance : Inhabited S83 := ⟨z83⟩
set_option maxRecDepth 100000 in
theorem open_ds {v : Value} {d : DataW H} {p : List MemPlace} (hval : Value.okWide Try.prog W .any 0 78 v) (h : DataW.Trod enc Try.prog W 0 (fun _ => true) true 78 v d p) :
    ∃ (A : Option Addr) (c : Nat) (xs : List S83), v = .slice A xs.length c ∧ xs.length ≤ c ∧ Kd.C k83 W A xs.length xs := by
  obtain ⟨a0, len, cap, rfl⟩ := okWide_slice Try.underlying78 hval
  obtain ⟨fuel, hf⟩ := h
  rcases open_slice Try.underlying78 hf with ⟨hcs, _⟩ | ⟨a, len', cap', m, n, D, Pl, hcs, hb, hl, hm, hmm, hx, hi⟩
  · simp [Value.cells] at hcs
    obtain ⟨rfl, rfl, rfl⟩ := hcs
    exact ⟨none, 0, [], rfl, by simp, ⟨rfl, by simp, fun h => absurd h (by simp)⟩⟩
  · simp [Value.cells] at hcs
    obtain ⟨rfl, rfl, rfl⟩ := hcs
    have hlm : len ≤ m := by rw [hmm]; simp; omega
    obtain ⟨xs, hxl, hxs⟩ := choose_list (P := fun i (k : S83) => ∃ (A : Option Addr) (c : Nat), (∀ j u, [Value.int .i64 k.f0, .int .i64 k.f1, .int .i64 k.m.f0, .int .i64 k.m.f1, .int .u64 k.m.f2, .slice A k.ts.length c][j]? = some u → W.cell? (a.add (i * 6 + j)) = some u) ∧ k.ts.length ≤ c ∧ Kd.C (Kd.int .i64) W A k.ts.length k.ts) len (fun i him => by
      obtain ⟨cs', h1, h2⟩ := hi i (by omega)
      obtain ⟨k, A, c, rfl, hc, hC⟩ := d_open h2
      rw [cells83] at h1
      obtain ⟨_, hlen, hat⟩ := World.cells?_some h1
      refine ⟨k, A, c, fun j u hu => ?_, hc, hC⟩
      have hj : j < 6 := by
        have := (List.getElem?_eq_some_iff.1 hu).1
        simpa using this
      have := hat j hj
      rw [Go.Deep.add_add] at this
      rw [this, hu])
    refine ⟨some a, cap, xs, by rw [hxl], by omega, ⟨rfl, by unfold maxLen at hm; omega, fun _ => ⟨a, rfl, fun j k hj => ?_⟩⟩⟩
    obtain ⟨A, c, hcells, hc, hC⟩ := hxs j k hj
    exact ⟨_, rfl, k83_mk W k hc hC, hcells⟩
end
end Go.Proofs.Ytgmdlndiilibpaa.OpenD

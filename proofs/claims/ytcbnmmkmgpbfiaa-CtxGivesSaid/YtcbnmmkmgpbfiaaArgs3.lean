/- Parameters of laws, opened: a slice of numbers. -/
import Derived.Test.YtcbnmmkmgpbfiaaCtxM
import Derived.WideKeyArr2
import Derived.Laws.IdiomArrays
import Derived.Lib.SmallJoins
namespace Go.Proofs.Ytcbnmmkmgpbfiaa.Args3
open Go.WideMaps Go.Joins Go.ChangeShapes Go.WideShapes Go.RowKit Go.Deep Go.Proofs.YtcbnmmkmgpbfiaaW.PrintWords
set_option linter.unusedVariables false
theorem cells3 : Try.prog.cellsOf 3 = 1 := by kernel_rfl
section
variable {H : Type} {enc : TypeId × Value → H} {W : World}
theorem wf64 {n : Int} (h : (Lit.int .i64 n).wf = true) : -2 ^ 63 ≤ n ∧ n < 2 ^ 63 := by
  have := bounds_i64 h
  omega
set_option maxRecDepth 100000 in
theorem il_open {n : Nat} {cs : List Value} {x : DataW H × List MemPlace} (h : DataW.trod enc Try.prog W 0 (fun _ => true) true n 43 cs = some x) :
    ∃ (A : Option Addr) (c : Nat) (xs : List Int), cs = [.slice A xs.length c] ∧ xs.length ≤ c ∧ Kd.C (Kd.int .i64) W A xs.length xs ∧ ∀ x ∈ xs, -2 ^ 63 ≤ x ∧ x < 2 ^ 63 := by
  rcases open_ints Try.underlying43 Try.underlying3 cells3 h with ⟨rfl, _⟩ | ⟨a, len, cap, zs, rfl, _, hl, hm, hz, _, hc, hw⟩
  · exact ⟨none, 0, [], rfl, by simp, ⟨rfl, by simp, fun h => absurd h (by simp)⟩, by simp⟩
  · simp only [if_true] at hz
    have hlen : (zs.take len).length = len := by rw [List.length_take]; omega
    refine ⟨some a, cap, zs.take len, by rw [hlen], by omega, ⟨rfl, by unfold maxLen at hm; omega, fun _ => ⟨a, rfl, fun j k hj => ⟨[.int .i64 k], rfl, rfl, fun q u hu => ?_⟩⟩⟩, fun k hk => ?_⟩
    · rw [List.getElem?_take] at hj
      split at hj
      · match q, hu with
        | 0, hu =>
          simp at hu
          subst hu
          show W.cell? (a.add (j * 1 + 0)) = _
          rw [Nat.mul_one, Nat.add_zero, hc j (List.getElem?_eq_some_iff.1 hj).1, List.getD_eq_getElem?_getD, hj]
          rfl
        | q + 1, hu => simp at hu
      · cases hj
    · exact wf64 (hw k (List.mem_of_mem_take hk))
set_option maxRecDepth 100000 in
theorem open_il {v : Value} {d : DataW H} {p : List MemPlace} (hval : Value.okWide Try.prog W .any 0 43 v) (h : DataW.Trod enc Try.prog W 0 (fun _ => true) true 43 v d p) :
    ∃ (A : Option Addr) (c : Nat) (xs : List Int), v = .slice A xs.length c ∧ xs.length ≤ c ∧ Kd.C (Kd.int .i64) W A xs.length xs ∧ ∀ x ∈ xs, -2 ^ 63 ≤ x ∧ x < 2 ^ 63 := by
  obtain ⟨a0, len, cap, rfl⟩ := okWide_slice Try.underlying43 hval
  obtain ⟨fuel, hf⟩ := h
  obtain ⟨A, c, xs, h1, h2⟩ := il_open hf
  simp [Value.cells] at h1
  obtain ⟨rfl, rfl, rfl⟩ := h1
  exact ⟨_, _, xs, rfl, h2⟩
theorem at_int {A : Option Addr} {xs : List Int} (hC : Kd.C (Kd.int .i64) W A xs.length xs) (i : Nat) (hi : i < xs.length) : ∃ ad, A = some ad ∧ W.cell? (ad.add i) = some (.int .i64 xs[i]) := by
  obtain ⟨_, _, h3⟩ := hC
  obtain ⟨ad, rfl, h4⟩ := h3 (by omega)
  obtain ⟨cs, h5, h6, h7⟩ := h4 i _ (List.getElem?_eq_getElem hi)
  have h6' : cs = [.int .i64 xs[i]] := h6
  subst h6'
  have := h7 0 _ rfl
  refine ⟨ad, rfl, ?_⟩
  have e : i * (Kd.int .i64).sz + 0 = i := Nat.mul_one i
  rw [e] at this
  exact this
end
end Go.Proofs.Ytcbnmmkmgpbfiaa.Args3

/- Parameters of laws, opened: a slice of numbers, an array of four bools, a call (lookasideref15.M). -/
import Derived.Test.YtgmdlndiilibpaaCallO
import Derived.WideKeyArr2
import Derived.Laws.IdiomArrays
import Derived.Lib.SmallJoins
namespace Go.Proofs.Ytgmdlndiilibpaa.Args2
open Go.WideMaps Go.Joins Go.ChangeShapes Go.WideShapes Go.RowKit Go.Deep Go.Proofs.YtgmdlndiilibpaaW.PrintWords Go.Proofs.Ytgmdlndiilibpaa.PC Go.Proofs.Ytgmdlndiilibpaa.MsO
set_option linter.unusedVariables false
theorem rec36 : Try.prog.readableRec 36 = true := by kernel_rfl
theorem lt36 : 36 < Try.prog.types.size := of_decide_eq_true (by kernel_rfl)
theorem rec51 : Try.prog.readableRec 51 = true := by kernel_rfl
theorem lt51 : 51 < Try.prog.types.size := of_decide_eq_true (by kernel_rfl)
theorem rec35 : Try.prog.readableRec 35 = true := by kernel_rfl
theorem lt35 : 35 < Try.prog.types.size := of_decide_eq_true (by kernel_rfl)
theorem rec3 : Try.prog.readableRec 3 = true := by kernel_rfl
theorem lt3 : 3 < Try.prog.types.size := of_decide_eq_true (by kernel_rfl)
theorem cells4 : Try.prog.cellsOf 4 = 1 := by kernel_rfl
theorem cells51 : Try.prog.cellsOf 51 = 4 := by kernel_rfl
section
variable {H : Type} {enc : TypeId × Value → H} {W : World}
theorem wf64 {n : Int} (h : (Lit.int .i64 n).wf = true) : -2 ^ 63 ≤ n ∧ n < 2 ^ 63 := by
  have := bounds_i64 h
  omega
theorem wfu64 {n : Int} (h : (Lit.int .u64 n).wf = true) : 0 ≤ n ∧ n < 2 ^ 64 := by
  have := bounds_u64 h
  omega
set_option maxRecDepth 100000 in
theorem il_open {n : Nat} {cs : List Value} {x : DataW H × List MemPlace} (h : DataW.trod enc Try.prog W 0 (fun _ => true) true n 36 cs = some x) :
    ∃ (A : Option Addr) (c : Nat) (xs : List Int), cs = [.slice A xs.length c] ∧ xs.length ≤ c ∧ Kd.C (Kd.int .i64) W A xs.length xs ∧ ∀ x ∈ xs, -2 ^ 63 ≤ x ∧ x < 2 ^ 63 := by
  rcases open_ints Try.underlying36 Try.underlying3 cells3 h with ⟨rfl, _⟩ | ⟨a, len, cap, zs, rfl, _, hl, hm, hz, _, hc, hw⟩
  · exact ⟨none, 0, [], rfl, by simp, ⟨rfl, by simp, fun h => absurd h (by simp)⟩, by simp⟩
  · simp only [if_true] at hz
    have hlen : (zs.take len).length = len := by rw [List.length_take]; omega
    refine ⟨some a, cap, zs.take len, by rw [hlen], by omega, ⟨rfl, by unfold maxLen at hm; omega, fun _ => ⟨a, rfl, fun j k hj => ⟨[.int .i64 k], rfl, rfl, fun q u hu => ?_⟩⟩⟩, fun k hk => ?_⟩
    · rw [List.getElem?_take] at hj
      split at hj
      · match q, hu with
        | 0, hu =>
          simp at hu
          subst hu
          show W.cell? (a.add (j * 1 + 0)) = _
          rw [Nat.mul_one, Nat.add_zero, hc j (List.getElem?_eq_some_iff.1 hj).1, List.getD_eq_getElem?_getD, hj]
          rfl
        | q + 1, hu => simp at hu
      · cases hj
    · exact wf64 (hw k (List.mem_of_mem_take hk))
set_option maxRecDepth 100000 in
theorem open_il {v : Value} {d : DataW H} {p : List MemPlace} (hval : Value.okWide Try.prog W .any 0 36 v) (h : DataW.Trod enc Try.prog W 0 (fun _ => true) true 36 v d p) :
    ∃ (A : Option Addr) (c : Nat) (xs : List Int), v = .slice A xs.length c ∧ xs.length ≤ c ∧ Kd.C (Kd.int .i64) W A xs.length xs ∧ ∀ x ∈ xs, -2 ^ 63 ≤ x ∧ x < 2 ^ 63 := by
  obtain ⟨a0, len, cap, rfl⟩ := okWide_slice Try.underlying36 hval
  obtain ⟨fuel, hf⟩ := h
  obtain ⟨A, c, xs, h1, h2⟩ := il_open hf
  simp [Value.cells] at h1
  obtain ⟨rfl, rfl, rfl⟩ := h1
  exact ⟨_, _, xs, rfl, h2⟩
theorem arrkey : ArrKey Try.prog 51 4 4 := ⟨Try.underlying51, by kernel_rfl, by kernel_rfl, by kernel_rfl⟩
set_option maxRecDepth 100000 in
theorem open_arr4 {v : Value} {d : DataW H} {p : List MemPlace} (hval : Value.okWide Try.prog W .any 0 51 v) (h : DataW.Trod enc Try.prog W 0 (fun _ => true) true 51 v d p) :
    ∃ b0 b1 b2 b3 : Bool, v = .agg #[.bool b0, .bool b1, .bool b2, .bool b3] := by
  obtain ⟨xs, rfl, hs⟩ := Go.WideMaps.okWide_arr arrkey hval
  obtain ⟨fuel, hf⟩ := h
  obtain ⟨c0, c1, c2, c3, rfl⟩ : ∃ a b c d, xs = #[a, b, c, d] := by
    match xs, hs with
    | ⟨[a, b, c, d]⟩, _ => exact ⟨a, b, c, d, rfl⟩
  obtain ⟨y0, y1, y2, y3, n, _, h0, h1, h2, h3⟩ := trod_array4 Try.underlying51 cells4 hf
  obtain ⟨b0, e0, _⟩ := DataW.trod_bool Try.underlying4 h0
  obtain ⟨b1, e1, _⟩ := DataW.trod_bool Try.underlying4 h1
  obtain ⟨b2, e2, _⟩ := DataW.trod_bool Try.underlying4 h2
  obtain ⟨b3, e3, _⟩ := DataW.trod_bool Try.underlying4 h3
  simp at e0 e1 e2 e3
  subst e0 e1 e2 e3
  exact ⟨_, _, _, _, rfl⟩
set_option maxRecDepth 100000 in
theorem open_m {v : Value} {d : DataW H} {p : List MemPlace} (hval : Value.okWide Try.prog W .any 0 35 v) (h : DataW.Trod enc Try.prog W 0 (fun _ => true) true 35 v d p) :
    ∃ kd cx va : Int, v = .agg #[.int .i64 kd, .int .i64 cx, .int .u64 va] ∧ (-2 ^ 63 ≤ kd ∧ kd < 2 ^ 63) ∧ (-2 ^ 63 ≤ cx ∧ cx < 2 ^ 63) ∧ 0 ≤ va ∧ va < 2 ^ 64 := by
  obtain ⟨v0, v1, v2, y0, y1, y2, n, rfl, _, _, h0, h1, h2⟩ := open_agg3 Try.underlying35 (by kernel_rfl) cells35 hval h
  obtain ⟨a, e0, _, w0⟩ := DataW.trod_int Try.underlying3 h0
  obtain ⟨b, e1, _, w1⟩ := DataW.trod_int Try.underlying3 h1
  obtain ⟨c, e2, _, w2⟩ := DataW.trod_int Try.underlying22 h2
  simp at e0 e1 e2
  subst e0 e1 e2
  exact ⟨_, _, _, rfl, wf64 w0, wf64 w1, wfu64 w2⟩
end
end Go.Proofs.Ytgmdlndiilibpaa.Args2

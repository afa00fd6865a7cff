/- Calls as the document has them (lookasideref15.M): a parameter opened. Written by mkco.py. -/
import Derived.Test.YtgmdlndiilibpaaCallL
import Derived.Deep.Slices
import Derived.WalkKit
import Derived.ProofKit
import Derived.Deep.Strs
import Derived.ChangeSame
import Derived.Carry
namespace Go.Proofs.Ytgmdlndiilibpaa.PC
open Go.RowKit Go.Proofs.YtgmdlndiilibpaaW.PrintWords Go.Proofs.YtgmdlndiilibpaaW.PrintLast Go.Proofs.YtgmdlndiilibpaaW.PrintMore Go.Proofs.Ytgmdlndiilibpaa.Tab Go.Proofs.Ytgmdlndiilibpaa.CallK
attribute [local go_sem] max2_int min2_int max_two min_two max_three min_three max_four min_four   -- for this text's walks alone
set_option linter.unusedVariables false
set_option linter.unusedSimpArgs false
/-! #### struct type 35 -/
structure S35 where
  f0 : Int
  f1 : Int
  f2 : Int
def z35 : S35 := ⟨(0 : Int), (0 : Int), (0 : Int)⟩
def k35 : Kd S35 := Kd.iso (Kd.pair (Kd.int .i64) (Kd.pair (Kd.int .i64) (Kd.int .u64))) (fun x : S35 => (x.f0, x.f1, x.f2))
theorem k35_heap : Kd.Heap k35 := Kd.heap_iso _ (Kd.heap_pair (Kd.heap_int .i64) (Kd.heap_pair (Kd.heap_int .i64) (Kd.heap_int .u64)))
theorem k35_open {w : World} {x : S35} {cs : List Value} (h : k35.K w x cs) : cs = [.int .i64 x.f0, .int .i64 x.f1, .int .u64 x.f2] := by
  obtain ⟨_, _, rfl, rfl, ⟨_, _, rfl, rfl, rfl⟩⟩ := h
  exact rfl
theorem k35_openM {w : World} {base : Nat} {ok : Nat → Prop} {x : S35} {cs : List Value} (h : k35.M w base ok x cs) : cs = [.int .i64 x.f0, .int .i64 x.f1, .int .u64 x.f2] := by
  obtain ⟨_, _, rfl, rfl, ⟨_, _, rfl, rfl, rfl⟩⟩ := h
  exact rfl
theorem k35_mk (w : World) (x : S35)  : k35.K w x [.int .i64 x.f0, .int .i64 x.f1, .int .u64 x.f2] := ⟨[.int .i64 x.f0], [.int .i64 x.f1, .int .u64 x.f2], rfl, rfl, ⟨[.int .i64 x.f1], [.int .u64 x.f2], rfl, rfl, rfl⟩⟩
theorem k35_mkM (w : World) (base : Nat) (ok : Nat → Prop) (x : S35)  : k35.M w base ok x [.int .i64 x.f0, .int .i64 x.f1, .int .u64 x.f2] := ⟨[.int .i64 x.f0], [.int .i64 x.f1, .int .u64 x.f2], rfl, rfl, ⟨[.int .i64 x.f1], [.int .u64 x.f2], rfl, rfl, rfl⟩⟩
theorem k35_mkF (W : World) (ok : Nat → Prop) (x : S35) : Kd.FK k35 W ok x [.int .i64 x.f0, .int .i64 x.f1, .int .u64 x.f2] := fun W2 _ => k35_mk W2 x
def rd_T35 (xs : List S35) (i : Int) : S35 := xs.getD i.toNat z35
theorem at_T35 {w : World} {A : Option Addr} {n : Nat} {xs : List S35} (h : Kd.C k35 w A n xs) (i : Int) (h0 : 0 ≤ i) (h1 : i < n) : ∃ ad , A = some ad ∧ w.cell? (ad.add (i.toNat * 3)) = some (.int .i64 (rd_T35 xs i).f0) ∧ w.cell? ⟨(ad.add (i.toNat * 3)).block, (ad.add (i.toNat * 3)).off + 1, none⟩ = some (.int .i64 (rd_T35 xs i).f1) ∧ w.cell? ⟨(ad.add (i.toNat * 3)).block, (ad.add (i.toNat * 3)).off + 2, none⟩ = some (.int .u64 (rd_T35 xs i).f2) := by
  obtain ⟨ad, c, e, _, hK, hc0⟩ := Kd.C_get h z35 i h0 h1
  have hc : ∀ j u, c[j]? = some u → w.cell? (ad.add (i.toNat * 3 + j)) = some u := hc0
  obtain rfl := k35_open hK
  exact ⟨ad, e, hc 0 _ rfl, by rw [← add_field _ _ 1 (by omega)]; exact hc 1 _ rfl, by rw [← add_field _ _ 2 (by omega)]; exact hc 2 _ rfl⟩

end Go.Proofs.Ytgmdlndiilibpaa.PC
set_option linter.unusedVariables false
namespace Go.Proofs.Ytgmdlndiilibpaa.MsO
open Go.ChangeShapes Go.WideShapes Go.RowKit Go.Deep Go.Proofs.Ytgmdlndiilibpaa.PC Go.Proofs.YtgmdlndiilibpaaW.PrintWords
theorem cells35 : Try.prog.cellsOf 35 = 3 := by kernel_rfl
theorem cells3 : Try.prog.cellsOf 3 = 1 := by kernel_rfl
theorem cells22 : Try.prog.cellsOf 22 = 1 := by kernel_rfl
theorem laid : laidOutB Try.prog = true := by kernel_rfl
theorem rec55 : Try.prog.readableRec 55 = true := by kernel_rfl
theorem lt55 : 55 < Try.prog.types.size := of_decide_eq_true (by kernel_rfl)
section
variable {H : Type} {enc : TypeId × Value → H} {W : World}
theorem list3 {α : Type} {l : List α} (h : l.length = 3) : ∃ a b c, l = [a, b, c] := by
  match l, h with
  | [a, b, c], _ => exact ⟨a, b, c, rfl⟩

set_option maxRecDepth 100000 in
theorem m_open {n : Nat} {cs : List Value} {x : DataW H × List MemPlace} {base : Nat} {sp : Nat → Bool} {held : Bool} (h : DataW.trod enc Try.prog W base sp held n 35 cs = some x) :
    ∃ k : S35, cs = [.int .i64 k.f0, .int .i64 k.f1, .int .u64 k.f2] ∧ True := by
  obtain ⟨y0, y1, y2, m, rfl, hl, h0, h1, h2⟩ := trod_struct3 Try.underlying35 h
  rw [cells35] at hl
  obtain ⟨c0, c1, c2, rfl⟩ := list3 hl
  rw [cells3] at h0 h1
  rw [cells22] at h2
  obtain ⟨a, e0, _, w0⟩ := DataW.trod_int Try.underlying3 h0
  obtain ⟨b, e1, _, w1⟩ := DataW.trod_int Try.underlying3 h1
  obtain ⟨c, e2, _, w2⟩ := DataW.trod_int Try.underlying22 h2
  simp at e0 e1 e2
  subst e0 e1 e2
  exact ⟨⟨a, b, c⟩, rfl, trivial⟩
theorem choose_list {α : Type} [Inhabited α] {P : Nat → α → Prop} (n : Nat) (h : ∀ i, i < n → ∃ x, P i x) : ∃ xs : List α, xs.length = n ∧ ∀ i x, xs[i]? = some x → P i x := by
  induction n with
  | zero => exact ⟨[], rfl, by simp⟩
  | succ n ih =>
    obtain ⟨xs, hl, hx⟩ := ih (fun i hi => h i (by omega))
    obtain ⟨y, hy⟩ := h n (by omega)
    refine ⟨xs ++ [y], by simp [hl], fun i x hix => ?_⟩
    by_cases hi : i < xs.length
    · rw [List.getElem?_append_left hi] at hix
      exact hx i x hix
    · have : i < (xs ++ [y]).length := (List.getElem?_eq_some_iff.1 hix).1
      rw [List.length_append, List.length_singleton] at this
      obtain rfl : i = n := by omega
      rw [List.getElem?_append_right (by omega), show i - xs.length = 0 by omega] at hix
      cases hix
      exact hy
instance : Inhabited S35 := ⟨z35⟩
set_option maxRecDepth 100000 in
theorem open_ms {v : Value} {d : DataW H} {p : List MemPlace} (hval : Value.okWide Try.prog W .any 0 55 v) (h : DataW.Trod enc Try.prog W 0 (fun _ => true) true 55 v d p) :
    ∃ (A : Option Addr) (n c : Nat) (xs : List S35), v = .slice A xs.length c ∧ xs.length ≤ c ∧ Kd.C k35 W A xs.length xs ∧ ∀ x ∈ xs, True := by
  obtain ⟨a0, len, cap, rfl⟩ := okWide_slice Try.underlying55 hval
  obtain ⟨fuel, hf⟩ := h
  rcases open_slice Try.underlying55 hf with ⟨hcs, _⟩ | ⟨a, len', cap', m, n, D, Pl, hcs, hb, hl, hm, hmm, hx, hi⟩
  · simp [Value.cells] at hcs
    obtain ⟨rfl, rfl, rfl⟩ := hcs
    exact ⟨none, 0, 0, [], rfl, by simp, ⟨rfl, by simp, fun h => absurd h (by simp)⟩, by simp⟩
  · simp [Value.cells] at hcs
    obtain ⟨rfl, rfl, rfl⟩ := hcs
    have hlm : len ≤ m := by rw [hmm]; simp; omega
    obtain ⟨xs, hxl, hxs⟩ := choose_list (P := fun i (k : S35) => (∀ j u, [Value.int .i64 k.f0, .int .i64 k.f1, .int .u64 k.f2][j]? = some u → W.cell? (a.add (i * 3 + j)) = some u) ∧ True) len (fun i him => by
      obtain ⟨cs', h1, h2⟩ := hi i (by omega)
      obtain ⟨k, rfl, hk⟩ := m_open h2
      rw [cells35] at h1
      obtain ⟨_, hlen, hat⟩ := World.cells?_some h1
      refine ⟨k, fun j u hu => ?_, hk⟩
      have hj : j < 3 := by
        have := (List.getElem?_eq_some_iff.1 hu).1
        simpa using this
      have := hat j hj
      rw [Go.Deep.add_add] at this
      rw [this, hu])
    refine ⟨some a, 0, cap, xs, by rw [hxl], by omega, ⟨rfl, by unfold maxLen at hm; omega, fun _ => ⟨a, rfl, fun j k hj => ?_⟩⟩, fun k hk => ?_⟩
    · exact ⟨_, rfl, k35_mk W k, (hxs j k hj).1⟩
    · obtain ⟨j, hj, rfl⟩ := List.getElem_of_mem hk
      exact (hxs j _ (List.getElem?_eq_getElem hj)).2
end
end Go.Proofs.Ytgmdlndiilibpaa.MsO

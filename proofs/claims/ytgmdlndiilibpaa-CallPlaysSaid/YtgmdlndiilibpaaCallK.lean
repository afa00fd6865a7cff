/- Queues of calls (layer 15): slices that may begin inside their block; how they lie, and what append, [1:] and reading do. -/
import Derived.Test.YtgmdlndiilibpaaWMore
import Derived.ArgAppend
set_option linter.unusedVariables false
set_option linter.unusedSimpArgs false
namespace Go.Proofs.Ytgmdlndiilibpaa.CallK
open Go.RowKit Go.Proofs.YtgmdlndiilibpaaW.PrintWords
/-- A call that waits: what, and its number. -/
abbrev Sn := Value × Int
def row : List Sn → List Value
  | [] => []
  | x :: l => x.1 :: .int .i64 x.2 :: row l
theorem row_length : ∀ l : List Sn, (row l).length = l.length * 2
  | [] => rfl
  | x :: l => by simp [row, row_length l]; omega
theorem row_append : ∀ a b : List Sn, row (a ++ b) = row a ++ row b
  | [], b => rfl
  | x :: a, b => by simp [row, row_append a b]
/-- The block that an append to it may write. -/
def blk : Value → Option Nat
  | .slice (some a) _ (_ + 1) => some a.block
  | _ => none
/-- A queue: its slice and what it holds. -/
def QV (w : World) (base : Nat) (v : Value) (l : List Sn) : Prop :=
  (∃ A, v = .slice A 0 0 ∧ l = []) ∨ ∃ g off cap cells, v = .slice (some ⟨g, off, none⟩) l.length (cap + 1) ∧ l.length ≤ cap + 1 ∧ cap + 1 ≤ maxLen ∧ base ≤ g ∧ w.heap[g]? = some (.cells cells 110 (0, 0)) ∧ off + (cap + 1) * 2 ≤ cells.size ∧ ∀ j u, (row l)[j]? = some u → cells[off + j]? = some u
theorem QV.form {w : World} {base : Nat} {v : Value} {l : List Sn} (h : QV w base v l) : ∃ A c, v = .slice A l.length c ∧ l.length ≤ c := by
  rcases h with ⟨A, rfl, rfl⟩ | ⟨g, off, cap, cells, rfl, h1, _⟩
  · exact ⟨A, 0, rfl, Nat.le_refl _⟩
  · exact ⟨_, _, rfl, h1⟩
theorem QV.nil (w : World) (base : Nat) : QV w base (.slice none 0 0) [] := .inl ⟨none, rfl, rfl⟩
theorem QV.step {w w' : World} {base : Nat} {v : Value} {l : List Sn} (h : QV w base v l) (hk : ∀ g, blk v = some g → w'.heap[g]? = w.heap[g]?) : QV w' base v l := by
  rcases h with h | ⟨g, off, cap, cells, rfl, h1, h2, h3, h4, h5, h6⟩
  · exact .inl h
  · exact .inr ⟨g, off, cap, cells, rfl, h1, h2, h3, (hk g rfl).trans h4, h5, h6⟩
theorem QV.lt {w : World} {base : Nat} {v : Value} {l : List Sn} (h : QV w base v l) : ∀ g, blk v = some g → base ≤ g ∧ g < w.heap.size ∧ ∃ cells, w.heap[g]? = some (.cells cells 110 (0, 0)) := by
  intro g hg
  rcases h with ⟨A, rfl, rfl⟩ | ⟨g', off, cap, cells, rfl, h1, h2, h3, h4, h5, h6⟩
  · cases A <;> cases hg
  · obtain rfl : g' = g := Option.some.inj hg
    exact ⟨h3, (Array.getElem?_eq_some_iff.1 h4).1, _, h4⟩
/-- The first one: its cells. -/
theorem QV.head {w : World} {base : Nat} {v : Value} {x : Sn} {l : List Sn} (h : QV w base v (x :: l)) : ∃ g off cap, v = .slice (some ⟨g, off, none⟩) (l.length + 1) (cap + 1) ∧ l.length ≤ cap ∧ w.cell? ⟨g, off, none⟩ = some x.1 ∧ w.cell? ⟨g, off + 1, none⟩ = some (.int .i64 x.2) := by
  rcases h with ⟨A, _, h⟩ | ⟨g, off, cap, cells, rfl, h1, h2, h3, h4, h5, h6⟩
  · cases h
  · refine ⟨g, off, cap, rfl, by simpa using h1, ?_, ?_⟩
    · rw [blk_cell h4]; exact h6 0 _ rfl
    · rw [blk_cell h4]; exact h6 1 _ rfl
/-- All but the first one. -/
theorem QV.tail {w : World} {base g off cap : Nat} {x : Sn} {l : List Sn} (h : QV w base (.slice (some ⟨g, off, none⟩) (l.length + 1) (cap + 1)) (x :: l)) (A : Option Addr) : QV w base (.slice (if cap = 0 then A else some ⟨g, off + 2, none⟩) l.length cap) l := by
  rcases h with ⟨A', h, _⟩ | ⟨g', off', cap', cells, h0, h1, h2, h3, h4, h5, h6⟩
  · injection h with _ h; cases h
  · injection h0 with h0 _ hc
    injection h0 with h0
    injection h0 with hg ho _
    obtain rfl : cap = cap' := by omega
    subst hg ho
    simp only [List.length_cons] at h1
    cases cap with
    | zero =>
      have hl : l = [] := List.eq_nil_of_length_eq_zero (by omega)
      subst hl
      exact .inl ⟨_, rfl, rfl⟩
    | succ c =>
      rw [if_neg (by omega)]
      refine .inr ⟨g, off + 2, c, cells, rfl, by omega, by omega, h3, h4, by omega, fun j u hj => ?_⟩
      rw [Nat.add_assoc, Nat.add_comm 2 j]
      exact h6 (j + 2) u hj
section
variable {P : Program}
/-- append(v, x). -/
theorem run_append (W : World) (base : Nat) (t ty : TypeId) (i0 : TypeInfo) (z : Value) (bytes : Nat) (ht : P.underlying t = some (.slice 110)) (hi : P.info? 110 = some i0) (hz0 : i0.zero = some z) (hz1 : i0.size = 2) (hz2 : i0.bytes = bytes) (hz : z.cells.size = 2) (hb0 : 0 < bytes)
    (v : Value) (l : List Sn) (x : Sn) (hx1 : x.1.oneCell' = true) (hq : QV W base v l) (hbase : base ≤ W.heap.size) (ad : Addr) (c0 : W.cell? ad = some x.1) (c1 : W.cell? (ad.add 1) = some (.int .i64 x.2)) (hl : (l.length + 1) * bytes ≤ 140737488355328) :
    ∃ v1 w1, (Builtin.append_ #[t, t] ty #[v, .slice (some ad) 1 1]).run P W = .ok v1 w1 ∧ QV w1 base v1 (l ++ [x]) ∧ W.grownBy w1 (blk v) ∧ (blk v1 = blk v ∨ ∃ b, blk v1 = some b ∧ W.heap.size ≤ b) := by
  have hlen : l.length + 1 ≤ 140737488355328 := Nat.le_trans (Nat.le_mul_of_pos_right _ hb0) hl
  have hnews : ∀ j u, ([x.1, .int .i64 x.2] : List Value)[j]? = some u → W.cell? (ad.add j) = some u := by
    intro j u hj
    match j, hj with
    | 0, hj => simp at hj; subst hj; rw [show ad.add 0 = ad by simp [Addr.add]]; exact c0
    | 1, hj => simp at hj; subst hj; exact c1
    | j + 2, hj => simp at hj
  have hone : ∀ u ∈ ([x.1, .int .i64 x.2] : List Value), u.oneCell' = true := by
    intro u hu
    simp at hu
    rcases hu with rfl | rfl
    · exact hx1
    · rfl
  have hgr : ∀ (b : Option Addr) (n cap : Nat), v = .slice b n cap → n = l.length → cap < n + 1 → (∀ a, b = some a → ∀ j u, (row l)[j]? = some u → W.cell? (a.add j) = some u) → (b = none → n = 0 ∧ cap = 0) →
      ∃ v1 w1, (Builtin.append_ #[t, t] ty #[v, .slice (some ad) 1 1]).run P W = .ok v1 w1 ∧ QV w1 base v1 (l ++ [x]) ∧ W.grownBy w1 (blk v) ∧ (blk v1 = blk v ∨ ∃ b, blk v1 = some b ∧ W.heap.size ≤ b) := by
    intro b n cap hv hn hcap hr hb
    have hrun : ∃ v1 w1, (Builtin.append_ #[t, t] ty #[v, .slice (some ad) 1 1]).run P W = .ok v1 w1 ∧ w1.ownsRow W.heap.size 110 2 v1 (n + 1) (row l ++ [x.1, .int .i64 x.2]) ∧ W.grownBy w1 none := by
      subst hv
      cases b with
      | some a => exact run_append_arg_grows (P := P) W t ty 110 i0 z 2 bytes ht hi hz0 hz1 hz2 hz (by omega) a n cap (row l) (by rw [row_length, hn]) (hr a rfl) ad 1 1 [x.1, .int .i64 x.2] rfl hnews hcap (by simp only [maxLen]; omega) (by rw [hn]; exact hl)
      | none =>
        obtain ⟨rfl, rfl⟩ := hb rfl
        have hl0 : l = [] := List.eq_nil_of_length_eq_zero hn.symm
        subst hl0
        obtain ⟨v', w', hrun, r1, r2, _⟩ := run_append_own (P := P) W W.heap.size t ty 110 i0 z 2 bytes ht hi hz0 hz1 hz2 hz (by omega) (.slice none 0 0) 0 [] (World.ownsRow_nil W _ 110 2) ad 1 1 [x.1, .int .i64 x.2] rfl hnews hone (by simp only [maxLen]; omega) (by simpa using hl) (Nat.le_refl _)
        exact ⟨v', w', hrun, r1, r2⟩
    obtain ⟨v1, w1, h1, ⟨h2, h3⟩, h4⟩ := hrun
    refine ⟨v1, w1, h1, ?_, ⟨h4.os, h4.tape, h4.output, h4.size, fun k hk _ => h4.block k hk (by simp)⟩, ?_⟩
    · rcases h3 with ⟨_, h3⟩ | ⟨g, cp, cur, rfl, g1, g2, g3, g4, g5, g6⟩
      · omega
      · obtain ⟨cp, rfl⟩ : ∃ m, cp = m + 1 := ⟨cp - 1, by omega⟩
        refine .inr ⟨g, 0, cp, cur, by rw [List.length_append, hn]; rfl, by rw [List.length_append]; simp; omega, g4, by omega, g2, by omega, fun j u hj => ?_⟩
        rw [row_append] at hj
        have hj2 : (row l ++ [x.1, .int .i64 x.2])[j]? = some u := hj
        rw [← g6, List.getElem?_take] at hj2
        split at hj2
        · rw [Nat.zero_add, ← Array.getElem?_toList]; exact hj2
        · cases hj2
    · rcases h3 with ⟨_, h3⟩ | ⟨g, cp, cur, rfl, g1, g2, g3, _⟩
      · omega
      · obtain ⟨cp, rfl⟩ : ∃ m, cp = m + 1 := ⟨cp - 1, by omega⟩
        exact .inr ⟨g, rfl, g1⟩
  rcases hq with ⟨A, rfl, rfl⟩ | ⟨g, off, cap, cells, rfl, h1, h2, h3, h4, h5, h6⟩
  · exact hgr A 0 0 rfl rfl (by omega) (fun a _ j u hj => by simp [row] at hj) (fun _ => ⟨rfl, rfl⟩)
  · by_cases hroom : l.length + 1 ≤ cap + 1
    · have hsz : off + l.length * 2 + 1 < cells.size := by omega
      have hrun := run_append_room_cells (P := P) W t ty 110 i0 ht hi g off l.length (cap + 1) ad 1 1 [x.1, .int .i64 x.2] (by rw [hz1]; rfl) hnews hone hroom
        (fun j hj => by
          rw [hz1, blk_cell h4]
          have : j < 2 := hj
          rw [Array.getElem?_eq_getElem (by omega)]; rfl)
        (fun j hj => by rw [hz1]; exact blk_frozen h4 _)
      rw [hz1] at hrun
      refine ⟨_, _, hrun, ?_, ?_, .inl rfl⟩
      · refine .inr ⟨g, off, cap, (cells.setIfInBounds (off + l.length * 2) x.1).setIfInBounds (off + l.length * 2 + 1) (.int .i64 x.2), by rw [List.length_append]; rfl, by rw [List.length_append]; simp; omega, h2, h3, blk_set (blk_set h4 _ _) _ _, by simpa using h5, fun j u hj => ?_⟩
        rw [row_append] at hj
        by_cases hj1 : j < (row l).length
        · rw [List.getElem?_append_left hj1] at hj
          rw [row_length] at hj1
          rw [Array.getElem?_setIfInBounds_ne (by omega), Array.getElem?_setIfInBounds_ne (by omega)]
          exact h6 j u hj
        · rw [List.getElem?_append_right (by omega)] at hj
          obtain ⟨d, rfl⟩ : ∃ d, j = (row l).length + d := ⟨j - (row l).length, by omega⟩
          rw [Nat.add_sub_cancel_left] at hj
          rw [row_length, ← Nat.add_assoc]
          match d, hj with
          | 0, hj =>
            rw [Array.getElem?_setIfInBounds_ne (by omega)]
            exact (Array.getElem?_setIfInBounds_self_of_lt (show off + l.length * 2 < cells.size by omega)).trans hj
          | 1, hj =>
            rw [Array.getElem?_setIfInBounds_self_of_lt (by simp; omega)]
            exact hj
          | d + 2, hj => simp [row] at hj
      · refine ⟨by simp [World.setCells, World.setCell], by simp [World.setCells, World.setCell], by simp [World.setCells, World.setCell], by simp [World.setCells, World.setCell], fun k hk hne => ?_⟩
        have hkg : k ≠ g := fun e => hne (by rw [e]; rfl)
        exact (Below.heap_setCell _ _ _ k hkg).trans (Below.heap_setCell _ _ _ k hkg)
    · refine hgr (some ⟨g, off, none⟩) l.length (cap + 1) rfl rfl (by omega) (fun a ha j u hj => ?_) (fun h => by cases h)
      obtain rfl := Option.some.inj ha
      rw [Addr.add_lit, blk_cell h4]
      exact h6 j u hj
end
end Go.Proofs.Ytgmdlndiilibpaa.CallK

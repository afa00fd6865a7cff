/- A pool of numbers (layer 14): the victim. -/
import Derived.Test.YtcbnmmkmgpbfiaaCtxI
import Derived.Test.YtcbnmmkmgpbfiaaRegIn
namespace Go.Proofs.Ytcbnmmkmgpbfiaa.PP
open Go.RowKit Go.Proofs.Ytcbnmmkmgpbfiaa.PX Go.Proofs.YtcbnmmkmgpbfiaaW.PrintWords Go.Proofs.YtcbnmmkmgpbfiaaW.PrintLast Go.Proofs.YtcbnmmkmgpbfiaaW.PrintMore
attribute [local go_sem] max2_int min2_int max_two min_two max_three min_three max_four min_four   -- for this text's walks alone
set_option linter.unusedVariables false
set_option linter.unusedSimpArgs false
open Go.Shelf
attribute [local go_sem] Oper.semAt_some
theorem index_of (l : List Int) (a : Int) (hl : l.length ≤ 100000) : ∀ (k i : Nat), i ≤ l.length → l.length - i < k → (∀ j, j < i → l[j]? ≠ some a) → ∃ r : Int, slices_Index_int_int.l0 k l a (l.length : Int) (i : Int) = some r ∧ (r ≥ 0 ↔ a ∈ l)
  | 0, i, _, h, _ => by omega
  | k + 1, i, hi, hk, hn => by
    unfold slices_Index_int_int.l0
    by_cases hil : i < l.length
    · rw [if_pos (by omega), if_pos (by omega), if_pos (by omega)]
      have hrd : rd l (i : Int) = l[i] := by simp [rd, List.getD_eq_getElem?_getD, List.getElem?_eq_getElem hil]
      rw [hrd]
      by_cases he : a = l[i]
      · rw [if_pos he]
        exact ⟨i, rfl, ⟨fun _ => he ▸ List.getElem_mem hil, fun _ => by omega⟩⟩
      · rw [if_neg he, show wrap64 ((i : Int) + 1) = ((i + 1 : Nat) : Int) by unfold wrap64; omega]
        refine index_of l a hl k (i + 1) (by omega) (by omega) (fun j hj => ?_)
        rcases Nat.lt_succ_iff_lt_or_eq.1 hj with h | rfl
        · exact hn j h
        · rw [List.getElem?_eq_getElem hil]
          intro e
          exact he (Option.some.inj e).symm
    · rw [if_neg (by omega)]
      refine ⟨-1, rfl, ⟨fun h => absurd h (by decide), fun h => ?_⟩⟩
      obtain ⟨j, hj, e⟩ := List.getElem_of_mem h
      exact absurd (List.getElem?_eq_some_iff.2 ⟨hj, e⟩) (hn j (by omega))
theorem contains_f (l : List Int) (a : Int) (hl : l.length ≤ 100000) : slices_Contains_int_int.f (l.length + 1) l a = some (decide (a ∈ l)) := by
  obtain ⟨r, h1, h2⟩ := index_of l a hl (l.length + 1) 0 (Nat.zero_le _) (by omega) (fun j hj => by omega)
  unfold slices_Contains_int_int.f slices_Index_int_int.f
  rw [show (0 : Int) = ((0 : Nat) : Int) by rfl, h1]
  simp only [Option.bind_some, decide_eq_decide.2 h2]
  exact congrArg some (decide_eq_decide.2 h2)
theorem contains_calls (A : Option Addr) (c : Nat) (l : List Int) (a : Int) (w : World) (hC : (Kd.int .i64).C w A l.length l) (hc : l.length ≤ c) (hl : l.length ≤ 100000) :
    Calls Try.prog 72 #[.slice A l.length c, .int .i64 a] w fun e w' => e = .returned (.bool (decide (a ∈ l))) ∧ Drawn0 w w' :=
  slices_Contains_int_int.calls (l.length + 1) A c l a _ w hC hc (contains_f l a hl)
/-- What round hands back, as a contract for callers. -/
theorem round_stops {base B bm : Nat} {vo : Value} {os : List Int} {f : Int → Option Int} {c : Nat} {hand rounds : Int} (n : Nat) (hn : 1 ≤ n) (Bn n₀ : Nat) (w : World) (hBn : Bn < n₀) (hn₀ : n₀ ≤ w.heap.size) (hl : os.length ≤ 10000) (hh : 1 ≤ hand ∧ hand ≤ 10000)
    (hc : w.cell? ⟨Bn, 0, none⟩ = some (.pointer (some ⟨B, 0, none⟩))) (hT : PA w base B bm vo os f c hand rounds) (hlt : ∀ k ∈ pid B bm vo, k < n₀) :
    SeqStopsK Fence.wide n Try.prog 90 #[.pointer (some ⟨Bn, 0, none⟩)] encI (Below n₀) (fun ys => ys = rot os.length hand) (fun pre => pre <+: rot os.length hand) os.length w := fun l J Jx W hW hJ _ hY h0 =>
  round1_in n hn l Bn n₀ J Jx hl hh (fun pre x W1 h1 h2 _ => hY pre x W1 h1 h2) (fun pre W' hw => hJ pre W' W'.drew none hw ⟨rfl, rfl, rfl, Nat.le_refl _, fun _ _ _ => rfl⟩ (fun r e => by cases e)) W ((hW.cell (p := ⟨Bn, 0, none⟩) (by exact Nat.lt_of_lt_of_le hBn hn₀)).trans hc) hBn (hT.below hW) hlt h0
/-- A number of the pool. -/
abbrev Num (os : List Int) : Type := {x : Int // 1 ≤ x ∧ x ≤ (os.length : Int)}
def nums (os : List Int) (l : List (Num os)) : List Int := l.map (fun x => x.1)
theorem nums_snoc {os : List Int} (p : List (Num os)) (x : Num os) : nums os (p ++ [x]) = nums os p ++ [x.1] := by simp [nums]
theorem round_stopsR {base B bm : Nat} {vo : Value} {os : List Int} {f : Int → Option Int} {c : Nat} {hand rounds : Int} (n : Nat) (hn : 1 ≤ n) (Bn n₀ : Nat) (w : World) (hBn : Bn < n₀) (hn₀ : n₀ ≤ w.heap.size) (hl : os.length ≤ 10000) (hh : 1 ≤ hand ∧ hand ≤ 10000)
    (hc : w.cell? ⟨Bn, 0, none⟩ = some (.pointer (some ⟨B, 0, none⟩))) (hT : PA w base B bm vo os f c hand rounds) (hlt : ∀ k ∈ pid B bm vo, k < n₀) :
    SeqStopsK Fence.wide n Try.prog 90 #[.pointer (some ⟨Bn, 0, none⟩)] (fun x : Num os => encI x.1) (Below n₀) (fun ys => nums os ys = rot os.length hand) (fun pre => nums os pre <+: rot os.length hand) os.length w := fun l J Jx W hW hJ _ hY h0 => by
  have h := round1_in n hn l Bn n₀ (fun pre W => ∃ p, nums os p = pre ∧ J p W) (fun pre W => ∃ p, nums os p = pre ∧ Jx p W) hl hh (fun pre x W1 h1 h2 h3 => by
    obtain ⟨p, rfl, hp⟩ := h1
    obtain ⟨fn, tmps, assign, body, hy, hR⟩ := hY p ⟨x, h3⟩ W1 hp (by simpa [nums] using h2)
    refine ⟨fn, tmps, assign, body, hy, hR.mono (fun e W' h => ?_)⟩
    rcases h with ⟨h1, h2, h4⟩ | ⟨h1, h2⟩
    · exact .inl ⟨h1, ⟨p ++ [⟨x, h3⟩], nums_snoc p ⟨x, h3⟩, h2⟩, h4⟩
    · exact .inr ⟨h1, ⟨p ++ [⟨x, h3⟩], nums_snoc p ⟨x, h3⟩, h2⟩⟩) (fun pre W' ⟨p, hp, hw⟩ => ⟨p, hp, hJ p W' W'.drew none hw ⟨rfl, rfl, rfl, Nat.le_refl _, fun _ _ _ => rfl⟩ (fun r e => by cases e)⟩) W ((hW.cell (p := ⟨Bn, 0, none⟩) (by exact Nat.lt_of_lt_of_le hBn hn₀)).trans hc) hBn (hT.below hW) hlt ⟨[], rfl, h0⟩
  refine h.mono (fun e W' hq => ⟨hq.1, ?_⟩)
  rcases hq.2 with ⟨ys, rfl, p, hp, hj⟩ | ⟨pre, h1, p, rfl, hj⟩
  · exact .inl ⟨p, hp, hj⟩
  · exact .inr ⟨p, h1, hj⟩
def vok (os avoid : List Int) (k : Int) : Bool := (ownerP os k).2 && !decide ((ownerP os k).1 ∈ avoid)
def VictimP (os avoid : List Int) (hand : Int) (w : World) (e : Ending) (w' : World) : Prop :=
  (match (rot os.length hand).find? (vok os avoid) with
  | some k => e = .returned (.tuple #[.int .i64 k, .int .i64 (ownerP os k).1, .int .i64 0])
  | none => e = .returned (.tuple #[.int .i64 0, .int .i64 0, .int .i64 8])) ∧ Below w.heap.size w w'

end Go.Proofs.Ytcbnmmkmgpbfiaa.PP

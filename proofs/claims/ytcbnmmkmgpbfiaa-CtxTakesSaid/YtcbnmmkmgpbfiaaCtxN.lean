/- A pool of numbers (layer 14): whose all numbers are; slices.Repeat. -/
import Derived.Test.YtcbnmmkmgpbfiaaCtxC
namespace Go.Proofs.Ytcbnmmkmgpbfiaa.PP
open Go.RowKit Go.Proofs.Ytcbnmmkmgpbfiaa.PX Go.Proofs.YtcbnmmkmgpbfiaaW.PrintWords Go.Proofs.YtcbnmmkmgpbfiaaW.PrintLast Go.Proofs.YtcbnmmkmgpbfiaaW.PrintMore
attribute [local go_sem] max2_int min2_int max_two min_two max_three min_three max_four min_four   -- for this text's walks alone
set_option linter.unusedVariables false
set_option linter.unusedSimpArgs false
section
variable {w w1 w' : World} {base B bm : Nat} {vo : Value} {os : List Int} {f : Int → Option Int} {c : Nat} {hand rounds : Int}
set_option maxHeartbeats 4000000 in
set_option maxRecDepth 100000 in
theorem owners_calls (h : PA w base B bm vo os f c hand rounds) (hl : os.length ≤ 100000) :
    Calls Try.prog 43 #[.pointer (some ⟨B, 0, none⟩)] w fun e w' => ∃ v', e = .returned v' ∧ (Kd.int .i64).R 3 w' w.heap.size (fun _ => True) v' os ∧ Below w.heap.size w w' := by
  have c0 := h.cell0
  obtain ⟨A, cap, rfl⟩ := h.form
  obtain ⟨_, _, hC⟩ := Kd.R_reads' h.hO
  clear h
  go_enter Try.func43, Try.ntmps43
  go_wp2_with fail
  refine (clone_calls w A cap os hC hl).mono ?_
  rintro e w2 ⟨v', rfl, hR, hB⟩
  go_wp2
  go_ret
  exact ⟨v', rfl, hR, hB⟩
/-- A row that is filled with -1 as far as k. -/
def fillL (n k : Nat) : List Value := List.replicate k (.int .i64 (-1)) ++ List.replicate (n - k) (.int .i64 0)
theorem fillL_length {n k : Nat} (h : k ≤ n) : (fillL n k).length = n := by simp [fillL]; omega
def Fills (w : World) (g n k : Nat) : Prop := w.heap[g]? = some (.cells (fillL n k).toArray 3 (0, 0))
theorem made_fill (n : Nat) : madeCells #[.int .i64 0] n = (fillL n 0).toArray := by
  apply Array.ext
  · simp [madeCells, fillL]
  · intro i h1 h2
    simp [madeCells, fillL, Nat.mod_one]
theorem fills_set {W : World} {g n k m : Nat} (h : Fills W g n k) (hk : k + m ≤ n) : Fills (W.setCells g k (List.replicate m (.int .i64 (-1)))) g n (k + m) := by
  obtain ⟨cur', h1, h2, h3⟩ := setCells_row (g := g) (e := 3) (List.replicate m (.int .i64 (-1))) k W _ h (by rw [List.size_toArray, fillL_length (by omega), List.length_replicate]; omega)
  unfold Fills
  rw [h1]
  have : cur' = (fillL n (k + m)).toArray := by
    apply Array.ext'
    rw [h3]
    simp only [fillL]
    rw [List.take_left' (by simp), List.drop_append]
    simp only [List.length_replicate, List.drop_replicate]
    rw [show k - (k + m) = 0 by omega, show k + m - k = m by omega, List.replicate_zero, List.nil_append, List.replicate_append_replicate, show n - k - m = n - (k + m) by omega]
  rw [this]
theorem fills_cell {W : World} {g n k j : Nat} (h : Fills W g n k) (hj : j < k) (hk : k ≤ n) : W.cell? ⟨g, j, none⟩ = some (.int .i64 (-1)) := by
  rw [cell_of_row W g _ _ 3 (0, 0) h]
  simp [fillL, List.getElem?_append, hj]
/- copy: behind what is filled, as much as is there and fits. -/
set_option maxRecDepth 100000 in
theorem fill_copy {W : World} {g n k : Nat} (h : Fills W g n k) (hk : k ≤ n) (ad : Addr) (l cs cd : Nat) (hs : ∀ j, j < min l (n - k) → W.cell? (ad.add j) = some (.int .i64 (-1))) (ty : TypeId) :
    (Builtin.copy_ #[43, 43] ty #[.slice (some ⟨g, k, none⟩) (n - k) cd, .slice (some ad) l cs]).run Try.prog W = .ok (goInt ((min l (n - k) : Nat) : Int)) (W.setCells g k (List.replicate (min l (n - k)) (.int .i64 (-1)))) := by
  have hinfo : (Try.prog.info? 3).map (·.size) = some 1 := by
    have := info3
    obtain ⟨i, hi, hh⟩ := Option.map_eq_some_iff.1 this
    rw [hi]; simp only [Prod.mk.injEq] at hh; simp [hh.2.1]
  have hr := run_copy_cells (P := Try.prog) W 43 43 ty 3 g k (n - k) cd ad l cs (List.replicate (min l (n - k)) (.int .i64 (-1))) Try.underlying43 hinfo (by simp)
    (fun j u hu => by
      rw [List.getElem?_replicate] at hu
      split at hu
      · injection hu with hu; rw [← hu]; exact hs j ‹_›
      · cases hu)
    (fun j hj => by
      rw [List.length_replicate] at hj
      rw [cell_of_row W g _ _ 3 (0, 0) h]
      simp [fillL_length hk]
      omega) (fun j _ => blk_frozen h _) (by intro u hu; rw [(List.mem_replicate.1 hu).2]; rfl)
  rw [List.length_replicate] at hr
  exact hr
end

end Go.Proofs.Ytcbnmmkmgpbfiaa.PP

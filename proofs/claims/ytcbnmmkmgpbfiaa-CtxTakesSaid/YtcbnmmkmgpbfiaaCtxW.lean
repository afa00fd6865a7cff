/- A pool of numbers (layer 14): a new pool. -/
import Derived.Test.YtcbnmmkmgpbfiaaCtxR
import Derived.WideMake
namespace Go.Proofs.Ytcbnmmkmgpbfiaa.PP
open Go.RowKit Go.Proofs.Ytcbnmmkmgpbfiaa.PX Go.Proofs.YtcbnmmkmgpbfiaaW.PrintWords Go.Proofs.YtcbnmmkmgpbfiaaW.PrintLast Go.Proofs.YtcbnmmkmgpbfiaaW.PrintMore
attribute [local go_sem] max2_int min2_int max_two min_two max_three min_three max_four min_four   -- for this text's walks alone
set_option linter.unusedVariables false
set_option linter.unusedSimpArgs false
def NewP (w : World) (N : Nat) (e : Ending) (w' : World) : Prop := ∃ B bm vo, e = .returned (.pointer (some ⟨B, 0, none⟩)) ∧ PA w' w.heap.size B bm vo (List.replicate N (-1)) (fun _ => none) 0 1 0 ∧ Below w.heap.size w w'
theorem new_end {w w3 : World} {N : Nat} {v' : Value} (hR : (Kd.int .i64).R 3 w3 (w.alloc (.cells #[.int .i64 (-1)] 3)).heap.size (fun _ => True) v' (List.replicate N (-1))) (hB : Below (w.alloc (.cells #[.int .i64 (-1)] 3)).heap.size (w.alloc (.cells #[.int .i64 (-1)] 3)) w3) :
    NewP w N (.returned (.pointer (some ⟨w3.heap.size + 1, 0, none⟩))) ((w3.alloc (.map #[] 0)).alloc (.cells #[v', .map (some w3.heap.size), .int .i64 1, .int .i64 0] 103)) := by
  have hs1 : (w.alloc (.cells #[.int .i64 (-1)] 3)).heap.size = w.heap.size + 1 := by simp
  have hs2 : (w3.alloc (.map #[] 0)).heap.size = w3.heap.size + 1 := by simp
  have hs := hB.size
  have hB0 : Below w.heap.size w w3 := ⟨hB.os, hB.tape, hB.output, by omega, fun k hk => (hB.block k (by omega)).trans (below_alloc (Below.refl w.heap.size w) _ |>.block k hk)⟩
  refine ⟨w3.heap.size + 1, w3.heap.size, v', rfl, ⟨by rw [← hs2]; exact blk_new _ _, ?_, ?_, ?_, ?_⟩, below_alloc (below_alloc hB0 _) _⟩
  · have h1 := Kd.R_mono (ok' := fun k => some k = v'.ownBlock) (Kd.R_tight rfl hR) (fun k hk => hk)
    exact Kd.R_alloc (Kd.R_alloc (Kd.R_lower h1 (by omega)) _) _
  · exact (PM.new w3).move (below_alloc (Below.refl (w3.alloc (.map #[] 0)).heap.size (w3.alloc (.map #[] 0))) _ |>.block _ (by omega))
  · omega
  · omega
set_option maxHeartbeats 4000000 in
set_option maxRecDepth 100000 in
theorem new_calls (w : World) (n : Int) (N : Nat) (hN : N ≤ 10) (hm : max n 0 = (N : Int)) :
    Calls Try.prog 30 #[.int .i64 n] w (NewP w N) := by
  by_cases h0 : n < 0
  · have hN0 : N = 0 := by omega
    subst hN0
    clear hm
    go_enter Try.func30, Try.ntmps30
    go_wp2_with fail
    refine (repeat_calls _ w.heap.size 0 (by omega) (by simp) ((blk_cell (blk_new w _) 0).trans rfl)).mono ?_
    rintro e w3 ⟨v', rfl, hR, hB⟩
    have HE := Aside0.mk (new_end hR hB)
    have hmk : (Instr.makeMap 101 none).run Try.prog w3 = .ok (.map (some w3.heap.size)) (w3.alloc (.map #[] 0)) := run_makeMap_plain (w := w3) 101
    obtain ⟨A, cc, rfl⟩ := Kd.R_slice hR
    clear hR hB
    go_wp2
    go_ret
    have hfin := HE.out
    rw [List.length_replicate] at hfin
    exact hfin
  · have hnN : n = (N : Int) := by omega
    subst hnN
    clear hm h0
    have hb1 : decide ((0 : Int) > (N : Int)) = false := by simp
    have hb2 : decide ((8191 : Int) < (N : Int)) = false := by simp; omega
    go_enter Try.func30, Try.ntmps30
    go_wp2_with fail
    refine (repeat_calls _ w.heap.size N (by omega) (by simp) ((blk_cell (blk_new w _) 0).trans rfl)).mono ?_
    rintro e w3 ⟨v', rfl, hR, hB⟩
    have HE := Aside0.mk (new_end hR hB)
    have hmk : (Instr.makeMap 101 none).run Try.prog w3 = .ok (.map (some w3.heap.size)) (w3.alloc (.map #[] 0)) := run_makeMap_plain (w := w3) 101
    obtain ⟨A, cc, rfl⟩ := Kd.R_slice hR
    clear hR hB
    go_wp2
    go_ret
    have hfin := HE.out
    rw [List.length_replicate] at hfin
    exact hfin

end Go.Proofs.Ytcbnmmkmgpbfiaa.PP

/- hash.Table.push: a block, first in its chain. -/
import Derived.Test.YtgmdlndiilibpaaTabF
import Derived.Test.YtgmdlndiilibpaaTabW
namespace Go.Proofs.Ytgmdlndiilibpaa.PH
open Go.RowKit Go.Proofs.YtgmdlndiilibpaaW.PrintWords Go.Proofs.YtgmdlndiilibpaaW.PrintLast Go.Proofs.YtgmdlndiilibpaaW.PrintMore Go.Proofs.Ytgmdlndiilibpaa.Tab
attribute [local go_sem] max2_int min2_int max_two min_two max_three min_three max_four min_four   -- for this text's walks alone
set_option linter.unusedVariables false
set_option linter.unusedSimpArgs false
attribute [local go_sem high] eqA27
set_option maxHeartbeats 8000000 in
set_option maxRecDepth 100000 in
theorem push_calls (w : World) (b c : Nat) (L : List (List Nd)) (free n : Int) (hT : At 116 120 123 w b c L free n) (sp va sz v : Int) (i : Nat) (l : List Nd) (hli : L[i]? = some l) (hfew : l.length + 1 ≤ 10000000)
    (hch : hash_Chain.f sp va sz (L.length : Int) = some (i : Int)) :
    Calls Try.prog 67 #[.pointer (some ⟨b, 0, none⟩), .agg #[.int .i64 sp, .int .u64 va, .int .i64 sz], .int .i64 v] w fun e w' => e = .returned (.tuple #[]) ∧
      ∃ g, w.heap.size ≤ g ∧ At 116 120 123 w' b c (L.set i (⟨g, sp, va, sz, v⟩ :: l)) free n ∧ Mv [c] w w' := by
  obtain ⟨hi, hl⟩ := List.getElem?_eq_some_iff.1 hli
  have hbl : b < w.heap.size := hT.lt b (by simp [ids])
  have cb : w.cell? ⟨b, 0, none⟩ = some (.slice (some ⟨c, 0, none⟩) L.length L.length) := by rw [Lib.cell_of_heap hT.hb]; rfl
  have hch' := Aside0.mk hch
  have hli' := Aside0.mk hli
  have hsm := hT.small
  have hi0 : (0 : Int) ≤ (i : Int) := by omega
  have hi1 : (i : Int) < (L.length : Int) := by omega
  clear hch hli hl
  go_enter Try.func67, Try.ntmps67
  go_wp2_with fail
  have hB0 : Below w.heap.size w (w.alloc (Obj.cells #[Value.int IntKind.i64 sp, Value.int IntKind.u64 va, Value.int IntKind.i64 sz] 27)).drew := ((Below.refl _ w).alloc (Nat.le_refl _) _).drew
  go_region_held3 (fun w' => Below w.heap.size w w' ∧ w'.cell? ⟨b, 0, none⟩ = some (.slice (some ⟨c, 0, none⟩) L.length L.length) ∧ w'.cell? ⟨w.heap.size, 0, none⟩ = some (.int .i64 sp) ∧ w'.cell? ⟨w.heap.size, 1, none⟩ = some (.int .u64 va) ∧ w'.cell? ⟨w.heap.size, 2, none⟩ = some (.int .i64 sz))
    (first | go_keep | (refine ⟨((Below.refl _ w).alloc (Nat.le_refl _) _).drew, ?_, ?_, ?_, ?_⟩ <;> go_simp) | (go_split_ands; refine ⟨?_, pw_cell_below hbel (by assumption), pw_cell_below hbel (by assumption), pw_cell_below hbel (by assumption), pw_cell_below hbel (by assumption)⟩; exact below_then (by assumption) (Below.size (by assumption)) hbel))
    ((go_at_call 15; refine (hash_Chain.calls sp va sz _ _ _ hch'.out).mono ?_; rintro e w' ⟨rfl, hbel⟩))
  rename_i hS
  obtain ⟨hB, g0, g1, g2, g3⟩ := hS
  clear hbel hB0
  have hsl := (hT.slots hB hli'.out 0 (by omega)).1
  have hfz := (hT.slots hB hli'.out 0 (by omega)).2
  simp only [slot, List.drop_zero] at hsl hfz
  have hsz := hB.size
  obtain ⟨pa, hpa⟩ : ∃ pa : Option Addr, ptr l = .pointer pa := by cases l <;> exact ⟨_, rfl⟩
  rw [hpa] at hsl
  have hP := Aside0.mk hpa
  clear hpa
  have hcl : c < w'.heap.size := Nat.lt_of_lt_of_le (hT.lt c (by simp [ids])) hsz
  have hs2 : (w'.alloc (Obj.cells #[.int .i64 sp, .int .u64 va, .int .i64 sz, .int .i64 v, .pointer pa] 123)).cell? ⟨c, i, none⟩ = some (.pointer pa) := (World.cell?_alloc_lt _ _ _ hcl).trans hsl
  have hf2 : (w'.alloc (Obj.cells #[.int .i64 sp, .int .u64 va, .int .i64 sz, .int .i64 v, .pointer pa] 123)).frozen? ⟨c, i, none⟩ = false := ((Below.refl _ w').alloc (Nat.le_refl _) _).frozen (p := ⟨c, i, none⟩) hcl |>.trans hfz
  go_wp2_with fail
  go_region
  all_goals
    go_end0
    have hss : (w'.setCell ⟨c, i, none⟩ (.pointer (some ⟨w'.heap.size, 0, none⟩))).heap.size = w'.heap.size := by simp [World.setCell]
    have hT1 := hT.below hB
    have hold : ∀ k, k < w'.heap.size → k ≠ c → (((w'.setCell ⟨c, i, none⟩ (.pointer (some ⟨w'.heap.size, 0, none⟩))).alloc (Obj.cells #[.int .i64 sp, .int .u64 va, .int .i64 sz, .int .i64 v, .pointer pa] 123)).drew).heap[k]? = w'.heap[k]? := fun k hk hkc => by
      refine (Below.heap_alloc (w'.setCell ⟨c, i, none⟩ (.pointer (some ⟨w'.heap.size, 0, none⟩))) _ k (by rw [hss]; exact hk)).trans ?_
      exact Below.heap_setCell w' ⟨c, i, none⟩ _ k hkc
    refine ⟨rfl, w'.heap.size, hsz, At.push hT1 hli'.out w'.heap.size sp va sz v (fun hmem => absurd (hT1.lt _ hmem) (Nat.lt_irrefl _)) ?_ ?_ (fun k hk hkc => hold k (hT1.lt k hk) hkc) hfew, ⟨hB.os, hB.tape, hB.output, ?_, fun k hk hkc => (hold k (by omega) (by simpa using hkc)).trans (hB.block k hk)⟩⟩
    · have := heap_alloc_new (w'.setCell ⟨c, i, none⟩ (.pointer (some ⟨w'.heap.size, 0, none⟩))) (Obj.cells #[.int .i64 sp, .int .u64 va, .int .i64 sz, .int .i64 v, .pointer pa] 123)
      rw [hss] at this
      refine this.trans ?_
      unfold cells
      rw [hP.out]
    · refine (Below.heap_alloc (w'.setCell ⟨c, i, none⟩ (.pointer (some ⟨w'.heap.size, 0, none⟩))) _ c (by rw [hss]; exact hcl)).trans ?_
      exact heap_set_same _ hT1.hc
    · show w.heap.size ≤ ((w'.setCell ⟨c, i, none⟩ (.pointer (some ⟨w'.heap.size, 0, none⟩))).alloc _).heap.size
      rw [World.size_alloc, hss]
      omega
end Go.Proofs.Ytgmdlndiilibpaa.PH

import Derived.Test.YtgmdlndiilibpaaTabS
import Derived.Deep.OwnRows
namespace Go.Proofs.Ytgmdlndiilibpaa.PH
open Go.RowKit Go.Proofs.YtgmdlndiilibpaaW.PrintWords Go.Proofs.YtgmdlndiilibpaaW.PrintLast Go.Proofs.YtgmdlndiilibpaaW.PrintMore Go.Proofs.Ytgmdlndiilibpaa.Tab
attribute [local go_sem] max2_int min2_int max_two min_two max_three min_three max_four min_four   -- for this text's walks alone
set_option linter.unusedVariables false
set_option linter.unusedSimpArgs false
attribute [local go_sem high] eqA27
theorem info120 : (Try.prog.info? 120).map (fun i => (i.zero, i.size, i.bytes)) = some (some (.pointer none), 1, 8) := by kernel_rfl
theorem new_at (w : World) (q : Nat) (hq1 : 1 ≤ q) (hq2 : q ≤ 10000000) (f : Int) :
    At 116 120 123 ((w.alloc (.cells (madeCells #[.pointer none] q) 120)).alloc (.cells #[.slice (some ⟨w.heap.size, 0, none⟩) q q, .int .i64 f, .int .i64 0] 116)) (w.heap.size + 1) w.heap.size (List.replicate q []) f 0 where
  hb := by
    show ((w.heap.push _).push _)[w.heap.size + 1]? = _
    rw [show w.heap.size + 1 = (w.heap.push (Obj.cells (madeCells #[Value.pointer none] q) 120)).size by simp, Array.getElem?_push_size]
    simp
  hc := by
    have e : madeCells #[Value.pointer none] q = ((List.replicate q ([] : List Nd)).map ptr).toArray := by
      apply Array.ext
      · simp [madeCells]
      · intro i h1 h2
        simp [madeCells, ptr, Nat.mod_one]
    rw [e]
    show ((w.heap.push _).push _)[w.heap.size]? = _
    rw [Array.getElem?_push_lt (by simp)]
    simp
  hl := fun l hl => by rw [(List.mem_replicate.1 hl).2]; trivial
  nd := by simp [ids]
  pos := by simp; omega
  small := by simp; omega
  few := fun l hl => by rw [(List.mem_replicate.1 hl).2]; simp
set_option maxHeartbeats 8000000 in
set_option maxRecDepth 100000 in
theorem new_calls (w : World) (blocks : Int) (chains : Int) (q : Nat) (hq : (q : Int) = max chains 1) (hq2 : q ≤ 10000000) :
    Calls Try.prog 31 #[.int .i64 blocks, .int .i64 chains] w fun e w' => ∃ b c : Nat, e = .returned (.pointer (some ⟨b, 0, none⟩)) ∧
      At 116 120 123 w' b c (List.replicate q []) (max blocks 0) 0 ∧ w.heap.size ≤ b ∧ w.heap.size ≤ c ∧ Below w.heap.size w w' := by
  have hmk := fun wx => run_make_row' (P := Try.prog) 114 120 (.pointer none) 8 Try.underlying114 info120 rfl .i64 .i64 q (by omega) (by omega) wx
  have hq1 : 1 ≤ q := by omega
  have hbl : ∀ f : Int, Below w.heap.size w ((w.alloc (.cells (madeCells #[.pointer none] q) 120)).alloc (.cells #[.slice (some ⟨w.heap.size, 0, none⟩) q q, .int .i64 f, .int .i64 0] 116)) := fun f => ((Below.refl _ w).alloc (Nat.le_refl _) _).alloc (by simp) _
  have hat := new_at w q hq1 hq2
  by_cases hc : 1 ≤ chains <;> by_cases hf : 0 ≤ blocks
  · have e : chains = (q : Int) := by omega
    subst e; clear hq
    rw [Int.max_eq_left hf]
    go_enter Try.func31, Try.ntmps31
    go_wp2_with fail
    go_ret
    first
      | exact ⟨_, _, rfl, hat _, Nat.le_succ _, Nat.le_refl _, hbl _⟩
      | exact ⟨_, rfl, _, hat _, Nat.le_succ _, Nat.le_refl _, hbl _⟩
  · have e : chains = (q : Int) := by omega
    subst e; clear hq
    rw [Int.max_eq_right (by omega)]
    go_enter Try.func31, Try.ntmps31
    go_wp2_with fail
    go_ret
    first
      | exact ⟨_, _, rfl, hat _, Nat.le_succ _, Nat.le_refl _, hbl _⟩
      | exact ⟨_, rfl, _, hat _, Nat.le_succ _, Nat.le_refl _, hbl _⟩
  · have e : q = 1 := by omega
    subst e; clear hq
    rw [Int.max_eq_left hf]
    have hmk1 : ∀ wx, _ := fun wx => (show (Instr.makeSlice 114 (.int .i64 1) (.int .i64 1)).run Try.prog wx = _ from hmk wx)
    clear hmk
    go_enter Try.func31, Try.ntmps31
    go_wp2_with fail
    go_ret
    first
      | exact ⟨_, _, rfl, hat _, Nat.le_succ _, Nat.le_refl _, hbl _⟩
      | exact ⟨_, rfl, _, hat _, Nat.le_succ _, Nat.le_refl _, hbl _⟩
  · have e : q = 1 := by omega
    subst e; clear hq
    rw [Int.max_eq_right (by omega)]
    have hmk1 : ∀ wx, _ := fun wx => (show (Instr.makeSlice 114 (.int .i64 1) (.int .i64 1)).run Try.prog wx = _ from hmk wx)
    clear hmk
    go_enter Try.func31, Try.ntmps31
    go_wp2_with fail
    go_ret
    first
      | exact ⟨_, _, rfl, hat _, Nat.le_succ _, Nat.le_refl _, hbl _⟩
      | exact ⟨_, rfl, _, hat _, Nat.le_succ _, Nat.le_refl _, hbl _⟩
theorem len_calls (w : World) (b c : Nat) (L : List (List Nd)) (free n : Int) (hT : At 116 120 123 w b c L free n) :
    Calls Try.prog 36 #[.pointer (some ⟨b, 0, none⟩)] w fun e w' => e = .returned (.int .i64 n) ∧ w = w' := by
  have c1 : w.cell? ⟨b, 2, none⟩ = some (.int .i64 n) := by rw [Lib.cell_of_heap hT.hb]; rfl
  go_enter Try.func36, Try.ntmps36
  go_wp2
  go_ret
  exact ⟨rfl, rfl⟩
theorem free_calls (w : World) (b c : Nat) (L : List (List Nd)) (free n : Int) (hT : At 116 120 123 w b c L free n) :
    Calls Try.prog 37 #[.pointer (some ⟨b, 0, none⟩)] w fun e w' => e = .returned (.int .i64 free) ∧ w = w' := by
  have c1 : w.cell? ⟨b, 1, none⟩ = some (.int .i64 free) := by rw [Lib.cell_of_heap hT.hb]; rfl
  go_enter Try.func37, Try.ntmps37
  go_wp2
  go_ret
  exact ⟨rfl, rfl⟩
theorem chains_calls (w : World) (b c : Nat) (L : List (List Nd)) (free n : Int) (hT : At 116 120 123 w b c L free n) :
    Calls Try.prog 48 #[.pointer (some ⟨b, 0, none⟩)] w fun e w' => e = .returned (.int .i64 L.length) ∧ w = w' := by
  have c1 : w.cell? ⟨b, 0, none⟩ = some (.slice (some ⟨c, 0, none⟩) L.length L.length) := by rw [Lib.cell_of_heap hT.hb]; rfl
  go_enter Try.func48, Try.ntmps48
  go_wp2
  go_ret
  exact ⟨rfl, rfl⟩
end Go.Proofs.Ytgmdlndiilibpaa.PH

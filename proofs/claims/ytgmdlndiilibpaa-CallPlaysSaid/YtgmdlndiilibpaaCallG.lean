import Derived.Test.YtgmdlndiilibpaaCallF
import Derived.Deep.OwnRows
namespace Go.Proofs.Ytgmdlndiilibpaa.PC
open Go.RowKit Go.Proofs.YtgmdlndiilibpaaW.PrintWords Go.Proofs.YtgmdlndiilibpaaW.PrintLast Go.Proofs.YtgmdlndiilibpaaW.PrintMore Go.Proofs.Ytgmdlndiilibpaa.Tab Go.Proofs.Ytgmdlndiilibpaa.CallK
attribute [local go_sem] max2_int min2_int max_two min_two max_three min_three max_four min_four   -- for this text's walks alone
set_option linter.unusedVariables false
set_option linter.unusedSimpArgs false
theorem info108 : (Try.prog.info? 108).map (fun i => (i.zero, i.size, i.bytes)) = some (some (.slice none 0 0), 1, 24) := by kernel_rfl
theorem new_ca (w : World) (q : Nat) (hq1 : 1 ≤ q) (hq2 : q ≤ 8) :
    CA ((w.alloc (.cells (madeCells #[.slice none 0 0] q) 108)).alloc (.cells #[.slice (some ⟨w.heap.size, 0, none⟩) q q, .slice none 0 0] 101)) w.heap.size (w.heap.size + 1) w.heap.size (List.replicate q (.slice none 0 0)) (.slice none 0 0) (List.replicate q []) [] where
  hB := by
    rw [List.length_replicate]
    have := blk_new (w.alloc (.cells (madeCells #[.slice none 0 0] q) 108)) (.cells #[.slice (some ⟨w.heap.size, 0, none⟩) q q, .slice none 0 0] 101)
    rwa [show (w.alloc (.cells (madeCells #[.slice none 0 0] q) 108)).heap.size = w.heap.size + 1 by simp] at this
  hw := by
    have e : madeCells #[Value.slice none 0 0] q = (List.replicate q (Value.slice none 0 0)).toArray := by
      apply Array.ext
      · simp [madeCells]
      · intro i h1 h2
        simp [madeCells, Nat.mod_one]
    rw [e]
    exact blk_alloc (blk_new w _) _
  hl := by simp
  hq := fun k v l hv hl => by
    rw [List.getElem?_replicate] at hv hl
    split at hv
    · rw [if_pos (by assumption)] at hl
      obtain rfl := Option.some.inj hv
      obtain rfl := Option.some.inj hl
      exact QV.nil _ _
    · cases hv
  hd := fun j k v u _ hv hu _ => by
    rw [List.getElem?_replicate] at hv
    split at hv
    · obtain rfl := Option.some.inj hv
      rfl
    · cases hv
  hL := Kd.R_nil _ _ _ _ _
  bB := Nat.le_succ _
  bw := Nat.le_refl _
  n0 := by simp; omega
  n8 := by simp; omega
set_option maxHeartbeats 8000000 in
set_option maxRecDepth 100000 in
theorem new_calls (w : World) (cpus : Int) (q : Nat) (hq : (q : Int) = min (max cpus 1) 8) :
    Calls Try.prog 21 #[.int .i64 cpus] w fun e w' => ∃ B gw : Nat, e = .returned (.pointer (some ⟨B, 0, none⟩)) ∧
      CA w' w.heap.size B gw (List.replicate q (.slice none 0 0)) (.slice none 0 0) (List.replicate q []) [] ∧ Below w.heap.size w w' := by
  have hmk := fun wx => run_make_row' (P := Try.prog) 99 108 (.slice none 0 0) 24 Try.underlying99 info108 rfl .i64 .i64 q (by omega) (by omega) wx
  have hq1 : 1 ≤ q := by omega
  have hq2 : q ≤ 8 := by omega
  have hbl : Below w.heap.size w ((w.alloc (.cells (madeCells #[.slice none 0 0] q) 108)).alloc (.cells #[.slice (some ⟨w.heap.size, 0, none⟩) q q, .slice none 0 0] 101)) := ((Below.refl _ w).alloc (Nat.le_refl _) _).alloc (by simp) _
  have hat := new_ca w q hq1 hq2
  have HB := Aside0.mk hbl
  have HA := Aside0.mk hat
  clear hbl hat
  by_cases h1 : cpus < 1
  · have e : q = 1 := by omega
    subst e; clear hq
    have hmk1 : ∀ wx, _ := fun wx => (show (Instr.makeSlice 99 (.int .i64 1) (.int .i64 1)).run Try.prog wx = _ from hmk wx)
    clear hmk
    have hm1 : max cpus 1 = 1 := Int.max_eq_right (by omega)
    go_enter Try.func21, Try.ntmps21
    go_wp2_with fail
    go_ret
    first | exact ⟨_, _, rfl, HA.out, HB.out⟩ | exact ⟨_, rfl, ⟨_, HA.out⟩, HB.out⟩
  · by_cases h8 : 8 < cpus
    · have e : q = 8 := by omega
      subst e; clear hq
      have hmk1 : ∀ wx, _ := fun wx => (show (Instr.makeSlice 99 (.int .i64 8) (.int .i64 8)).run Try.prog wx = _ from hmk wx)
      clear hmk
      go_enter Try.func21, Try.ntmps21
      go_wp2_with fail
      go_ret
      first | exact ⟨_, _, rfl, HA.out, HB.out⟩ | exact ⟨_, rfl, ⟨_, HA.out⟩, HB.out⟩
    · have e : cpus = (q : Int) := by omega
      subst e; clear hq
      go_enter Try.func21, Try.ntmps21
      go_wp2_with fail
      go_ret
      first | exact ⟨_, _, rfl, HA.out, HB.out⟩ | exact ⟨_, rfl, ⟨_, HA.out⟩, HB.out⟩
end Go.Proofs.Ytgmdlndiilibpaa.PC

import Derived.Test.YtgmdlndiilibpaaCallA
namespace Go.Proofs.Ytgmdlndiilibpaa.PC
open Go.RowKit Go.Proofs.YtgmdlndiilibpaaW.PrintWords Go.Proofs.YtgmdlndiilibpaaW.PrintLast Go.Proofs.YtgmdlndiilibpaaW.PrintMore Go.Proofs.Ytgmdlndiilibpaa.Tab Go.Proofs.Ytgmdlndiilibpaa.CallK
attribute [local go_sem] max2_int min2_int max_two min_two max_three min_three max_four min_four   -- for this text's walks alone
set_option linter.unusedVariables false
set_option linter.unusedSimpArgs false
/-- What a call is kept as. -/
def packV (kind ctx va : Int) : Value :=
  if kind = 0 then .iface 144 (.agg #[.int .i64 ctx, .int .u64 va]) else if kind = 1 ∧ va = 0 then .iface 145 (.int .i64 ctx) else .nilIface
theorem pack_one (kind ctx va : Int) : (packV kind ctx va).oneCell' = true := by
  unfold packV
  split
  · rfl
  · split <;> rfl
set_option maxHeartbeats 4000000 in
set_option maxRecDepth 100000 in
theorem pack_calls (w : World) (kind ctx va : Int) :
    Calls Try.prog 58 #[.agg #[.int .i64 kind, .int .i64 ctx, .int .u64 va]] w fun e w' => e = .returned (packV kind ctx va) ∧ Below w.heap.size w w' := by
  have hB := (Below.refl w.heap.size w).alloc (Nat.le_refl _) (.cells #[.int .i64 kind, .int .i64 ctx, .int .u64 va] 46)
  have HB := Aside0.mk hB
  clear hB
  go_enter Try.func58, Try.ntmps58
  by_cases h0 : kind = 0
  · have HP := Aside0.mk (show packV kind ctx va = .iface 144 (.agg #[.int .i64 ctx, .int .u64 va]) by unfold packV; rw [if_pos h0])
    subst h0
    go_wp2
    go_ret
    exact ⟨by rw [HP.out]; rfl, HB.out⟩
  · have hb0 : (kind == 0) = false := beq_eq_false_iff_ne.2 h0
    by_cases h1 : kind = 1
    · subst h1
      by_cases h2 : va = 0
      · subst h2
        have HP := Aside0.mk (show packV 1 ctx 0 = .iface 145 (.int .i64 ctx) from rfl)
        go_wp2
        go_ret
        exact ⟨by rw [HP.out]; rfl, HB.out⟩
      · have hb2 : (va == 0) = false := beq_eq_false_iff_ne.2 h2
        have HP := Aside0.mk (show packV 1 ctx va = .nilIface by unfold packV; rw [if_neg h0, if_neg (fun h => h2 h.2)])
        go_wp2
        go_ret
        exact ⟨by rw [HP.out]; rfl, HB.out⟩
    · have hb1 : (kind == 1) = false := beq_eq_false_iff_ne.2 h1
      have HP := Aside0.mk (show packV kind ctx va = .nilIface by unfold packV; rw [if_neg h0, if_neg (fun h => h1 h.1)])
      go_wp2
      go_ret
      exact ⟨by rw [HP.out]; rfl, HB.out⟩
end Go.Proofs.Ytgmdlndiilibpaa.PC

import Derived.Test.YtgmdlndiilibpaaCallB
namespace Go.Proofs.Ytgmdlndiilibpaa.PC
open Go.RowKit Go.Proofs.YtgmdlndiilibpaaW.PrintWords Go.Proofs.YtgmdlndiilibpaaW.PrintLast Go.Proofs.YtgmdlndiilibpaaW.PrintMore Go.Proofs.Ytgmdlndiilibpaa.Tab Go.Proofs.Ytgmdlndiilibpaa.CallK
attribute [local go_sem] max2_int min2_int max_two min_two max_three min_three max_four min_four   -- for this text's walks alone
set_option linter.unusedVariables false
set_option linter.unusedSimpArgs false
theorem ta_yes (v : Value) (w : World) : Sem.run Try.prog (Instr.typeAssert (.iface 144 v) 20 144 true) w = .ok (.tuple #[v, .bool true]) w := by kernel_rfl
theorem ta_no (v : Value) (w : World) : Sem.run Try.prog (Instr.typeAssert (.iface 145 v) 20 144 true) w = .ok (.tuple #[.agg #[.int .i64 0, .int .u64 0], .bool false]) w := by kernel_rfl
theorem ta_ctx (v : Value) (w : World) : Sem.run Try.prog (Instr.typeAssert (.iface 145 v) 20 145 true) w = .ok (.tuple #[v, .bool true]) w := by kernel_rfl
attribute [local go_sem] ta_yes ta_no ta_ctx
set_option maxHeartbeats 4000000 in
set_option maxRecDepth 100000 in
theorem unpackP_calls (w : World) (ctx va : Int) :
    Calls Try.prog 65 #[.iface 144 (.agg #[.int .i64 ctx, .int .u64 va])] w fun e w' => e = .returned (.agg #[.int .i64 0, .int .i64 ctx, .int .u64 va]) ∧ Below w.heap.size w w' := by
  go_enter Try.func65, Try.ntmps65
  go_wp2_with fail
  have hB := ((Below.refl w.heap.size w).alloc (Nat.le_refl _) (.cells #[.int .i64 0, .int .i64 ctx, .int .u64 va] 46)).alloc (by simp) (.cells #[.int .i64 ctx, .int .u64 va] 144)
  have hb := blk_alloc (blk_new w (.cells #[.int .i64 0, .int .i64 ctx, .int .u64 va] 46)) (.cells #[.int .i64 ctx, .int .u64 va] 144)
  refine bodyPost_ret (results_cell_row rfl _ _ w.heap.size 46 #[.int .i64 0, .int .i64 ctx, .int .u64 va] (0, 0) _ rfl hb Try.underlying46 rfl (by kernel_rfl)) rfl ?_
  exact ⟨rfl, hB⟩
set_option maxHeartbeats 4000000 in
set_option maxRecDepth 100000 in
theorem unpackC_calls (w : World) (ctx : Int) :
    Calls Try.prog 65 #[.iface 145 (.int .i64 ctx)] w fun e w' => e = .returned (.agg #[.int .i64 1, .int .i64 ctx, .int .u64 0]) ∧ Below w.heap.size w w' := by
  go_enter Try.func65, Try.ntmps65
  go_wp2_with fail
  have hB := ((Below.refl w.heap.size w).alloc (Nat.le_refl _) (.cells #[.int .i64 1, .int .i64 ctx, .int .u64 0] 46)).alloc (by simp) (.cells #[.int .i64 0, .int .u64 0] 144)
  have hb := blk_alloc (blk_new w (.cells #[.int .i64 1, .int .i64 ctx, .int .u64 0] 46)) (.cells #[.int .i64 0, .int .u64 0] 144)
  refine bodyPost_ret (results_cell_row rfl _ _ w.heap.size 46 #[.int .i64 1, .int .i64 ctx, .int .u64 0] (0, 0) _ rfl hb Try.underlying46 rfl (by kernel_rfl)) rfl ?_
  exact ⟨rfl, hB⟩
end Go.Proofs.Ytgmdlndiilibpaa.PC

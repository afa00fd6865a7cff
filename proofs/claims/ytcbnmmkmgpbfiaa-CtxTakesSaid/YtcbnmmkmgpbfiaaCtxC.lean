/- A pool of numbers (layer 14): whose all numbers are (slices.Clone). -/
import Derived.Test.YtcbnmmkmgpbfiaaCtxS
import Derived.Lib.SliceRun
namespace Go.Proofs.Ytcbnmmkmgpbfiaa.PP
open Go.RowKit Go.Proofs.Ytcbnmmkmgpbfiaa.PX Go.Proofs.YtcbnmmkmgpbfiaaW.PrintWords Go.Proofs.YtcbnmmkmgpbfiaaW.PrintLast Go.Proofs.YtcbnmmkmgpbfiaaW.PrintMore
attribute [local go_sem] max2_int min2_int max_two min_two max_three min_three max_four min_four   -- for this text's walks alone
set_option linter.unusedVariables false
set_option linter.unusedSimpArgs false
section
variable {w w1 w' : World} {base B bm : Nat} {vo : Value} {os : List Int} {f : Int → Option Int} {c : Nat} {hand rounds : Int}
set_option maxHeartbeats 4000000 in
set_option maxRecDepth 100000 in
theorem clone_calls (w : World) (A : Option Addr) (c : Nat) (xs : List Int) (hC : (Kd.int .i64).C w A xs.length xs) (hl : xs.length ≤ 100000) :
    Calls Try.prog 78 #[.slice A xs.length c] w fun e w' => ∃ v', e = .returned v' ∧ (Kd.int .i64).R 3 w' w.heap.size (fun _ => True) v' xs ∧ Below w.heap.size w w' := by
  have q43 : ∀ (w : World) (a : Option Addr) (n c n' c' : Nat), (binOp .eql 43 (.slice a n c) (.slice none n' c')).run Try.prog w = .ok (.bool a.isNone) w := fun w a n c n' c' => Lib.run_eql_slice_nil w _ _ a n c n' c' Try.underlying43
  cases A with
  | none =>
    have hx : xs = [] := by
      obtain ⟨_, _, h3⟩ := hC
      cases xs with
      | nil => rfl
      | cons x xs =>
        obtain ⟨ad, hd, _⟩ := h3 (by simp)
        cases hd
    subst hx
    clear hC
    go_enter Try.func78, Try.ntmps78
    go_wp2
    go_ret
    exact ⟨_, rfl, Kd.R_nil _ _ _ _ _, Below.refl _ _⟩
  | some ad =>
    have HC := Aside0.mk hC
    clear hC
    go_enter Try.func78, Try.ntmps78
    go_wp2_with (first | ((with_reducible refine gate_builtin (b := .append) (xs := #[.tmp 5, .tmp 6]) rfl ?_); at_builtin; refine Kd.R_append_rows (Kd.int .i64) (w0 := w) w.heap.size rfl (.tmp 5) (.tmp 6) 43 3 (.int .i64 0) 8 rfl Try.underlying43 info3 rfl (by decide) (by omega) (.slice (some ⟨w.heap.size, 0, none⟩) 0 0) ([] : List Int) xs _ _ _ (fun _ => True) (fun _ => False) rfl rfl ?aO ?aR (fun _ _ h => h) (fun _ h => h.elim) ?aF ?aB ?aS ?aL ?_; (case aR => exact Kd.C_alloc HC.out _); (case aB => exact below_alloc (Below.refl _ _) _); (case aF => exact (fun _ _ => trivial)); (case aO => exact Kd.R_of_own (xs := ([] : List Int)) (World.ownsRow_made w #[] 0 (Nat.le_refl _) (Nat.zero_le _) rfl) (fun _ _ => trivial)); (case aS => simp); (case aL => simp; omega); intro v5 w5 ho hb hg hat))
    go_wp2
    go_ret
    exact ⟨_, rfl, ho, hb⟩
end

end Go.Proofs.Ytcbnmmkmgpbfiaa.PP

import Derived.Test.YtgmdlndiilibpaaCallO
namespace Go.Proofs.Ytgmdlndiilibpaa.PC
open Go.RowKit Go.Proofs.YtgmdlndiilibpaaW.PrintWords Go.Proofs.YtgmdlndiilibpaaW.PrintLast Go.Proofs.YtgmdlndiilibpaaW.PrintMore Go.Proofs.Ytgmdlndiilibpaa.Tab Go.Proofs.Ytgmdlndiilibpaa.CallK
attribute [local go_sem] max2_int min2_int max_two min_two max_three min_three max_four min_four   -- for this text's walks alone
set_option linter.unusedVariables false
set_option linter.unusedSimpArgs false
def nums (i : Nat) : List Int := (List.range i).map fun k : Nat => (k : Int)
theorem nums_succ (i : Nat) : nums (i + 1) = nums i ++ [(i : Int)] := by unfold nums; rw [List.range_succ, List.map_append]; rfl
theorem nums_len (i : Nat) : (nums i).length = i := by simp [nums]
def others (N : Nat) (cpu : Int) : List Int := (nums N).filter fun k => k != cpu
theorem others_succ (i : Nat) (cpu : Int) : others (i + 1) cpu = if (i : Int) != cpu then others i cpu ++ [(i : Int)] else others i cpu := by
  unfold others
  rw [nums_succ, List.filter_append]
  by_cases h : ((i : Int) != cpu) = true
  · rw [if_pos h]; simp only [List.filter_cons, h, if_true, List.filter_nil]
  · rw [if_neg h]; simp only [List.filter_cons, h, List.filter_nil]; simp
set_option maxHeartbeats 4000000 in
set_option maxRecDepth 100000 in
theorem others_calls {w : World} {base B gw : Nat} {vs : List Value} {lv : Value} {qs : List (List Sn)} {left : List Int} (h : CA w base B gw vs lv qs left) (cpu : Int) :
    Calls Try.prog 45 #[.pointer (some ⟨B, 0, none⟩), .int .i64 cpu] w fun e w' => ∃ v : Value, e = .returned v ∧ Kd.R (Kd.int .i64) 3 w' w.heap.size (fun _ => True) v (others qs.length cpu) ∧ Below w.heap.size w w' := by
  have c0 := h.cell0
  have hn8 := h.n8
  clear h
  go_enter Try.func45, Try.ntmps45
  go_wp2_with fail
  go_loopw [5, 12] (fun ov iv wr => ∃ i : Nat, iv = .int .i64 i ∧ i ≤ qs.length ∧ Aside0 (Kd.R (Kd.int .i64) 3 wr w.heap.size (fun _ => True) ov (others i cpu)) ∧ Aside0 (Below w.heap.size w wr)) (fun _ iv _ => qs.length - (intOf iv).toNat)
  case atStart => exact ⟨0, rfl, by omega, ⟨show Kd.R (Kd.int .i64) 3 w w.heap.size (fun _ => True) (.slice none 0 0) [] from Kd.R_nil _ _ _ _ _⟩, ⟨Below.refl _ _⟩⟩
  case round =>
    obtain ⟨i, rfl, hi, HO, HB⟩ := hrel
    obtain ⟨A5, c5, hv5⟩ := Kd.R_slice HO.out
    subst hv5
    have hfl : (others i cpu).length ≤ i := Nat.le_trans (List.length_filter_le _ _) (by rw [nums_len]; omega)
    by_cases hil : (i : Int) < (qs.length : Int)
    · obtain ⟨F, hF⟩ : ∃ F, others i cpu = F := ⟨_, rfl⟩
      have hnx := others_succ i cpu
      rw [hF] at HO hfl hnx ⊢
      have HN := Aside0.mk hnx
      clear hnx hF
      by_cases hne : (i : Int) = cpu
      · have hb : ((i : Int) == cpu) = true := beq_iff_eq.2 hne
        go_wp2
        go_roundw
        case rel => exact ⟨i + 1, by go_num, by omega, by rw [HN.out, if_neg (by simpa using hne)]; exact HO, HB⟩
        case measure => simp [intOf]; omega
      · have hb : ((i : Int) == cpu) = false := beq_eq_false_iff_ne.2 hne
        go_wp2_with (first | ((with_reducible refine gate_builtin (b := .append) (xs := #[.tmp 18, .tmp 20]) rfl ?_); at_builtin; refine Kd.R_append (Kd.int .i64) (w0 := w) w.heap.size rfl (.tmp 18) (.tmp 20) 36 3 (.int .i64 0) 8 rfl Try.underlying36 info3 rfl (by decide) (by omega) (.slice A5 F.length c5) F (i : Int) [.int .i64 (i : Int)] (fun _ => True) (fun _ => False) rfl rfl ?aP (fun _ hk => hk.elim) ?aF ?aO ?aB ?aS ?aL ?_; (case aP => exact rfl); (case aB => exact HB.out); (case aF => exact (fun _ _ => trivial)); (case aO => exact HO.out); (case aS => exact HB.out.size); (case aL => omega); intro v5 w5 ho5 hb5 hg5 hat5))
        go_roundw
        case rel => exact ⟨i + 1, by go_num, by omega, by rw [HN.out, if_pos (by simpa using hne)]; exact ⟨ho5⟩, ⟨hb5⟩⟩
        case measure => simp [intOf]; omega
    · obtain rfl : i = qs.length := by omega
      go_wp2
      go_ret
      exact ⟨_, rfl, HO.out, HB.out⟩
end Go.Proofs.Ytgmdlndiilibpaa.PC

/- ShootRuns: the walk of shoot.Runs. -/
import Derived.Test.YtcbnmmkmgpbfiaaRunW
namespace Go.Proofs.Ytcbnmmkmgpbfiaa.RunW
open Go.RowKit Go.Proofs.Ytcbnmmkmgpbfiaa.PN Go.Proofs.Ytcbnmmkmgpbfiaa.RunP Go.Proofs.YtcbnmmkmgpbfiaaW.PrintWords Go.Proofs.YtcbnmmkmgpbfiaaW.PrintLast Go.Proofs.YtcbnmmkmgpbfiaaW.PrintMore
attribute [local go_sem] max2_int min2_int max_two min_two max_three min_three max_four min_four   -- for this text's walks alone
set_option linter.unusedVariables false
set_option linter.unusedSimpArgs false
theorem info26 : (Try.prog.info? 26).map (fun i => (i.zero, i.size, i.bytes)) = some (some (.int .u64 0), 1, 8) := by kernel_rfl
def pas (l : List S30) : List Int := l.map (·.f2)
set_option maxHeartbeats 8000000 in
set_option maxRecDepth 100000 in
theorem runs_calls (w : World) (A : Option Addr) (c : Nat) (l0 : List S30) (hr0 : Kd.C k30 w A l0.length l0) (hc0 : l0.length ≤ c) (hl : l0.length ≤ 12) :
    Calls Try.prog 45 #[.slice A l0.length c] w fun e w' => ∃ (A' : Option Addr) (c' : Nat) (r : List Int), e = .returned (.slice A' r.length c') ∧ r.length ≤ c' ∧ Kd.C (Kd.int .u64) w' A' r.length r ∧ r.Pairwise (· < ·) ∧ (∀ v, v ∈ r ↔ v ∈ pas l0) ∧ Below w.heap.size w w' := by
  have HR0 := Aside0.mk hr0
  have HB := Aside0.mk (Below.refl w.heap.size w)
  clear hr0
  go_enter Try.func45, Try.ntmps45
  go_wp2_with fail
  go_loopw [3, 8] (fun ov iv wr => ∃ i : Nat, iv = .int .i64 i ∧ i ≤ l0.length ∧ Aside0 (Kd.R (Kd.int .u64) 26 wr w.heap.size (fun _ => True) ov ((pas l0).take i)) ∧ Aside0 (Below w.heap.size w wr)) (fun _ iv _ => l0.length - (intOf iv).toNat)
  case atStart => exact ⟨0, rfl, by omega, ⟨Kd.R_nil _ _ _ _ _⟩, HB⟩
  case round =>
    clear HB
    obtain ⟨i, rfl, hi, HO, HB⟩ := hrel
    obtain ⟨A5, c5, hv5⟩ := Kd.R_slice HO.out
    subst hv5
    by_cases hil : (i : Int) < (l0.length : Int)
    · have hil' : i < l0.length := by omega
      have hfl : ((pas l0).take i).length = i := by rw [List.length_take, pas, List.length_map]; omega
      obtain ⟨ad, ead, x0, x1, x2, x3, x4, x5, x6, x7, x8, x9, x10⟩ := at_T30 (Kd.C_below HR0.out HB.out) i (by omega) hil
      cases ead
      obtain ⟨p, hp⟩ : ∃ p, rd_T30 l0 i = p := ⟨_, rfl⟩
      have hp2 : l0[i] = p := by rw [← hp]; simp [rd_T30, List.getD_eq_getElem?_getD, List.getElem?_eq_getElem hil']
      rw [hp] at x0 x1 x2 x3 x4 x5 x6 x7 x8 x9 x10
      rw [Int.toNat_natCast] at x0 x1 x2 x3 x4 x5 x6 x7 x8 x9 x10
      have htk : (pas l0).take (i + 1) = (pas l0).take i ++ [p.f2] := by
        rw [List.take_succ_eq_append_getElem (by rw [pas, List.length_map]; exact hil')]
        simp [pas, hp2]
      have HP := Aside0.mk htk
      clear hp hp2 htk
      obtain ⟨F, hF⟩ : ∃ F, F = (pas l0).take i := ⟨_, rfl⟩
      rw [← hF] at HO hfl ⊢
      have HFF := Aside0.mk hF
      have HFL := Aside0.mk hfl
      have hF1 : F.length + 1 ≤ 1000000000001 := by omega
      clear hF hfl
      go_upto_region 5 with fail
      have z2 := (blk_cell (blk_new wr (.cells #[.int .u64 p.f0, .int .i64 p.f1, .int .u64 p.f2, .bool p.f3.f0, .bool p.f3.f1, .bool p.f3.f2, .bool p.f3.f3, .bool p.f3.f4, .bool p.f3.f5, .bool p.f4, .bool p.f5] 30)) 2).trans rfl
      have HO1 := Aside0.mk (Kd.R_alloc HO.out (.cells #[.int .u64 p.f0, .int .i64 p.f1, .int .u64 p.f2, .bool p.f3.f0, .bool p.f3.f1, .bool p.f3.f2, .bool p.f3.f3, .bool p.f3.f4, .bool p.f3.f5, .bool p.f4, .bool p.f5] 30))
      have HB1 := Aside0.mk (below_alloc HB.out (.cells #[.int .u64 p.f0, .int .i64 p.f1, .int .u64 p.f2, .bool p.f3.f0, .bool p.f3.f1, .bool p.f3.f2, .bool p.f3.f3, .bool p.f3.f4, .bool p.f3.f5, .bool p.f4, .bool p.f5] 30))
      clear x0 x1 x2 x3 x4 x5 x6 x7 x8 x9 x10 HO HB
      generalize wr.alloc (.cells #[.int .u64 p.f0, .int .i64 p.f1, .int .u64 p.f2, .bool p.f3.f0, .bool p.f3.f1, .bool p.f3.f2, .bool p.f3.f3, .bool p.f3.f4, .bool p.f3.f5, .bool p.f4, .bool p.f5] 30) = w1 at z2 HO1 HB1 ⊢
      generalize wr.heap.size = gp at z2 ⊢
      go_wp2_with (first | ((with_reducible refine gate_builtin (b := .append) (xs := #[.tmp 12, .tmp 15]) rfl ?_); at_builtin; refine Kd.R_append (Kd.int .u64) (w0 := w) w.heap.size rfl (.tmp 12) (.tmp 15) 77 26 (.int .u64 0) 8 rfl Try.underlying77 info26 rfl (by decide) (by omega) (.slice A5 F.length c5) F p.f2 [.int .u64 p.f2] (fun _ => True) (fun _ => False) rfl rfl ?aP (fun _ hk => hk.elim) ?aF ?aO ?aB ?aS ?aL ?_; (case aP => exact rfl); (case aB => exact HB1.out); (case aF => exact (fun _ _ => trivial)); (case aO => exact HO1.out); (case aS => exact HB1.out.size); (case aL => omega); intro v5 w5 ho5 hb5 hg5 hat5))
      go_roundw
      case rel => exact ⟨i + 1, by go_num, by omega, ⟨by rw [HP.out, ← HFF.out]; exact ho5⟩, ⟨hb5⟩⟩
      case measure => simp [intOf]; omega
    · obtain rfl : i = l0.length := by omega
      have htl : (pas l0).take l0.length = pas l0 := List.take_of_length_le (by simp [pas])
      rw [htl] at HO ⊢
      have hpl : (pas l0).length = l0.length := by simp [pas]
      obtain ⟨xs, hxs⟩ : ∃ xs, pas l0 = xs := ⟨_, rfl⟩
      rw [hxs] at HO hpl ⊢
      have hx12 : xs.length ≤ 12 := by omega
      have HXS := Aside0.mk hxs
      clear htl hpl hxs
      go_wp2_with fail
      refine (sort_calls hx12 HB.out HO.out).mono ?_
      rintro e w1 ⟨rfl, ys, hd, hR1, hB1, hK1⟩
      have HD := Aside0.mk hd
      have hR1' : Kd.R (Kd.int .u64) 26 w1 w.heap.size (fun k => True ∨ wr.heap.size ≤ k) (.slice A5 ys.length c5) ys := by rw [hd.1]; exact hR1
      have hy12 : ys.length ≤ 12 := by rw [hd.1]; exact hx12
      have hcm := comp_calls hy12 hd.2.2 hB1 hR1' 0
      rw [hd.1] at hcm
      have HCM := Aside0.mk hcm
      clear hd hR1 hB1 hK1 hR1' hy12 hcm
      go_wp2_with fail
      refine HCM.out.mono ?_
      rintro e w2 ⟨A', c', r, rfl, h1, h2, h3, h4, h5⟩
      have HF := Aside0.mk (show r.length ≤ c' ∧ Kd.C (Kd.int .u64) w2 A' r.length r ∧ r.Pairwise (· < ·) ∧ (∀ v, v ∈ r ↔ v ∈ xs) ∧ Below w.heap.size w w2 from ⟨h1, h2, h3, fun v => (h4 v).trans (HD.out.2.1 v), h5⟩)
      clear h1 h2 h3 h4 h5
      go_wp2
      go_ret
      exact ⟨A', c', r, rfl, by rw [HXS.out]; exact HF.out⟩
end Go.Proofs.Ytcbnmmkmgpbfiaa.RunW

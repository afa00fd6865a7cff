/- A pool of numbers (layer 14): slices.Repeat. -/
import Derived.Test.YtcbnmmkmgpbfiaaCtxN
import Derived.Test.YtcbnmmkmgpbfiaaPXx1
import Derived.Lib.LazyBuf
import Derived.Laws.Bits64b
namespace Go.Proofs.Ytcbnmmkmgpbfiaa.PP
open Go.RowKit Go.Proofs.Ytcbnmmkmgpbfiaa.PX Go.Proofs.YtcbnmmkmgpbfiaaW.PrintWords Go.Proofs.YtcbnmmkmgpbfiaaW.PrintLast Go.Proofs.YtcbnmmkmgpbfiaaW.PrintMore
attribute [local go_sem] max2_int min2_int max_two min_two max_three min_three max_four min_four   -- for this text's walks alone
set_option linter.unusedVariables false
set_option linter.unusedSimpArgs false
theorem band (a : Nat) (ha : a < 4294967296) : Go.bits .and .u64 (a : Int) 4294967295 = (a : Int) := by
  have := bits_and_u64_nat a 4294967295 (by omega) (by decide)
  rw [show (4294967295 : Nat) = 2 ^ 32 - 1 by decide, Nat.and_two_pow_sub_one_eq_mod, Nat.mod_eq_of_lt (by simpa using ha)] at this
  exact this
theorem mul_one (n : Nat) (hn : n ≤ 10000) : bits_Mul.f 1 (n : Int) = some (0, (n : Int)) := by
  have h1 : IntKind.u64.wrap (n : Int) = (n : Int) := by simp [IntKind.wrap, IntKind.signed, IntKind.bits]; omega
  have h0 : IntKind.u64.wrap 0 = 0 := by decide
  have hd : (n : Int) / 4294967296 = 0 := by omega
  have hb : Go.bits .and .u64 (n : Int) 4294967295 = (n : Int) := band n (by omega)
  have hb1 : Go.bits .and .u64 1 4294967295 = 1 := band 1 (by decide)
  have hb0 : Go.bits .and .u64 0 4294967295 = 0 := band 0 (by decide)
  have h10 : (1 : Int) / 4294967296 = 0 := by decide
  unfold bits_Mul.f bits_Mul64.f
  rw [hb, hb1, hd, h10]
  simp only [Int.zero_mul, Int.mul_zero, Int.one_mul, Int.add_zero, Int.zero_add, h0, h1, hd, hb0, Option.bind_some]
  rfl
theorem Fills.drew {W : World} {g n k : Nat} (h : Fills W g n k) : Fills W.drew g n k := by
  unfold Fills at h ⊢
  exact h
section
variable {w w1 w' : World}
set_option maxHeartbeats 4000000 in
set_option maxRecDepth 100000 in
theorem repeat_calls (w : World) (gx : Nat) (n : Nat) (hn : n ≤ 10000) (hg0 : gx < w.heap.size) (hx : w.cell? ⟨gx, 0, none⟩ = some (.int .i64 (-1))) :
    Calls Try.prog 68 #[.slice (some ⟨gx, 0, none⟩) 1 1, .int .i64 n] w fun e w' => ∃ v', e = .returned v' ∧ (Kd.int .i64).R 3 w' w.heap.size (fun _ => True) v' (List.replicate n (-1)) ∧ Below w.heap.size w w' := by
  have hn0 : (0 : Int) ≤ (n : Int) := by omega
  have hwn : IntKind.u64.wrap (n : Int) = (n : Int) := by unfold IntKind.wrap; simp [IntKind.bits, IntKind.signed]; omega
  have hwm : IntKind.i64.wrap (n : Int) = (n : Int) := by rw [i64_w]; unfold wrap64; omega
  have hmk := print_make (P := Try.prog) 43 3 .i64 8 Try.underlying43 info3 (by decide) n (by omega)
  go_enter Try.func68, Try.ntmps68
  go_wp2_with fail
  refine (bits_Mul.calls 1 (n : Int) 0 (n : Int) _ (mul_one n hn)).mono ?_
  rintro e w2 ⟨rfl, hd⟩
  have hxd : w2.cell? ⟨gx, 0, none⟩ = some (.int .i64 (-1)) := (hd.below.cell (p := ⟨gx, 0, none⟩) hg0).trans hx
  have HB := Aside0.mk hd.below
  have hsz := hd.below.size
  clear hd hx
  have hF : Fills (w2.alloc (.cells (madeCells #[.int .i64 0] n) 3)) w2.heap.size n 0 := by
    rw [made_fill]; exact blk_new _ _
  have hmm : min 1 (n - 0) ≤ n := by omega
  have hcp := fill_copy hF (Nat.zero_le _) ⟨gx, 0, none⟩ 1 1 n (fun j hj => by
    have : j = 0 := by omega
    subst this
    exact Lib.cell?_alloc_some _ hxd) 3
  obtain ⟨m, hm⟩ : ∃ m, min 1 (n - 0) = m := ⟨_, rfl⟩
  rw [hm] at hcp hmm
  have hcp2 : (Builtin.copy_ #[43, 43] 3 #[.slice (some ⟨w2.heap.size, 0, none⟩) n n, .slice (some ⟨gx, 0, none⟩) 1 1]).run Try.prog (w2.alloc (.cells (madeCells #[.int .i64 0] n) 3)) = .ok (.int .i64 m) ((w2.alloc (.cells (madeCells #[.int .i64 0] n) 3)).setCells w2.heap.size 0 (List.replicate m (.int .i64 (-1)))) := by
    exact hcp
  have hF2 := Aside0.mk (fills_set (m := m) hF (by omega))
  have hB2 : Below w.heap.size w ((w2.alloc (.cells (madeCells #[.int .i64 0] n) 3)).setCells w2.heap.size 0 (List.replicate m (.int .i64 (-1)))) := below_setCells (by omega) _ _ _ (below_alloc HB.out _)
  have HB2 := Aside0.mk hB2
  have HM := Aside0.mk hm
  clear hcp hF hB2 HB hm
  go_wp2
  go_loopw [8] (fun kv wr => ∃ k : Nat, kv = .int .i64 k ∧ k ≤ n ∧ (0 < n → 0 < k) ∧ Aside0 (Fills wr w2.heap.size n k) ∧ Aside0 (Below w.heap.size w wr)) (fun kv _ => n - (intOf kv).toNat)
  case atStart => exact ⟨m, rfl, hmm, fun h => by have := HM.out; omega, ⟨by have := hF2.out; rwa [Nat.zero_add] at this⟩, ⟨HB2.out⟩⟩
  case round =>
    obtain ⟨k, rfl, hk, hk0, HF, HB⟩ := hrel
    clear hwn hwm hmk hxd hF2 HB2
    by_cases hlt : (k : Int) < (n : Int)
    · have hd : decide ((k : Int) < (n : Int)) = true := decide_eq_true hlt
      have hkp : 0 < k := hk0 (by omega)
      have hkw : wrap64 (k : Int) = (k : Int) := by unfold wrap64; omega
      have hf1 : ∀ W : World, (Instr.slice 43 (.slice (some ⟨w2.heap.size, 0, none⟩) n n) (some (.int .i64 (k : Int))) none none).run Try.prog W = .ok (.slice (some ⟨w2.heap.size, k, none⟩) (n - k) (n - k)) W := by
        intro W
        obtain ⟨i, hi, hh⟩ := Option.map_eq_some_iff.1 info3
        simp only [Prod.mk.injEq] at hh
        rw [cut_from 43 3 .i64 Try.underlying43 hi 1 hh.2.1 _ n n (k : Int) (by omega) (by omega) W, Int.toNat_natCast, if_neg (by omega)]
        simp [Addr.add]
        omega
      have hf2 : ∀ W : World, (Instr.slice 43 (.slice (some ⟨w2.heap.size, 0, none⟩) n n) none (some (.int .i64 (k : Int))) none).run Try.prog W = .ok (.slice (some ⟨w2.heap.size, 0, none⟩) k n) W := by
        intro W
        obtain ⟨i, hi, hh⟩ := Option.map_eq_some_iff.1 info3
        rw [cut_to 43 3 .i64 Try.underlying43 hi _ n n (k : Int) (by omega) (by omega) (Nat.le_refl _) W, Int.toNat_natCast]
      have hcp := fun (W : World) (h : Fills W w2.heap.size n k) => fill_copy h hk ⟨w2.heap.size, 0, none⟩ k n (n - k) (fun j hj => by
        have := fills_cell h (show j < k by omega) hk
        unfold Addr.add
        split
        · next e => rw [e] at this; exact this
        · simpa using this) 3
      obtain ⟨m2, hm2⟩ : ∃ m2, min k (n - k) = m2 := ⟨_, rfl⟩
      rw [hm2] at hcp
      have hm3 : 0 < m2 ∧ k + m2 ≤ n := by omega
      have hwm2 : wrap64 ((k : Int) + (m2 : Int)) = (k : Int) + (m2 : Int) := by unfold wrap64; omega
      have hcp3 : (Builtin.copy_ #[43, 43] 3 #[.slice (some ⟨w2.heap.size, k, none⟩) (n - k) (n - k), .slice (some ⟨w2.heap.size, 0, none⟩) k n]).run Try.prog wr.drew = .ok (.int .i64 m2) (wr.drew.setCells w2.heap.size k (List.replicate m2 (.int .i64 (-1)))) := hcp wr.drew HF.out.drew
      have hF3 := Aside0.mk (fills_set (W := wr.drew) (m := m2) HF.out.drew hm3.2)
      have hB3 : Below w.heap.size w (wr.drew.setCells w2.heap.size k (List.replicate m2 (.int .i64 (-1)))) := below_setCells (by omega) _ _ _ HB.out.drew
      have HB3 := Aside0.mk hB3
      clear hB3 hcp hm2 HB
      try clear hcp2
      go_wp2_with fail
      refine start_ (n := 10) (S := fun _ => True) (ds := []) #[false, false, false, false, false, false, false, false, false, false] (by kernel_rfl) rfl rfl trivial (fun hHeld => ?_)
      refine pure_ (i := 0) (N := some 38) (v := ?_) (a' := ?_) #[true, false, false, false, false, false, false, false, false, false] rfl rfl (by kernel_rfl) (fun _ _ _ h => h) (Or.inl ⟨by rfl, ?_⟩) ?_ ?_
      rotate_left
      · intro w'
        go_simp
        with_reducible rfl
      rotate_left
      · simp only [Act.put, List.setIfInBounds_toArray, List.set_cons_zero, List.set_cons_succ, i64_w, i32_w]
        rfl
      refine pure_ (i := 1) (N := some 39) (v := ?_) (a' := ?_) #[true, true, false, false, false, false, false, false, false, false] rfl rfl (by kernel_rfl) (fun _ _ _ h => h) (Or.inl ⟨by rfl, ?_⟩) ?_ ?_
      rotate_left
      · intro w'
        go_simp
        with_reducible rfl
      rotate_left
      · simp only [Act.put, List.setIfInBounds_toArray, List.set_cons_zero, List.set_cons_succ, i64_w, i32_w]
        rfl
      refine pure_ (i := 2) (N := some 40) (v := ?_) (a' := ?_) #[true, true, true, false, false, false, false, false, false, false] rfl rfl (by kernel_rfl) (fun _ _ _ h => h) (Or.inl ⟨by rfl, ?_⟩) ?_ ?_
      rotate_left
      · intro w'
        go_simp
        with_reducible rfl
      rotate_left
      · simp only [Act.put, List.setIfInBounds_toArray, List.set_cons_zero, List.set_cons_succ, i64_w, i32_w]
        rfl
      refine pure_ (i := 3) (N := some 41) (v := ?_) (a' := ?_) #[true, true, true, true, false, false, false, false, false, false] rfl rfl (by kernel_rfl) (fun _ _ _ h => h) (Or.inl ⟨by rfl, ?_⟩) ?_ ?_
      rotate_left
      · intro w'
        go_simp
        with_reducible rfl
      rotate_left
      · simp only [Act.put, List.setIfInBounds_toArray, List.set_cons_zero, List.set_cons_succ, i64_w, i32_w]
        rfl
      refine pure_ (i := 4) (N := some 42) (v := ?_) (a' := ?_) #[true, true, true, true, true, false, false, false, false, false] rfl rfl (by kernel_rfl) (fun _ _ _ h => h) (Or.inl ⟨by rfl, ?_⟩) ?_ ?_
      rotate_left
      · intro w'
        go_simp
        with_reducible rfl
      rotate_left
      · simp only [Act.put, List.setIfInBounds_toArray, List.set_cons_zero, List.set_cons_succ, i64_w, i32_w]
        rfl
      refine pure_ (i := 5) (N := some 43) (v := ?_) (a' := ?_) #[true, true, true, true, true, true, false, false, false, false] rfl rfl (by kernel_rfl) (fun _ _ _ h => h) (Or.inl ⟨by rfl, ?_⟩) ?_ ?_
      rotate_left
      · intro w'
        go_simp
        with_reducible rfl
      rotate_left
      · simp only [Act.put, List.setIfInBounds_toArray, List.set_cons_zero, List.set_cons_succ, i64_w, i32_w]
        rfl
      refine pure_ (i := 6) (N := some 44) (v := ?_) (a' := ?_) #[true, true, true, true, true, true, true, false, false, false] rfl rfl (by kernel_rfl) (fun _ _ _ h => h) (Or.inl ⟨by rfl, ?_⟩) ?_ ?_
      rotate_left
      · intro w'
        go_simp
        with_reducible rfl
      rotate_left
      · simp only [Act.put, List.setIfInBounds_toArray, List.set_cons_zero, List.set_cons_succ, i64_w, i32_w]
        rfl
      refine one_ (i := 7) (N := some 45) #[true, true, true, true, true, true, true, true, false, false] rfl rfl (by kernel_rfl) (by decide) (fun K hK => ?_)
      refine value_ (v := .int .i64 m2) (w1 := wr.drew.setCells w2.heap.size k (List.replicate m2 (.int .i64 (-1)))) (by rfl) rfl ?_ ?_
      · go_simp
      refine hK.out _ _ trivial (fun hHeld => ?_)
      clear hK K
      refine norm_ (a' := ?_) ?_ ?_
      rotate_left
      · show Act.put _ (some 45) _ = _
        simp only [Act.put, List.setIfInBounds_toArray, List.set_cons_zero, List.set_cons_succ, i64_w, i32_w]
        rfl
      refine pure_ (i := 8) (N := some 46) (v := ?_) (a' := ?_) #[true, true, true, true, true, true, true, true, true, false] rfl rfl (by kernel_rfl) (fun _ _ _ h => h) (Or.inl ⟨by rfl, ?_⟩) ?_ ?_
      rotate_left
      · intro w'
        go_simp
        with_reducible rfl
      rotate_left
      · simp only [Act.put, List.setIfInBounds_toArray, List.set_cons_zero, List.set_cons_succ, i64_w, i32_w]
        rfl
      refine pure_ (i := 9) (N := some 8) (v := ?_) (a' := ?_) #[true, true, true, true, true, true, true, true, true, true] rfl rfl (by kernel_rfl) (fun _ _ _ h => h) (Or.inl ⟨by rfl, ?_⟩) ?_ ?_
      rotate_left
      · intro w'
        go_simp
        with_reducible rfl
      rotate_left
      · simp only [Act.put, List.setIfInBounds_toArray, List.set_cons_zero, List.set_cons_succ, i64_w, i32_w]
        rfl
      refine done_ (by kernel_rfl) ?_
      generalize wr.drew.setCells w2.heap.size k (List.replicate m2 (.int .i64 (-1))) = w5 at *
      clear hcp3 hf1 hf2
      (try simp only [Exit.inBlock, Exit.then])
      go_wp2
      go_roundw
      case rel => exact ⟨k + m2, by push_cast; rfl, hm3.2, fun _ => by omega, ⟨hF3.out⟩, ⟨HB3.out⟩⟩
      case measure =>
        clear hkw hwm2 hd
        simp [intOf]; omega
    · have hd : decide ((k : Int) < (n : Int)) = false := decide_eq_false hlt
      have hkn : k = n := by omega
      subst hkn
      go_wp2
      go_ret
      refine ⟨_, rfl, Kd.R_of_own (xs := List.replicate k (-1)) ?_ (fun _ _ => trivial), HB.out⟩
      rw [List.length_replicate]
      refine ⟨by simp [encs], .inr ⟨w2.heap.size, k, _, rfl, hsz, HF.out, Nat.le_refl _, ?_, ?_, ?_⟩⟩
      · unfold maxLen; omega
      · simp [fillL]
      · simp [fillL, encs]
end

end Go.Proofs.Ytcbnmmkmgpbfiaa.PP

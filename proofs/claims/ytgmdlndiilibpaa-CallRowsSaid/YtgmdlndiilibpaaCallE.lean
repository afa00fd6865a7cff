import Derived.Test.YtgmdlndiilibpaaCallD
namespace Go.Proofs.Ytgmdlndiilibpaa.PC
open Go.RowKit Go.Proofs.YtgmdlndiilibpaaW.PrintWords Go.Proofs.YtgmdlndiilibpaaW.PrintLast Go.Proofs.YtgmdlndiilibpaaW.PrintMore Go.Proofs.Ytgmdlndiilibpaa.Tab Go.Proofs.Ytgmdlndiilibpaa.CallK
attribute [local go_sem] max2_int min2_int max_two min_two max_three min_three max_four min_four   -- for this text's walks alone
set_option linter.unusedVariables false
set_option linter.unusedSimpArgs false
set_option maxHeartbeats 4000000 in
set_option maxRecDepth 100000 in
theorem peek_none {w : World} {base B gw : Nat} {vs : List Value} {lv : Value} {qs : List (List Sn)} {left : List Int} (h : CA w base B gw vs lv qs left) (k : Int) (hk : waits qs k = 0) :
    Calls Try.prog 29 #[.pointer (some ⟨B, 0, none⟩), .int .i64 k] w fun e w' => e = .returned (.tuple #[.agg #[.int .i64 0, .int .i64 0, .int .u64 0], .int .i64 0, .bool false]) ∧ Below w.heap.size w w' := by
  have hB1 := (Below.refl w.heap.size w).alloc (Nat.le_refl _) (.cells #[.int .i64 0, .int .i64 0, .int .u64 0] 46)
  have hb4 := blk_new w (.cells #[.int .i64 0, .int .i64 0, .int .u64 0] 46)
  have h1 := h.below hB1
  go_enter Try.func29, Try.ntmps29
  go_wp2_with fail
  obtain ⟨w1, hw1⟩ : ∃ w1, w.alloc (.cells #[.int .i64 0, .int .i64 0, .int .u64 0] 46) = w1 := ⟨_, rfl⟩
  rw [hw1] at hB1 hb4 h1 ⊢
  clear hw1
  refine (waiting_calls h1 k).mono ?_
  rw [hk]
  rintro e w' ⟨rfl, rfl⟩
  have HB1 := Aside0.mk hB1
  have HB4 := Aside0.mk hb4
  have q0 := (blk_cell hb4 0).trans rfl
  have q1 := (blk_cell hb4 1).trans rfl
  have q2 := (blk_cell hb4 2).trans rfl
  have f0 := blk_frozen hb4 0
  have f1 := blk_frozen hb4 1
  have f2 := blk_frozen hb4 2
  clear h h1 hB1 hb4
  obtain ⟨g4, hg4⟩ : ∃ g4, w.heap.size = g4 := ⟨_, rfl⟩
  have HG4 := Aside0.mk hg4
  rw [hg4] at HB1 HB4 q0 q1 q2 f0 f1 f2 ⊢
  clear hg4
  go_wp2_with fail
  (try simp only [Exit.inBlock, Exit.then])
  refine bodyPost_ret (results_ctt rfl _ _ g4 46 #[.int .i64 0, .int .i64 0, .int .u64 0] (0, 0) _ rfl (put46 HB4.out) Try.underlying46 rfl (by kernel_rfl)) rfl ?_
  rw [HG4.out]
  exact ⟨rfl, ((HB1.out.setCell (p := ⟨g4, 0, none⟩) (Nat.le_refl _) _).setCell (p := ⟨g4, 1, none⟩) (Nat.le_refl _) _).setCell (p := ⟨g4, 2, none⟩) (Nat.le_refl _) _⟩
set_option maxHeartbeats 4000000 in
set_option maxRecDepth 100000 in
theorem take_none {w : World} {base B gw : Nat} {vs : List Value} {lv : Value} {qs : List (List Sn)} {left : List Int} (h : CA w base B gw vs lv qs left) (k : Int) (hk : waits qs k = 0) :
    Calls Try.prog 28 #[.pointer (some ⟨B, 0, none⟩), .int .i64 k] w fun e w' => e = .returned (.tuple #[.agg #[.int .i64 0, .int .i64 0, .int .u64 0], .int .i64 0, .bool false]) ∧ Below w.heap.size w w' := by
  have hB1 := (Below.refl w.heap.size w).alloc (Nat.le_refl _) (.cells #[.int .i64 0, .int .i64 0, .int .u64 0] 46)
  have hb4 := blk_new w (.cells #[.int .i64 0, .int .i64 0, .int .u64 0] 46)
  have h1 := h.below hB1
  go_enter Try.func28, Try.ntmps28
  go_wp2_with fail
  obtain ⟨w1, hw1⟩ : ∃ w1, w.alloc (.cells #[.int .i64 0, .int .i64 0, .int .u64 0] 46) = w1 := ⟨_, rfl⟩
  rw [hw1] at hB1 hb4 h1 ⊢
  clear hw1
  refine (peek_none h1 k hk).mono ?_
  rintro e w' ⟨rfl, hb⟩
  have hB2 := (below_step hB1 hb).alloc (below_step hB1 hb).size (.cells #[.int .i64 0, .int .i64 0, .int .u64 0] 46)
  have hb4' := blk_alloc (blk_below hb4 hb) (.cells #[.int .i64 0, .int .i64 0, .int .u64 0] 46)
  have hb7 := blk_new w' (.cells #[.int .i64 0, .int .i64 0, .int .u64 0] 46)
  have HB1 := Aside0.mk hB2
  have HB4 := Aside0.mk hb4'
  have q0 := (blk_cell hb4' 0).trans rfl
  have q1 := (blk_cell hb4' 1).trans rfl
  have q2 := (blk_cell hb4' 2).trans rfl
  have f0 := blk_frozen hb4' 0
  have f1 := blk_frozen hb4' 1
  have f2 := blk_frozen hb4' 2
  have hne : w.heap.size ≠ w'.heap.size := by have := (Array.getElem?_eq_some_iff.1 (blk_below hb4 hb)).1; omega
  clear hB1 hb4 h h1 hb hB2 hb4' hb7
  obtain ⟨g4, hg4⟩ : ∃ g4, w.heap.size = g4 := ⟨_, rfl⟩
  have HG4 := Aside0.mk hg4
  rw [hg4] at HB1 HB4 q0 q1 q2 f0 f1 f2 hne ⊢
  clear hg4
  go_wp2_with fail
  (try simp only [Exit.inBlock, Exit.then])
  refine bodyPost_ret (results_ctt rfl _ _ g4 46 #[.int .i64 0, .int .i64 0, .int .u64 0] (0, 0) _ rfl (put46 HB4.out) Try.underlying46 rfl (by kernel_rfl)) rfl ?_
  rw [HG4.out]
  exact ⟨rfl, ((HB1.out.setCell (p := ⟨g4, 0, none⟩) (Nat.le_refl _) _).setCell (p := ⟨g4, 1, none⟩) (Nat.le_refl _) _).setCell (p := ⟨g4, 2, none⟩) (Nat.le_refl _) _⟩
end Go.Proofs.Ytgmdlndiilibpaa.PC

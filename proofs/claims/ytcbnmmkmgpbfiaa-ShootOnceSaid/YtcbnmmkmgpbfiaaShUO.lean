import Derived.Test.YtcbnmmkmgpbfiaaShTO
namespace Go.Proofs.Ytcbnmmkmgpbfiaa.PS
open Go.RowKit Go.Proofs.YtcbnmmkmgpbfiaaW.PrintWords Go.Proofs.YtcbnmmkmgpbfiaaW.PrintLast Go.Proofs.YtcbnmmkmgpbfiaaW.PrintMore
attribute [local go_sem] max2_int min2_int max_two min_two max_three min_three max_four min_four   -- for this text's walks alone
set_option linter.unusedVariables false
set_option linter.unusedSimpArgs false
theorem put30 (w2 : World) (g : Nat) (p : S30) (hbk : w2.heap[g]? = some (.cells #[.int .u64 0, .int .i64 0, .int .u64 0, .bool false, .bool false, .bool false, .bool false, .bool false, .bool false, .bool false, .bool false] 30 (0, 0))) : (((((((((((w2.setCell ⟨g, 0, none⟩ (.int .u64 p.f0)).setCell ⟨g, 1, none⟩ (.int .i64 p.f1)).setCell ⟨g, 2, none⟩ (.int .u64 p.f2)).setCell ⟨g, 3, none⟩ (.bool p.f3.f0)).setCell ⟨g, 4, none⟩ (.bool p.f3.f1)).setCell ⟨g, 5, none⟩ (.bool p.f3.f2)).setCell ⟨g, 6, none⟩ (.bool p.f3.f3)).setCell ⟨g, 7, none⟩ (.bool p.f3.f4)).setCell ⟨g, 8, none⟩ (.bool p.f3.f5)).setCell ⟨g, 9, none⟩ (.bool p.f4)).setCell ⟨g, 10, none⟩ (.bool p.f5)).heap[g]? = some (.cells #[.int .u64 p.f0, .int .i64 p.f1, .int .u64 p.f2, .bool p.f3.f0, .bool p.f3.f1, .bool p.f3.f2, .bool p.f3.f3, .bool p.f3.f4, .bool p.f3.f5, .bool p.f4, .bool p.f5] 30 (0, 0)) := by
  refine blk_put (cs := #[.int .u64 p.f0, .int .i64 p.f1, .int .u64 p.f2, .bool p.f3.f0, .bool p.f3.f1, .bool p.f3.f2, .bool p.f3.f3, .bool p.f3.f4, .bool p.f3.f5, .bool p.f4, .bool false]) ?_ 10 _ (by simp) 
  refine blk_put (cs := #[.int .u64 p.f0, .int .i64 p.f1, .int .u64 p.f2, .bool p.f3.f0, .bool p.f3.f1, .bool p.f3.f2, .bool p.f3.f3, .bool p.f3.f4, .bool p.f3.f5, .bool false, .bool false]) ?_ 9 _ (by simp) 
  refine blk_put (cs := #[.int .u64 p.f0, .int .i64 p.f1, .int .u64 p.f2, .bool p.f3.f0, .bool p.f3.f1, .bool p.f3.f2, .bool p.f3.f3, .bool p.f3.f4, .bool false, .bool false, .bool false]) ?_ 8 _ (by simp) 
  refine blk_put (cs := #[.int .u64 p.f0, .int .i64 p.f1, .int .u64 p.f2, .bool p.f3.f0, .bool p.f3.f1, .bool p.f3.f2, .bool p.f3.f3, .bool false, .bool false, .bool false, .bool false]) ?_ 7 _ (by simp) 
  refine blk_put (cs := #[.int .u64 p.f0, .int .i64 p.f1, .int .u64 p.f2, .bool p.f3.f0, .bool p.f3.f1, .bool p.f3.f2, .bool false, .bool false, .bool false, .bool false, .bool false]) ?_ 6 _ (by simp) 
  refine blk_put (cs := #[.int .u64 p.f0, .int .i64 p.f1, .int .u64 p.f2, .bool p.f3.f0, .bool p.f3.f1, .bool false, .bool false, .bool false, .bool false, .bool false, .bool false]) ?_ 5 _ (by simp) 
  refine blk_put (cs := #[.int .u64 p.f0, .int .i64 p.f1, .int .u64 p.f2, .bool p.f3.f0, .bool false, .bool false, .bool false, .bool false, .bool false, .bool false, .bool false]) ?_ 4 _ (by simp) 
  refine blk_put (cs := #[.int .u64 p.f0, .int .i64 p.f1, .int .u64 p.f2, .bool false, .bool false, .bool false, .bool false, .bool false, .bool false, .bool false, .bool false]) ?_ 3 _ (by simp) 
  refine blk_put (cs := #[.int .u64 p.f0, .int .i64 p.f1, .int .u64 0, .bool false, .bool false, .bool false, .bool false, .bool false, .bool false, .bool false, .bool false]) ?_ 2 _ (by simp) 
  refine blk_put (cs := #[.int .u64 p.f0, .int .i64 0, .int .u64 0, .bool false, .bool false, .bool false, .bool false, .bool false, .bool false, .bool false, .bool false]) ?_ 1 _ (by simp) 
  refine blk_put (cs := #[.int .u64 0, .int .i64 0, .int .u64 0, .bool false, .bool false, .bool false, .bool false, .bool false, .bool false, .bool false, .bool false]) ?_ 0 _ (by simp) 
  exact hbk
set_option maxHeartbeats 4000000 in
set_option maxRecDepth 100000 in
theorem at_calls (A0 : Option Addr) (c0 : Nat) (l0 : List S30) (va : Int) (w : World) (hr0 : Kd.C k30 w A0 l0.length l0) (hc0 : l0.length ≤ c0) (hL : l0.length ≤ 1000000000000) (hA : ∀ p ∈ l0, (iN va p).isSome = true) :
    Calls Try.prog 28 #[.slice A0 l0.length c0, .int .u64 va] w fun e w' => ∃ x : S30, e = .returned (.tuple #[.agg #[.int .u64 x.f0, .int .i64 x.f1, .int .u64 x.f2, .bool x.f3.f0, .bool x.f3.f1, .bool x.f3.f2, .bool x.f3.f3, .bool x.f3.f4, .bool x.f3.f5, .bool x.f4, .bool x.f5], .bool (l0.any (iA va))]) ∧ Below w.heap.size w w' := by
  have HR0 := Aside0.mk hr0
  have HA := Aside0.mk hA
  have HL := Aside0.mk hL
  clear hr0 hA hL hc0
  go_enter Try.func28, Try.ntmps28
  go_wp2_with fail
  have hb1 := ((Below.refl w.heap.size w).alloc (Nat.le_refl _) (.cells #[.int .u64 va] 26))
  have hb2 := hb1.alloc (by simp) (.cells #[.int .u64 0, .int .i64 0, .int .u64 0, .bool false, .bool false, .bool false, .bool false, .bool false, .bool false, .bool false, .bool false] 30)
  have hg1 : ((w.alloc (.cells #[.int .u64 va] 26)).alloc (.cells #[.int .u64 0, .int .i64 0, .int .u64 0, .bool false, .bool false, .bool false, .bool false, .bool false, .bool false, .bool false, .bool false] 30)).heap[w.heap.size]? = some (.cells #[.int .u64 va] 26 (0, 0)) := blk_alloc (blk_new w _) _
  have hg2 : ((w.alloc (.cells #[.int .u64 va] 26)).alloc (.cells #[.int .u64 0, .int .i64 0, .int .u64 0, .bool false, .bool false, .bool false, .bool false, .bool false, .bool false, .bool false, .bool false] 30)).heap[w.heap.size + 1]? = some (.cells #[.int .u64 0, .int .i64 0, .int .u64 0, .bool false, .bool false, .bool false, .bool false, .bool false, .bool false, .bool false, .bool false] 30 (0, 0)) := by
    have := blk_new (w.alloc (.cells #[.int .u64 va] 26)) (.cells #[.int .u64 0, .int .i64 0, .int .u64 0, .bool false, .bool false, .bool false, .bool false, .bool false, .bool false, .bool false, .bool false] 30)
    rwa [show (w.alloc (.cells #[.int .u64 va] 26)).heap.size = w.heap.size + 1 by simp] at this
  generalize (w.alloc (.cells #[.int .u64 va] 26)).alloc (.cells #[.int .u64 0, .int .i64 0, .int .u64 0, .bool false, .bool false, .bool false, .bool false, .bool false, .bool false, .bool false, .bool false] 30) = w1 at hb2 hg1 hg2 ⊢
  clear hb1
  refine (keep30_calls w1 w.heap.size A0 c0 l0 va (Kd.C_below HR0.out hb2) HL.out hg1 HA.out).mono ?_
  rintro e' w2 ⟨v, rfl, hv, hb3⟩
  have HB2 := Aside0.mk (below_step hb2 hb3)
  have HV := Aside0.mk (Kd.R_lower hv hb2.size)
  have hbk := blk_below hg2 hb3
  have GE : Aside0 (w.heap.size ≤ w.heap.size + 1) := ⟨Nat.le_succ _⟩
  clear hb2 hb3 hg1 hg2 hv
  obtain ⟨A5, c5, hv5⟩ := Kd.R_slice HV.out
  subst hv5
  generalize w.heap.size + 1 = g at hbk GE ⊢
  obtain ⟨F, hF⟩ : ∃ F, F = l0.filter (iA va) := ⟨_, rfl⟩
  have hany : l0.any (iA va) = decide (0 < F.length) := by
    rw [hF]
    by_cases hx : l0.any (iA va) = true
    · rw [hx]
      obtain ⟨q, hq, hq2⟩ := List.any_eq_true.1 hx
      have := List.length_pos_of_mem (List.mem_filter.2 ⟨hq, hq2⟩)
      simpa using this
    · rw [Bool.not_eq_true] at hx
      rw [hx]
      have : l0.filter (iA va) = [] := by
        rw [List.filter_eq_nil_iff]
        intro q hq hq2
        rw [List.any_eq_false] at hx
        exact hx q hq hq2
      rw [this]; rfl
  rw [← hF] at HV ⊢
  have HANY := Aside0.mk hany
  clear hany hF
  have hcz0 : w2.cell? ⟨g, 0, none⟩ = some (.int .u64 0) := (blk_cell hbk 0).trans rfl
  have hcz1 : w2.cell? ⟨g, 1, none⟩ = some (.int .i64 0) := (blk_cell hbk 1).trans rfl
  have hcz2 : w2.cell? ⟨g, 2, none⟩ = some (.int .u64 0) := (blk_cell hbk 2).trans rfl
  have hcz3 : w2.cell? ⟨g, 3, none⟩ = some (.bool false) := (blk_cell hbk 3).trans rfl
  have hcz4 : w2.cell? ⟨g, 4, none⟩ = some (.bool false) := (blk_cell hbk 4).trans rfl
  have hcz5 : w2.cell? ⟨g, 5, none⟩ = some (.bool false) := (blk_cell hbk 5).trans rfl
  have hcz6 : w2.cell? ⟨g, 6, none⟩ = some (.bool false) := (blk_cell hbk 6).trans rfl
  have hcz7 : w2.cell? ⟨g, 7, none⟩ = some (.bool false) := (blk_cell hbk 7).trans rfl
  have hcz8 : w2.cell? ⟨g, 8, none⟩ = some (.bool false) := (blk_cell hbk 8).trans rfl
  have hcz9 : w2.cell? ⟨g, 9, none⟩ = some (.bool false) := (blk_cell hbk 9).trans rfl
  have hcz10 : w2.cell? ⟨g, 10, none⟩ = some (.bool false) := (blk_cell hbk 10).trans rfl
  have hfz0 := blk_frozen hbk 0
  have hfz1 := blk_frozen hbk 1
  have hfz2 := blk_frozen hbk 2
  have hfz3 := blk_frozen hbk 3
  have hfz4 := blk_frozen hbk 4
  have hfz5 := blk_frozen hbk 5
  have hfz6 := blk_frozen hbk 6
  have hfz7 := blk_frozen hbk 7
  have hfz8 := blk_frozen hbk 8
  have hfz9 := blk_frozen hbk 9
  have hfz10 := blk_frozen hbk 10
  by_cases hn : 0 < F.length
  · obtain ⟨ad, ead, x0, x1, x2, x3, x4, x5, x6, x7, x8, x9, x10⟩ := at_T30 (Kd.R_reads' HV.out).2.2 0 (by omega) (by omega)
    cases ead
    obtain ⟨p, hp⟩ : ∃ p, rd_T30 F 0 = p := ⟨_, rfl⟩
    have e0 : ad.add ((0 : Int).toNat * 11) = ad := by simp [Addr.add]
    rw [hp] at x0 x1 x2 x3 x4 x5 x6 x7 x8 x9 x10
    rw [e0] at x0 x1 x2 x3 x4 x5 x6 x7 x8 x9 x10
    have hn0 : ((F.length : Int) == 0) = false := beq_eq_false_iff_ne.2 (by omega)
    have hn1 : (0 : Int) < F.length := by omega
    have hn2 : ¬ (F.length = 0) := by omega
    go_wp2_with fail
    (try simp only [Exit.inBlock, Exit.then])
    refine bodyPost_ret (results_ct rfl _ _ g 30 #[.int .u64 p.f0, .int .i64 p.f1, .int .u64 p.f2, .bool p.f3.f0, .bool p.f3.f1, .bool p.f3.f2, .bool p.f3.f3, .bool p.f3.f4, .bool p.f3.f5, .bool p.f4, .bool p.f5] (0, 0) _ rfl (by have h := put30 w2 g p hbk; with_reducible exact h) Try.underlying30 rfl (by kernel_rfl)) rfl ?_
    exact ⟨p, by rw [HANY.out, decide_eq_true hn]; rfl, by (iterate 11 (refine below_set ?_ GE.out)); exact HB2.out⟩
  · obtain rfl : F = [] := List.eq_nil_of_length_eq_zero (by omega)
    go_wp2_with fail
    (try simp only [Exit.inBlock, Exit.then])
    refine bodyPost_ret (results_ct rfl _ _ g 30 #[.int .u64 0, .int .i64 0, .int .u64 0, .bool false, .bool false, .bool false, .bool false, .bool false, .bool false, .bool false, .bool false] (0, 0) _ rfl (by have h := put30 w2 g z30 hbk; unfold z30 z28 at h; with_reducible exact h) Try.underlying30 rfl (by kernel_rfl)) rfl ?_
    exact ⟨z30, by rw [HANY.out]; rfl, by (iterate 11 (refine below_set ?_ GE.out)); exact HB2.out⟩
end Go.Proofs.Ytcbnmmkmgpbfiaa.PS


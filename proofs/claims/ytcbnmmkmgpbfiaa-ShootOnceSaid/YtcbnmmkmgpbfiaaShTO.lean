import Derived.Test.YtcbnmmkmgpbfiaaPSx10O
import Derived.Lib.Builder
namespace Go.Proofs.Ytcbnmmkmgpbfiaa.PS
open Go.RowKit Go.Proofs.YtcbnmmkmgpbfiaaW.PrintWords Go.Proofs.YtcbnmmkmgpbfiaaW.PrintLast Go.Proofs.YtcbnmmkmgpbfiaaW.PrintMore
attribute [local go_sem] max2_int min2_int max_two min_two max_three min_three max_four min_four   -- for this text's walks alone
set_option linter.unusedVariables false
set_option linter.unusedSimpArgs false
def iN (va : Int) (p : S30) : Option Bool := page_In.f va p.f0 p.f1
def iA (va : Int) (p : S30) : Bool := (iN va p).getD false
set_option maxHeartbeats 4000000 in
set_option maxRecDepth 100000 in
theorem at1_calls (w : World) (B : Nat) (p : S30) (va : Int) (hB : w.heap[B]? = some (.cells #[.int .u64 va] 26 (0, 0))) (r : Bool) (h : iN va p = some r) :
    Calls Try.prog 64 #[.agg #[.int .u64 p.f0, .int .i64 p.f1, .int .u64 p.f2, .bool p.f3.f0, .bool p.f3.f1, .bool p.f3.f2, .bool p.f3.f3, .bool p.f3.f4, .bool p.f3.f5, .bool p.f4, .bool p.f5], .pointer (some ⟨B, 0, none⟩)] w fun e' w' => e' = .returned (.bool r) ∧ Below w.heap.size w w' := by
  have c0 : w.cell? ⟨B, 0, none⟩ = some (.int .u64 va) := by rw [Lib.cell_of_heap hB]; rfl
  have hlt := (Array.getElem?_eq_some_iff.1 hB).1
  have hne : B ≠ w.heap.size := Nat.ne_of_lt hlt
  have hne' : w.heap.size ≠ B := Nat.ne_of_gt hlt
  have HH := Aside0.mk h
  clear hB h
  go_enter Try.func64, Try.ntmps64
  go_wp2_with fail
  have hb1 := (Below.refl w.heap.size w).alloc (Nat.le_refl _) (.cells #[.int .u64 p.f0, .int .i64 p.f1, .int .u64 p.f2, .bool p.f3.f0, .bool p.f3.f1, .bool p.f3.f2, .bool p.f3.f3, .bool p.f3.f4, .bool p.f3.f5, .bool p.f4, .bool p.f5] 30)
  refine (page_In.calls _ _ _ r _ HH.out).mono ?_
  rintro e' w2 ⟨rfl, hd2⟩
  have HB2 := Aside0.mk (below_step hb1 hd2.below)
  clear hb1 hd2
  go_wp2
  go_ret
  exact ⟨rfl, HB2.out⟩
set_option maxHeartbeats 8000000 in
set_option maxRecDepth 100000 in
theorem keep30_calls (w : World) (B : Nat) (A0 : Option Addr) (c0 : Nat) (l0 : List S30) (va : Int) (hr0 : Kd.C k30 w A0 l0.length l0) (hc0 : l0.length ≤ 1000000000000) (hB : w.heap[B]? = some (.cells #[.int .u64 va] 26 (0, 0)))
    (h : ∀ p ∈ l0, (iN va p).isSome = true) :
    Calls Try.prog 63 #[.slice A0 l0.length c0, .func (.func 64) #[] #[.pointer (some ⟨B, 0, none⟩)]] w fun e' w' => ∃ v : Value, e' = .returned v ∧ Kd.R k30 30 w' w.heap.size (fun _ => True) v (l0.filter (iA va)) ∧ Below w.heap.size w w' := by
  have HR0 := Aside0.mk hr0
  have HH := Aside0.mk h
  have HBB := Aside0.mk hB
  have HB := Aside0.mk (Below.refl w.heap.size w)
  clear hr0 h hB
  go_enter Try.func63, Try.ntmps63
  go_wp2_with fail
  go_loopw [5, 10] (fun ov iv wr => ∃ i : Nat, iv = .int .i64 i ∧ i ≤ l0.length ∧ Aside0 (Kd.R k30 30 wr w.heap.size (fun _ => True) ov ((l0.take i).filter (iA va))) ∧ Aside0 (Below w.heap.size w wr)) (fun _ iv _ => l0.length - (intOf iv).toNat)
  case atStart => exact ⟨0, rfl, by omega, ⟨Kd.R_nil _ _ _ _ _⟩, HB⟩
  case round =>
    clear HB
    obtain ⟨i, rfl, hi, HO, HB⟩ := hrel
    obtain ⟨A5, c5, hv5⟩ := Kd.R_slice HO.out
    subst hv5
    have hfl : ((l0.take i).filter (iA va)).length ≤ i := Nat.le_trans (List.length_filter_le _ _) (by rw [List.length_take]; omega)
    by_cases hil : (i : Int) < (l0.length : Int)
    · have hil' : i < l0.length := by omega
      obtain ⟨ad, ead, x0, x1, x2, x3, x4, x5, x6, x7, x8, x9, x10⟩ := at_T30 (Kd.C_below HR0.out HB.out) i (by omega) hil
      cases ead
      obtain ⟨p, hp⟩ : ∃ p, rd_T30 l0 i = p := ⟨_, rfl⟩
      have hp2 : l0[i] = p := by rw [← hp]; simp [rd_T30, List.getD_eq_getElem?_getD, List.getElem?_eq_getElem hil']
      rw [hp] at x0 x1 x2 x3 x4 x5 x6 x7 x8 x9 x10
      rw [Int.toNat_natCast] at x0 x1 x2 x3 x4 x5 x6 x7 x8 x9 x10
      have htk : l0.take (i + 1) = l0.take i ++ [p] := by rw [List.take_succ_eq_append_getElem hil', hp2]
      obtain ⟨r, hsr⟩ : ∃ r, iN va p = some r := Option.isSome_iff_exists.1 (HH.out p (hp2 ▸ List.getElem_mem hil'))
      have hsw : iA va p = r := by unfold iA; rw [hsr]; rfl
      have HP := Aside0.mk htk
      have HS := Aside0.mk hsr
      have HSW := Aside0.mk hsw
      clear hp hp2 htk hsr hsw
      obtain ⟨F, hF⟩ : ∃ F, F = (l0.take i).filter (iA va) := ⟨_, rfl⟩
      rw [← hF] at HO hfl ⊢
      have HFF := Aside0.mk hF
      clear hF
      go_wp2_with fail
      have hb1 := (Below.refl wr.heap.size wr).alloc (Nat.le_refl _) (.cells #[.int .u64 p.f0, .int .i64 p.f1, .int .u64 p.f2, .bool p.f3.f0, .bool p.f3.f1, .bool p.f3.f2, .bool p.f3.f3, .bool p.f3.f4, .bool p.f3.f5, .bool p.f4, .bool p.f5] 30)
      have hg1 : (wr.alloc (.cells #[.int .u64 p.f0, .int .i64 p.f1, .int .u64 p.f2, .bool p.f3.f0, .bool p.f3.f1, .bool p.f3.f2, .bool p.f3.f3, .bool p.f3.f4, .bool p.f3.f5, .bool p.f4, .bool p.f5] 30)).heap[wr.heap.size]? = some (.cells #[.int .u64 p.f0, .int .i64 p.f1, .int .u64 p.f2, .bool p.f3.f0, .bool p.f3.f1, .bool p.f3.f2, .bool p.f3.f3, .bool p.f3.f4, .bool p.f3.f5, .bool p.f4, .bool p.f5] 30 (0, 0)) := heap_alloc_new wr _
      have HO1 := Aside0.mk (Kd.R_mono (Kd.R_below (Kd.R_bound HO.out) hb1) (fun k hk => (show (w.heap.size ≤ k ∧ k ≠ wr.heap.size) from ⟨hk.2.1, Nat.ne_of_lt hk.2.2.1⟩)))
      have HB1 := Aside0.mk (below_step HB.out hb1)
      have hlg : wr.heap.size < (wr.alloc (.cells #[.int .u64 p.f0, .int .i64 p.f1, .int .u64 p.f2, .bool p.f3.f0, .bool p.f3.f1, .bool p.f3.f2, .bool p.f3.f3, .bool p.f3.f4, .bool p.f3.f5, .bool p.f4, .bool p.f5] 30)).heap.size := by simp
      generalize wr.alloc (.cells #[.int .u64 p.f0, .int .i64 p.f1, .int .u64 p.f2, .bool p.f3.f0, .bool p.f3.f1, .bool p.f3.f2, .bool p.f3.f3, .bool p.f3.f4, .bool p.f3.f5, .bool p.f4, .bool p.f5] 30) = w1 at hb1 hg1 HO1 HB1 hlg ⊢
      have hwg := HB.out.size
      generalize wr.heap.size = g at hg1 HO1 hlg hwg ⊢
      clear hb1 HB HO x0 x1 x2 x3 x4 x5 x6 x7 x8 x9 x10
      have hB1 := (HB1.out.block _ (Array.getElem?_eq_some_iff.1 HBB.out).1).trans HBB.out
      refine (at1_calls w1 B p va hB1 r HS.out).mono ?_
      clear hB1
      rintro e' w2 ⟨rfl, hb2⟩
      have hg2 := (hb2.block g hlg).trans hg1
      have HO2 := Aside0.mk (Kd.R_below HO1.out hb2)
      have HB2 := Aside0.mk (below_step HB1.out hb2)
      have hlg2 : g < w2.heap.size := Nat.lt_of_lt_of_le hlg hb2.size
      clear hb2 hg1 HO1 HB1 hlg
      have z0 : w2.cell? ⟨g, 0, none⟩ = some (.int .u64 p.f0) := by rw [Lib.cell_of_heap hg2]; rfl
      have z1 : w2.cell? ⟨g, 1, none⟩ = some (.int .i64 p.f1) := by rw [Lib.cell_of_heap hg2]; rfl
      have z2 : w2.cell? ⟨g, 2, none⟩ = some (.int .u64 p.f2) := by rw [Lib.cell_of_heap hg2]; rfl
      have z3 : w2.cell? ⟨g, 3, none⟩ = some (.bool p.f3.f0) := by rw [Lib.cell_of_heap hg2]; rfl
      have z4 : w2.cell? ⟨g, 4, none⟩ = some (.bool p.f3.f1) := by rw [Lib.cell_of_heap hg2]; rfl
      have z5 : w2.cell? ⟨g, 5, none⟩ = some (.bool p.f3.f2) := by rw [Lib.cell_of_heap hg2]; rfl
      have z6 : w2.cell? ⟨g, 6, none⟩ = some (.bool p.f3.f3) := by rw [Lib.cell_of_heap hg2]; rfl
      have z7 : w2.cell? ⟨g, 7, none⟩ = some (.bool p.f3.f4) := by rw [Lib.cell_of_heap hg2]; rfl
      have z8 : w2.cell? ⟨g, 8, none⟩ = some (.bool p.f3.f5) := by rw [Lib.cell_of_heap hg2]; rfl
      have z9 : w2.cell? ⟨g, 9, none⟩ = some (.bool p.f4) := by rw [Lib.cell_of_heap hg2]; rfl
      have z10 : w2.cell? ⟨g, 10, none⟩ = some (.bool p.f5) := by rw [Lib.cell_of_heap hg2]; rfl
      have hF1 : F.length + 1 ≤ 1000000000001 := by omega
      clear hg2
      cases r with
      | false =>
        go_wp2
        go_roundw
        case rel =>
          refine ⟨i + 1, by go_num, by omega, ⟨?_⟩, HB2⟩
          rw [HP.out, List.filter_append, ← HFF.out]
          simp only [List.filter_cons, HSW.out, List.filter_nil]
          simpa using Kd.R_mono HO2.out (fun _ _ => trivial)
        case measure => simp [intOf]; omega
      | true =>
        go_wp2_with (first | ((with_reducible refine gate_builtin (b := .append) (xs := #[.tmp 17, .tmp 19]) rfl ?_); at_builtin; refine Kd.R_append k30 (w0 := w) w.heap.size rfl (.tmp 17) (.tmp 19) 23 30 (.agg #[(.int .u64 0), (.int .i64 0), (.int .u64 0), (.bool false), (.bool false), (.bool false), (.bool false), (.bool false), (.bool false), (.bool false), (.bool false)]) 32 rfl Try.underlying23 info30 rfl (by decide) (by omega) (.slice A5 F.length c5) F p [.int .u64 p.f0, .int .i64 p.f1, .int .u64 p.f2, .bool p.f3.f0, .bool p.f3.f1, .bool p.f3.f2, .bool p.f3.f3, .bool p.f3.f4, .bool p.f3.f5, .bool p.f4, .bool p.f5] (fun _ => True) (fun _ => False) rfl rfl ?aP (fun _ hk => hk.elim) ?aF ?aO ?aB ?aS ?aL ?_; (case aP => exact k30_mkM _ _ _ p); (case aB => exact HB2.out); (case aF => exact (fun _ _ => trivial)); (case aO => exact Kd.R_mono HO2.out (fun _ _ => trivial)); (case aS => exact HB2.out.size); (case aL => omega); intro v5 w5 ho5 hb5 hg5 hat5))
        go_roundw
        case rel =>
          refine ⟨i + 1, by go_num, by omega, ⟨?_⟩, ⟨hb5⟩⟩
          rw [HP.out, List.filter_append, ← HFF.out]
          simp only [List.filter_cons, HSW.out, List.filter_nil]
          simpa using ho5
        case measure => simp [intOf]; omega
    · obtain rfl : i = l0.length := by omega
      rw [List.take_length] at HO ⊢
      go_wp2
      go_ret
      exact ⟨_, rfl, HO.out, HB.out⟩
end Go.Proofs.Ytcbnmmkmgpbfiaa.PS


import Derived.Test.YtcbnmmkmgpbfiaaPSx10O
import Derived.RangeFuncNested
import Derived.RangeFuncBound
import Derived.RangeFuncCalls
import Derived.RangeFuncLeaves
import Derived.Shelf.Abstract
import Derived.Shelf.RegionOpen
import Derived.WalkKit
import Derived.OwnWalkIn
import Derived.TacticsInMore
import Derived.LoopNIn
import Derived.LoopIn
import Derived.Sort.LoopGhostIn
import Derived.Lib.Builder
namespace Go.Proofs.Ytcbnmmkmgpbfiaa.PS
open Go.RowKit Go.Proofs.YtcbnmmkmgpbfiaaW.PrintWords Go.Proofs.YtcbnmmkmgpbfiaaW.PrintLast Go.Proofs.YtcbnmmkmgpbfiaaW.PrintMore
attribute [local go_sem] max2_int min2_int max_two min_two max_three min_three max_four min_four   -- for this text's walks alone
set_option linter.unusedVariables false
set_option linter.unusedSimpArgs false
open Go.Shelf
attribute [local go_sem] Oper.semAt_some
def enc30 (e : S30) : Value := .agg #[.int .u64 e.f0, .int .i64 e.f1, .int .u64 e.f2, .bool e.f3.f0, .bool e.f3.f1, .bool e.f3.f2, .bool e.f3.f3, .bool e.f3.f4, .bool e.f3.f5, .bool e.f4, .bool e.f5]
set_option maxHeartbeats 4000000 in
set_option maxRecDepth 100000 in
theorem pairs30_in (n : Nat) (v0 : Value) (hv : ∃ A m c, v0 = .slice A m c) (w : World) :
    CallsIn Fence.wide n Try.prog 66 #[v0] w fun e w' => e = .returned (.func (.func 88) #[] #[.pointer (some ⟨w.heap.size, 0, none⟩)]) ∧ w' = w.alloc (.cells #[v0] 23) := by
  obtain ⟨A, m, c, rfl⟩ := hv
  refine callsIn_of_wp Try.func66 rfl trivial ?_ rfl
  simp only [Try.ntmps66, List.size_toArray, List.length_cons, List.length_nil, Nat.reduceAdd, Nat.reduceSub, Array.replicate_succ, Array.replicate_zero, List.push_toArray, List.append_toArray, List.nil_append, List.cons_append]
  gi_wp2
  go_ret
  exact ⟨rfl, rfl⟩
theorem KC.reads30 {W W' : World} (h : KC W W') {A : Option Addr} {n : Nat} {l : List S30} (hc : Kd.C k30 W A n l) : Kd.C k30 W' A n l := by
  obtain ⟨h1, h2, h3⟩ := hc
  refine ⟨h1, h2, fun hp => ?_⟩
  obtain ⟨a, ha, hr⟩ := h3 hp
  refine ⟨a, ha, fun j x hj => ?_⟩
  obtain ⟨cs, hcl, hK, hcc⟩ := hr j x hj
  obtain rfl := k30_open hK
  exact ⟨_, hcl, k30_mk W' x, fun q u hu => h.cell (hcc q u hu)⟩
set_option maxHeartbeats 4000000 in
set_option maxRecDepth 100000 in
theorem pairs130_in {α : Type} (f : α → S30 × S30) (n : Nat) (hn : 1 ≤ n) (lq Bn : Nat) (A : Option Addr) (c : Nat) (l : List S30) (Q : List α) (hQ : Q.map f = pairsL l) (hmx : l.length ≤ 1000000) (J Jx : List α → World → Prop)
    (hY : ∀ pre x W, J pre W → pre.length < Q.length → YieldAt Fence.wide (n - 1) Try.prog lq #[enc30 (f x).1, enc30 (f x).2] W fun e W' =>
      (e = .returned (.bool true) ∧ J (pre ++ [x]) W' ∧ KC W W') ∨ (e = .returned (.bool false) ∧ Jx (pre ++ [x]) W'))
    (hJa : ∀ pre W o, J pre W → J pre (W.alloc o)) (hlc : l.length ≤ c)
    (W : World) (hBn : W.cell? ⟨Bn, 0, none⟩ = some (.slice A l.length c)) (hT : Kd.C k30 W A l.length l) (h0 : J [] W) :
    CallsIn Fence.wide n Try.prog 88 #[.func (.yield lq) #[] #[], .pointer (some ⟨Bn, 0, none⟩)] W fun e W' => (∃ v, e = .returned v) ∧
      ((∃ ys, ys = Q ∧ J ys W') ∨ (∃ pre, pre <+: Q ∧ Jx pre W')) := by
  have HT := Aside0.mk hT
  have HQ := Aside0.mk hQ
  have HY := Aside0.mk hY
  have HBN := Aside0.mk hBn
  clear hT hQ hY
  refine callsIn_of_wp Try.func88 rfl trivial ?_ rfl
  simp only [Try.ntmps88, List.size_toArray, List.length_cons, List.length_nil, Nat.reduceAdd, Nat.reduceSub, Array.replicate_succ, Array.replicate_zero, List.push_toArray, List.append_toArray, List.nil_append, List.cons_append]
  gi_wp2
  clear hBn
  gi_loopw [9] (fun iv wr => ∃ i : Nat, iv = .int .i64 i ∧ i ≤ l.length ∧ J (Q.take (prsTo l i).length) wr ∧ Aside0 (KC W wr)) (fun iv _ => l.length - (intOf iv).toNat)
  case atStart => exact ⟨0, rfl, by omega, by simpa [prsTo] using h0, ⟨KC.refl _⟩⟩
  case round =>
    obtain ⟨i, rfl, hi, hJ, HB⟩ := hrel
    by_cases hil : (i : Int) < (l.length : Int)
    · have hil' : i < l.length := by omega
      obtain ⟨ad, ead, x0, x1, x2, x3, x4, x5, x6, x7, x8, x9, x10⟩ := at_T30 (HB.out.reads30 HT.out) i (by omega) hil
      subst ead
      obtain ⟨b, hb⟩ : ∃ b, l[i] = b := ⟨_, rfl⟩
      have hrd : rd_T30 l i = b := by rw [← hb]; simp [rd_T30, List.getD_eq_getElem?_getD, List.getElem?_eq_getElem hil']
      rw [hrd, Int.toNat_natCast] at x0 x1 x2 x3 x4 x5 x6 x7 x8 x9 x10
      have hkc : KC wr (wr.alloc (.cells #[.int .u64 b.f0, .int .i64 b.f1, .int .u64 b.f2, .bool b.f3.f0, .bool b.f3.f1, .bool b.f3.f2, .bool b.f3.f3, .bool b.f3.f4, .bool b.f3.f5, .bool b.f4, .bool b.f5] 30)) := KC.of_below ((Below.refl _ wr).alloc (Nat.le_refl _) _)
      have hcB2 : (wr.alloc (.cells #[.int .u64 b.f0, .int .i64 b.f1, .int .u64 b.f2, .bool b.f3.f0, .bool b.f3.f1, .bool b.f3.f2, .bool b.f3.f3, .bool b.f3.f4, .bool b.f3.f5, .bool b.f4, .bool b.f5] 30)).cell? ⟨Bn, 0, none⟩ = some (.slice (some ad) l.length c) := (HB.out.trans hkc).cell HBN.out
      have hslc : i ≤ c := by omega
      have HBB := Aside0.mk hb
      clear hb hrd
      gi_wp2
      have hJ2 := hJa _ _ (.cells #[.int .u64 b.f0, .int .i64 b.f1, .int .u64 b.f2, .bool b.f3.f0, .bool b.f3.f1, .bool b.f3.f2, .bool b.f3.f3, .bool b.f3.f4, .bool b.f3.f5, .bool b.f4, .bool b.f5] 30) hJ
      have HB2 := Aside0.mk (HB.out.trans hkc)
      have hgb : (wr.alloc (.cells #[.int .u64 b.f0, .int .i64 b.f1, .int .u64 b.f2, .bool b.f3.f0, .bool b.f3.f1, .bool b.f3.f2, .bool b.f3.f3, .bool b.f3.f4, .bool b.f3.f5, .bool b.f4, .bool b.f5] 30)).heap[wr.heap.size]? = some (.cells #[.int .u64 b.f0, .int .i64 b.f1, .int .u64 b.f2, .bool b.f3.f0, .bool b.f3.f1, .bool b.f3.f2, .bool b.f3.f3, .bool b.f3.f4, .bool b.f3.f5, .bool b.f4, .bool b.f5] 30 (0, 0)) := World.alloc_heap_new wr _
      have HGB := Aside0.mk hgb
      clear hgb x0 x1 x2 x3 x4 x5 x6 x7 x8 x9 x10 hJ HB hkc hcB2
      generalize wr.alloc (.cells #[.int .u64 b.f0, .int .i64 b.f1, .int .u64 b.f2, .bool b.f3.f0, .bool b.f3.f1, .bool b.f3.f2, .bool b.f3.f3, .bool b.f3.f4, .bool b.f3.f5, .bool b.f4, .bool b.f5] 30) = w1 at HGB hJ2 HB2 ⊢
      generalize wr.heap.size = gb at HGB ⊢
      have hpi : prs l i = (l.take i).map (fun a => (a, b)) := prs_at (by rw [List.getElem?_eq_getElem hil', HBB.out])
      have HPI := Aside0.mk hpi
      have hpl : (prs l i).length = i := by rw [hpi, List.length_map, List.length_take]; omega
      have HPL := Aside0.mk hpl
      clear hpi hpl
      gi_loopw [18] (fun jv wr => ∃ j : Nat, jv = .int .i64 j ∧ j ≤ i ∧ J (Q.take ((prsTo l i).length + j)) wr ∧ Aside0 (KC W wr) ∧ Aside0 (wr.heap[gb]? = some (.cells #[.int .u64 b.f0, .int .i64 b.f1, .int .u64 b.f2, .bool b.f3.f0, .bool b.f3.f1, .bool b.f3.f2, .bool b.f3.f3, .bool b.f3.f4, .bool b.f3.f5, .bool b.f4, .bool b.f5] 30 (0, 0)))) (fun jv _ => i - (intOf jv).toNat)
      case atStart => exact ⟨0, rfl, by omega, hJ2, HB2, HGB⟩
      case round =>
        clear hJ2 HB2 HGB
        obtain ⟨j, rfl, hj, hJ, HB, HGB⟩ := hrel
        by_cases hjl : (j : Int) < (i : Int)
        · have hjl' : j < i := by omega
          have hjc : j < l.length := by omega
          have hjll : (j : Int) < (l.length : Int) := by omega
          obtain ⟨ad2, ead2, x0, x1, x2, x3, x4, x5, x6, x7, x8, x9, x10⟩ := at_T30 (HB.out.reads30 HT.out) j (by omega) hjll
          obtain rfl : ad = ad2 := Option.some.inj ead2
          obtain ⟨a, ha⟩ : ∃ a, l[j] = a := ⟨_, rfl⟩
          have hrd : rd_T30 l j = a := by rw [← ha]; simp [rd_T30, List.getD_eq_getElem?_getD, List.getElem?_eq_getElem hjc]
          rw [hrd, Int.toNat_natCast] at x0 x1 x2 x3 x4 x5 x6 x7 x8 x9 x10
          have hkc : KC wr (wr.alloc (.cells #[.int .u64 a.f0, .int .i64 a.f1, .int .u64 a.f2, .bool a.f3.f0, .bool a.f3.f1, .bool a.f3.f2, .bool a.f3.f3, .bool a.f3.f4, .bool a.f3.f5, .bool a.f4, .bool a.f5] 30)) := KC.of_below ((Below.refl _ wr).alloc (Nat.le_refl _) _)
          have hhz := hkc.2 _ _ _ _ HGB.out
          have z0 : (wr.alloc (.cells #[.int .u64 a.f0, .int .i64 a.f1, .int .u64 a.f2, .bool a.f3.f0, .bool a.f3.f1, .bool a.f3.f2, .bool a.f3.f3, .bool a.f3.f4, .bool a.f3.f5, .bool a.f4, .bool a.f5] 30)).cell? ⟨gb, 0, none⟩ = some (.int .u64 b.f0) := by rw [Lib.cell_of_heap hhz]; rfl
          have z1 : (wr.alloc (.cells #[.int .u64 a.f0, .int .i64 a.f1, .int .u64 a.f2, .bool a.f3.f0, .bool a.f3.f1, .bool a.f3.f2, .bool a.f3.f3, .bool a.f3.f4, .bool a.f3.f5, .bool a.f4, .bool a.f5] 30)).cell? ⟨gb, 1, none⟩ = some (.int .i64 b.f1) := by rw [Lib.cell_of_heap hhz]; rfl
          have z2 : (wr.alloc (.cells #[.int .u64 a.f0, .int .i64 a.f1, .int .u64 a.f2, .bool a.f3.f0, .bool a.f3.f1, .bool a.f3.f2, .bool a.f3.f3, .bool a.f3.f4, .bool a.f3.f5, .bool a.f4, .bool a.f5] 30)).cell? ⟨gb, 2, none⟩ = some (.int .u64 b.f2) := by rw [Lib.cell_of_heap hhz]; rfl
          have z3 : (wr.alloc (.cells #[.int .u64 a.f0, .int .i64 a.f1, .int .u64 a.f2, .bool a.f3.f0, .bool a.f3.f1, .bool a.f3.f2, .bool a.f3.f3, .bool a.f3.f4, .bool a.f3.f5, .bool a.f4, .bool a.f5] 30)).cell? ⟨gb, 3, none⟩ = some (.bool b.f3.f0) := by rw [Lib.cell_of_heap hhz]; rfl
          have z4 : (wr.alloc (.cells #[.int .u64 a.f0, .int .i64 a.f1, .int .u64 a.f2, .bool a.f3.f0, .bool a.f3.f1, .bool a.f3.f2, .bool a.f3.f3, .bool a.f3.f4, .bool a.f3.f5, .bool a.f4, .bool a.f5] 30)).cell? ⟨gb, 4, none⟩ = some (.bool b.f3.f1) := by rw [Lib.cell_of_heap hhz]; rfl
          have z5 : (wr.alloc (.cells #[.int .u64 a.f0, .int .i64 a.f1, .int .u64 a.f2, .bool a.f3.f0, .bool a.f3.f1, .bool a.f3.f2, .bool a.f3.f3, .bool a.f3.f4, .bool a.f3.f5, .bool a.f4, .bool a.f5] 30)).cell? ⟨gb, 5, none⟩ = some (.bool b.f3.f2) := by rw [Lib.cell_of_heap hhz]; rfl
          have z6 : (wr.alloc (.cells #[.int .u64 a.f0, .int .i64 a.f1, .int .u64 a.f2, .bool a.f3.f0, .bool a.f3.f1, .bool a.f3.f2, .bool a.f3.f3, .bool a.f3.f4, .bool a.f3.f5, .bool a.f4, .bool a.f5] 30)).cell? ⟨gb, 6, none⟩ = some (.bool b.f3.f3) := by rw [Lib.cell_of_heap hhz]; rfl
          have z7 : (wr.alloc (.cells #[.int .u64 a.f0, .int .i64 a.f1, .int .u64 a.f2, .bool a.f3.f0, .bool a.f3.f1, .bool a.f3.f2, .bool a.f3.f3, .bool a.f3.f4, .bool a.f3.f5, .bool a.f4, .bool a.f5] 30)).cell? ⟨gb, 7, none⟩ = some (.bool b.f3.f4) := by rw [Lib.cell_of_heap hhz]; rfl
          have z8 : (wr.alloc (.cells #[.int .u64 a.f0, .int .i64 a.f1, .int .u64 a.f2, .bool a.f3.f0, .bool a.f3.f1, .bool a.f3.f2, .bool a.f3.f3, .bool a.f3.f4, .bool a.f3.f5, .bool a.f4, .bool a.f5] 30)).cell? ⟨gb, 8, none⟩ = some (.bool b.f3.f5) := by rw [Lib.cell_of_heap hhz]; rfl
          have z9 : (wr.alloc (.cells #[.int .u64 a.f0, .int .i64 a.f1, .int .u64 a.f2, .bool a.f3.f0, .bool a.f3.f1, .bool a.f3.f2, .bool a.f3.f3, .bool a.f3.f4, .bool a.f3.f5, .bool a.f4, .bool a.f5] 30)).cell? ⟨gb, 9, none⟩ = some (.bool b.f4) := by rw [Lib.cell_of_heap hhz]; rfl
          have z10 : (wr.alloc (.cells #[.int .u64 a.f0, .int .i64 a.f1, .int .u64 a.f2, .bool a.f3.f0, .bool a.f3.f1, .bool a.f3.f2, .bool a.f3.f3, .bool a.f3.f4, .bool a.f3.f5, .bool a.f4, .bool a.f5] 30)).cell? ⟨gb, 10, none⟩ = some (.bool b.f5) := by rw [Lib.cell_of_heap hhz]; rfl
          have hJ2 := hJa _ _ (.cells #[.int .u64 a.f0, .int .i64 a.f1, .int .u64 a.f2, .bool a.f3.f0, .bool a.f3.f1, .bool a.f3.f2, .bool a.f3.f3, .bool a.f3.f4, .bool a.f3.f5, .bool a.f4, .bool a.f5] 30) hJ
          have hql : (prsTo l i).length + j < Q.length := by
            have e1 := congrArg List.length HQ.out
            rw [List.length_map] at e1
            have e2 := prsTo_len l (i + 1) l.length (by omega)
            rw [prsTo, List.length_append, HPL.out] at e2
            have : (pairsL l).length = (prsTo l l.length).length := rfl
            omega
          have hqx : f (Q[(prsTo l i).length + j]'hql) = (a, b) := by
            have e1 : (Q.map f)[(prsTo l i).length + j]? = some (a, b) := by
              rw [HQ.out]
              obtain ⟨s, hs⟩ := prsTo_pre l (i + 1) l.length (by omega)
              rw [show pairsL l = prsTo l l.length from rfl, ← hs, prsTo, List.getElem?_append_left (by rw [List.length_append, HPL.out]; omega), List.getElem?_append_right (by omega), HPI.out]
              simp [List.getElem?_take, hjl', List.getElem?_eq_getElem hjc, ha]
            rw [List.getElem?_map, List.getElem?_eq_getElem hql] at e1
            simpa using e1
          have htk : Q.take ((prsTo l i).length + (j + 1)) = Q.take ((prsTo l i).length + j) ++ [Q[(prsTo l i).length + j]'hql] := by
            rw [← Nat.add_assoc, List.take_succ_eq_append_getElem hql]
          obtain ⟨fn, tmps, assign, body, hy, hR⟩ := HY.out _ (Q[(prsTo l i).length + j]'hql) _ hJ2 (by rw [List.length_take]; omega)
          have HTK := Aside0.mk htk
          have hpre : Q.take ((prsTo l i).length + (j + 1)) <+: Q := List.take_prefix _ _
          have HPRE := Aside0.mk hpre
          rw [hqx] at hy
          dsimp only [enc30] at hy
          clear ha hrd hJ htk hpre hqx hhz
          gi_wp2
          refine hR.mono ?_
          rintro e W3 (⟨rfl, hJ3, hk3⟩ | ⟨rfl, hJx3⟩)
          · have hJ4 : J (Q.take ((prsTo l i).length + (j + 1))) W3 := by rw [HTK.out]; exact hJ3
            have HB4 := Aside0.mk (HB.out.trans (hkc.trans hk3))
            have HGB4 := Aside0.mk (hk3.2 _ _ _ _ (hkc.2 _ _ _ _ HGB.out))
            clear hJ3 hk3 hkc HB HGB hJ2 hy hR x0 x1 x2 x3 x4 x5 x6 x7 x8 x9 x10 z0 z1 z2 z3 z4 z5 z6 z7 z8 z9 z10
            gi_wp2
            go_roundw
            case rel => exact ⟨j + 1, by go_num, by omega, hJ4, HB4, HGB4⟩
            case measure => simp [intOf]; omega
          · gi_wp2
            refine bodyPost_ret (results_none rfl _ _ _) rfl ?_
            refine ⟨⟨_, rfl⟩, .inr ⟨_, ?_, hJx3⟩⟩
            rw [← HTK.out]
            exact HPRE.out
        · obtain rfl : j = i := by omega
          have hnx : (prsTo l (j + 1)).length = (prsTo l j).length + j := by rw [prsTo, List.length_append, HPL.out]
          have HNX := Aside0.mk hnx
          clear hnx
          gi_wp2
          go_roundw
          case rel => exact ⟨j + 1, by go_num, by omega, by rw [HNX.out]; exact hJ, HB⟩
          case measure => simp [intOf]; omega
    · obtain rfl : i = l.length := by omega
      have hfull : Q.take (prsTo l l.length).length = Q := by
        have e1 := congrArg List.length HQ.out
        rw [List.length_map] at e1
        exact List.take_of_length_le (by rw [e1]; exact Nat.le_refl _)
      rw [hfull] at hJ
      have HJ := Aside0.mk hJ
      clear hfull hJ
      gi_wp2
      go_end0
      exact ⟨⟨_, rfl⟩, .inl HJ.out⟩
/-- What pairs hands back, as a contract for callers. -/
theorem pairs30_stops {α : Type} (f : α → S30 × S30) (n : Nat) (hn : 1 ≤ n) (Bn : Nat) (A : Option Addr) (c : Nat) (l : List S30) (Q : List α) (hQ : Q.map f = pairsL l) (hmx : l.length ≤ 1000000) (hlc : l.length ≤ c) (w : World) (hBn : Bn < w.heap.size)
    (hc : w.cell? ⟨Bn, 0, none⟩ = some (.slice A l.length c)) (hT : Kd.C k30 w A l.length l) :
    SeqStopsK Fence.wide n Try.prog 88 #[.pointer (some ⟨Bn, 0, none⟩)] (fun x : α => #[enc30 (f x).1, enc30 (f x).2]) KC (fun ys => ys = Q) (fun pre => pre <+: Q) Q.length w := fun l' J Jx W hW hJ _ hY h0 =>
  pairs130_in f n hn l' Bn A c l Q hQ hmx J Jx hY (fun pre W' o hw => hJ pre W' (W'.alloc o) none hw (World.grownBy_alloc W' o none) (fun r e => by cases e)) hlc W ((hW.cell (p := ⟨Bn, 0, none⟩) hBn).trans hc) (Kd.C_below hT hW) h0
def pM (x : S30 × S30) : Option Bool := (page_Meet.f x.1.f0 x.1.f1 x.2.f0 x.2.f1).map fun m => !m
theorem pM_m {x : S30 × S30} {b : Bool} (h : pM x = some b) : page_Meet.f x.1.f0 x.1.f1 x.2.f0 x.2.f1 = some (!b) := by
  obtain ⟨m, hm, hb⟩ := Option.map_eq_some_iff.1 h
  rw [hm, ← hb, Bool.not_not]
/-- shoot.Clear. -/
def shoot_Clear.f (l0 : List (S30)) : Option (Bool) :=
  if (decide (l0.length ≤ 1000000) && (pairsL l0).all fun x => (pM x).isSome) = true then some ((pairsL l0).all fun x => (pM x).getD false) else none
set_option maxHeartbeats 4000000 in
set_option maxRecDepth 100000 in
theorem shoot_Clear.calls (A0 : Option Addr) (c0 : Nat) (l0 : List (S30)) (r : Bool) (w : World) (hr0 : Kd.C k30 w A0 l0.length l0) (hc0 : l0.length ≤ c0) (h : shoot_Clear.f l0 = some r) :
    Calls Try.prog 29 #[.slice A0 l0.length c0] w fun e w' => e = .returned (.bool r) ∧ Below w.heap.size w w' := by
  unfold shoot_Clear.f at h
  by_cases hc : (decide (l0.length ≤ 1000000) && (pairsL l0).all fun x => (pM x).isSome) = true
  rotate_left
  · rw [if_neg hc] at h; cases h
  rw [if_pos hc] at h
  have hr := Option.some.inj h
  simp only [Bool.and_eq_true, List.all_eq_true, decide_eq_true_eq] at hc
  obtain ⟨hmx, hso⟩ := hc
  obtain ⟨Q, hQ⟩ := lift_pairs (fun x => (pM x).isSome = true) (pairsL l0) hso
  have HQ := Aside0.mk hQ
  have HRR := Aside0.mk hr
  have HR0 := Aside0.mk hr0
  clear h hso hQ hr hr0
  refine (callsIn_wide (n := 5)).1 ?_
  have h1 : 1 ≤ 5 := by omega
  refine callsIn_of_wp_marks Try.func29 rfl trivial ?_ rfl
  simp only [Try.ntmps29, List.size_toArray, List.length_cons, List.length_nil, Nat.reduceAdd, Nat.reduceSub, Array.replicate_succ, Array.replicate_zero, List.push_toArray, List.append_toArray, List.nil_append, List.cons_append]
  gi_wp2_with (refine ⟨trivial, ?_⟩; gi_at_call 66; refine (pairs30_in _ _ ⟨_, _, _, rfl⟩ _).mono ?_; rintro e w' ⟨rfl, rfl⟩)
  obtain ⟨B, hB⟩ : ∃ B, w.heap.size = B := ⟨_, rfl⟩
  have b0 := (Boxed.new w 4 (.bool false)).alloc (.cells #[.slice A0 l0.length c0] 23)
  have b1 := Boxed.new (w.alloc (.cells #[.bool false] 4)) 23 (.slice A0 l0.length c0)
  simp only [World.size_alloc] at b1
  have hB0 : Below w.heap.size w ((w.alloc (.cells #[.bool false] 4)).alloc (.cells #[.slice A0 l0.length c0] 23)) := ((Below.refl _ w).alloc (Nat.le_refl _) _).alloc (by simp) _
  have hsz : ((w.alloc (.cells #[.bool false] 4)).alloc (.cells #[.slice A0 l0.length c0] 23)).heap.size = w.heap.size + 2 := by simp
  obtain ⟨W0, hW0⟩ : ∃ W0, (w.alloc (.cells #[.bool false] 4)).alloc (.cells #[.slice A0 l0.length c0] 23) = W0 := ⟨_, rfl⟩
  rw [hW0] at b0 b1 hB0 hsz ⊢
  clear hW0
  have hT0 := Kd.C_below HR0.out hB0
  rw [hB] at b0 b1 hB0 hsz ⊢
  refine wpIn_rangeFunc_ownH rfl h1 (gf := 88) (lb := #[.pointer (some ⟨B + 1, 0, none⟩)]) rfl trivial (enters_of Try.func88 (by kernel_rfl) rfl)
    (pairs30_stops (fun x : { x : S30 × S30 // (pM x).isSome = true } => x.1) 4 (by omega) (B + 1) A0 c0 l0 Q HQ.out hmx hc0 W0 (by omega) b1.cell hT0) (fun h k => KC.trans h k) (fun W l o o' _ hl ho _ => KC.putObj hl ho) (Below.refl _ _) (fun _ => rfl)
    (fun pre W => Boxed W B 4 (.bool false) ∧ (∀ x ∈ pre, pM x.1 = some true) ∧ Below B w W)
    (fun cd pre W => Boxed W B 4 (.bool false) ∧ (cd = .ret ∧ ∃ x ∈ pre, pM x.1 = some false) ∧ Below B w W)
    ?hI ?hIx ?h0
    (fun x a' W => ∃ Ba Bb, B < Ba ∧ B < Bb ∧ W.heap[Ba]? = some (.cells #[.int .u64 x.1.1.f0, .int .i64 x.1.1.f1, .int .u64 x.1.1.f2, .bool x.1.1.f3.f0, .bool x.1.1.f3.f1, .bool x.1.1.f3.f2, .bool x.1.1.f3.f3, .bool x.1.1.f3.f4, .bool x.1.1.f3.f5, .bool x.1.1.f4, .bool x.1.1.f5] 30 (0, 0)) ∧
      W.heap[Bb]? = some (.cells #[.int .u64 x.1.2.f0, .int .i64 x.1.2.f1, .int .u64 x.1.2.f2, .bool x.1.2.f3.f0, .bool x.1.2.f3.f1, .bool x.1.2.f3.f2, .bool x.1.2.f3.f3, .bool x.1.2.f3.f4, .bool x.1.2.f3.f5, .bool x.1.2.f4, .bool x.1.2.f5] 30 (0, 0)) ∧
      a' = { tmps := #[.slice A0 l0.length c0, undef, .pointer (some ⟨B, 0, none⟩), .pointer (some ⟨Ba, 0, none⟩), .pointer (some ⟨Bb, 0, none⟩), .slice A0 l0.length c0, .func (.func 88) #[] #[.pointer (some ⟨B + 1, 0, none⟩)], enc30 x.1.1, enc30 x.1.2, undef, undef, undef, undef, undef, undef, undef, undef, undef], defers := [] })
    ?hAx ?assign ?body ?done ?stop
  case hI => exact OwnFrom.and (Own.from (boxed_own _ _ _) _) (OwnFrom.and (fun _ _ _ _ hs _ _ => hs) (ownFrom_below (by omega) (by omega)))
  case hIx => exact fun cd => OwnFrom.and (Own.from (boxed_own _ _ _) _) (OwnFrom.and (fun _ _ _ _ hs _ _ => hs) (ownFrom_below (by omega) (by omega)))
  case h0 => exact ⟨b0, by simp, hB0⟩
  case hAx =>
    rintro x a' _ X Y row ⟨Ba, Bb, h1, h2, h3, h4, h5⟩ hg hr
    exact ⟨Ba, Bb, h1, h2, own32 (β := Unit) Ba _ _ () X Y row h3 hg (fun r e => (hr r e).2), own32 (β := Unit) Bb _ _ () X Y row h4 hg (fun r e => (hr r e).2), h5⟩
  case assign =>
    rintro l pre x W K ⟨c0', hp, hBW⟩ hK
    dsimp only [enc30]
    have hsW := hBW.size
    have hl4 := c0'.lt
    gi_wp2
    have hka : KC W (W.alloc (.cells #[.int .u64 x.1.1.f0, .int .i64 x.1.1.f1, .int .u64 x.1.1.f2, .bool x.1.1.f3.f0, .bool x.1.1.f3.f1, .bool x.1.1.f3.f2, .bool x.1.1.f3.f3, .bool x.1.1.f3.f4, .bool x.1.1.f3.f5, .bool x.1.1.f4, .bool x.1.1.f5] 30)) := KC.of_below ((Below.refl _ W).alloc (Nat.le_refl _) _)
    have hkb : KC (W.alloc (.cells #[.int .u64 x.1.1.f0, .int .i64 x.1.1.f1, .int .u64 x.1.1.f2, .bool x.1.1.f3.f0, .bool x.1.1.f3.f1, .bool x.1.1.f3.f2, .bool x.1.1.f3.f3, .bool x.1.1.f3.f4, .bool x.1.1.f3.f5, .bool x.1.1.f4, .bool x.1.1.f5] 30)) ((W.alloc (.cells #[.int .u64 x.1.1.f0, .int .i64 x.1.1.f1, .int .u64 x.1.1.f2, .bool x.1.1.f3.f0, .bool x.1.1.f3.f1, .bool x.1.1.f3.f2, .bool x.1.1.f3.f3, .bool x.1.1.f3.f4, .bool x.1.1.f3.f5, .bool x.1.1.f4, .bool x.1.1.f5] 30)).alloc (.cells #[.int .u64 x.1.2.f0, .int .i64 x.1.2.f1, .int .u64 x.1.2.f2, .bool x.1.2.f3.f0, .bool x.1.2.f3.f1, .bool x.1.2.f3.f2, .bool x.1.2.f3.f3, .bool x.1.2.f3.f4, .bool x.1.2.f3.f5, .bool x.1.2.f4, .bool x.1.2.f5] 30)) := KC.of_below ((Below.refl _ _).alloc (Nat.le_refl _) _)
    have hBa : (W.alloc (.cells #[.int .u64 x.1.1.f0, .int .i64 x.1.1.f1, .int .u64 x.1.1.f2, .bool x.1.1.f3.f0, .bool x.1.1.f3.f1, .bool x.1.1.f3.f2, .bool x.1.1.f3.f3, .bool x.1.1.f3.f4, .bool x.1.1.f3.f5, .bool x.1.1.f4, .bool x.1.1.f5] 30)).heap[W.heap.size]? = some (.cells #[.int .u64 x.1.1.f0, .int .i64 x.1.1.f1, .int .u64 x.1.1.f2, .bool x.1.1.f3.f0, .bool x.1.1.f3.f1, .bool x.1.1.f3.f2, .bool x.1.1.f3.f3, .bool x.1.1.f3.f4, .bool x.1.1.f3.f5, .bool x.1.1.f4, .bool x.1.1.f5] 30 (0, 0)) := World.alloc_heap_new W _
    have hBb : ((W.alloc (.cells #[.int .u64 x.1.1.f0, .int .i64 x.1.1.f1, .int .u64 x.1.1.f2, .bool x.1.1.f3.f0, .bool x.1.1.f3.f1, .bool x.1.1.f3.f2, .bool x.1.1.f3.f3, .bool x.1.1.f3.f4, .bool x.1.1.f3.f5, .bool x.1.1.f4, .bool x.1.1.f5] 30)).alloc (.cells #[.int .u64 x.1.2.f0, .int .i64 x.1.2.f1, .int .u64 x.1.2.f2, .bool x.1.2.f3.f0, .bool x.1.2.f3.f1, .bool x.1.2.f3.f2, .bool x.1.2.f3.f3, .bool x.1.2.f3.f4, .bool x.1.2.f3.f5, .bool x.1.2.f4, .bool x.1.2.f5] 30)).heap[W.heap.size + 1]? = some (.cells #[.int .u64 x.1.2.f0, .int .i64 x.1.2.f1, .int .u64 x.1.2.f2, .bool x.1.2.f3.f0, .bool x.1.2.f3.f1, .bool x.1.2.f3.f2, .bool x.1.2.f3.f3, .bool x.1.2.f3.f4, .bool x.1.2.f3.f5, .bool x.1.2.f4, .bool x.1.2.f5] 30 (0, 0)) := by
      have := World.alloc_heap_new (W.alloc (.cells #[.int .u64 x.1.1.f0, .int .i64 x.1.1.f1, .int .u64 x.1.1.f2, .bool x.1.1.f3.f0, .bool x.1.1.f3.f1, .bool x.1.1.f3.f2, .bool x.1.1.f3.f3, .bool x.1.1.f3.f4, .bool x.1.1.f3.f5, .bool x.1.1.f4, .bool x.1.1.f5] 30)) (.cells #[.int .u64 x.1.2.f0, .int .i64 x.1.2.f1, .int .u64 x.1.2.f2, .bool x.1.2.f3.f0, .bool x.1.2.f3.f1, .bool x.1.2.f3.f2, .bool x.1.2.f3.f3, .bool x.1.2.f3.f4, .bool x.1.2.f3.f5, .bool x.1.2.f4, .bool x.1.2.f5] 30)
      rwa [World.size_alloc] at this
    exact hK _ _ (((KeepsOthers.alloc _ _).trans (KeepsOthers.alloc _ _)).from _) (hka.trans hkb) ⟨(c0'.alloc _).alloc _, hp, (hBW.alloc (by omega) _).alloc (by simp; omega) _⟩ ⟨W.heap.size, W.heap.size + 1, hl4, by omega, hkb.2 _ _ _ _ hBa, hBb, rfl⟩
  case body =>
    rintro l pre x a' W hl ⟨r', hr'⟩ ⟨c0', hp, hBW⟩ ⟨Ba, Bb, hBa, hBb, ca, cb, rfl⟩ hlt
    obtain ⟨rb, hrb⟩ := Option.isSome_iff_exists.1 x.2
    obtain ⟨⟨xa, xb⟩, hx⟩ := x
    dsimp only at ca cb hrb ⊢
    have a0 : W.cell? ⟨Ba, 0, none⟩ = some (.int .u64 xa.f0) := by rw [Lib.cell_of_heap ca]; rfl
    have a1 : W.cell? ⟨Ba, 1, none⟩ = some (.int .i64 xa.f1) := by rw [Lib.cell_of_heap ca]; rfl
    have a2 : W.cell? ⟨Ba, 2, none⟩ = some (.int .u64 xa.f2) := by rw [Lib.cell_of_heap ca]; rfl
    have a3 : W.cell? ⟨Ba, 3, none⟩ = some (.bool xa.f3.f0) := by rw [Lib.cell_of_heap ca]; rfl
    have a4 : W.cell? ⟨Ba, 4, none⟩ = some (.bool xa.f3.f1) := by rw [Lib.cell_of_heap ca]; rfl
    have a5 : W.cell? ⟨Ba, 5, none⟩ = some (.bool xa.f3.f2) := by rw [Lib.cell_of_heap ca]; rfl
    have a6 : W.cell? ⟨Ba, 6, none⟩ = some (.bool xa.f3.f3) := by rw [Lib.cell_of_heap ca]; rfl
    have a7 : W.cell? ⟨Ba, 7, none⟩ = some (.bool xa.f3.f4) := by rw [Lib.cell_of_heap ca]; rfl
    have a8 : W.cell? ⟨Ba, 8, none⟩ = some (.bool xa.f3.f5) := by rw [Lib.cell_of_heap ca]; rfl
    have a9 : W.cell? ⟨Ba, 9, none⟩ = some (.bool xa.f4) := by rw [Lib.cell_of_heap ca]; rfl
    have a10 : W.cell? ⟨Ba, 10, none⟩ = some (.bool xa.f5) := by rw [Lib.cell_of_heap ca]; rfl
    have b0 : W.cell? ⟨Bb, 0, none⟩ = some (.int .u64 xb.f0) := by rw [Lib.cell_of_heap cb]; rfl
    have b1 : W.cell? ⟨Bb, 1, none⟩ = some (.int .i64 xb.f1) := by rw [Lib.cell_of_heap cb]; rfl
    have b2 : W.cell? ⟨Bb, 2, none⟩ = some (.int .u64 xb.f2) := by rw [Lib.cell_of_heap cb]; rfl
    have b3 : W.cell? ⟨Bb, 3, none⟩ = some (.bool xb.f3.f0) := by rw [Lib.cell_of_heap cb]; rfl
    have b4 : W.cell? ⟨Bb, 4, none⟩ = some (.bool xb.f3.f1) := by rw [Lib.cell_of_heap cb]; rfl
    have b5 : W.cell? ⟨Bb, 5, none⟩ = some (.bool xb.f3.f2) := by rw [Lib.cell_of_heap cb]; rfl
    have b6 : W.cell? ⟨Bb, 6, none⟩ = some (.bool xb.f3.f3) := by rw [Lib.cell_of_heap cb]; rfl
    have b7 : W.cell? ⟨Bb, 7, none⟩ = some (.bool xb.f3.f4) := by rw [Lib.cell_of_heap cb]; rfl
    have b8 : W.cell? ⟨Bb, 8, none⟩ = some (.bool xb.f3.f5) := by rw [Lib.cell_of_heap cb]; rfl
    have b9 : W.cell? ⟨Bb, 9, none⟩ = some (.bool xb.f4) := by rw [Lib.cell_of_heap cb]; rfl
    have b10 : W.cell? ⟨Bb, 10, none⟩ = some (.bool xb.f5) := by rw [Lib.cell_of_heap cb]; rfl
    have HRB := Aside0.mk hrb
    have hl0 := c0'.lt
    clear hrb
    dsimp only [enc30]
    cases rb with
    | true =>
      gi_wp2_with (refine ⟨trivial, ?_⟩; gi_at_call 67; refine (CallsIn.inRound l (callsIn_wide.2 (page_Meet.calls _ _ _ _ false W (pM_m HRB.out)))).mono ?_; rintro e w2 ⟨rfl, hb2⟩)
      have c2' : Boxed w2 B 4 (.bool false) := (hb2.block _ hl0).trans c0'
      exact ⟨⟨hb2.size, fun k o _ hk _ => (hb2.block k (Array.getElem?_eq_some_iff.1 hk).1).trans hk⟩, KC.of_below hb2, c2', fun y hy => (List.mem_append.1 hy).elim (hp y) (fun h => by simp at h; subst h; exact HRB.out), hBW.trans (hb2.mono (by have := hBW.size; omega))⟩
    | false =>
      gi_wp2_with (refine ⟨trivial, ?_⟩; gi_at_call 67; refine (CallsIn.inRound l (callsIn_wide.2 (page_Meet.calls _ _ _ _ true W (pM_m HRB.out)))).mono ?_; rintro e w2 ⟨rfl, hb2⟩; have c2' : Boxed w2 B 4 (.bool false) := (hb2.block _ hl0).trans c0'; have d2 := c2'.cell; have e2 := c2'.frozen)
      exact ⟨KeepsFrom.trans ⟨hb2.size, fun k o _ hk _ => (hb2.block k (Array.getElem?_eq_some_iff.1 hk).1).trans hk⟩ ((KeepsOthers.setCell _ _ _).from _), c2'.set _, ⟨rfl, ⟨⟨(xa, xb), hx⟩, List.mem_append.2 (.inr (by simp)), HRB.out⟩⟩, (hBW.trans (hb2.mono (by have := hBW.size; omega))).setCell (p := ⟨B, 0, none⟩) (Nat.le_refl _) _⟩
  case done =>
    rintro D xs W hD rfl ⟨c0', hp, hBW⟩ hK
    have d2 := c0'.cell
    have e2 := c0'.frozen
    have hr1 : r = true := by
      rw [← HRR.out, List.all_eq_true]
      intro y hy
      rw [← HQ.out] at hy
      obtain ⟨z, hz, rfl⟩ := List.mem_map.1 hy
      rw [hp z hz]
      rfl
    subst hr1
    gi_wp2
    have hK' := (KeepsOthers.setCell W ⟨B, 0, none⟩ (.bool true)).same D _ hK rfl
    refine ⟨by simp, .inl ⟨_, _, rfl, run_takeDeferred hK', ?_⟩⟩
    have hc5 := cell_kept (World.cell?_setCell_same' W ⟨B, 0, none⟩ (.bool true) (by rw [d2]; rfl)) (grownBy_putObj' _ D (.deferred none)) (fun r e => by cases e; exact ⟨_, hK', rfl⟩)
    refine ⟨.bool true, ?_, rfl, ?_⟩
    · simp [results, Try.f29, go_sem, hc5]
    · rw [hB]
      exact (hBW.setCell (p := ⟨B, 0, none⟩) (Nat.le_refl _) _).trans (belowK_b (w := w) (by omega) _ D _ _ (by omega) hK' rfl rfl)
  case stop =>
    rintro D cd pre W hD hpre ⟨c0', ⟨rfl, hno⟩, hBW⟩ hK
    have d2 := c0'.cell
    have e2 := c0'.frozen
    have hr1 : r = false := by
      obtain ⟨z, hz, hzf⟩ := hno
      rw [← HRR.out]
      cases hall : (pairsL l0).all fun x => (pM x).getD false with
      | false => rfl
      | true =>
        rw [List.all_eq_true] at hall
        have := hall z.1 (by rw [← HQ.out]; exact List.mem_map_of_mem (hpre.subset hz))
        rw [hzf] at this
        cases this
    subst hr1
    gi_wp2
    refine ⟨by simp, .inl ⟨_, _, rfl, run_takeDeferred hK, ?_⟩⟩
    have hc5 := cell_kept d2 (grownBy_putObj' _ D (.deferred none)) (fun r e => by cases e; exact ⟨_, hK, rfl⟩)
    refine ⟨.bool false, ?_, rfl, ?_⟩
    · simp [results, Try.f29, go_sem, hc5]
    · rw [hB]
      exact hBW.trans (belowK_b (w := w) (by omega) _ D _ _ (by omega) hK rfl rfl)
end Go.Proofs.Ytcbnmmkmgpbfiaa.PS


/- A pool of numbers (layer 14): the simple functions. -/
import Derived.Test.YtcbnmmkmgpbfiaaCtxM
import Derived.WalkKit
import Derived.OneCell
namespace Go.Proofs.Ytcbnmmkmgpbfiaa.PP
open Go.RowKit Go.Proofs.Ytcbnmmkmgpbfiaa.PX Go.Proofs.YtcbnmmkmgpbfiaaW.PrintWords Go.Proofs.YtcbnmmkmgpbfiaaW.PrintLast Go.Proofs.YtcbnmmkmgpbfiaaW.PrintMore
attribute [local go_sem] max2_int min2_int max_two min_two max_three min_three max_four min_four   -- for this text's walks alone
set_option linter.unusedVariables false
set_option linter.unusedSimpArgs false
theorem R_slice1 {α : Type} {d : Kd α} {e base : Nat} {ok : Nat → Prop} {w : World} {v : Value} {xs : List α} (h : d.R e w base ok v xs) (hn : 0 < xs.length) : ∃ (ad : Addr) (c : Nat), v = .slice (some ad) xs.length c := by
  obtain ⟨A, c, rfl⟩ := Kd.R_slice h
  cases A with
  | some ad => exact ⟨ad, c, rfl⟩
  | none =>
    obtain ⟨_, _, h3⟩ := Kd.R_reads' h
    obtain ⟨ad, hd, _⟩ := h3.2.2 hn
    cases hd
def pid (B bm : Nat) (vo : Value) : List Nat := B :: bm :: vo.ownBlock.toList
structure PA (w : World) (base B bm : Nat) (vo : Value) (os : List Int) (f : Int → Option Int) (c : Nat) (hand rounds : Int) : Prop where
  hB : w.heap[B]? = some (.cells #[vo, .map (some bm), .int .i64 hand, .int .i64 rounds] 103 (0, 0))
  hO : (Kd.int .i64).R 3 w base (fun k => some k = vo.ownBlock) vo os
  hM : PM w bm f c
  bB : base ≤ B
  bM : base ≤ bm
theorem mem_pid {B bm : Nat} {vo : Value} {k : Nat} : k ∈ pid B bm vo ↔ k = B ∨ k = bm ∨ vo.ownBlock = some k := by
  simp [pid, Option.mem_toList]
section
variable {w w1 w' : World} {base B bm : Nat} {vo : Value} {os : List Int} {f : Int → Option Int} {c : Nat} {hand rounds : Int}
theorem PA.typed (h : PA w base B bm vo os f c hand rounds) {k : Nat} (hk : k ∈ pid B bm vo) : base ≤ k ∧ k < w.heap.size := by
  rcases mem_pid.1 hk with rfl | rfl | hb
  · exact ⟨h.bB, (Array.getElem?_eq_some_iff.1 h.hB).1⟩
  · exact ⟨h.bM, h.hM.lt⟩
  · exact ⟨Kd.R_base h.hO k hb, Kd.R_lt h.hO k hb⟩
theorem PA.step (h : PA w base B bm vo os f c hand rounds) (hk : ∀ k, k ∈ pid B bm vo → w'.heap[k]? = w.heap[k]?) : PA w' base B bm vo os f c hand rounds where
  hB := (hk B (mem_pid.2 (.inl rfl))).trans h.hB
  hO := Kd.R_move h.hO (fun k hk' => hk k (mem_pid.2 (.inr (.inr hk'.symm))))
  hM := h.hM.move (hk bm (mem_pid.2 (.inr (.inl rfl))))
  bB := h.bB
  bM := h.bM
theorem PA.below (h : PA w base B bm vo os f c hand rounds) (hb : Below w.heap.size w w') : PA w' base B bm vo os f c hand rounds := h.step fun k hk => hb.block k (h.typed hk).2
theorem PA.cell0 (h : PA w base B bm vo os f c hand rounds) : w.cell? ⟨B, 0, none⟩ = some vo := (blk_cell h.hB 0).trans rfl
theorem PA.cell1 (h : PA w base B bm vo os f c hand rounds) : w.cell? ⟨B, 1, none⟩ = some (.map (some bm)) := (blk_cell h.hB 1).trans rfl
theorem PA.cell2 (h : PA w base B bm vo os f c hand rounds) : w.cell? ⟨B, 2, none⟩ = some (.int .i64 hand) := (blk_cell h.hB 2).trans rfl
theorem PA.cell3 (h : PA w base B bm vo os f c hand rounds) : w.cell? ⟨B, 3, none⟩ = some (.int .i64 rounds) := (blk_cell h.hB 3).trans rfl
theorem PA.ne_Bm (h : PA w base B bm vo os f c hand rounds) : B ≠ bm := fun e => by
  obtain ⟨es, cl, hb⟩ := h.hM.block
  have h1 := h.hB
  rw [e, hb] at h1
  cases h1
theorem PA.ne_o (h : PA w base B bm vo os f c hand rounds) {g : Nat} (hg : vo.ownBlock = some g) : g ≠ B ∧ g ≠ bm := by
  obtain ⟨cells, hc⟩ := Kd.R_typed h.hO g hg
  refine ⟨fun e => ?_, fun e => ?_⟩
  · rw [e, h.hB] at hc
    injection hc with hc
    injection hc with _ hc
    cases hc
  · obtain ⟨es, cl, hb⟩ := h.hM.block
    rw [e, hb] at hc
    cases hc
theorem not_pid (h : PA w base B bm vo os f c hand rounds) {g : Nat} {cs : Array Value} {t : TypeId} (hg : w.heap[g]? = some (.cells cs t (0, 0))) (ht : t ≠ 103 ∧ t ≠ 3) : g ∉ pid B bm vo := fun hm => by
  have key : ∀ {cs' : Array Value} {t' : TypeId}, w.heap[g]? = some (.cells cs' t' (0, 0)) → t = t' := fun hg' => by
    rw [hg] at hg'
    injection hg' with hg'
    injection hg'
  rcases mem_pid.1 hm with rfl | rfl | hb
  · exact ht.1 (key h.hB)
  · obtain ⟨es, cl, hb⟩ := h.hM.block
    rw [hg] at hb
    cases hb
  · obtain ⟨c, hc⟩ := Kd.R_typed h.hO g hb
    exact ht.2 (key hc)
/-- The slice of whose each number is: where an element stands. -/
theorem PA.at (h : PA w base B bm vo os f c hand rounds) {i : Nat} (hi : i < os.length) : ∃ g cap, vo = .slice (some ⟨g, 0, none⟩) os.length cap ∧ w.cell? ⟨g, i, none⟩ = some (.int .i64 os[i]) ∧ w.frozen? ⟨g, i, none⟩ = false ∧ os.length ≤ cap := by
  obtain ⟨ad, cap, hv⟩ := R_slice1 h.hO (by omega)
  have hO := h.hO
  rw [hv] at hO
  obtain ⟨g, rfl⟩ := Kd.R_head hO
  have hc := Kd.R_celln 0 hO (i : Int) (by omega) (by omega)
  rw [Int.toNat_natCast, show rdOf 0 os (i : Int) = os[i] by simp [rdOf, List.getD_eq_getElem?_getD, List.getElem?_eq_getElem hi]] at hc
  exact ⟨g, cap, hv, hc.1, hc.2, (Kd.R_reads' hO).2.1⟩
theorem PA.form (h : PA w base B bm vo os f c hand rounds) : ∃ A cap, vo = .slice A os.length cap := Kd.R_slice h.hO
set_option maxHeartbeats 4000000 in
set_option maxRecDepth 100000 in
theorem len_calls (h : PA w base B bm vo os f c hand rounds) : Calls Try.prog 79 #[.pointer (some ⟨B, 0, none⟩)] w fun e w' => e = .returned (.int .i64 os.length) ∧ w' = w := by
  have c0 := h.cell0
  obtain ⟨A, cap, rfl⟩ := h.form
  clear h
  go_enter Try.func79, Try.ntmps79
  go_wp2
  go_ret
  exact ⟨rfl, rfl⟩
set_option maxHeartbeats 4000000 in
set_option maxRecDepth 100000 in
theorem hand_calls (h : PA w base B bm vo os f c hand rounds) : Calls Try.prog 40 #[.pointer (some ⟨B, 0, none⟩)] w fun e w' => e = .returned (.int .i64 hand) ∧ w' = w := by
  have c2 := h.cell2
  clear h
  go_enter Try.func40, Try.ntmps40
  go_wp2
  go_ret
  exact ⟨rfl, rfl⟩
set_option maxHeartbeats 4000000 in
set_option maxRecDepth 100000 in
theorem rounds_calls (h : PA w base B bm vo os f c hand rounds) : Calls Try.prog 39 #[.pointer (some ⟨B, 0, none⟩)] w fun e w' => e = .returned (.int .i64 rounds) ∧ w' = w := by
  have c3 := h.cell3
  clear h
  go_enter Try.func39, Try.ntmps39
  go_wp2
  go_ret
  exact ⟨rfl, rfl⟩
def inP (n : Int) (N : Nat) : Bool := decide (1 ≤ n ∧ n ≤ (N : Int))
set_option maxHeartbeats 4000000 in
set_option maxRecDepth 100000 in
theorem in_calls (h : PA w base B bm vo os f c hand rounds) (n : Int) : Calls Try.prog 71 #[.pointer (some ⟨B, 0, none⟩), .int .i64 n] w fun e w' => e = .returned (.bool (inP n os.length)) ∧ w' = w := by
  have c0 := h.cell0
  obtain ⟨A, cap, rfl⟩ := h.form
  clear h
  go_enter Try.func71, Try.ntmps71
  by_cases h1 : n ≥ 1
  · have h1d : decide (n ≥ 1) = true := decide_eq_true h1
    go_wp2
    go_ret
    exact ⟨by unfold inP; simp; omega, rfl⟩
  · have h1d : decide (n ≥ 1) = false := decide_eq_false h1
    go_wp2
    go_ret
    exact ⟨by unfold inP; simp; omega, rfl⟩
set_option maxHeartbeats 4000000 in
set_option maxRecDepth 100000 in
theorem of_calls (h : PA w base B bm vo os f c hand rounds) {k : Int} (hk : Wf k) : Calls Try.prog 33 #[.pointer (some ⟨B, 0, none⟩), .int .i64 k] w fun e w' => e = .returned (.tuple #[.int .i64 ((f k).getD 0), .bool (f k).isSome]) ∧ w' = w := by
  have c1 := h.cell1
  have hl := h.hM.look hk
  clear h
  go_enter Try.func33, Try.ntmps33
  go_wp2
  go_ret2
  exact ⟨rfl, rfl⟩
def ownerP (os : List Int) (n : Int) : Int × Bool := if inP n os.length = true ∧ os.getD (n - 1).toNat (-1) ≠ -1 then (os.getD (n - 1).toNat (-1), true) else (0, false)
set_option maxHeartbeats 4000000 in
set_option maxRecDepth 100000 in
theorem owner_calls (h : PA w base B bm vo os f c hand rounds) (n : Int) (hn : os.length ≤ 100000) : Calls Try.prog 34 #[.pointer (some ⟨B, 0, none⟩), .int .i64 n] w fun e w' => e = .returned (.tuple #[.int .i64 (ownerP os n).1, .bool (ownerP os n).2]) ∧ w' = w := by
  go_enter Try.func34, Try.ntmps34
  go_wp2_with fail
  refine (in_calls h n).mono ?_
  rintro e w' ⟨rfl, rfl⟩
  have c0 := h.cell0
  by_cases hin : inP n os.length = true
  · have hin2 : 1 ≤ n ∧ n ≤ (os.length : Int) := by unfold inP at hin; simpa using hin
    obtain ⟨i, hi⟩ : ∃ i : Nat, n = (i : Int) + 1 := ⟨(n - 1).toNat, by omega⟩
    subst hi
    have hil : i < os.length := by omega
    obtain ⟨g, cap, hv, hc, _, _⟩ := h.at hil
    subst hv
    have hw : wrap64 (i : Int) = (i : Int) := by
      unfold wrap64; omega
    have hil2 : (i : Int) < (os.length : Int) := by omega
    have hi0 : (0 : Int) ≤ (i : Int) := by omega
    have hgd : os.getD ((i : Int) + 1 - 1).toNat (-1) = os[i] := by
      rw [show ((i : Int) + 1 - 1).toNat = i by omega]; simp [List.getD_eq_getElem?_getD, List.getElem?_eq_getElem hil]
    have ho : ownerP os ((i : Int) + 1) = if os[i] ≠ -1 then (os[i], true) else (0, false) := by
      unfold ownerP
      rw [hgd, hin]; simp
    generalize os[i] = o at hc ho
    rw [hin]
    have HO := Aside0.mk ho
    clear h hgd ho hin hin2 hn
    by_cases hoo : o = -1
    · have hob : (o == -1) = true := beq_iff_eq.2 hoo
      subst hoo
      go_wp2
      go_ret2
      exact ⟨by rw [HO.out]; rfl, rfl⟩
    · have hob : (o == -1) = false := beq_eq_false_iff_ne.2 hoo
      go_wp2
      go_ret2
      exact ⟨by rw [HO.out, if_pos hoo]; rfl, rfl⟩
  · have ho : ownerP os n = (0, false) := by unfold ownerP; rw [if_neg (fun h => hin h.1)]
    rw [Bool.not_eq_true] at hin
    rw [hin]
    have HO := Aside0.mk ho
    clear h ho
    go_wp2
    go_ret2
    exact ⟨by rw [HO.out]; rfl, rfl⟩
end

end Go.Proofs.Ytcbnmmkmgpbfiaa.PP

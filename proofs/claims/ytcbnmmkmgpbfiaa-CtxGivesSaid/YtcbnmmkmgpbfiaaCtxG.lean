/- CtxGives: plain: the one free number is found; the rounds of the law. -/
import Derived.Test.YtcbnmmkmgpbfiaaCtxRd
namespace Go.Proofs.Ytcbnmmkmgpbfiaa.PP
open Go.RowKit Go.Proofs.Ytcbnmmkmgpbfiaa.PX Go.Proofs.YtcbnmmkmgpbfiaaW.PrintWords Go.Proofs.YtcbnmmkmgpbfiaaW.PrintLast Go.Proofs.YtcbnmmkmgpbfiaaW.PrintMore
attribute [local go_sem] max2_int min2_int max_two min_two max_three min_three max_four min_four   -- for this text's walks alone
set_option linter.unusedVariables false
set_option linter.unusedSimpArgs false
theorem rot_mem {n : Nat} {hand a : Int} (ha : 1 ≤ a ∧ a ≤ (n : Int)) : a ∈ rot n hand := by
  have hn : (n : Int) ≠ 0 := by omega
  have h1 := Int.emod_nonneg (a - hand) hn
  have h2 := Int.emod_lt_of_pos (a - hand) (show (0 : Int) < (n : Int) by omega)
  unfold rot
  refine List.mem_map.2 ⟨((a - hand) % (n : Int)).toNat, List.mem_range.2 (by omega), ?_⟩
  rw [Int.toNat_of_nonneg h1, Int.add_comm (hand - 1), Int.emod_add_emod, show a - hand + (hand - 1) = a - 1 by omega, Int.emod_eq_of_lt (by omega) (by omega)]
  omega
theorem rot_bounds {n : Nat} {hand a : Int} (h : a ∈ rot n hand) : 1 ≤ a ∧ a ≤ (n : Int) := by
  unfold rot at h
  obtain ⟨i, hi, rfl⟩ := List.mem_map.1 h
  have hi := List.mem_range.1 hi
  have h1 := Int.emod_nonneg (hand - 1 + (i : Int)) (show (n : Int) ≠ 0 by omega)
  have h2 := Int.emod_lt_of_pos (hand - 1 + (i : Int)) (show (0 : Int) < (n : Int) by omega)
  omega
theorem find_one {l : List Int} {p : Int → Bool} {a : Int} (ha : a ∈ l) (hp : p a = true) (hu : ∀ k ∈ l, p k = true → k = a) : l.find? p = some a := by
  cases h : l.find? p with
  | none => exact absurd hp (List.find?_eq_none.1 h a ha)
  | some k => rw [hu k (List.mem_of_find?_eq_some h) (List.find?_some h)]

/-- A row of which each number is a space's. -/
def fullL (n : Nat) : List Int := startL n n
theorem fullL_length (n : Nat) : (fullL n).length = n := startL_length n n
theorem fullL_get {n p : Nat} (h : p < (fullL n).length) : (fullL n)[p] = (p : Int) := by
  have hl := fullL_length n
  have hp : p < n := by omega
  unfold fullL at h ⊢
  rw [startL_get, if_pos hp]
section
variable {base B bm : Nat} {vo : Value} {w : World} {n : Nat} {hand rounds : Int}
/-- No more. -/
theorem full_take (hn : 1 ≤ n ∧ n ≤ 10) (hh : 1 ≤ hand ∧ hand ≤ (n : Int)) (hr : 0 ≤ rounds ∧ rounds ≤ 1000) (h : St w base B bm vo (fullL n) hand rounds) :
    Calls Try.prog 31 #[.pointer (some ⟨B, 0, none⟩), .int .i64 n] w fun e w' => e = .returned (.tuple #[.int .i64 0, .int .i64 8]) ∧ St w' base B bm vo (fullL n) hand rounds ∧ Mv (pid B bm vo) w w' := by
  have hl := fullL_length n
  refine take_none h ⟨by omega, by omega, by omega⟩ (by omega) (fun hm => ?_) (List.find?_eq_none.2 fun k hk => ?_)
  · obtain ⟨p, hp, e⟩ := List.getElem_of_mem hm
    rw [fullL_get] at e
    omega
  · rw [hl] at hk
    have hb := rot_bounds hk
    have hp : (k - 1).toNat < (fullL n).length := by omega
    unfold free?
    rw [List.getD_eq_getElem?_getD, List.getElem?_eq_getElem hp, fullL_get]
    simp
/-- A space gives its number. -/
theorem full_give (hn : 1 ≤ n ∧ n ≤ 10) (hh : 1 ≤ hand ∧ hand ≤ (n : Int)) (hr : 0 ≤ rounds ∧ rounds ≤ 1000) (h : St w base B bm vo (fullL n) hand rounds) {i : Nat} (hi : i < n) :
    Calls Try.prog 32 #[.pointer (some ⟨B, 0, none⟩), .int .i64 i] w fun e w' => e = .returned (.tuple #[.int .i64 ((i : Int) + 1), .int .i64 0]) ∧ St w' base B bm vo ((fullL n).set i (-1)) hand rounds ∧ Mv (pid B bm vo) w w' := by
  have hl := fullL_length n
  have hi' : i < (fullL n).length := by omega
  have hg := give_st h ⟨by omega, by omega, by omega⟩ hi' (by rw [fullL_get]; omega)
  rw [fullL_get] at hg
  exact hg
theorem set_get {i : Nat} (hi : i < n) {p : Nat} (hp : p < ((fullL n).set i (-1)).length) : ((fullL n).set i (-1))[p] = if p = i then -1 else (p : Int) := by
  rw [List.getElem_set]
  split
  · rw [if_pos (by omega)]
  · rw [if_neg (by omega), fullL_get]
theorem set_not {i : Nat} (hi : i < n) : (i : Int) ∉ (fullL n).set i (-1) := fun hm => by
  obtain ⟨p, hp, e⟩ := List.getElem_of_mem hm
  rw [set_get hi] at e
  split at e <;> omega
/-- It has none then. -/
theorem given_of {i : Nat} (hi : i < n) (hn : n ≤ 10) (h : St w base B bm vo ((fullL n).set i (-1)) hand rounds) :
    Calls Try.prog 33 #[.pointer (some ⟨B, 0, none⟩), .int .i64 (i : Int)] w fun e w' => e = .returned (.tuple #[.int .i64 0, .bool false]) ∧ w' = w := by
  obtain ⟨f, c, hp, ho⟩ := h
  have hc := of_calls hp (k := (i : Int)) (by unfold Wf; omega)
  rw [ho.none (set_not hi)] at hc
  exact hc
theorem given_owner {i : Nat} (hi : i < n) (hn : n ≤ 10) (h : St w base B bm vo ((fullL n).set i (-1)) hand rounds) :
    Calls Try.prog 34 #[.pointer (some ⟨B, 0, none⟩), .int .i64 ((i : Int) + 1)] w fun e w' => e = .returned (.tuple #[.int .i64 0, .bool false]) ∧ w' = w := by
  obtain ⟨f, c, hp, ho⟩ := h
  have hl := fullL_length n
  have hi' : i < ((fullL n).set i (-1)).length := by rw [List.length_set]; omega
  have hc := owner_calls hp ((i : Int) + 1) (by rw [List.length_set]; omega)
  rw [owner_free hi' (by rw [set_get hi, if_pos rfl])] at hc
  exact hc
/-- It takes the same number again. -/
theorem given_take (hn : 1 ≤ n ∧ n ≤ 10) (hh : 1 ≤ hand ∧ hand ≤ (n : Int)) (hr : 0 ≤ rounds ∧ rounds ≤ 1000) {i : Nat} (hi : i < n) (h : St w base B bm vo ((fullL n).set i (-1)) hand rounds) :
    Calls Try.prog 31 #[.pointer (some ⟨B, 0, none⟩), .int .i64 (i : Int)] w fun e w' => e = .returned (.tuple #[.int .i64 ((i : Int) + 1), .int .i64 0]) ∧ St w' base B bm vo (fullL n) (nxt n i) (rnd hand rounds n i) ∧ Mv (pid B bm vo) w w' := by
  have hl := fullL_length n
  have hls : ((fullL n).set i (-1)).length = n := by rw [List.length_set, hl]
  have hi' : i < ((fullL n).set i (-1)).length := by omega
  have hfree : ∀ k : Int, 1 ≤ k ∧ k ≤ (n : Int) → free? ((fullL n).set i (-1)) k = decide (k = (i : Int) + 1) := fun k hk => by
    have hp : (k - 1).toNat < ((fullL n).set i (-1)).length := by omega
    unfold free?
    rw [List.getD_eq_getElem?_getD, List.getElem?_eq_getElem hp, Option.getD_some, set_get hi]
    split
    · rw [decide_eq_true (by omega)]; rfl
    · rw [decide_eq_false (by omega), beq_eq_false_iff_ne]; omega
  have hf : (rot ((fullL n).set i (-1)).length hand).find? (free? ((fullL n).set i (-1))) = some ((i : Int) + 1) := by
    rw [hls]
    refine find_one (rot_mem (by omega)) (by rw [hfree _ (by omega)]; simp) (fun k hk hp => ?_)
    rw [hfree k (rot_bounds hk)] at hp
    simpa using hp
  refine (take_new h ⟨by omega, by omega, by omega⟩ (s := (i : Int)) (by omega) (set_not hi) hi' (by rw [set_get hi, if_pos rfl]) hf).mono ?_
  rintro e w' ⟨h1, h2, h3⟩
  have e1 : ((fullL n).set i (-1)).set i (i : Int) = fullL n := by
    apply List.ext_getElem
    · simp
    · intro p h4 h5
      rw [List.getElem_set, fullL_get]
      split
      · omega
      · rw [set_get hi, if_neg (by omega)]
  rw [hls, e1] at h2
  exact ⟨h1, h2, h3⟩
theorem full_free (hn : 1 ≤ n ∧ n ≤ 10) (hh : 1 ≤ hand ∧ hand ≤ (n : Int)) (hr : 0 ≤ rounds ∧ rounds ≤ 1000) (h : St w base B bm vo (fullL n) hand rounds) :
    Calls Try.prog 35 #[.pointer (some ⟨B, 0, none⟩)] w fun e w' => e = .returned (.int .i64 0) ∧ Below w.heap.size w w' := by
  have hl := fullL_length n
  have hc : (fullL n).countP (fun x => decide (0 ≤ x)) = (fullL n).length := List.countP_eq_length.2 (fun x hx => by
    obtain ⟨p, hp, rfl⟩ := List.getElem_of_mem hx
    rw [fullL_get]; simp)
  refine (free_st h ⟨by omega, by omega, by omega⟩).mono ?_
  rintro e w' ⟨h1, h2⟩
  rw [hc, Int.sub_self] at h1
  exact ⟨h1, h2⟩
theorem rnd_bound {i : Nat} (hr : 0 ≤ rounds) : 0 ≤ rnd hand rounds n i ∧ rnd hand rounds n i ≤ rounds + 1 := by
  unfold rnd
  split <;> omega
end

end Go.Proofs.Ytcbnmmkmgpbfiaa.PP

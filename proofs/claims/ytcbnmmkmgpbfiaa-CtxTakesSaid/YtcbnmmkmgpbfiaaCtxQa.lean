/- CtxRounds: the walk. -/
import Derived.Test.YtcbnmmkmgpbfiaaCtxK
import Derived.Test.YtcbnmmkmgpbfiaaCtxM
import Derived.WideKeyArr2
import Derived.Laws.IdiomArrays
import Derived.Lib.SmallJoins
import Derived.Deep.DeepCutAuto
import Derived.Deep.Light
import Derived.Test.YtcbnmmkmgpbfiaaPXx2
import Derived.Test.YtcbnmmkmgpbfiaaPXx5
import Derived.Test.YtcbnmmkmgpbfiaaPXx6
import Derived.Test.YtcbnmmkmgpbfiaaPXx7
import Derived.Test.YtcbnmmkmgpbfiaaPXx8
import Derived.Test.YtcbnmmkmgpbfiaaPXx9
import Derived.Test.YtcbnmmkmgpbfiaaPXx10
import Derived.Test.YtcbnmmkmgpbfiaaPXx11
namespace Go.Proofs.Ytcbnmmkmgpbfiaa.PP
open Go.RowKit Go.Proofs.Ytcbnmmkmgpbfiaa.PX Go.Proofs.YtcbnmmkmgpbfiaaW.PrintWords Go.Proofs.YtcbnmmkmgpbfiaaW.PrintLast Go.Proofs.YtcbnmmkmgpbfiaaW.PrintMore
attribute [local go_sem] max2_int min2_int max_two min_two max_three min_three max_four min_four   -- for this text's walks alone
set_option linter.unusedVariables false
set_option linter.unusedSimpArgs false
/-- After i numbers were taken, in order. -/
def startL (n i : Nat) : List Int := (List.range n).map fun p => if p < i then (p : Int) else -1
theorem startL_length (n i : Nat) : (startL n i).length = n := by simp [startL]
theorem startL_get {n i p : Nat} (h : p < (startL n i).length) : (startL n i)[p] = if p < i then (p : Int) else -1 := by simp [startL]
theorem startL_zero (n : Nat) : startL n 0 = List.replicate n (-1) := by
  apply List.ext_getElem
  · simp [startL]
  · intro p h1 h2; simp [startL]
theorem startL_set {n i : Nat} (h : i < n) : (startL n i).set i (i : Int) = startL n (i + 1) := by
  apply List.ext_getElem
  · simp [startL]
  · intro p h1 h2
    rw [List.getElem_set, startL_get, startL_get]
    split
    · subst_vars; simp
    · split
      · rw [if_pos (by omega)]
      · rw [if_neg (by omega)]
theorem startL_not_mem {n i : Nat} : (i : Int) ∉ startL n i := fun h => by
  obtain ⟨p, hp, e⟩ := List.getElem_of_mem h
  rw [startL_get] at e
  split at e <;> omega
/-- After m thefts, one behind the other. -/
def val (n m p : Nat) : Nat := if m % n ≤ p then m + (p - m % n) else m + (p + n - m % n)
def roundL (n m : Nat) : List Int := (List.range n).map fun p => (val n m p : Int)
theorem roundL_length (n m : Nat) : (roundL n m).length = n := by simp [roundL]
theorem roundL_get {n m p : Nat} (h : p < (roundL n m).length) : (roundL n m)[p] = (val n m p : Int) := by simp [roundL]
theorem startL_full (n : Nat) : startL n n = roundL n 0 := by
  apply List.ext_getElem
  · simp [startL, roundL]
  · intro p h1 h2
    rw [startL_get, roundL_get]
    rw [startL_length] at h1
    rw [if_pos h1]
    unfold val
    simp
theorem succ_mod_div (n m : Nat) (hn : 0 < n) : (m % n + 1 = n ∧ (m + 1) % n = 0 ∧ (m + 1) / n = m / n + 1) ∨ (m % n + 1 < n ∧ (m + 1) % n = m % n + 1 ∧ (m + 1) / n = m / n) := by
  have h1 := Nat.mod_lt m hn
  have e : m + 1 = (m % n + 1) + n * (m / n) := by have := Nat.div_add_mod m n; omega
  rcases Nat.lt_or_ge (m % n + 1) n with h | h
  · refine .inr ⟨h, ?_, ?_⟩
    · rw [e, Nat.add_mul_mod_self_left, Nat.mod_eq_of_lt h]
    · rw [e, Nat.add_mul_div_left _ _ hn, Nat.div_eq_of_lt h]
      omega
  · have h2 : m % n + 1 = n := by omega
    refine .inl ⟨h2, ?_, ?_⟩
    · rw [e, Nat.add_mul_mod_self_left, h2, Nat.mod_self]
    · rw [e, Nat.add_mul_div_left _ _ hn, h2, Nat.div_self hn]
      omega
theorem roundL_set {n m : Nat} (hn : 0 < n) : (roundL n m).set (m % n) ((n : Int) + (m : Int)) = roundL n (m + 1) := by
  apply List.ext_getElem
  · simp [roundL]
  · intro p h1 h2
    rw [List.getElem_set, roundL_get, roundL_get]
    rw [List.length_set, roundL_length] at h1
    have hm := Nat.mod_lt m hn
    unfold val
    rcases succ_mod_div n m hn with ⟨e1, e2, e3⟩ | ⟨e1, e2, e3⟩
    · rw [e2]
      split <;> split <;> (try split) <;> omega
    · rw [e2]
      split <;> split <;> (try split) <;> omega
theorem roundL_at {n m : Nat} (hn : 0 < n) (h : m % n < (roundL n m).length) : (roundL n m)[m % n] = (m : Int) := by
  rw [roundL_get]
  unfold val
  simp
theorem roundL_lt {n m : Nat} (hn : 0 < n) : ((n : Int) + (m : Int)) ∉ roundL n m := fun h => by
  obtain ⟨p, hp, e⟩ := List.getElem_of_mem h
  rw [roundL_get] at e
  rw [roundL_length] at hp
  have hm := Nat.mod_lt m hn
  unfold val at e
  split at e <;> omega
theorem roundL_pos {n m p : Nat} (h : p < (roundL n m).length) : 0 ≤ (roundL n m)[p] := by rw [roundL_get]; omega

theorem tmod_nat' (a b : Nat) : Int.tmod (a : Int) (b : Int) = ((a % b : Nat) : Int) := by rw [Int.tmod_eq_emod_of_nonneg (by omega)]; rfl
theorem tdiv_nat' (a b : Nat) : Int.tdiv (a : Int) (b : Int) = ((a / b : Nat) : Int) := by rw [Int.tdiv_eq_ediv_of_nonneg (by omega)]; rfl
theorem w_small {x : Int} (h : -9223372036854775808 ≤ x ∧ x ≤ 9223372036854775807) : wrap64 x = x := by unfold wrap64; omega
theorem neg_nat {n : Int} (hn : Wf n) (h : n < 0) : ∃ q : Nat, wrap64 (-wrap64 (n + 1)) = (q : Int) := by
  unfold Wf at hn
  rw [w_small (x := n + 1) (by omega), w_small (by omega)]
  exact ⟨(-(n + 1)).toNat, by omega⟩
theorem ten (q : Nat) : ∃ N : Nat, 1 ≤ N ∧ N ≤ 10 ∧ wrap64 (1 + Int.tmod (q : Int) 10) = (N : Int) := by
  rw [show (10 : Int) = ((10 : Nat) : Int) from rfl, tmod_nat', w_small (by omega)]
  exact ⟨1 + q % 10, by omega, by omega, by omega⟩
theorem norm_neg {n : Int} (hn : Wf n) (h : n < 0) : ∃ N : Nat, 1 ≤ N ∧ N ≤ 10 ∧ wrap64 (1 + Int.tmod (wrap64 (-wrap64 (n + 1))) 10) = (N : Int) := by
  obtain ⟨q, hq⟩ := neg_nat hn h
  rw [hq]; exact ten q
theorem norm_pos {n : Int} (h : ¬ n < 0) : ∃ N : Nat, 1 ≤ N ∧ N ≤ 10 ∧ 1 + n % 10 = (N : Int) := ⟨(1 + n % 10).toNat, by omega, by omega, by omega⟩
theorem many_neg {n : Int} (hn : Wf n) (h : n < 0) : ∃ M : Nat, M ≤ 40 ∧ Int.tmod (wrap64 (-wrap64 (n + 1))) 41 = (M : Int) := by
  obtain ⟨q, hq⟩ := neg_nat hn h
  rw [hq, show (41 : Int) = ((41 : Nat) : Int) from rfl, tmod_nat']
  exact ⟨q % 41, by omega, rfl⟩
theorem many_pos {n : Int} (h : ¬ n < 0) : ∃ M : Nat, M ≤ 40 ∧ n % 41 = (M : Int) := by
  obtain ⟨q, rfl⟩ : ∃ q : Nat, n = (q : Int) := ⟨n.toNat, by omega⟩
  rw [← Int.tmod_eq_emod_of_nonneg (by omega)]
  rw [show (41 : Int) = ((41 : Nat) : Int) from rfl, tmod_nat']
  exact ⟨q % 41, by omega, rfl⟩
section
variable {base B bm : Nat} {vo : Value} {w : World}
/-- A round of the first loop. -/
theorem round_take {n i : Nat} (hn : n ≤ 10) (hi : i < n) (h : St w base B bm vo (startL n i) ((i : Int) % (n : Int) + 1) (if i = n then 1 else 0)) :
    Calls Try.prog 31 #[.pointer (some ⟨B, 0, none⟩), .int .i64 i] w fun e w' => e = .returned (.tuple #[.int .i64 ((i : Int) + 1), .int .i64 0]) ∧ St w' base B bm vo (startL n (i + 1)) (((i + 1 : Nat) : Int) % (n : Int) + 1) (if i + 1 = n then 1 else 0) ∧ Mv (pid B bm vo) w w' := by
  have hh : ((i : Int) % (n : Int) + 1) = (i : Int) + 1 := by rw [Int.emod_eq_of_lt (by omega) (by omega)]
  rw [hh, if_neg (show ¬ i = n by omega)] at h
  have hl := startL_length n i
  have hi' : i < (startL n i).length := by omega
  have hg : (startL n i)[i] = -1 := by rw [startL_get, if_neg (by omega)]
  have hfr : free? (startL n i) ((i : Int) + 1) = true := by
    unfold free?
    rw [show ((i : Int) + 1 - 1).toNat = i by omega, List.getD_eq_getElem?_getD, List.getElem?_eq_getElem hi', hg]; rfl
  refine (take_new h ⟨by omega, by omega, by omega⟩ (s := (i : Int)) (by omega) startL_not_mem hi' hg (rot_head (by omega) (by omega) _ hfr)).mono ?_
  rintro e w' ⟨h1, h2, h3⟩
  refine ⟨h1, ?_, h3⟩
  rw [startL_set hi, hl] at h2
  have e1 : nxt n i = ((i + 1 : Nat) : Int) % (n : Int) + 1 := by unfold nxt; push_cast; rfl
  have e2 : rnd ((i : Int) + 1) 0 n i = (if i + 1 = n then 1 else 0) := by unfold rnd; simp
  rw [e1, e2] at h2
  exact h2
/-- A round of the second loop. -/
theorem round_vict {n m : Nat} (hn : 1 ≤ n ∧ n ≤ 10) (hm : m ≤ 40) (h : St w base B bm vo (roundL n m) (((m % n : Nat) : Int) + 1) (1 + ((m / n : Nat) : Int))) :
    Calls Try.prog 37 #[.pointer (some ⟨B, 0, none⟩), .slice none 0 0] w fun e w' => e = .returned (.tuple #[.int .i64 (((m % n : Nat) : Int) + 1), .int .i64 m, .int .i64 0]) ∧ Below w.heap.size w w' := by
  have ha := Nat.mod_lt m (show 0 < n by omega)
  have hl := roundL_length n m
  have hd : m / n ≤ 40 := Nat.le_trans (Nat.div_le_self m n) hm
  have hd0 : (0 : Int) ≤ ((m / n : Nat) : Int) := Int.natCast_nonneg _
  have hd1 : ((m / n : Nat) : Int) ≤ 40 := by exact_mod_cast hd
  have ha' : m % n < (roundL n m).length := by omega
  have hat := roundL_at (m := m) (show 0 < n by omega) ha'
  have how := owner_at (os := roundL n m) ha' (by rw [hat]; omega)
  rw [hat] at how
  refine (victim_st h ⟨by omega, by omega, by omega⟩ none 0 [] (C_nil _ _) (Nat.le_refl _) (by decide)).mono ?_
  intro e w' hv
  unfold VictimP at hv
  rw [rot_head (by omega) (by omega) (vok (roundL n m) []) (by unfold vok; rw [how]; simp)] at hv
  simp only at hv
  rw [how] at hv
  exact hv
theorem round_steal {n m : Nat} (hn : 1 ≤ n ∧ n ≤ 10) (hm : m ≤ 40) (h : St w base B bm vo (roundL n m) (((m % n : Nat) : Int) + 1) (1 + ((m / n : Nat) : Int))) :
    Calls Try.prog 38 #[.pointer (some ⟨B, 0, none⟩), .int .i64 (((m % n : Nat) : Int) + 1), .int .i64 ((n : Int) + (m : Int))] w fun e w' => e = .returned (.tuple #[.int .i64 m, .int .i64 0]) ∧
      St w' base B bm vo (roundL n (m + 1)) ((((m + 1) % n : Nat) : Int) + 1) (1 + (((m + 1) / n : Nat) : Int)) ∧ Mv (pid B bm vo) w w' := by
  have hn0 : 0 < n := by omega
  have ha := Nat.mod_lt m hn0
  have hl := roundL_length n m
  have hd : m / n ≤ 40 := Nat.le_trans (Nat.div_le_self m n) hm
  have hd0 : (0 : Int) ≤ ((m / n : Nat) : Int) := Int.natCast_nonneg _
  have hd1 : ((m / n : Nat) : Int) ≤ 40 := by exact_mod_cast hd
  have ha' : m % n < (roundL n m).length := by omega
  have hat := roundL_at (m := m) hn0 ha'
  refine (steal_st h ⟨by omega, by omega, by omega⟩ (s := (n : Int) + (m : Int)) (by omega) (roundL_lt hn0) ha' (by rw [hat]; omega)).mono ?_
  rintro e w' ⟨h1, h2, h3⟩
  rw [hat] at h1
  refine ⟨h1, ?_, h3⟩
  rw [roundL_set hn0, hl] at h2
  have e1 : nxt n (m % n) = (((m + 1) % n : Nat) : Int) + 1 := by
    unfold nxt
    rcases succ_mod_div n m hn0 with ⟨e1, e2, e3⟩ | ⟨e1, e2, e3⟩
    · rw [e2, show (((m % n : Nat) : Int) + 1) = (n : Int) by omega, Int.emod_self]; rfl
    · rw [e2, Int.emod_eq_of_lt (by omega) (by omega)]; push_cast; rfl
  have e2 : rnd (((m % n : Nat) : Int) + 1) (1 + ((m / n : Nat) : Int)) n (m % n) = 1 + (((m + 1) / n : Nat) : Int) := by
    unfold rnd
    rcases succ_mod_div n m hn0 with ⟨e1, e2, e3⟩ | ⟨e1, e2, e3⟩
    · rw [e3, if_pos (.inr e1)]; push_cast; omega
    · rw [e3, if_neg (by omega)]; omega
  rw [e1, e2] at h2
  exact h2
end

theorem round_free {base B bm : Nat} {vo : Value} {w : World} {n m : Nat} (hn : 1 ≤ n ∧ n ≤ 10) (hm : m ≤ 40) (h : St w base B bm vo (roundL n m) (((m % n : Nat) : Int) + 1) (1 + ((m / n : Nat) : Int))) :
    Calls Try.prog 35 #[.pointer (some ⟨B, 0, none⟩)] w fun e w' => e = .returned (.int .i64 0) ∧ Below w.heap.size w w' := by
  have ha := Nat.mod_lt m (show 0 < n by omega)
  have hl := roundL_length n m
  have hd : m / n ≤ 40 := Nat.le_trans (Nat.div_le_self m n) hm
  have hd0 : (0 : Int) ≤ ((m / n : Nat) : Int) := Int.natCast_nonneg _
  have hd1 : ((m / n : Nat) : Int) ≤ 40 := by exact_mod_cast hd
  have hc : (roundL n m).countP (fun x => decide (0 ≤ x)) = (roundL n m).length := List.countP_eq_length.2 (fun x hx => by
    obtain ⟨p, hp, rfl⟩ := List.getElem_of_mem hx
    simpa using roundL_pos hp)
  refine (free_st h ⟨by omega, by omega, by omega⟩).mono ?_
  rintro e w' ⟨h1, h2⟩
  rw [hc, Int.sub_self] at h1
  exact ⟨h1, h2⟩
theorem st_hand {base B bm : Nat} {vo : Value} {w : World} {os : List Int} {hand rounds : Int} (h : St w base B bm vo os hand rounds) : Calls Try.prog 40 #[.pointer (some ⟨B, 0, none⟩)] w fun e w' => e = .returned (.int .i64 hand) ∧ w' = w :=
  let ⟨_, _, hp, _⟩ := h; hand_calls hp
theorem st_rounds {base B bm : Nat} {vo : Value} {w : World} {os : List Int} {hand rounds : Int} (h : St w base B bm vo os hand rounds) : Calls Try.prog 39 #[.pointer (some ⟨B, 0, none⟩)] w fun e w' => e = .returned (.int .i64 rounds) ∧ w' = w :=
  let ⟨_, _, hp, _⟩ := h; rounds_calls hp

end Go.Proofs.Ytcbnmmkmgpbfiaa.PP
/- CtxGives: plain: the one free number is found; the rounds of the law. -/
namespace Go.Proofs.Ytcbnmmkmgpbfiaa.PP
open Go.RowKit Go.Proofs.Ytcbnmmkmgpbfiaa.PX Go.Proofs.YtcbnmmkmgpbfiaaW.PrintWords Go.Proofs.YtcbnmmkmgpbfiaaW.PrintLast Go.Proofs.YtcbnmmkmgpbfiaaW.PrintMore
attribute [local go_sem] max2_int min2_int max_two min_two max_three min_three max_four min_four   -- for this text's walks alone
set_option linter.unusedVariables false
set_option linter.unusedSimpArgs false
theorem rot_mem {n : Nat} {hand a : Int} (ha : 1 ≤ a ∧ a ≤ (n : Int)) : a ∈ rot n hand := by
  have hn : (n : Int) ≠ 0 := by omega
  have h1 := Int.emod_nonneg (a - hand) hn
  have h2 := Int.emod_lt_of_pos (a - hand) (show (0 : Int) < (n : Int) by omega)
  unfold rot
  refine List.mem_map.2 ⟨((a - hand) % (n : Int)).toNat, List.mem_range.2 (by omega), ?_⟩
  rw [Int.toNat_of_nonneg h1, Int.add_comm (hand - 1), Int.emod_add_emod, show a - hand + (hand - 1) = a - 1 by omega, Int.emod_eq_of_lt (by omega) (by omega)]
  omega
theorem rot_bounds {n : Nat} {hand a : Int} (h : a ∈ rot n hand) : 1 ≤ a ∧ a ≤ (n : Int) := by
  unfold rot at h
  obtain ⟨i, hi, rfl⟩ := List.mem_map.1 h
  have hi := List.mem_range.1 hi
  have h1 := Int.emod_nonneg (hand - 1 + (i : Int)) (show (n : Int) ≠ 0 by omega)
  have h2 := Int.emod_lt_of_pos (hand - 1 + (i : Int)) (show (0 : Int) < (n : Int) by omega)
  omega
theorem find_one {l : List Int} {p : Int → Bool} {a : Int} (ha : a ∈ l) (hp : p a = true) (hu : ∀ k ∈ l, p k = true → k = a) : l.find? p = some a := by
  cases h : l.find? p with
  | none => exact absurd hp (List.find?_eq_none.1 h a ha)
  | some k => rw [hu k (List.mem_of_find?_eq_some h) (List.find?_some h)]

/-- A row of which each number is a space's. -/
def fullL (n : Nat) : List Int := startL n n
theorem fullL_length (n : Nat) : (fullL n).length = n := startL_length n n
theorem fullL_get {n p : Nat} (h : p < (fullL n).length) : (fullL n)[p] = (p : Int) := by
  have hl := fullL_length n
  have hp : p < n := by omega
  unfold fullL at h ⊢
  rw [startL_get, if_pos hp]
section
variable {base B bm : Nat} {vo : Value} {w : World} {n : Nat} {hand rounds : Int}
/-- No more. -/
theorem full_take (hn : 1 ≤ n ∧ n ≤ 10) (hh : 1 ≤ hand ∧ hand ≤ (n : Int)) (hr : 0 ≤ rounds ∧ rounds ≤ 1000) (h : St w base B bm vo (fullL n) hand rounds) :
    Calls Try.prog 31 #[.pointer (some ⟨B, 0, none⟩), .int .i64 n] w fun e w' => e = .returned (.tuple #[.int .i64 0, .int .i64 8]) ∧ St w' base B bm vo (fullL n) hand rounds ∧ Mv (pid B bm vo) w w' := by
  have hl := fullL_length n
  refine take_none h ⟨by omega, by omega, by omega⟩ (by omega) (fun hm => ?_) (List.find?_eq_none.2 fun k hk => ?_)
  · obtain ⟨p, hp, e⟩ := List.getElem_of_mem hm
    rw [fullL_get] at e
    omega
  · rw [hl] at hk
    have hb := rot_bounds hk
    have hp : (k - 1).toNat < (fullL n).length := by omega
    unfold free?
    rw [List.getD_eq_getElem?_getD, List.getElem?_eq_getElem hp, fullL_get]
    simp
/-- A space gives its number. -/
theorem full_give (hn : 1 ≤ n ∧ n ≤ 10) (hh : 1 ≤ hand ∧ hand ≤ (n : Int)) (hr : 0 ≤ rounds ∧ rounds ≤ 1000) (h : St w base B bm vo (fullL n) hand rounds) {i : Nat} (hi : i < n) :
    Calls Try.prog 32 #[.pointer (some ⟨B, 0, none⟩), .int .i64 i] w fun e w' => e = .returned (.tuple #[.int .i64 ((i : Int) + 1), .int .i64 0]) ∧ St w' base B bm vo ((fullL n).set i (-1)) hand rounds ∧ Mv (pid B bm vo) w w' := by
  have hl := fullL_length n
  have hi' : i < (fullL n).length := by omega
  have hg := give_st h ⟨by omega, by omega, by omega⟩ hi' (by rw [fullL_get]; omega)
  rw [fullL_get] at hg
  exact hg
theorem set_get {i : Nat} (hi : i < n) {p : Nat} (hp : p < ((fullL n).set i (-1)).length) : ((fullL n).set i (-1))[p] = if p = i then -1 else (p : Int) := by
  rw [List.getElem_set]
  split
  · rw [if_pos (by omega)]
  · rw [if_neg (by omega), fullL_get]
theorem set_not {i : Nat} (hi : i < n) : (i : Int) ∉ (fullL n).set i (-1) := fun hm => by
  obtain ⟨p, hp, e⟩ := List.getElem_of_mem hm
  rw [set_get hi] at e
  split at e <;> omega
/-- It has none then. -/
theorem given_of {i : Nat} (hi : i < n) (hn : n ≤ 10) (h : St w base B bm vo ((fullL n).set i (-1)) hand rounds) :
    Calls Try.prog 33 #[.pointer (some ⟨B, 0, none⟩), .int .i64 (i : Int)] w fun e w' => e = .returned (.tuple #[.int .i64 0, .bool false]) ∧ w' = w := by
  obtain ⟨f, c, hp, ho⟩ := h
  have hc := of_calls hp (k := (i : Int)) (by unfold Wf; omega)
  rw [ho.none (set_not hi)] at hc
  exact hc
theorem given_owner {i : Nat} (hi : i < n) (hn : n ≤ 10) (h : St w base B bm vo ((fullL n).set i (-1)) hand rounds) :
    Calls Try.prog 34 #[.pointer (some ⟨B, 0, none⟩), .int .i64 ((i : Int) + 1)] w fun e w' => e = .returned (.tuple #[.int .i64 0, .bool false]) ∧ w' = w := by
  obtain ⟨f, c, hp, ho⟩ := h
  have hl := fullL_length n
  have hi' : i < ((fullL n).set i (-1)).length := by rw [List.length_set]; omega
  have hc := owner_calls hp ((i : Int) + 1) (by rw [List.length_set]; omega)
  rw [owner_free hi' (by rw [set_get hi, if_pos rfl])] at hc
  exact hc
/-- It takes the same number again. -/
theorem given_take (hn : 1 ≤ n ∧ n ≤ 10) (hh : 1 ≤ hand ∧ hand ≤ (n : Int)) (hr : 0 ≤ rounds ∧ rounds ≤ 1000) {i : Nat} (hi : i < n) (h : St w base B bm vo ((fullL n).set i (-1)) hand rounds) :
    Calls Try.prog 31 #[.pointer (some ⟨B, 0, none⟩), .int .i64 (i : Int)] w fun e w' => e = .returned (.tuple #[.int .i64 ((i : Int) + 1), .int .i64 0]) ∧ St w' base B bm vo (fullL n) (nxt n i) (rnd hand rounds n i) ∧ Mv (pid B bm vo) w w' := by
  have hl := fullL_length n
  have hls : ((fullL n).set i (-1)).length = n := by rw [List.length_set, hl]
  have hi' : i < ((fullL n).set i (-1)).length := by omega
  have hfree : ∀ k : Int, 1 ≤ k ∧ k ≤ (n : Int) → free? ((fullL n).set i (-1)) k = decide (k = (i : Int) + 1) := fun k hk => by
    have hp : (k - 1).toNat < ((fullL n).set i (-1)).length := by omega
    unfold free?
    rw [List.getD_eq_getElem?_getD, List.getElem?_eq_getElem hp, Option.getD_some, set_get hi]
    split
    · rw [decide_eq_true (by omega)]; rfl
    · rw [decide_eq_false (by omega), beq_eq_false_iff_ne]; omega
  have hf : (rot ((fullL n).set i (-1)).length hand).find? (free? ((fullL n).set i (-1))) = some ((i : Int) + 1) := by
    rw [hls]
    refine find_one (rot_mem (by omega)) (by rw [hfree _ (by omega)]; simp) (fun k hk hp => ?_)
    rw [hfree k (rot_bounds hk)] at hp
    simpa using hp
  refine (take_new h ⟨by omega, by omega, by omega⟩ (s := (i : Int)) (by omega) (set_not hi) hi' (by rw [set_get hi, if_pos rfl]) hf).mono ?_
  rintro e w' ⟨h1, h2, h3⟩
  have e1 : ((fullL n).set i (-1)).set i (i : Int) = fullL n := by
    apply List.ext_getElem
    · simp
    · intro p h4 h5
      rw [List.getElem_set, fullL_get]
      split
      · omega
      · rw [set_get hi, if_neg (by omega)]
  rw [hls, e1] at h2
  exact ⟨h1, h2, h3⟩
theorem full_free (hn : 1 ≤ n ∧ n ≤ 10) (hh : 1 ≤ hand ∧ hand ≤ (n : Int)) (hr : 0 ≤ rounds ∧ rounds ≤ 1000) (h : St w base B bm vo (fullL n) hand rounds) :
    Calls Try.prog 35 #[.pointer (some ⟨B, 0, none⟩)] w fun e w' => e = .returned (.int .i64 0) ∧ Below w.heap.size w w' := by
  have hl := fullL_length n
  have hc : (fullL n).countP (fun x => decide (0 ≤ x)) = (fullL n).length := List.countP_eq_length.2 (fun x hx => by
    obtain ⟨p, hp, rfl⟩ := List.getElem_of_mem hx
    rw [fullL_get]; simp)
  refine (free_st h ⟨by omega, by omega, by omega⟩).mono ?_
  rintro e w' ⟨h1, h2⟩
  rw [hc, Int.sub_self] at h1
  exact ⟨h1, h2⟩
theorem rnd_bound {i : Nat} (hr : 0 ≤ rounds) : 0 ≤ rnd hand rounds n i ∧ rnd hand rounds n i ≤ rounds + 1 := by
  unfold rnd
  split <;> omega
end

end Go.Proofs.Ytcbnmmkmgpbfiaa.PP
/- Parameters of laws, opened: a slice of numbers. -/
namespace Go.Proofs.Ytcbnmmkmgpbfiaa.Args3
open Go.WideMaps Go.Joins Go.ChangeShapes Go.WideShapes Go.RowKit Go.Deep Go.Proofs.YtcbnmmkmgpbfiaaW.PrintWords
set_option linter.unusedVariables false
theorem cells3 : Try.prog.cellsOf 3 = 1 := by kernel_rfl
section
variable {H : Type} {enc : TypeId × Value → H} {W : World}
theorem wf64 {n : Int} (h : (Lit.int .i64 n).wf = true) : -2 ^ 63 ≤ n ∧ n < 2 ^ 63 := by
  have := bounds_i64 h
  omega
set_option maxRecDepth 100000 in
theorem il_open {n : Nat} {cs : List Value} {x : DataW H × List MemPlace} (h : DataW.trod enc Try.prog W 0 (fun _ => true) true n 43 cs = some x) :
    ∃ (A : Option Addr) (c : Nat) (xs : List Int), cs = [.slice A xs.length c] ∧ xs.length ≤ c ∧ Kd.C (Kd.int .i64) W A xs.length xs ∧ ∀ x ∈ xs, -2 ^ 63 ≤ x ∧ x < 2 ^ 63 := by
  rcases open_ints Try.underlying43 Try.underlying3 cells3 h with ⟨rfl, _⟩ | ⟨a, len, cap, zs, rfl, _, hl, hm, hz, _, hc, hw⟩
  · exact ⟨none, 0, [], rfl, by simp, ⟨rfl, by simp, fun h => absurd h (by simp)⟩, by simp⟩
  · simp only [if_true] at hz
    have hlen : (zs.take len).length = len := by rw [List.length_take]; omega
    refine ⟨some a, cap, zs.take len, by rw [hlen], by omega, ⟨rfl, by unfold maxLen at hm; omega, fun _ => ⟨a, rfl, fun j k hj => ⟨[.int .i64 k], rfl, rfl, fun q u hu => ?_⟩⟩⟩, fun k hk => ?_⟩
    · rw [List.getElem?_take] at hj
      split at hj
      · match q, hu with
        | 0, hu =>
          simp at hu
          subst hu
          show W.cell? (a.add (j * 1 + 0)) = _
          rw [Nat.mul_one, Nat.add_zero, hc j (List.getElem?_eq_some_iff.1 hj).1, List.getD_eq_getElem?_getD, hj]
          rfl
        | q + 1, hu => simp at hu
      · cases hj
    · exact wf64 (hw k (List.mem_of_mem_take hk))
set_option maxRecDepth 100000 in
theorem open_il {v : Value} {d : DataW H} {p : List MemPlace} (hval : Value.okWide Try.prog W .any 0 43 v) (h : DataW.Trod enc Try.prog W 0 (fun _ => true) true 43 v d p) :
    ∃ (A : Option Addr) (c : Nat) (xs : List Int), v = .slice A xs.length c ∧ xs.length ≤ c ∧ Kd.C (Kd.int .i64) W A xs.length xs ∧ ∀ x ∈ xs, -2 ^ 63 ≤ x ∧ x < 2 ^ 63 := by
  obtain ⟨a0, len, cap, rfl⟩ := okWide_slice Try.underlying43 hval
  obtain ⟨fuel, hf⟩ := h
  obtain ⟨A, c, xs, h1, h2⟩ := il_open hf
  simp [Value.cells] at h1
  obtain ⟨rfl, rfl, rfl⟩ := h1
  exact ⟨_, _, xs, rfl, h2⟩
theorem at_int {A : Option Addr} {xs : List Int} (hC : Kd.C (Kd.int .i64) W A xs.length xs) (i : Nat) (hi : i < xs.length) : ∃ ad, A = some ad ∧ W.cell? (ad.add i) = some (.int .i64 xs[i]) := by
  obtain ⟨_, _, h3⟩ := hC
  obtain ⟨ad, rfl, h4⟩ := h3 (by omega)
  obtain ⟨cs, h5, h6, h7⟩ := h4 i _ (List.getElem?_eq_getElem hi)
  have h6' : cs = [.int .i64 xs[i]] := h6
  subst h6'
  have := h7 0 _ rfl
  refine ⟨ad, rfl, ?_⟩
  have e : i * (Kd.int .i64).sz + 0 = i := Nat.mul_one i
  rw [e] at this
  exact this
end
end Go.Proofs.Ytcbnmmkmgpbfiaa.Args3
/- CtxGives: the walk. -/
namespace Go.Proofs.Ytcbnmmkmgpbfiaa.PP
open Go.RowKit Go.Proofs.Ytcbnmmkmgpbfiaa.PX Go.Proofs.YtcbnmmkmgpbfiaaW.PrintWords Go.Proofs.YtcbnmmkmgpbfiaaW.PrintLast Go.Proofs.YtcbnmmkmgpbfiaaW.PrintMore
attribute [local go_sem] max2_int min2_int max_two min_two max_three min_three max_four min_four   -- for this text's walks alone
set_option linter.unusedVariables false
set_option linter.unusedSimpArgs false
theorem nonneg_of {n : Int} (hn : Wf n) : (n < 0 → ∃ q : Nat, wrap64 (-wrap64 (n + 1)) = (q : Int)) ∧ (¬ n < 0 → ∃ q : Nat, n = (q : Int)) :=
  ⟨neg_nat hn, fun h => ⟨n.toNat, by omega⟩⟩
theorem ten' (q : Nat) : ∃ N : Nat, 1 ≤ N ∧ N ≤ 10 ∧ 1 + (q : Int) % 10 = (N : Int) := ⟨1 + q % 10, by omega, by omega, by omega⟩
set_option maxHeartbeats 8000000 in
set_option maxRecDepth 100000 in
theorem gives_law (n : Int) (A : Option Addr) (c : Nat) (xs : List Int) (hn : Wf n) (w : World) (hC : Kd.C (Kd.int .i64) w A xs.length xs) (hxc : xs.length ≤ c) (hok : ∀ x ∈ xs, -2 ^ 63 ≤ x ∧ x < 2 ^ 63) :
    Calls Try.prog 6 #[.int .i64 n, .slice A xs.length c] w fun e w' => e = .returned (.bool true) ∧ Below w.heap.size w w' := by
  have HC := Aside0.mk hC
  have HOK := Aside0.mk hok
  clear hC hok
  go_enter Try.func6, Try.ntmps6
  go_upto_if 20 with fail
  go_cut [0] (fun v wx => (∃ q : Nat, v = .int .i64 q) ∧ wx = w)
  case first =>
    by_cases h1 : n < 0
    · have d1 : decide (n < 0) = true := decide_eq_true h1
      obtain ⟨q, hq⟩ := (nonneg_of hn).1 h1
      have HQ := Aside0.mk hq
      clear hq
      go_wp2
      go_meet
      case rel => exact ⟨⟨q, by rw [HQ.out]⟩, rfl⟩
    · have d1 : decide (n < 0) = false := decide_eq_false h1
      obtain ⟨q, hq⟩ := (nonneg_of hn).2 h1
      go_wp2
      go_meet
      case rel => exact ⟨⟨q, rfl⟩, rfl⟩
  case rest =>
  obtain ⟨⟨q, rfl⟩, rfl⟩ := hcut
  clear hn
  obtain ⟨N, hN1, hN2, hN⟩ := ten' q
  have HN := Aside0.mk hN
  clear hN
  have hmx : max (N : Int) 0 = (N : Int) := by omega
  go_wp2_with fail
  rw [HN.out]
  clear HN
  refine (new_st wc N N hN2 hmx).mono ?_
  rintro e w1 ⟨B, bm, vo, rfl, hst, hb⟩
  have HST := Aside0.mk hst
  have HB := Aside0.mk hb
  clear hst hb
  go_wp2_with fail
  go_loopw [6] (fun iv wr => ∃ i : Nat, iv = .int .i64 i ∧ i ≤ N ∧ Aside0 (St wr wc.heap.size B bm vo (startL N i) ((i : Int) % (N : Int) + 1) (if i = N then 1 else 0)) ∧ Aside0 (Below wc.heap.size wc wr)) (fun iv _ => N - (intOf iv).toNat)
  case atStart =>
    refine ⟨0, rfl, by omega, ⟨?_⟩, HB⟩
    have h := HST.out
    rw [startL_zero, if_neg (by omega)]
    simpa using h
  case round =>
    clear HST HB hmx
    obtain ⟨i, rfl, hi, HI, HB⟩ := hrel
    by_cases hlt : (i : Int) < (N : Int)
    · have hld : decide ((i : Int) < (N : Int)) = true := decide_eq_true hlt
      have hiN : i < N := by omega
      go_wp2_with fail
      refine (round_take hN2 hiN HI.out).mono ?_
      rintro e w2 ⟨rfl, h2, m2⟩
      have hb2 := HI.out.mv HB.out m2 HB.out.size
      have H2 := Aside0.mk h2
      have HB2 := Aside0.mk hb2
      clear h2 hb2 m2 HI HB
      have hwi : wrap64 ((i : Int) + 1) = (i : Int) + 1 := w_small (by omega)
      go_wp2
      clear hwi
      go_roundw
      case rel => exact ⟨i + 1, by push_cast; rfl, by omega, H2, HB2⟩
      case measure => simp [intOf]; omega
    · have hld : decide ((i : Int) < (N : Int)) = false := decide_eq_false hlt
      have hiN : i = N := by omega
      have h3 := HI.out
      rw [hiN, if_pos rfl, Int.emod_self] at h3
      have H3 := Aside0.mk (show St wr wc.heap.size B bm vo (fullL N) 1 1 from h3)
      clear h3 HI hiN
      go_wp2_with fail
      refine (full_take ⟨hN1, hN2⟩ ⟨by omega, by omega⟩ ⟨by omega, by omega⟩ H3.out).mono ?_
      rintro e w2 ⟨rfl, h4, m4⟩
      have hb4 := H3.out.mv HB.out m4 HB.out.size
      have H4 := Aside0.mk h4
      have HB4 := Aside0.mk hb4
      clear h4 hb4 m4 H3 HB hld hlt
      go_wp2_with fail
      go_loopg [9] xs.length (fun k iv wr => ∃ (i : Nat) (hand rounds : Int), iv = .int .i64 i ∧ i + k = xs.length ∧ i ≤ 20 ∧ (1 ≤ hand ∧ hand ≤ (N : Int)) ∧ (0 ≤ rounds ∧ rounds ≤ 1 + i) ∧ Aside0 (St wr wc.heap.size B bm vo (fullL N) hand rounds) ∧ Aside0 (Below wc.heap.size wc wr))
      case atStart => exact ⟨0, 1, 1, rfl, by omega, by omega, ⟨by omega, by omega⟩, ⟨by omega, by omega⟩, H4, HB4⟩
      case round =>
        clear H4 HB4
        obtain ⟨j, hand, rounds, rfl, hj, hj20, hh, hr, HI, HB⟩ := hrel
        have HHR := Aside0.mk (And.intro hh hr)
        clear hh hr
        by_cases hl1 : (j : Int) < (xs.length : Int)
        · have hd1 : decide ((j : Int) < (xs.length : Int)) = true := decide_eq_true hl1
          by_cases hl2 : (j : Int) < 20
          · have hd2 : decide ((j : Int) < 20) = true := decide_eq_true hl2
            have hjl : j < xs.length := by omega
            have hj0 : (0 : Int) ≤ (j : Int) := by omega
            obtain ⟨ad, rfl, x0⟩ := Args3.at_int (Kd.C_below HC.out HB.out) j hjl
            have hsb := HOK.out _ (List.getElem_mem hjl)
            generalize xs[j] = s at x0 hsb
            have HSB := Aside0.mk hsb
            have HJ := Aside0.mk hj
            clear hsb hj
            go_upto_if 62 with fail
            go_cut [10] (fun v wx => (∃ q : Nat, v = .int .i64 q) ∧ wx = wr)
            case first =>
              by_cases h1 : s < 0
              · have d1 : decide (s < 0) = true := decide_eq_true h1
                obtain ⟨q, hq⟩ := (nonneg_of (n := s) (by have := HSB.out; unfold Wf; omega)).1 h1
                have HQ := Aside0.mk hq
                clear hq
                go_wp2
                go_meet
                case rel => exact ⟨⟨q, by rw [HQ.out]⟩, rfl⟩
              · have d1 : decide (s < 0) = false := decide_eq_false h1
                obtain ⟨q, hq⟩ := (nonneg_of (n := s) (by have := HSB.out; unfold Wf; omega)).2 h1
                subst hq
                go_wp2
                go_meet
                case rel => exact ⟨⟨q, rfl⟩, rfl⟩
            case rest =>
            obtain ⟨⟨q, rfl⟩, rfl⟩ := hcut
            clear HSB
            have hne : ((N : Int) == 0) = false := by rw [beq_eq_false_iff_ne]; omega
            have hN0 : ¬ (N = 0) := by omega
            obtain ⟨k, hk, hkm⟩ : ∃ k : Nat, k < N ∧ (q : Int) % (N : Int) = (k : Int) := ⟨q % N, Nat.mod_lt _ (by omega), rfl⟩
            have HKM := Aside0.mk hkm
            clear hkm
            go_wp2_with fail
            rw [HKM.out]
            clear HKM x0 hd1 hd2 hl1
            have hhr := HHR.out
            refine (full_give ⟨hN1, hN2⟩ hhr.1 ⟨by omega, by omega⟩ HI.out hk).mono ?_
            rintro e w3 ⟨rfl, h5, m5⟩
            have hb5 := HI.out.mv HB.out m5 HB.out.size
            have H5 := Aside0.mk h5
            have HB5 := Aside0.mk hb5
            clear h5 hb5 m5 HI HB hhr
            go_wp2_with fail
            refine (given_of hk hN2 H5.out).mono ?_
            rintro e w4 ⟨rfl, rfl⟩
            go_wp2_with fail
            refine (given_owner hk hN2 H5.out).mono ?_
            rintro e w5 ⟨rfl, rfl⟩
            go_wp2_with fail
            have hhr := HHR.out
            refine (given_take ⟨hN1, hN2⟩ hhr.1 ⟨by omega, by omega⟩ hk H5.out).mono ?_
            rintro e w6 ⟨rfl, h6, m6⟩
            have hb6 := H5.out.mv HB5.out m6 HB5.out.size
            have hnb := nxt_pos hk
            have hrb := rnd_bound (hand := hand) (n := N) (i := k) hhr.2.1
            obtain ⟨hand2, hh2⟩ : ∃ x, nxt N k = x := ⟨_, rfl⟩
            obtain ⟨rounds2, hr2⟩ : ∃ x, rnd hand rounds N k = x := ⟨_, rfl⟩
            rw [hh2] at h6 hnb
            rw [hr2] at h6 hrb
            have HNB := Aside0.mk (And.intro hnb (show 0 ≤ rounds2 ∧ rounds2 ≤ 1 + ((j + 1 : Nat) : Int) by push_cast; omega))
            have H6 := Aside0.mk h6
            have HB6 := Aside0.mk hb6
            clear h6 hb6 m6 H5 HB5 hh2 hr2 hhr hnb hrb HHR
            go_wp2_with fail
            have hnr := HNB.out
            refine (full_free ⟨hN1, hN2⟩ hnr.1 ⟨by omega, by omega⟩ H6.out).mono ?_
            rintro e w7 ⟨rfl, hb7⟩
            have H7 := Aside0.mk (H6.out.below hb7)
            have HB7 := Aside0.mk (HB6.out.trans (hb7.mono HB6.out.size))
            clear hb7 H6 HB6 hnr
            have hwj : wrap64 ((j : Int) + 1) = (j : Int) + 1 := w_small (by omega)
            go_wp2
            clear hwj
            have hjk := HJ.out
            go_roundg (gk - 1)
            case measure => omega
            case rel => exact ⟨j + 1, hand2, rounds2, by push_cast; rfl, by omega, by omega, HNB.out.1, HNB.out.2, H7, HB7⟩
          · have hd2 : decide ((j : Int) < 20) = false := decide_eq_false hl2
            go_wp2_with fail
            refine (lives_calls _).mono ?_
            rintro e w3 ⟨rfl, hb3⟩
            have hbf := HB.out.trans (hb3.mono HB.out.size)
            clear hb3
            go_wp2
            go_ret
            exact ⟨rfl, hbf⟩
        · have hd1 : decide ((j : Int) < (xs.length : Int)) = false := decide_eq_false hl1
          go_wp2_with fail
          refine (lives_calls _).mono ?_
          rintro e w3 ⟨rfl, hb3⟩
          have hbf := HB.out.trans (hb3.mono HB.out.size)
          clear hb3
          go_wp2
          go_ret
          exact ⟨rfl, hbf⟩

end Go.Proofs.Ytcbnmmkmgpbfiaa.PP
/- A pool of numbers (layer 14): what the document's functions answer, in plain words; the same words serve the pool. -/
namespace Go.Proofs.Ytcbnmmkmgpbfiaa.PP
open Go.RowKit Go.Proofs.Ytcbnmmkmgpbfiaa.PX Go.Proofs.YtcbnmmkmgpbfiaaW.PrintWords Go.Proofs.YtcbnmmkmgpbfiaaW.PrintLast Go.Proofs.YtcbnmmkmgpbfiaaW.PrintMore
attribute [local go_sem] max2_int min2_int max_two min_two max_three min_three max_four min_four   -- for this text's walks alone
set_option linter.unusedVariables false
set_option linter.unusedSimpArgs false
/-- A space's number; 0: none. -/
def ofS (L : List Int) (s : Int) : Int := if 0 ≤ s ∧ s ∈ L then (L.idxOf s : Int) + 1 else 0
abbrev Ans := List Int × Int × Int × Int × Int
def ownS (L : List Int) (h r : Int) (i : Nat) (s n e : Int) : Ans := (L.set i s, nxt L.length i, rnd h r L.length i, n, e)
def takeS (L : List Int) (h r s : Int) : Ans :=
  if s < 0 then (L, h, r, 0, 1) else if s ∈ L then (L, h, r, ofS L s, 0) else
  match (rot L.length h).find? (free? L) with
  | some n => ownS L h r (n - 1).toNat s n 0
  | none => (L, h, r, 0, 8)
def giveS (L : List Int) (h r s : Int) : Ans := if ofS L s = 0 then (L, h, r, 0, 10) else (L.set (ofS L s - 1).toNat (-1), h, r, ofS L s, 0)
def victS (L : List Int) (h : Int) (av : List Int) : Int × Int × Int :=
  match (rot L.length h).find? (vok L av) with
  | some n => (n, (ownerP L n).1, 0)
  | none => (0, 0, 8)
def stealS (L : List Int) (h r n s : Int) : Ans :=
  if s < 0 ∨ inP n L.length = false then (L, h, r, 0, 1) else if s ∈ L then (L, h, r, 0, 9) else
  if (ownerP L n).2 = false then (L, h, r, 0, 10) else ownS L h r (n - 1).toNat s (ownerP L n).1 0
/-- A list of the document's that may be. -/
structure Doc (L : List Int) (h r : Int) : Prop where
  len : L.length ≤ 10
  hand : 1 ≤ h ∧ h ≤ 10 ∧ (0 < L.length → h ≤ (L.length : Int))
  rnds : -1000000 ≤ r ∧ r ≤ 1000000
  low : ∀ x ∈ L, -1 ≤ x ∧ x ≤ 9223372036854775807
theorem rd_at {L : List Int} {i : Nat} (h : i < L.length) : rd L (i : Int) = L[i] := by simp [rd, List.getD_eq_getElem?_getD, List.getElem?_eq_getElem h]
theorem w_nat {i : Nat} (h : i ≤ 1000000) : wrap64 ((i : Int) + 1) = ((i + 1 : Nat) : Int) := by rw [w_small (by omega)]; push_cast; rfl
theorem Of_l0 (L : List Int) (h r s : Int) (hL : L.length ≤ 1000) (d : Nat) : ∀ (k i : Nat), L.length - i = d → i ≤ L.length → d < k → (0 ≤ s → s ∉ L.take i) →
    lookasideref14_Of.l0 k s i L h r = some (ofS L s) := by
  induction d with
  | zero =>
    intro k i hd hi hk hn
    obtain ⟨k, rfl⟩ : ∃ m, k = m + 1 := ⟨k - 1, by omega⟩
    simp only [lookasideref14_Of.l0]
    rw [List.take_of_length_le (by omega)] at hn
    rw [if_neg (by omega), ofS, if_neg (fun h => hn h.1 h.2)]
  | succ d ih =>
    intro k i hd hi hk hn
    obtain ⟨k, rfl⟩ : ∃ m, k = m + 1 := ⟨k - 1, by omega⟩
    have hil : i < L.length := by omega
    simp only [lookasideref14_Of.l0]
    rw [if_pos (by omega), if_pos (by omega), rd_at hil, w_nat (by omega)]
    by_cases e : L[i] = s
    · rw [if_pos e]
      by_cases h0 : s ≥ 0
      · rw [if_pos h0]
        have hm : s ∈ L := e ▸ List.getElem_mem hil
        have hx : L.idxOf s = i := by
          have h1 : L.idxOf s < L.length := List.idxOf_lt_length_of_mem hm
          rcases Nat.lt_trichotomy (L.idxOf s) i with h2 | h2 | h2
          · exfalso
            refine hn h0 (List.mem_take_iff_getElem.2 ⟨L.idxOf s, by omega, ?_⟩)
            exact List.getElem_idxOf h1
          · exact h2
          · exfalso
            have := List.not_of_lt_findIdx (p := (· == s)) (xs := L) (i := i) h2
            simp [e] at this
        rw [ofS, if_pos ⟨h0, hm⟩, hx]; push_cast; rfl
      · rw [if_neg h0]
        exact ih k (i + 1) (by omega) (by omega) (by omega) (fun h => absurd h h0)
    · rw [if_neg e]
      refine ih k (i + 1) (by omega) (by omega) (by omega) (fun h => ?_)
      rw [List.take_succ_eq_append_getElem hil, List.mem_append, not_or]
      exact ⟨hn h, by simpa using fun h => e h.symm⟩
theorem Of_f (L : List Int) (h r s : Int) (hL : L.length ≤ 1000) (k : Nat) (hk : 1000 < k) : lookasideref14_Of.f k L h r s = some (ofS L s) :=
  Of_l0 L h r s hL L.length k 0 rfl (by omega) (by omega) (fun _ h => by simp at h)
theorem on_lt (L : List Int) (H R : Int) (h0 : 0 ≤ H) (h : H < (L.length : Int)) (hL : L.length ≤ 1000) : lookasideref14_on.f L H R = some (L, H + 1, R) := by
  unfold lookasideref14_on.f
  rw [w_small (x := H + 1) (by omega), if_neg (by omega)]
theorem on_eq (L : List Int) (R : Int) (hL : L.length ≤ 1000) (hR : -1000000 ≤ R ∧ R ≤ 1000000) : lookasideref14_on.f L (L.length : Int) R = some (L, 1, R + 1) := by
  unfold lookasideref14_on.f
  rw [w_small (x := (L.length : Int) + 1) (by omega), if_pos (by omega), w_small (x := R + 1) (by omega)]
theorem own_on (L : List Int) (i : Nat) (R : Int) (hi : i < L.length) (hL : L.length ≤ 1000) (hR : -1000000 ≤ R ∧ R ≤ 1000000) (h : Int) (hh : h ≤ (i : Int) + 1) :
    lookasideref14_on.f L ((i : Int) + 1) R = some (L, nxt L.length i, rnd h R L.length i) := by
  unfold nxt rnd
  by_cases e : i + 1 = L.length
  · rw [show ((i : Int) + 1) = (L.length : Int) by omega, on_eq L R hL hR, if_pos (.inr e), Int.emod_self]; rfl
  · rw [on_lt L _ R (by omega) (by omega) hL, if_neg (by omega), Int.emod_eq_of_lt (by omega) (by omega)]; simp
theorem own_up (L : List Int) (i : Nat) (hi : i < L.length) (hL : L.length ≤ 1000) (R : Int) (hR : -1000000 ≤ R ∧ R ≤ 1000000) (d : Nat) : ∀ (k : Nat) (H : Int), 0 ≤ H → H + d = (i : Int) + 1 → d < k →
    lookasideref14_own.l0 k ((i : Int) + 1) L H R = some (L, nxt L.length i, rnd H R L.length i) := by
  induction d with
  | zero =>
    intro k H h0 hH hk
    obtain ⟨k, rfl⟩ : ∃ m, k = m + 1 := ⟨k - 1, by omega⟩
    obtain rfl : H = (i : Int) + 1 := by omega
    simp only [lookasideref14_own.l0]
    rw [if_pos trivial, own_on L i R hi hL hR ((i : Int) + 1) (Int.le_refl _)]; rfl
  | succ d ih =>
    intro k H h0 hH hk
    obtain ⟨k, rfl⟩ : ∃ m, k = m + 1 := ⟨k - 1, by omega⟩
    simp only [lookasideref14_own.l0]
    rw [if_neg (by omega), on_lt L H R h0 (by omega) hL, Option.bind_some]
    show lookasideref14_own.l0 k ((i : Int) + 1) L (H + 1) R = _
    rw [ih k (H + 1) (by omega) (by omega) (by omega)]
    unfold rnd
    congr 4
    split <;> split <;> omega
theorem own_over (L : List Int) (i : Nat) (hi : i < L.length) (hL : L.length ≤ 1000) (R : Int) (hR : -1000000 ≤ R ∧ R < 1000000) (d : Nat) : ∀ (k : Nat) (H : Int), (i : Int) + 1 < H → H + d = (L.length : Int) → d + 1002 < k →
    lookasideref14_own.l0 k ((i : Int) + 1) L H R = some (L, nxt L.length i, rnd H R L.length i) := by
  induction d with
  | zero =>
    intro k H h0 hH hk
    obtain ⟨k, rfl⟩ : ∃ m, k = m + 1 := ⟨k - 1, by omega⟩
    obtain rfl : H = (L.length : Int) := by omega
    simp only [lookasideref14_own.l0]
    rw [if_neg (by omega), on_eq L R hL (by omega), Option.bind_some]
    show lookasideref14_own.l0 k ((i : Int) + 1) L 1 (R + 1) = _
    have e : rnd 1 (R + 1) L.length i = rnd (L.length : Int) R L.length i := by
      unfold rnd
      rw [if_neg (by omega), if_pos (by omega)]; omega
    rw [own_up L i hi hL (R + 1) (by omega) i k 1 (by omega) (by omega) (by omega), e]
  | succ d ih =>
    intro k H h0 hH hk
    obtain ⟨k, rfl⟩ : ∃ m, k = m + 1 := ⟨k - 1, by omega⟩
    simp only [lookasideref14_own.l0]
    rw [if_neg (by omega), on_lt L H R (by omega) (by omega) hL, Option.bind_some]
    show lookasideref14_own.l0 k ((i : Int) + 1) L (H + 1) R = _
    rw [ih k (H + 1) (by omega) (by omega) (by omega)]
    unfold rnd
    congr 4
    rw [if_pos (by omega), if_pos (by omega)]
theorem own_f (L : List Int) (h r s : Int) (i : Nat) (hi : i < L.length) (hL : L.length ≤ 1000) (hh : 1 ≤ h ∧ h ≤ (L.length : Int)) (hr : -1000000 ≤ r ∧ r < 1000000) (k : Nat) (hk : 3000 < k) :
    lookasideref14_own.f k L h r ((i : Int) + 1) s = some (L.set i s, nxt L.length i, rnd h r L.length i) := by
  unfold lookasideref14_own.f
  rw [if_pos (by simp; omega), Option.bind_some, List.nil_append, w_small (x := (i : Int) + 1 - 1) (by omega), show (i : Int) + 1 - 1 = (i : Int) by omega, if_pos (by omega), if_pos (by omega), Int.toNat_natCast]
  have hs : (L.set i s).length = L.length := List.length_set
  by_cases e : h ≤ (i : Int) + 1
  · rw [own_up (L.set i s) i (by omega) (by omega) r (by omega) ((i : Int) + 1 - h).toNat k h (by omega) (by omega) (by omega), hs]
  · rw [own_over (L.set i s) i (by omega) (by omega) r (by omega) ((L.length : Int) - h).toNat k h (by omega) (by omega) (by omega), hs]
theorem rot_drop {n i : Nat} {h : Int} (hi : i < n) : (rot n h).drop i = ((h - 1 + (i : Int)) % (n : Int) + 1) :: (rot n h).drop (i + 1) := by
  have hl : i < (rot n h).length := by rw [rot_length]; exact hi
  rw [List.drop_eq_getElem_cons hl]
  congr 1
  have := rot_get (hand := h) hi
  rw [List.getElem?_eq_getElem hl] at this
  exact Option.some.inj this
/-- A place on the round. -/
theorem rot_place {n i : Nat} {h : Int} (hi : i < n) : ∃ j : Nat, j < n ∧ (h - 1 + (i : Int)) % (n : Int) = (j : Int) ∧ ((j : Int) + 1) % (n : Int) = (h - 1 + ((i + 1 : Nat) : Int)) % (n : Int) := by
  have h1 := Int.emod_nonneg (h - 1 + (i : Int)) (show (n : Int) ≠ 0 by omega)
  have h2 := Int.emod_lt_of_pos (h - 1 + (i : Int)) (show (0 : Int) < (n : Int) by omega)
  refine ⟨((h - 1 + (i : Int)) % (n : Int)).toNat, by omega, by omega, ?_⟩
  rw [Int.toNat_of_nonneg h1, Int.emod_add_emod]
  congr 1; push_cast; omega
def tookS (L : List Int) (h r s : Int) : Option Int → Ans
  | some n => ownS L h r (n - 1).toNat s n 0
  | none => (L, h, r, 0, 8)
theorem Take_l0 (L : List Int) (h r s : Int) (hd : Doc L h r) (hr : r < 1000000) (d : Nat) : ∀ (k i : Nat), L.length - i = d → i ≤ L.length → d + 3001 < k → ∀ x : Int, (i < L.length → x = (h - 1 + (i : Int)) % (L.length : Int) + 1) →
    lookasideref14_Take.l0 k s x i L h r = some (tookS L h r s (((rot L.length h).drop i).find? (free? L))) := by
  have hlen := hd.len
  induction d with
  | zero =>
    intro k i hd' hi hk x hx
    obtain ⟨k, rfl⟩ : ∃ m, k = m + 1 := ⟨k - 1, by omega⟩
    simp only [lookasideref14_Take.l0]
    rw [if_neg (by omega), List.drop_eq_nil_of_le (by rw [rot_length]; omega)]; rfl
  | succ d ih =>
    intro k i hd' hi hk x hx
    obtain ⟨k, rfl⟩ : ∃ m, k = m + 1 := ⟨k - 1, by omega⟩
    have hil : i < L.length := by omega
    obtain ⟨j, hj, hj1, hj2⟩ := rot_place (h := h) hil
    rw [hx hil]
    have hlow := (hd.low _ (List.getElem_mem hj)).1
    simp only [lookasideref14_Take.l0]
    rw [hj1, w_small (x := (j : Int) + 1 - 1) (by omega), show (j : Int) + 1 - 1 = (j : Int) by omega, if_pos (by omega), if_pos (by omega), if_pos (by omega), rd_at hj, rot_drop hil, hj1]
    have hf : free? L ((j : Int) + 1) = decide (L[j] < 0) := by
      unfold free?
      rw [show ((j : Int) + 1 - 1).toNat = j by omega, List.getD_eq_getElem?_getD, List.getElem?_eq_getElem hj, Option.getD_some]
      by_cases e : L[j] < 0
      · rw [decide_eq_true e, beq_iff_eq]; omega
      · rw [decide_eq_false e, beq_eq_false_iff_ne]; omega
    by_cases e : L[j] < 0
    · rw [if_pos e, own_f L h r s j hj (by omega) ⟨hd.hand.1, hd.hand.2.2 (by omega)⟩ ⟨hd.rnds.1, hr⟩ k (by omega), Option.bind_some, List.find?_cons_of_pos (by rw [hf, decide_eq_true e])]
      have e2 : ((j : Int) + 1 - 1).toNat = j := by omega
      simp only [tookS, ownS, e2]
    · rw [if_neg e, if_neg (by omega), List.find?_cons_of_neg (by rw [hf, decide_eq_false e]; simp), w_nat (by omega)]
      refine ih k (i + 1) (by omega) (by omega) (by omega) _ (fun hi1 => ?_)
      rw [Int.tmod_eq_emod_of_nonneg (by omega), hj2]
      have h1 := Int.emod_nonneg (h - 1 + ((i + 1 : Nat) : Int)) (show (L.length : Int) ≠ 0 by omega)
      have h2 := Int.emod_lt_of_pos (h - 1 + ((i + 1 : Nat) : Int)) (show (0 : Int) < (L.length : Int) by omega)
      exact w_small (by omega)
theorem start_x {L : List Int} {h r : Int} (hd : Doc L h r) : 0 < L.length → h = (h - 1 + ((0 : Nat) : Int)) % (L.length : Int) + 1 := fun hl => by
  have h1 := hd.hand
  have h2 := h1.2.2 hl
  rw [Int.emod_eq_of_lt (by omega) (by omega)]; omega
theorem ofS_pos {L : List Int} {s : Int} (h0 : 0 ≤ s) : ofS L s > 0 ↔ s ∈ L := by
  unfold ofS
  by_cases h : s ∈ L
  · rw [if_pos ⟨h0, h⟩]; exact ⟨fun _ => h, fun _ => by omega⟩
  · rw [if_neg (fun e => h e.2)]; exact ⟨fun e => absurd e (by omega), fun e => absurd e h⟩
theorem Take_f (L : List Int) (h r s : Int) (hd : Doc L h r) (hr : r < 1000000) : lookasideref14_Take.f 9000 L h r s = some (takeS L h r s) := by
  unfold lookasideref14_Take.f takeS
  have hlen := hd.len
  by_cases h0 : s < 0
  · rw [if_pos h0, if_pos h0]
  · rw [if_neg h0, if_neg h0, Of_f L h r s (by omega) 9000 (by omega), Option.bind_some]
    by_cases hm : s ∈ L
    · rw [if_pos ((ofS_pos (by omega)).2 hm), if_pos hm]
    · rw [if_neg (fun e => hm ((ofS_pos (by omega)).1 e)), if_neg hm]
      have hl := Take_l0 L h r s hd hr L.length 9000 0 rfl (by omega) (by omega) h (start_x hd)
      rw [List.drop_zero] at hl
      rw [show lookasideref14_Take.l0 9000 s h 0 L h r = _ from hl]
      unfold tookS
      split <;> rfl
theorem Give_f (L : List Int) (h r s : Int) (hd : Doc L h r) : lookasideref14_Give.f 9000 L h r s = some (giveS L h r s) := by
  have hlen := hd.len
  unfold lookasideref14_Give.f giveS
  rw [Of_f L h r s (by omega) 9000 (by omega), Option.bind_some]
  by_cases h0 : ofS L s = 0
  · rw [if_pos h0, if_pos h0]
  · rw [if_neg h0, if_neg h0]
    have hb : 1 ≤ ofS L s ∧ ofS L s ≤ (L.length : Int) := by
      unfold ofS at h0 ⊢
      split
      · next h =>
        have := List.idxOf_lt_length_of_mem h.2
        omega
      · next h => rw [if_neg h] at h0; exact absurd rfl h0
    rw [if_pos (by simp; omega), Option.bind_some, List.nil_append, w_small (x := ofS L s - 1) (by omega), if_pos (by omega), if_pos (by omega)]
theorem has_l0 (A : List Int) (c : Int) (hA : A.length ≤ 1000) (d : Nat) : ∀ (k i : Nat), A.length - i = d → i ≤ A.length → d < k → lookasideref14_has.l0 k A c i = some (decide (c ∈ A.drop i)) := by
  induction d with
  | zero =>
    intro k i hd hi hk
    obtain ⟨k, rfl⟩ : ∃ m, k = m + 1 := ⟨k - 1, by omega⟩
    simp only [lookasideref14_has.l0]
    rw [if_neg (by omega), List.drop_eq_nil_of_le (by omega)]; simp
  | succ d ih =>
    intro k i hd hi hk
    obtain ⟨k, rfl⟩ : ∃ m, k = m + 1 := ⟨k - 1, by omega⟩
    have hil : i < A.length := by omega
    simp only [lookasideref14_has.l0]
    rw [if_pos (by omega), if_pos (by omega), rd_at hil, List.drop_eq_getElem_cons hil, w_nat (by omega)]
    by_cases h : A[i] = c
    · rw [if_pos h, decide_eq_true (by rw [h]; simp)]
    · rw [if_neg h, ih k (i + 1) (by omega) (by omega) (by omega)]
      congr 1
      rw [decide_eq_decide, List.mem_cons, or_iff_right (fun e => h e.symm)]
theorem has_f (A : List Int) (c : Int) (hA : A.length ≤ 1000) (k : Nat) (hk : 1001 < k) : lookasideref14_has.f k A c = some (decide (c ∈ A)) := has_l0 A c hA A.length k 0 rfl (by omega) (by omega)
def victO (L : List Int) : Option Int → Int × Int × Int
  | some n => (n, (ownerP L n).1, 0)
  | none => (0, 0, 8)
theorem owner_low {L : List Int} {j : Nat} (hj : j < L.length) (h : -1 ≤ L[j]) : ownerP L ((j : Int) + 1) = if L[j] < 0 then (0, false) else (L[j], true) := by
  split
  · exact owner_free hj (by omega)
  · exact owner_at hj (by omega)
theorem Victim_l0 (L : List Int) (h r : Int) (A : List Int) (hA : A.length ≤ 1000) (hd : Doc L h r) (d : Nat) : ∀ (k i : Nat), L.length - i = d → i ≤ L.length → d + 1002 < k → ∀ x : Int, (i < L.length → x = (h - 1 + (i : Int)) % (L.length : Int) + 1) →
    lookasideref14_Victim.l0 k A x i L h r = some (victO L (((rot L.length h).drop i).find? (vok L A))) := by
  have hlen := hd.len
  induction d with
  | zero =>
    intro k i hd' hi hk x hx
    obtain ⟨k, rfl⟩ : ∃ m, k = m + 1 := ⟨k - 1, by omega⟩
    simp only [lookasideref14_Victim.l0]
    rw [if_neg (by omega), List.drop_eq_nil_of_le (by rw [rot_length]; omega)]; rfl
  | succ d ih =>
    intro k i hd' hi hk x hx
    obtain ⟨k, rfl⟩ : ∃ m, k = m + 1 := ⟨k - 1, by omega⟩
    have hil : i < L.length := by omega
    obtain ⟨j, hj, hj1, hj2⟩ := rot_place (h := h) hil
    rw [hx hil]
    have hlow := (hd.low _ (List.getElem_mem hj)).1
    have how := owner_low hj hlow
    have hgo : lookasideref14_Victim.l0 k A (wrap64 (Int.tmod ((j : Int) + 1) (L.length : Int) + 1)) ((i + 1 : Nat) : Int) L h r = some (victO L (((rot L.length h).drop (i + 1)).find? (vok L A))) := by
      refine ih k (i + 1) (by omega) (by omega) (by omega) _ (fun hi1 => ?_)
      rw [Int.tmod_eq_emod_of_nonneg (by omega), hj2]
      have h1 := Int.emod_nonneg (h - 1 + ((i + 1 : Nat) : Int)) (show (L.length : Int) ≠ 0 by omega)
      have h2 := Int.emod_lt_of_pos (h - 1 + ((i + 1 : Nat) : Int)) (show (0 : Int) < (L.length : Int) by omega)
      exact w_small (by omega)
    simp only [lookasideref14_Victim.l0]
    rw [hj1, w_small (x := (j : Int) + 1 - 1) (by omega), show (j : Int) + 1 - 1 = (j : Int) by omega, if_pos (by omega), if_pos (by omega), if_pos (by omega), rd_at hj, has_f A _ hA k (by omega), Option.bind_some, rot_drop hil, hj1, w_nat (by omega)]
    by_cases e : L[j] < 0
    · rw [if_pos e] at how
      rw [if_neg (by omega), if_neg (by omega), List.find?_cons_of_neg (by unfold vok; rw [how]; simp)]
      exact hgo
    · rw [if_neg e] at how
      rw [if_pos (by omega)]
      by_cases hm : L[j] ∈ A
      · rw [if_pos (decide_eq_true hm), if_neg (by omega), List.find?_cons_of_neg (by unfold vok; rw [how]; simp [hm])]
        exact hgo
      · rw [if_neg (by simp [hm]), List.find?_cons_of_pos (by unfold vok; rw [how]; simp [hm])]
        simp only [victO, how]
theorem Victim_f (L : List Int) (h r : Int) (A : List Int) (hA : A.length ≤ 1000) (hd : Doc L h r) : lookasideref14_Victim.f 9000 L h r A = some (victS L h A) := by
  have hlen := hd.len
  unfold lookasideref14_Victim.f
  have hl := Victim_l0 L h r A hA hd L.length 9000 0 rfl (by omega) (by omega) h (start_x hd)
  rw [List.drop_zero] at hl
  rw [show lookasideref14_Victim.l0 9000 A h 0 L h r = _ from hl]
  unfold victO victS
  split <;> rfl
theorem Owner_f (L : List Int) (h r n : Int) (hl : L.length ≤ 1000) : lookasideref14_Owner.f L h r n = some (if inP n L.length = true then L.getD (n - 1).toNat (-1) else -1) := by
  unfold lookasideref14_Owner.f inP
  by_cases h1 : n < 1
  · rw [if_pos h1, if_neg (by simp; omega)]
  · rw [if_neg h1]
    by_cases h2 : n > (L.length : Int)
    · rw [if_pos h2, if_neg (by simp; omega)]
    · rw [if_neg h2, w_small (x := n - 1) (by omega), if_pos (by omega), if_pos (by omega), if_pos (by simp; omega)]
      unfold rd
      have hn : (n - 1).toNat < L.length := by omega
      rw [List.getD_eq_getElem?_getD, List.getD_eq_getElem?_getD, List.getElem?_eq_getElem hn]; rfl
theorem Steal_f (L : List Int) (h r n s : Int) (hd : Doc L h r) (hr : r < 1000000) : lookasideref14_Steal.f 9000 L h r n s = some (stealS L h r n s) := by
  have hlen := hd.len
  unfold lookasideref14_Steal.f stealS
  by_cases h0 : s < 0
  · rw [if_pos h0, if_pos (.inl h0)]; rfl
  · rw [if_neg h0]
    by_cases h1 : n < 1
    · rw [if_pos h1, if_pos (.inr (by unfold inP; simp; omega))]; rfl
    · rw [if_neg h1]
      by_cases h2 : n > (L.length : Int)
      · rw [decide_eq_true h2, if_pos (.inr (by unfold inP; simp; omega))]; rfl
      · rw [decide_eq_false h2, if_neg (by unfold inP; simp; omega)]
        show lookasideref14_Steal.j0 (8999 + 1) n s false L h r = _
        simp only [lookasideref14_Steal.j0]
        obtain ⟨j, rfl⟩ : ∃ j : Nat, n = (j : Int) + 1 := ⟨(n - 1).toNat, by omega⟩
        have hj : j < L.length := by omega
        have hlow := (hd.low _ (List.getElem_mem hj)).1
        have how := owner_low hj hlow
        rw [if_neg (by decide), Of_f L h r s (by omega) 8999 (by omega), Option.bind_some]
        by_cases hm : s ∈ L
        · rw [if_pos ((ofS_pos (by omega)).2 hm), if_pos hm]
        · rw [if_neg (fun e => hm ((ofS_pos (by omega)).1 e)), if_neg hm, w_small (x := (j : Int) + 1 - 1) (by omega), show (j : Int) + 1 - 1 = (j : Int) by omega, if_pos (by omega), if_pos (by omega), rd_at hj, how]
          by_cases e : L[j] < 0
          · rw [if_pos e, if_pos e, if_pos rfl]
          · rw [if_neg e, if_neg e, if_neg (by simp), own_f L h r s j hj (by omega) ⟨hd.hand.1, hd.hand.2.2 (by omega)⟩ ⟨hd.rnds.1, hr⟩ 8999 (by omega), Option.bind_some]
            unfold ownS
            rw [Int.toNat_natCast]
theorem Free_l0 (L : List Int) (h r : Int) (hL : L.length ≤ 1000) (d : Nat) : ∀ (k i c : Nat), L.length - i = d → i ≤ L.length → c ≤ i → d < k → lookasideref14_Free.l0 k c i L h r = some ((c + (L.drop i).countP (fun x => decide (x < 0)) : Nat) : Int) := by
  induction d with
  | zero =>
    intro k i c hd hi hc hk
    obtain ⟨k, rfl⟩ : ∃ m, k = m + 1 := ⟨k - 1, by omega⟩
    simp only [lookasideref14_Free.l0]
    rw [if_neg (by omega), List.drop_eq_nil_of_le (by omega)]; rfl
  | succ d ih =>
    intro k i c hd hi hc hk
    obtain ⟨k, rfl⟩ : ∃ m, k = m + 1 := ⟨k - 1, by omega⟩
    have hil : i < L.length := by omega
    simp only [lookasideref14_Free.l0]
    rw [if_pos (by omega), if_pos (by omega), rd_at hil, List.drop_eq_getElem_cons hil, w_nat (i := i) (by omega), w_nat (i := c) (by omega), List.countP_cons]
    by_cases e : L[i] < 0
    · rw [if_pos e, ih k (i + 1) (c + 1) (by omega) (by omega) (by omega) (by omega), if_pos (decide_eq_true e)]
      congr 2; omega
    · rw [if_neg e, ih k (i + 1) c (by omega) (by omega) (by omega) (by omega), if_neg (by simp [e])]
      rfl
theorem Free_f (L : List Int) (h r : Int) (hd : Doc L h r) : lookasideref14_Free.f 9000 L h r = some ((L.length : Int) - (L.countP (fun x => decide (0 ≤ x)) : Int)) := by
  have hlen := hd.len
  unfold lookasideref14_Free.f
  have := Free_l0 L h r (by omega) L.length 9000 0 0 rfl (by omega) (by omega) (by omega)
  rw [show ((0 : Nat) : Int) = 0 from rfl, List.drop_zero, Nat.zero_add] at this
  rw [this]
  congr 1
  have h2 := List.length_eq_countP_add_countP (fun x : Int => decide (0 ≤ x)) (l := L)
  have h3 : L.countP (fun x => decide (x < 0)) = L.countP (fun x => !decide (0 ≤ x)) := List.countP_congr (fun x _ => by simp)
  rw [h3]
  simp only [Bool.not_eq_true] at h2
  have h4 : L.countP (fun x => decide (decide (0 ≤ x) = false)) = L.countP (fun x => !decide (0 ≤ x)) := List.countP_congr (fun x _ => by simp)
  omega
theorem Same_l0 (L : List Int) (hL : L.length ≤ 1000) (d : Nat) : ∀ (k i : Nat), L.length - i = d → i ≤ L.length → d < k → lookasideref02_Same.l0 k L L i = some true := by
  induction d with
  | zero =>
    intro k i hd hi hk
    obtain ⟨k, rfl⟩ : ∃ m, k = m + 1 := ⟨k - 1, by omega⟩
    simp only [lookasideref02_Same.l0]
    rw [if_neg (by omega)]
  | succ d ih =>
    intro k i hd hi hk
    obtain ⟨k, rfl⟩ : ∃ m, k = m + 1 := ⟨k - 1, by omega⟩
    have hil : i < L.length := by omega
    simp only [lookasideref02_Same.l0]
    rw [if_pos (by omega), if_pos (by omega), if_pos (by omega), if_pos trivial, w_nat (i := i) (by omega)]
    exact ih k (i + 1) (by omega) (by omega) (by omega)
theorem Same_f (L : List Int) (hL : L.length ≤ 1000) : lookasideref02_Same.f 9000 L L = some true := by
  unfold lookasideref02_Same.f
  rw [if_pos rfl]
  exact Same_l0 L hL L.length 9000 0 rfl (by omega) (by omega)
theorem New_l0 (n : Int) (hn : n ≤ 10) (d : Nat) : ∀ (k i : Nat), (n - i).toNat = d → i ≤ n.toNat → d < k → lookasideref14_New.l0 k n i (List.replicate i (-1)) 1 0 = some (List.replicate n.toNat (-1), 1, 0) := by
  induction d with
  | zero =>
    intro k i hd hi hk
    obtain ⟨k, rfl⟩ : ∃ m, k = m + 1 := ⟨k - 1, by omega⟩
    simp only [lookasideref14_New.l0]
    rw [if_neg (by omega), show i = n.toNat by omega]
  | succ d ih =>
    intro k i hd hi hk
    obtain ⟨k, rfl⟩ : ∃ m, k = m + 1 := ⟨k - 1, by omega⟩
    simp only [lookasideref14_New.l0]
    have h1 := ih k (i + 1) (by omega) (by omega) (by omega)
    rw [List.replicate_succ'] at h1
    rw [if_pos (by omega), if_pos (by omega), if_pos (by simp; omega), w_nat (by omega), h1]
theorem New_f (n : Int) (hn : n ≤ 10) : lookasideref14_New.f 9000 n = some (List.replicate n.toNat (-1), 1, 0) :=
  New_l0 n hn (n - ((0 : Nat) : Int)).toNat 9000 0 rfl (by omega) (by omega)

end Go.Proofs.Ytcbnmmkmgpbfiaa.PP
/- A pool of numbers (layer 14): what the pool answers, in the same words as the document's. -/
namespace Go.Proofs.Ytcbnmmkmgpbfiaa.PP
open Go.RowKit Go.Proofs.Ytcbnmmkmgpbfiaa.PX Go.Proofs.YtcbnmmkmgpbfiaaW.PrintWords Go.Proofs.YtcbnmmkmgpbfiaaW.PrintLast Go.Proofs.YtcbnmmkmgpbfiaaW.PrintMore
attribute [local go_sem] max2_int min2_int max_two min_two max_three min_three max_four min_four   -- for this text's walks alone
set_option linter.unusedVariables false
set_option linter.unusedSimpArgs false
section
variable {os : List Int} {f : Int → Option Int} {c : Nat}
theorem Ok.get (h : Ok os f c) (s : Int) : f s = if 0 ≤ s ∧ s ∈ os then Option.some (ofS os s) else Option.none := by
  split
  · next hm =>
    have hi := List.idxOf_lt_length_of_mem hm.2
    have hv := List.getElem_idxOf hi
    have := h.at hi (by rw [hv]; exact hm.1)
    rw [hv] at this
    rw [this, ofS, if_pos hm]
  · next hm =>
    by_cases h0 : 0 ≤ s
    · exact h.none (fun e => hm ⟨h0, e⟩)
    · exact h.neg (by omega)
theorem Ok.doc (h : Ok os f c) {hand rounds : Int} (h1 : os.length ≤ 10) (h2 : 1 ≤ hand ∧ hand ≤ 10 ∧ (0 < os.length → hand ≤ (os.length : Int))) (h3 : -1000000 ≤ rounds ∧ rounds ≤ 1000000) : Doc os hand rounds := ⟨h1, h2, h3, h.hw⟩
end
/-- A pool, and how it was used. -/
structure Sd (w : World) (base B bm : Nat) (vo : Value) (os : List Int) (hand rounds : Int) : Prop where
  st : St w base B bm vo os hand rounds
  doc : Doc os hand rounds
theorem Doc.sml {L : List Int} {h r : Int} (d : Doc L h r) : Sml L h r := ⟨d.len, ⟨d.hand.1, by have := d.hand.2.1; omega⟩, by have := d.rnds; omega⟩
theorem Doc.set {L : List Int} {h r : Int} (d : Doc L h r) (hr : r < 1000000) {i : Nat} (hi : i < L.length) {s : Int} (hs : 0 ≤ s ∧ s ≤ 9223372036854775807) : Doc (L.set i s) (nxt L.length i) (rnd h r L.length i) := by
  have hn := nxt_pos hi
  have hl := d.len
  have hr0 := d.rnds
  refine ⟨by rw [List.length_set]; exact hl, by rw [List.length_set]; omega, ?_, fun x hx => ?_⟩
  · unfold rnd; split <;> omega
  · rcases List.mem_or_eq_of_mem_set hx with h1 | rfl
    · exact d.low x h1
    · omega
theorem Doc.unset {L : List Int} {h r : Int} (d : Doc L h r) (i : Nat) : Doc (L.set i (-1)) h r := by
  refine ⟨by rw [List.length_set]; exact d.len, by rw [List.length_set]; exact d.hand, d.rnds, fun x hx => ?_⟩
  rcases List.mem_or_eq_of_mem_set hx with h1 | rfl
  · exact d.low x h1
  · omega
/-- What comes of a deed. -/
structure Nx (L : List Int) (r : Int) (a : Ans) : Prop where
  doc : Doc a.1 a.2.1 a.2.2.1
  len : a.1.length = L.length
  lo : r ≤ a.2.2.1
  hi : a.2.2.1 ≤ r + 1
theorem Doc.nx0 {L : List Int} {h r n e : Int} (d : Doc L h r) : Nx L r (L, h, r, n, e) := ⟨d, rfl, Int.le_refl _, by show r ≤ r + 1; omega⟩
theorem Doc.nx1 {L : List Int} {h r n e : Int} (d : Doc L h r) (hr : r < 1000000) {i : Nat} (hi : i < L.length) {s : Int} (hs : 0 ≤ s ∧ s ≤ 9223372036854775807) : Nx L r (ownS L h r i s n e) :=
  ⟨d.set hr hi hs, List.length_set, by show r ≤ rnd h r L.length i; unfold rnd; split <;> omega, by show rnd h r L.length i ≤ r + 1; unfold rnd; split <;> omega⟩
theorem find_in {L : List Int} {h n : Int} {p : Int → Bool} (e : (rot L.length h).find? p = some n) : ∃ i : Nat, i < L.length ∧ n = (i : Int) + 1 ∧ p n = true := by
  have h1 := rot_bounds (List.mem_of_find?_eq_some e)
  exact ⟨(n - 1).toNat, by omega, by omega, List.find?_some e⟩
theorem takeS_nx {L : List Int} {h r : Int} (d : Doc L h r) (hr : r < 1000000) {s : Int} (hs : Wf s) : Nx L r (takeS L h r s) := by
  unfold takeS
  split
  · exact d.nx0
  · split
    · exact d.nx0
    · split
      · next e =>
        obtain ⟨i, hi, rfl, _⟩ := find_in e
        rw [show ((i : Int) + 1 - 1).toNat = i by omega]
        exact d.nx1 hr hi (by unfold Wf at hs; omega)
      · exact d.nx0
theorem giveS_nx {L : List Int} {h r : Int} (d : Doc L h r) (s : Int) : Nx L r (giveS L h r s) := by
  unfold giveS
  split
  · exact d.nx0
  · exact ⟨d.unset _, List.length_set, Int.le_refl _, by show r ≤ r + 1; omega⟩
theorem stealS_nx {L : List Int} {h r : Int} (d : Doc L h r) (hr : r < 1000000) (n : Int) {s : Int} (hs : Wf s) : Nx L r (stealS L h r n s) := by
  unfold stealS
  split
  · exact d.nx0
  · next h1 =>
    split
    · exact d.nx0
    · split
      · exact d.nx0
      · rw [not_or] at h1
        have hn : inP n L.length = true := by simpa using h1.2
        unfold inP at hn
        have hn := of_decide_eq_true hn
        exact d.nx1 hr (by omega) (by unfold Wf at hs; omega)
/-- What a call of the pool leaves. -/
def PoolP (a : Ans) (base B bm : Nat) (vo : Value) (w : World) (e : Ending) (w' : World) : Prop :=
  e = .returned (.tuple #[.int .i64 a.2.2.2.1, .int .i64 a.2.2.2.2]) ∧ St w' base B bm vo a.1 a.2.1 a.2.2.1 ∧ Mv (pid B bm vo) w w'
section
variable {w : World} {base B bm : Nat} {vo : Value} {os : List Int} {hand rounds : Int}
theorem take_S (h : St w base B bm vo os hand rounds) (d : Doc os hand rounds) {s : Int} (hs : Wf s) :
    Calls Try.prog 31 #[.pointer (some ⟨B, 0, none⟩), .int .i64 s] w (PoolP (takeS os hand rounds s) base B bm vo w) := by
  unfold takeS PoolP
  by_cases h0 : s < 0
  · rw [if_pos h0]
    obtain ⟨f, c, hp, ho⟩ := h
    obtain ⟨h1, h2, h3⟩ := d.sml
    have hle := ho.le
    refine (take_calls hp s hs (by omega) h2 (by omega) h3).mono ?_
    intro e w' ht
    unfold TakeP at ht
    rw [if_pos h0] at ht
    exact ⟨ht.1, ⟨f, c, ht.2.1, ho⟩, ht.2.2⟩
  · rw [if_neg h0]
    have hs0 : 0 ≤ s ∧ s ≤ 9223372036854775807 := by unfold Wf at hs; omega
    by_cases hm : s ∈ os
    · rw [if_pos hm]
      have hi := List.idxOf_lt_length_of_mem hm
      have hv := List.getElem_idxOf hi
      have := take_old h d.sml hi (by rw [hv]; omega)
      rw [hv] at this
      rw [ofS, if_pos ⟨hs0.1, hm⟩]
      exact this
    · rw [if_neg hm]
      split
      · next e =>
        obtain ⟨i, hi, rfl, hf⟩ := find_in e
        have hv : os[i] = -1 := by
          unfold free? at hf
          rw [show ((i : Int) + 1 - 1).toNat = i by omega, List.getD_eq_getElem?_getD, List.getElem?_eq_getElem hi, Option.getD_some, beq_iff_eq] at hf
          exact hf
        have := take_new h d.sml hs0 hm hi hv e
        rw [show ((i : Int) + 1 - 1).toNat = i by omega]
        exact this
      · next e => exact take_none h d.sml hs0 hm e
theorem give_S (h : St w base B bm vo os hand rounds) (d : Doc os hand rounds) {s : Int} (hs : Wf s) :
    Calls Try.prog 32 #[.pointer (some ⟨B, 0, none⟩), .int .i64 s] w (PoolP (giveS os hand rounds s) base B bm vo w) := by
  have hdl := d.len
  by_cases hm : 0 ≤ s ∧ s ∈ os
  · have hi := List.idxOf_lt_length_of_mem hm.2
    have hv := List.getElem_idxOf hi
    have := give_st h d.sml hi (by rw [hv]; omega)
    rw [hv] at this
    have e : ofS os s = (os.idxOf s : Int) + 1 := by rw [ofS, if_pos hm]
    unfold giveS PoolP
    rw [if_neg (by omega), e, show ((os.idxOf s : Int) + 1 - 1).toNat = os.idxOf s by omega]
    exact this
  · obtain ⟨f, c, hp, ho⟩ := h
    have hg := ho.get s
    rw [if_neg hm] at hg
    have e : ofS os s = 0 := by rw [ofS, if_neg hm]
    unfold giveS PoolP
    rw [if_pos e]
    refine (give_calls hp s hs (by omega) (fun n hn => by rw [hg] at hn; cases hn)).mono ?_
    intro e w' ht
    unfold GiveP at ht
    rw [hg] at ht
    exact ⟨ht.1, ⟨f, c, ht.2.1, ho⟩, ht.2.2⟩
theorem steal_S (h : St w base B bm vo os hand rounds) (d : Doc os hand rounds) {n s : Int} (hn : Wf n) (hs : Wf s) :
    Calls Try.prog 38 #[.pointer (some ⟨B, 0, none⟩), .int .i64 n, .int .i64 s] w (PoolP (stealS os hand rounds n s) base B bm vo w) := by
  have h' := h
  obtain ⟨f, c, hp, ho⟩ := h
  obtain ⟨h1, h2, h3⟩ := d.sml
  have hle := ho.le
  have hc := steal_calls hp n s hn hs (by omega) (by omega) h3 (by unfold Wf; omega) ho.wf
  unfold stealS PoolP
  by_cases h0 : s < 0 ∨ inP n os.length = false
  · rw [if_pos h0]
    refine hc.mono ?_
    intro e w' ht
    unfold StealP at ht
    rw [if_pos h0] at ht
    exact ⟨ht.1, ⟨f, c, ht.2.1, ho⟩, ht.2.2⟩
  · rw [if_neg h0]
    have hs0 : 0 ≤ s ∧ s ≤ 9223372036854775807 := by unfold Wf at hs; rw [not_or] at h0; omega
    by_cases hm : s ∈ os
    · rw [if_pos hm]
      refine hc.mono ?_
      intro e w' ht
      unfold StealP at ht
      rw [if_neg h0, if_pos (by rw [ho.get s, if_pos ⟨hs0.1, hm⟩]; rfl)] at ht
      exact ⟨ht.1, ⟨f, c, ht.2.1, ho⟩, ht.2.2⟩
    · rw [if_neg hm]
      have hfn : (f s).isSome = false := by rw [ho.get s, if_neg (fun e => hm e.2)]; rfl
      by_cases hw : (ownerP os n).2 = false
      · rw [if_pos hw]
        refine hc.mono ?_
        intro e w' ht
        unfold StealP at ht
        rw [if_neg h0, if_neg (by rw [hfn]; simp), if_pos hw] at ht
        exact ⟨ht.1, ⟨f, c, ht.2.1, ho⟩, ht.2.2⟩
      · rw [if_neg hw]
        have hin : inP n os.length = true := by rw [not_or] at h0; simpa using h0.2
        unfold inP at hin
        have hin := of_decide_eq_true hin
        obtain ⟨i, rfl⟩ : ∃ i : Nat, n = (i : Int) + 1 := ⟨(n - 1).toNat, by omega⟩
        have hi : i < os.length := by omega
        have hv : 0 ≤ os[i] := by
          have := d.low _ (List.getElem_mem hi)
          by_cases e : os[i] = -1
          · rw [owner_free hi e] at hw; exact absurd rfl hw
          · omega
        have how := owner_at hi (by omega)
        have := steal_st h' d.sml hs0 hm hi hv
        rw [how, show ((i : Int) + 1 - 1).toNat = i by omega]
        exact this
theorem vict_S (h : St w base B bm vo os hand rounds) (d : Doc os hand rounds) (A : Option Addr) (cap : Nat) (avoid : List Int) (hC : (Kd.int .i64).C w A avoid.length avoid) (hcap : avoid.length ≤ cap) (hal : avoid.length ≤ 100000) :
    Calls Try.prog 37 #[.pointer (some ⟨B, 0, none⟩), .slice A avoid.length cap] w fun e w' => e = .returned (.tuple #[.int .i64 (victS os hand avoid).1, .int .i64 (victS os hand avoid).2.1, .int .i64 (victS os hand avoid).2.2]) ∧ Below w.heap.size w w' :=
  (victim_st h d.sml A cap avoid hC hcap hal).mono fun e w' hv => by
    obtain ⟨h1, h2⟩ := hv
    refine ⟨?_, h2⟩
    unfold victS
    split at h1 <;> rename_i e <;> rw [e] <;> exact h1
theorem of_S (h : St w base B bm vo os hand rounds) {s : Int} (hs : Wf s) : Calls Try.prog 33 #[.pointer (some ⟨B, 0, none⟩), .int .i64 s] w fun e w' => e = .returned (.tuple #[.int .i64 (ofS os s), .bool (decide (ofS os s > 0))]) ∧ w' = w := by
  obtain ⟨f, c, hp, ho⟩ := h
  refine (of_calls hp hs).mono ?_
  rintro e w' ⟨h1, h2⟩
  refine ⟨?_, h2⟩
  rw [h1, ho.get s]
  split
  · next hm =>
    rw [decide_eq_true ((ofS_pos hm.1).2 hm.2)]; rfl
  · next hm =>
    have e : ofS os s = 0 := by rw [ofS, if_neg hm]
    rw [e]; rfl
theorem owner_S (h : St w base B bm vo os hand rounds) (d : Doc os hand rounds) (n : Int) : Calls Try.prog 34 #[.pointer (some ⟨B, 0, none⟩), .int .i64 n] w fun e w' => e = .returned (.tuple #[.int .i64 (ownerP os n).1, .bool (ownerP os n).2]) ∧ w' = w := by
  obtain ⟨f, c, hp, ho⟩ := h
  exact owner_calls hp n (by have := d.len; omega)
theorem owners_S (h : St w base B bm vo os hand rounds) (d : Doc os hand rounds) : Calls Try.prog 43 #[.pointer (some ⟨B, 0, none⟩)] w fun e w' => ∃ v : Value, e = .returned v ∧ Kd.R (Kd.int .i64) 3 w' w.heap.size (fun _ => True) v os ∧ Below w.heap.size w w' := by
  obtain ⟨f, c, hp, ho⟩ := h
  exact owners_calls hp (by have := d.len; omega)
theorem len_S (h : St w base B bm vo os hand rounds) : Calls Try.prog 79 #[.pointer (some ⟨B, 0, none⟩)] w fun e w' => e = .returned (.int .i64 os.length) ∧ w' = w := by
  obtain ⟨f, c, hp, ho⟩ := h
  exact len_calls hp
end

end Go.Proofs.Ytcbnmmkmgpbfiaa.PP
/- A number of a row is within its bounds. -/
namespace Go.Proofs.Ytcbnmmkmgpbfiaa.PP
theorem wf_of {k : Int} (h : (Lit.int .i64 k).wf = true) : Wf k := by
  simp [Lit.wf, IntKind.min, IntKind.max, IntKind.signed, IntKind.bits] at h
  unfold Wf
  omega
end Go.Proofs.Ytcbnmmkmgpbfiaa.PP
/- A parameter of deeds (lookasidelaw14.Deed), opened. -/
namespace Go.Proofs.Ytcbnmmkmgpbfiaa.OpenD3
open Go.WideMaps Go.Joins Go.ChangeShapes Go.WideShapes Go.RowKit Go.Deep Go.Proofs.YtcbnmmkmgpbfiaaW.PrintWords Go.Proofs.Ytcbnmmkmgpbfiaa.Args3 Go.Proofs.Ytcbnmmkmgpbfiaa.PP
set_option linter.unusedVariables false
structure Dd where
  kd : Int
  n : Int
  sp : Int
  A : Option Addr
  c : Nat
  av : List Int
def encD (d : Dd) : List Value := [.int .i64 d.kd, .int .i64 d.n, .int .i64 d.sp, .slice d.A d.av.length d.c]
structure Good (W : World) (d : Dd) : Prop where
  hk : Wf d.kd
  hn : Wf d.n
  hs : Wf d.sp
  hc : d.av.length ≤ d.c
  hC : Kd.C (Kd.int .i64) W d.A d.av.length d.av
structure DeedsAt (W : World) (A : Option Addr) (xs : List Dd) : Prop where
  good : ∀ x ∈ xs, Good W x
  at_ : ∀ i (hi : i < xs.length), ∃ ad, A = some ad ∧ ∀ (j : Nat) u, (encD xs[i])[j]? = some u → W.cell? (ad.add (i * 4 + j)) = some u
theorem wf_of' {k : Int} (h : (Lit.int .i64 k).wf = true) : Wf k := by
  simp [Lit.wf, IntKind.min, IntKind.max, IntKind.signed, IntKind.bits] at h
  unfold Wf
  omega
theorem cells72 : Try.prog.cellsOf 72 = 4 := by kernel_rfl
theorem cells43 : Try.prog.cellsOf 43 = 1 := by kernel_rfl
theorem list4 {α : Type} {l : List α} (h : l.length = 4) : ∃ a b c d, l = [a, b, c, d] := by
  match l, h with
  | [a, b, c, d], _ => exact ⟨a, b, c, d, rfl⟩
theorem choose_list {α : Type} [Inhabited α] {P : Nat → α → Prop} (n : Nat) (h : ∀ i, i < n → ∃ x, P i x) : ∃ xs : List α, xs.length = n ∧ ∀ i x, xs[i]? = some x → P i x := by
  induction n with
  | zero => exact ⟨[], rfl, by simp⟩
  | succ n ih =>
    obtain ⟨xs, hl, hx⟩ := ih (fun i hi => h i (by omega))
    obtain ⟨y, hy⟩ := h n (by omega)
    refine ⟨xs ++ [y], by simp [hl], fun i x hix => ?_⟩
    by_cases hi : i < xs.length
    · rw [List.getElem?_append_left hi] at hix
      exact hx i x hix
    · have : i < (xs ++ [y]).length := (List.getElem?_eq_some_iff.1 hix).1
      rw [List.length_append, List.length_singleton] at this
      obtain rfl : i = n := by omega
      rw [List.getElem?_append_right (by omega), show i - xs.length = 0 by omega] at hix
      cases hix
      exact hy
instance : Inhabited Dd := ⟨⟨0, 0, 0, none, 0, []⟩⟩
section
variable {H : Type} {enc : TypeId × Value → H} {W : World}
set_option maxRecDepth 100000 in
theorem d_open {n : Nat} {cs : List Value} {x : DataW H × List MemPlace} (h : DataW.trod enc Try.prog W 0 (fun _ => true) true n 72 cs = some x) :
    ∃ k : Dd, cs = encD k ∧ Good W k := by
  obtain ⟨y0, y1, y2, y3, m, rfl, hl, h0, h1, h2, h3⟩ := trod_struct4 Try.underlying72 h
  rw [cells72] at hl
  obtain ⟨c0, c1, c2, c3, rfl⟩ := list4 hl
  rw [cells3] at h0 h1 h2
  rw [cells43] at h3
  obtain ⟨a, e0, _, w0⟩ := DataW.trod_int Try.underlying3 h0
  obtain ⟨b, e1, _, w1⟩ := DataW.trod_int Try.underlying3 h1
  obtain ⟨k, e2, _, w2⟩ := DataW.trod_int Try.underlying3 h2
  obtain ⟨A, c, xs, e3, hc, hC, _⟩ := il_open h3
  simp at e0 e1 e2 e3
  subst e0 e1 e2 e3
  exact ⟨⟨a, b, k, A, c, xs⟩, rfl, wf_of' w0, wf_of' w1, wf_of' w2, hc, hC⟩
set_option maxRecDepth 100000 in
theorem open_ds {v : Value} {d : DataW H} {p : List MemPlace} (hval : Value.okWide Try.prog W .any 0 65 v) (h : DataW.Trod enc Try.prog W 0 (fun _ => true) true 65 v d p) :
    ∃ (A : Option Addr) (c : Nat) (xs : List Dd), v = .slice A xs.length c ∧ xs.length ≤ c ∧ DeedsAt W A xs := by
  obtain ⟨a0, len, cap, rfl⟩ := okWide_slice Try.underlying65 hval
  obtain ⟨fuel, hf⟩ := h
  rcases open_slice Try.underlying65 hf with ⟨hcs, _⟩ | ⟨a, len', cap', m, n, D, Pl, hcs, hb, hl, hm, hmm, hx, hi⟩
  · simp [Value.cells] at hcs
    obtain ⟨rfl, rfl, rfl⟩ := hcs
    exact ⟨none, 0, [], rfl, by simp, ⟨by simp, by simp⟩⟩
  · simp [Value.cells] at hcs
    obtain ⟨rfl, rfl, rfl⟩ := hcs
    have hlm : len ≤ m := by rw [hmm]; simp; omega
    obtain ⟨xs, hxl, hxs⟩ := choose_list (P := fun i (k : Dd) => Good W k ∧ ∀ (j : Nat) u, (encD k)[j]? = some u → W.cell? (a.add (i * 4 + j)) = some u) len (fun i him => by
      obtain ⟨cs', h1, h2⟩ := hi i (by omega)
      obtain ⟨k, rfl, hg⟩ := d_open h2
      rw [cells72] at h1
      obtain ⟨_, hlen, hat⟩ := World.cells?_some h1
      refine ⟨k, hg, fun j u hu => ?_⟩
      have hj : j < 4 := by
        have := (List.getElem?_eq_some_iff.1 hu).1
        simpa [encD] using this
      have := hat j hj
      rw [Go.Deep.add_add] at this
      rw [this, hu])
    refine ⟨some a, cap, xs, by rw [hxl], by omega, ⟨fun x hx => ?_, fun i hi => ?_⟩⟩
    · obtain ⟨i, hi, rfl⟩ := List.getElem_of_mem hx
      exact (hxs i _ (List.getElem?_eq_getElem hi)).1
    · exact ⟨a, rfl, (hxs i _ (List.getElem?_eq_getElem hi)).2⟩
end
end Go.Proofs.Ytcbnmmkmgpbfiaa.OpenD3

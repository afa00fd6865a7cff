/- CtxRounds: the walk. -/
import Derived.Test.YtcbnmmkmgpbfiaaCtxK
namespace Go.Proofs.Ytcbnmmkmgpbfiaa.PP
open Go.RowKit Go.Proofs.Ytcbnmmkmgpbfiaa.PX Go.Proofs.YtcbnmmkmgpbfiaaW.PrintWords Go.Proofs.YtcbnmmkmgpbfiaaW.PrintLast Go.Proofs.YtcbnmmkmgpbfiaaW.PrintMore
attribute [local go_sem] max2_int min2_int max_two min_two max_three min_three max_four min_four   -- for this text's walks alone
set_option linter.unusedVariables false
set_option linter.unusedSimpArgs false
/-- After i numbers were taken, in order. -/
def startL (n i : Nat) : List Int := (List.range n).map fun p => if p < i then (p : Int) else -1
theorem startL_length (n i : Nat) : (startL n i).length = n := by simp [startL]
theorem startL_get {n i p : Nat} (h : p < (startL n i).length) : (startL n i)[p] = if p < i then (p : Int) else -1 := by simp [startL]
theorem startL_zero (n : Nat) : startL n 0 = List.replicate n (-1) := by
  apply List.ext_getElem
  · simp [startL]
  · intro p h1 h2; simp [startL]
theorem startL_set {n i : Nat} (h : i < n) : (startL n i).set i (i : Int) = startL n (i + 1) := by
  apply List.ext_getElem
  · simp [startL]
  · intro p h1 h2
    rw [List.getElem_set, startL_get, startL_get]
    split
    · subst_vars; simp
    · split
      · rw [if_pos (by omega)]
      · rw [if_neg (by omega)]
theorem startL_not_mem {n i : Nat} : (i : Int) ∉ startL n i := fun h => by
  obtain ⟨p, hp, e⟩ := List.getElem_of_mem h
  rw [startL_get] at e
  split at e <;> omega
/-- After m thefts, one behind the other. -/
def val (n m p : Nat) : Nat := if m % n ≤ p then m + (p - m % n) else m + (p + n - m % n)
def roundL (n m : Nat) : List Int := (List.range n).map fun p => (val n m p : Int)
theorem roundL_length (n m : Nat) : (roundL n m).length = n := by simp [roundL]
theorem roundL_get {n m p : Nat} (h : p < (roundL n m).length) : (roundL n m)[p] = (val n m p : Int) := by simp [roundL]
theorem startL_full (n : Nat) : startL n n = roundL n 0 := by
  apply List.ext_getElem
  · simp [startL, roundL]
  · intro p h1 h2
    rw [startL_get, roundL_get]
    rw [startL_length] at h1
    rw [if_pos h1]
    unfold val
    simp
theorem succ_mod_div (n m : Nat) (hn : 0 < n) : (m % n + 1 = n ∧ (m + 1) % n = 0 ∧ (m + 1) / n = m / n + 1) ∨ (m % n + 1 < n ∧ (m + 1) % n = m % n + 1 ∧ (m + 1) / n = m / n) := by
  have h1 := Nat.mod_lt m hn
  have e : m + 1 = (m % n + 1) + n * (m / n) := by have := Nat.div_add_mod m n; omega
  rcases Nat.lt_or_ge (m % n + 1) n with h | h
  · refine .inr ⟨h, ?_, ?_⟩
    · rw [e, Nat.add_mul_mod_self_left, Nat.mod_eq_of_lt h]
    · rw [e, Nat.add_mul_div_left _ _ hn, Nat.div_eq_of_lt h]
      omega
  · have h2 : m % n + 1 = n := by omega
    refine .inl ⟨h2, ?_, ?_⟩
    · rw [e, Nat.add_mul_mod_self_left, h2, Nat.mod_self]
    · rw [e, Nat.add_mul_div_left _ _ hn, h2, Nat.div_self hn]
      omega
theorem roundL_set {n m : Nat} (hn : 0 < n) : (roundL n m).set (m % n) ((n : Int) + (m : Int)) = roundL n (m + 1) := by
  apply List.ext_getElem
  · simp [roundL]
  · intro p h1 h2
    rw [List.getElem_set, roundL_get, roundL_get]
    rw [List.length_set, roundL_length] at h1
    have hm := Nat.mod_lt m hn
    unfold val
    rcases succ_mod_div n m hn with ⟨e1, e2, e3⟩ | ⟨e1, e2, e3⟩
    · rw [e2]
      split <;> split <;> (try split) <;> omega
    · rw [e2]
      split <;> split <;> (try split) <;> omega
theorem roundL_at {n m : Nat} (hn : 0 < n) (h : m % n < (roundL n m).length) : (roundL n m)[m % n] = (m : Int) := by
  rw [roundL_get]
  unfold val
  simp
theorem roundL_lt {n m : Nat} (hn : 0 < n) : ((n : Int) + (m : Int)) ∉ roundL n m := fun h => by
  obtain ⟨p, hp, e⟩ := List.getElem_of_mem h
  rw [roundL_get] at e
  rw [roundL_length] at hp
  have hm := Nat.mod_lt m hn
  unfold val at e
  split at e <;> omega
theorem roundL_pos {n m p : Nat} (h : p < (roundL n m).length) : 0 ≤ (roundL n m)[p] := by rw [roundL_get]; omega

theorem tmod_nat' (a b : Nat) : Int.tmod (a : Int) (b : Int) = ((a % b : Nat) : Int) := by rw [Int.tmod_eq_emod_of_nonneg (by omega)]; rfl
theorem tdiv_nat' (a b : Nat) : Int.tdiv (a : Int) (b : Int) = ((a / b : Nat) : Int) := by rw [Int.tdiv_eq_ediv_of_nonneg (by omega)]; rfl
theorem w_small {x : Int} (h : -9223372036854775808 ≤ x ∧ x ≤ 9223372036854775807) : wrap64 x = x := by unfold wrap64; omega
theorem neg_nat {n : Int} (hn : Wf n) (h : n < 0) : ∃ q : Nat, wrap64 (-wrap64 (n + 1)) = (q : Int) := by
  unfold Wf at hn
  rw [w_small (x := n + 1) (by omega), w_small (by omega)]
  exact ⟨(-(n + 1)).toNat, by omega⟩
theorem ten (q : Nat) : ∃ N : Nat, 1 ≤ N ∧ N ≤ 10 ∧ wrap64 (1 + Int.tmod (q : Int) 10) = (N : Int) := by
  rw [show (10 : Int) = ((10 : Nat) : Int) from rfl, tmod_nat', w_small (by omega)]
  exact ⟨1 + q % 10, by omega, by omega, by omega⟩
theorem norm_neg {n : Int} (hn : Wf n) (h : n < 0) : ∃ N : Nat, 1 ≤ N ∧ N ≤ 10 ∧ wrap64 (1 + Int.tmod (wrap64 (-wrap64 (n + 1))) 10) = (N : Int) := by
  obtain ⟨q, hq⟩ := neg_nat hn h
  rw [hq]; exact ten q
theorem norm_pos {n : Int} (h : ¬ n < 0) : ∃ N : Nat, 1 ≤ N ∧ N ≤ 10 ∧ 1 + n % 10 = (N : Int) := ⟨(1 + n % 10).toNat, by omega, by omega, by omega⟩
theorem many_neg {n : Int} (hn : Wf n) (h : n < 0) : ∃ M : Nat, M ≤ 40 ∧ Int.tmod (wrap64 (-wrap64 (n + 1))) 41 = (M : Int) := by
  obtain ⟨q, hq⟩ := neg_nat hn h
  rw [hq, show (41 : Int) = ((41 : Nat) : Int) from rfl, tmod_nat']
  exact ⟨q % 41, by omega, rfl⟩
theorem many_pos {n : Int} (h : ¬ n < 0) : ∃ M : Nat, M ≤ 40 ∧ n % 41 = (M : Int) := by
  obtain ⟨q, rfl⟩ : ∃ q : Nat, n = (q : Int) := ⟨n.toNat, by omega⟩
  rw [← Int.tmod_eq_emod_of_nonneg (by omega)]
  rw [show (41 : Int) = ((41 : Nat) : Int) from rfl, tmod_nat']
  exact ⟨q % 41, by omega, rfl⟩
section
variable {base B bm : Nat} {vo : Value} {w : World}
/-- A round of the first loop. -/
theorem round_take {n i : Nat} (hn : n ≤ 10) (hi : i < n) (h : St w base B bm vo (startL n i) ((i : Int) % (n : Int) + 1) (if i = n then 1 else 0)) :
    Calls Try.prog 31 #[.pointer (some ⟨B, 0, none⟩), .int .i64 i] w fun e w' => e = .returned (.tuple #[.int .i64 ((i : Int) + 1), .int .i64 0]) ∧ St w' base B bm vo (startL n (i + 1)) (((i + 1 : Nat) : Int) % (n : Int) + 1) (if i + 1 = n then 1 else 0) ∧ Mv (pid B bm vo) w w' := by
  have hh : ((i : Int) % (n : Int) + 1) = (i : Int) + 1 := by rw [Int.emod_eq_of_lt (by omega) (by omega)]
  rw [hh, if_neg (show ¬ i = n by omega)] at h
  have hl := startL_length n i
  have hi' : i < (startL n i).length := by omega
  have hg : (startL n i)[i] = -1 := by rw [startL_get, if_neg (by omega)]
  have hfr : free? (startL n i) ((i : Int) + 1) = true := by
    unfold free?
    rw [show ((i : Int) + 1 - 1).toNat = i by omega, List.getD_eq_getElem?_getD, List.getElem?_eq_getElem hi', hg]; rfl
  refine (take_new h ⟨by omega, by omega, by omega⟩ (s := (i : Int)) (by omega) startL_not_mem hi' hg (rot_head (by omega) (by omega) _ hfr)).mono ?_
  rintro e w' ⟨h1, h2, h3⟩
  refine ⟨h1, ?_, h3⟩
  rw [startL_set hi, hl] at h2
  have e1 : nxt n i = ((i + 1 : Nat) : Int) % (n : Int) + 1 := by unfold nxt; push_cast; rfl
  have e2 : rnd ((i : Int) + 1) 0 n i = (if i + 1 = n then 1 else 0) := by unfold rnd; simp
  rw [e1, e2] at h2
  exact h2
/-- A round of the second loop. -/
theorem round_vict {n m : Nat} (hn : 1 ≤ n ∧ n ≤ 10) (hm : m ≤ 40) (h : St w base B bm vo (roundL n m) (((m % n : Nat) : Int) + 1) (1 + ((m / n : Nat) : Int))) :
    Calls Try.prog 37 #[.pointer (some ⟨B, 0, none⟩), .slice none 0 0] w fun e w' => e = .returned (.tuple #[.int .i64 (((m % n : Nat) : Int) + 1), .int .i64 m, .int .i64 0]) ∧ Below w.heap.size w w' := by
  have ha := Nat.mod_lt m (show 0 < n by omega)
  have hl := roundL_length n m
  have hd : m / n ≤ 40 := Nat.le_trans (Nat.div_le_self m n) hm
  have hd0 : (0 : Int) ≤ ((m / n : Nat) : Int) := Int.natCast_nonneg _
  have hd1 : ((m / n : Nat) : Int) ≤ 40 := by exact_mod_cast hd
  have ha' : m % n < (roundL n m).length := by omega
  have hat := roundL_at (m := m) (show 0 < n by omega) ha'
  have how := owner_at (os := roundL n m) ha' (by rw [hat]; omega)
  rw [hat] at how
  refine (victim_st h ⟨by omega, by omega, by omega⟩ none 0 [] (C_nil _ _) (Nat.le_refl _) (by decide)).mono ?_
  intro e w' hv
  unfold VictimP at hv
  rw [rot_head (by omega) (by omega) (vok (roundL n m) []) (by unfold vok; rw [how]; simp)] at hv
  simp only at hv
  rw [how] at hv
  exact hv
theorem round_steal {n m : Nat} (hn : 1 ≤ n ∧ n ≤ 10) (hm : m ≤ 40) (h : St w base B bm vo (roundL n m) (((m % n : Nat) : Int) + 1) (1 + ((m / n : Nat) : Int))) :
    Calls Try.prog 38 #[.pointer (some ⟨B, 0, none⟩), .int .i64 (((m % n : Nat) : Int) + 1), .int .i64 ((n : Int) + (m : Int))] w fun e w' => e = .returned (.tuple #[.int .i64 m, .int .i64 0]) ∧
      St w' base B bm vo (roundL n (m + 1)) ((((m + 1) % n : Nat) : Int) + 1) (1 + (((m + 1) / n : Nat) : Int)) ∧ Mv (pid B bm vo) w w' := by
  have hn0 : 0 < n := by omega
  have ha := Nat.mod_lt m hn0
  have hl := roundL_length n m
  have hd : m / n ≤ 40 := Nat.le_trans (Nat.div_le_self m n) hm
  have hd0 : (0 : Int) ≤ ((m / n : Nat) : Int) := Int.natCast_nonneg _
  have hd1 : ((m / n : Nat) : Int) ≤ 40 := by exact_mod_cast hd
  have ha' : m % n < (roundL n m).length := by omega
  have hat := roundL_at (m := m) hn0 ha'
  refine (steal_st h ⟨by omega, by omega, by omega⟩ (s := (n : Int) + (m : Int)) (by omega) (roundL_lt hn0) ha' (by rw [hat]; omega)).mono ?_
  rintro e w' ⟨h1, h2, h3⟩
  rw [hat] at h1
  refine ⟨h1, ?_, h3⟩
  rw [roundL_set hn0, hl] at h2
  have e1 : nxt n (m % n) = (((m + 1) % n : Nat) : Int) + 1 := by
    unfold nxt
    rcases succ_mod_div n m hn0 with ⟨e1, e2, e3⟩ | ⟨e1, e2, e3⟩
    · rw [e2, show (((m % n : Nat) : Int) + 1) = (n : Int) by omega, Int.emod_self]; rfl
    · rw [e2, Int.emod_eq_of_lt (by omega) (by omega)]; push_cast; rfl
  have e2 : rnd (((m % n : Nat) : Int) + 1) (1 + ((m / n : Nat) : Int)) n (m % n) = 1 + (((m + 1) / n : Nat) : Int) := by
    unfold rnd
    rcases succ_mod_div n m hn0 with ⟨e1, e2, e3⟩ | ⟨e1, e2, e3⟩
    · rw [e3, if_pos (.inr e1)]; push_cast; omega
    · rw [e3, if_neg (by omega)]; omega
  rw [e1, e2] at h2
  exact h2
end

theorem round_free {base B bm : Nat} {vo : Value} {w : World} {n m : Nat} (hn : 1 ≤ n ∧ n ≤ 10) (hm : m ≤ 40) (h : St w base B bm vo (roundL n m) (((m % n : Nat) : Int) + 1) (1 + ((m / n : Nat) : Int))) :
    Calls Try.prog 35 #[.pointer (some ⟨B, 0, none⟩)] w fun e w' => e = .returned (.int .i64 0) ∧ Below w.heap.size w w' := by
  have ha := Nat.mod_lt m (show 0 < n by omega)
  have hl := roundL_length n m
  have hd : m / n ≤ 40 := Nat.le_trans (Nat.div_le_self m n) hm
  have hd0 : (0 : Int) ≤ ((m / n : Nat) : Int) := Int.natCast_nonneg _
  have hd1 : ((m / n : Nat) : Int) ≤ 40 := by exact_mod_cast hd
  have hc : (roundL n m).countP (fun x => decide (0 ≤ x)) = (roundL n m).length := List.countP_eq_length.2 (fun x hx => by
    obtain ⟨p, hp, rfl⟩ := List.getElem_of_mem hx
    simpa using roundL_pos hp)
  refine (free_st h ⟨by omega, by omega, by omega⟩).mono ?_
  rintro e w' ⟨h1, h2⟩
  rw [hc, Int.sub_self] at h1
  exact ⟨h1, h2⟩
theorem st_hand {base B bm : Nat} {vo : Value} {w : World} {os : List Int} {hand rounds : Int} (h : St w base B bm vo os hand rounds) : Calls Try.prog 40 #[.pointer (some ⟨B, 0, none⟩)] w fun e w' => e = .returned (.int .i64 hand) ∧ w' = w :=
  let ⟨_, _, hp, _⟩ := h; hand_calls hp
theorem st_rounds {base B bm : Nat} {vo : Value} {w : World} {os : List Int} {hand rounds : Int} (h : St w base B bm vo os hand rounds) : Calls Try.prog 39 #[.pointer (some ⟨B, 0, none⟩)] w fun e w' => e = .returned (.int .i64 rounds) ∧ w' = w :=
  let ⟨_, _, hp, _⟩ := h; rounds_calls hp

end Go.Proofs.Ytcbnmmkmgpbfiaa.PP

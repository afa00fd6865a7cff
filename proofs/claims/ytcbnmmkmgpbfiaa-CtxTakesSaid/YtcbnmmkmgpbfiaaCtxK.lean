/- A pool of numbers (layer 14): what a pool must be, plain; the contracts by it. -/
import Derived.Test.YtcbnmmkmgpbfiaaCtxL
namespace Go.Proofs.Ytcbnmmkmgpbfiaa.PP
open Go.RowKit Go.Proofs.Ytcbnmmkmgpbfiaa.PX Go.Proofs.YtcbnmmkmgpbfiaaW.PrintWords Go.Proofs.YtcbnmmkmgpbfiaaW.PrintLast Go.Proofs.YtcbnmmkmgpbfiaaW.PrintMore
attribute [local go_sem] max2_int min2_int max_two min_two max_three min_three max_four min_four   -- for this text's walks alone
set_option linter.unusedVariables false
set_option linter.unusedSimpArgs false
/-- Spaces' numbers and how many, out of whose each number is. -/
structure Ok (os : List Int) (f : Int → Option Int) (c : Nat) : Prop where
  hf : ∀ s n, f s = some n ↔ 0 ≤ s ∧ 1 ≤ n ∧ n ≤ (os.length : Int) ∧ os[(n - 1).toNat]? = some s
  hc : c = os.countP (fun x => decide (0 ≤ x))
  hw : ∀ x ∈ os, -1 ≤ x ∧ x ≤ 9223372036854775807
section
variable {os : List Int} {f : Int → Option Int} {c : Nat}
theorem Ok.wf (h : Ok os f c) : ∀ x ∈ os, Wf x := fun x hx => by have := h.hw x hx; unfold Wf; omega
theorem Ok.le (h : Ok os f c) : c ≤ os.length := by rw [h.hc]; exact List.countP_le_length
theorem Ok.at (h : Ok os f c) {i : Nat} (hi : i < os.length) (h0 : 0 ≤ os[i]) : f os[i] = some ((i : Int) + 1) :=
  (h.hf _ _).2 ⟨h0, by omega, by omega, by rw [show ((i : Int) + 1 - 1).toNat = i by omega]; exact List.getElem?_eq_getElem hi⟩
theorem Ok.neg (h : Ok os f c) {s : Int} (hs : s < 0) : f s = none := by
  cases e : f s with
  | none => rfl
  | some n => have := ((h.hf s n).1 e).1; omega
theorem Ok.none (h : Ok os f c) {s : Int} (hs : s ∉ os) : f s = none := by
  cases e : f s with
  | none => rfl
  | some n => exact absurd (List.mem_of_getElem? ((h.hf s n).1 e).2.2.2) hs
theorem Ok.some (h : Ok os f c) {s n : Int} (e : f s = some n) : ∃ i : Nat, ∃ hi : i < os.length, n = (i : Int) + 1 ∧ os[i] = s ∧ 0 ≤ s := by
  obtain ⟨h0, h1, h2, h3⟩ := (h.hf s n).1 e
  obtain ⟨hl, hv⟩ := List.getElem?_eq_some_iff.1 h3
  exact ⟨(n - 1).toNat, hl, by omega, hv, h0⟩
theorem Ok.not_mem (h : Ok os f c) {s : Int} (hs : 0 ≤ s) (e : f s = Option.none) : s ∉ os := fun hm => by
  obtain ⟨i, hi, rfl⟩ := List.getElem_of_mem hm
  rw [h.at hi hs] at e
  cases e
theorem Ok.inj (h : Ok os f c) {i j : Nat} (hi : i < os.length) (hj : j < os.length) (h0 : 0 ≤ os[i]) (e : os[i] = os[j]) : i = j := by
  have h1 := h.at hi h0
  rw [e, h.at hj (e ▸ h0)] at h1
  injection h1 with h1
  omega
theorem Ok.new (N : Nat) : Ok (List.replicate N (-1)) (fun _ => Option.none) 0 where
  hf s n := by
    refine ⟨fun h => (by cases h), fun ⟨h0, _, _, h3⟩ => ?_⟩
    rw [List.getElem?_replicate] at h3
    split at h3
    · injection h3 with h3; omega
    · cases h3
  hc := by simp [List.countP_replicate]
  hw x hx := by rw [(List.mem_replicate.1 hx).2]; omega
theorem Ok.set (h : Ok os f c) {i : Nat} (hi : i < os.length) {s : Int} (hs : 0 ≤ s ∧ s ≤ 9223372036854775807) (hn : s ∉ os) :
    Ok (os.set i s) (fun j => if j = s then Option.some ((i : Int) + 1) else if j = os[i] then Option.none else f j) (c + (if 0 ≤ os[i] then 0 else 1)) where
  hf t n := by
    rw [List.length_set]
    by_cases ht : t = s
    · subst ht
      simp only [if_pos rfl]
      constructor
      · intro e
        injection e with e
        subst e
        refine ⟨hs.1, by omega, by omega, ?_⟩
        rw [show ((i : Int) + 1 - 1).toNat = i by omega, List.getElem?_set_self hi]
      · rintro ⟨h0, h1, h2, h3⟩
        by_cases e : (n - 1).toNat = i
        · have e9 : n = (i : Int) + 1 := by omega
          rw [e9]
          simp
        · rw [List.getElem?_set_ne (Ne.symm e)] at h3
          exact absurd (List.mem_of_getElem? h3) hn
    · simp only [if_neg ht]
      by_cases ho : t = os[i]
      · simp only [if_pos ho]
        refine ⟨fun e => (by cases e), fun ⟨h0, h1, h2, h3⟩ => ?_⟩
        by_cases e : (n - 1).toNat = i
        · rw [e, List.getElem?_set_self hi] at h3
          injection h3 with h3
          exact absurd h3.symm ht
        · rw [List.getElem?_set_ne (Ne.symm e)] at h3
          obtain ⟨hl, hv⟩ := List.getElem?_eq_some_iff.1 h3
          exact absurd (h.inj hl hi (by omega) (hv.trans ho)) e
      · simp only [if_neg ho]
        rw [h.hf t n]
        refine and_congr_right fun h0 => and_congr_right fun h1 => and_congr_right fun h2 => ?_
        by_cases e : (n - 1).toNat = i
        · rw [e, List.getElem?_set_self hi, List.getElem?_eq_getElem hi]
          exact ⟨fun e2 => absurd (Option.some.inj e2).symm ho, fun e2 => absurd (Option.some.inj e2).symm ht⟩
        · rw [List.getElem?_set_ne (Ne.symm e)]
  hc := by
    have hp : 0 ≤ os[i] → 0 < os.countP (fun x => decide (0 ≤ x)) := fun h0 => List.countP_pos_iff.2 ⟨os[i], List.getElem_mem hi, by simpa using h0⟩
    rw [List.countP_set hi, h.hc]
    simp only [decide_eq_true_eq, if_pos hs.1]
    split
    · have := hp ‹_›; omega
    · omega
  hw x hx := by
    rcases List.mem_or_eq_of_mem_set hx with h1 | rfl
    · exact h.hw x h1
    · omega
theorem Ok.unset (h : Ok os f c) {i : Nat} (hi : i < os.length) (h0 : 0 ≤ os[i]) :
    Ok (os.set i (-1)) (fun j => if j = os[i] then Option.none else f j) (c - 1) where
  hf t n := by
    rw [List.length_set]
    by_cases ho : t = os[i]
    · simp only [if_pos ho]
      refine ⟨fun e => (by cases e), fun ⟨h0', h1, h2, h3⟩ => ?_⟩
      by_cases e : (n - 1).toNat = i
      · rw [e, List.getElem?_set_self hi] at h3
        injection h3 with h3
        omega
      · rw [List.getElem?_set_ne (Ne.symm e)] at h3
        obtain ⟨hl, hv⟩ := List.getElem?_eq_some_iff.1 h3
        exact absurd (h.inj hl hi (by omega) (hv.trans ho)) e
    · simp only [if_neg ho]
      rw [h.hf t n]
      refine and_congr_right fun h0 => and_congr_right fun h1 => and_congr_right fun h2 => ?_
      by_cases e : (n - 1).toNat = i
      · rw [e, List.getElem?_set_self hi, List.getElem?_eq_getElem hi]
        exact ⟨fun e2 => absurd (Option.some.inj e2).symm ho, fun e2 => by have := Option.some.inj e2; omega⟩
      · rw [List.getElem?_set_ne (Ne.symm e)]
  hc := by
    rw [List.countP_set hi, h.hc]
    simp only [decide_eq_true_eq, if_pos h0]
    simp
  hw x hx := by
    rcases List.mem_or_eq_of_mem_set hx with h1 | rfl
    · exact h.hw x h1
    · omega
end
/-- A pool: as it lies, and what it must be. -/
def St (w : World) (base B bm : Nat) (vo : Value) (os : List Int) (hand rounds : Int) : Prop := ∃ f c, PA w base B bm vo os f c hand rounds ∧ Ok os f c
section
variable {w w' : World} {base B bm : Nat} {vo : Value} {os : List Int} {hand rounds : Int}
theorem St.pa (h : St w base B bm vo os hand rounds) : ∃ f c, PA w base B bm vo os f c hand rounds := let ⟨f, c, h, _⟩ := h; ⟨f, c, h⟩
theorem St.below (h : St w base B bm vo os hand rounds) (hb : Below w.heap.size w w') : St w' base B bm vo os hand rounds := let ⟨f, c, h, ho⟩ := h; ⟨f, c, h.below hb, ho⟩
theorem St.ge (h : St w base B bm vo os hand rounds) : ∀ k ∈ pid B bm vo, base ≤ k := let ⟨_, _, h, _⟩ := h; pid_ge h
theorem St.lt (h : St w base B bm vo os hand rounds) : ∀ k ∈ pid B bm vo, k < w.heap.size := let ⟨_, _, h, _⟩ := h; pid_lt h
def NewS (w : World) (N : Nat) (e : Ending) (w' : World) : Prop := ∃ B bm vo, e = .returned (.pointer (some ⟨B, 0, none⟩)) ∧ St w' w.heap.size B bm vo (List.replicate N (-1)) 1 0 ∧ Below w.heap.size w w'
theorem new_st (w : World) (n : Int) (N : Nat) (hN : N ≤ 10) (hm : max n 0 = (N : Int)) : Calls Try.prog 30 #[.int .i64 n] w (NewS w N) :=
  (new_calls w n N hN hm).mono fun e w' ⟨B, bm, vo, h1, h2, h3⟩ => ⟨B, bm, vo, h1, ⟨_, _, h2, Ok.new N⟩, h3⟩
def rnd (hand rounds : Int) (n i : Nat) : Int := rounds + (if (i : Int) + 1 < hand ∨ i + 1 = n then 1 else 0)
def nxt (n i : Nat) : Int := ((i : Int) + 1) % (n : Int) + 1
def Sml (os : List Int) (hand rounds : Int) : Prop := os.length ≤ 10 ∧ (1 ≤ hand ∧ hand ≤ 10000) ∧ (-1000000000 ≤ rounds ∧ rounds ≤ 1000000000)
theorem nxt_pos {n i : Nat} (h : i < n) : 1 ≤ nxt n i ∧ nxt n i ≤ (n : Int) := by
  have h1 := Int.emod_nonneg ((i : Int) + 1) (show (n : Int) ≠ 0 by omega)
  have h2 := Int.emod_lt_of_pos ((i : Int) + 1) (show (0 : Int) < (n : Int) by omega)
  unfold nxt
  omega
theorem st_own {f : Int → Option Int} {c i : Nat} (hi : i < os.length) {s : Int} (hs : 0 ≤ s ∧ s ≤ 9223372036854775807) (ho : Ok os f c) (hn : s ∉ os) {f' : Int → Option Int} {c' : Nat}
    (hf' : f' = fun j => if j = os[i] then none else f j) (hc' : c' = c - (if 0 ≤ os[i] then 1 else 0)) (h : OwnR base B bm vo os f' c' hand rounds i s w') : St w' base B bm vo (os.set i s) (nxt os.length i) (rnd hand rounds os.length i) := by
  have hok := ho.set hi hs hn
  have hfs : f' s = none := by
    rw [hf']
    simp only
    split
    · rfl
    · exact ho.none hn
  unfold OwnR at h
  rw [hfs] at h
  have hc2 : c' + (if (none : Option Int).isSome = true then 0 else 1) = c + (if 0 ≤ os[i] then 0 else 1) := by
    have hp : 0 ≤ os[i] → 0 < c := fun h0 => by rw [ho.hc]; exact List.countP_pos_iff.2 ⟨os[i], List.getElem_mem hi, by simpa using h0⟩
    rw [hc']
    split
    · have := hp ‹_›; simp; omega
    · simp
  rw [hc2, hf'] at h
  exact ⟨_, _, h, hok⟩
/-- A space that has none takes the number that is found. -/
theorem take_new (h : St w base B bm vo os hand rounds) (hs : Sml os hand rounds) {s : Int} (hs0 : 0 ≤ s ∧ s ≤ 9223372036854775807) (hn : s ∉ os) {i : Nat} (hi : i < os.length) (hfree : os[i] = -1) (hf : (rot os.length hand).find? (free? os) = some ((i : Int) + 1)) :
    Calls Try.prog 31 #[.pointer (some ⟨B, 0, none⟩), .int .i64 s] w fun e w' => e = .returned (.tuple #[.int .i64 ((i : Int) + 1), .int .i64 0]) ∧ St w' base B bm vo (os.set i s) (nxt os.length i) (rnd hand rounds os.length i) ∧ Mv (pid B bm vo) w w' := by
  obtain ⟨f, c, hp, ho⟩ := h
  obtain ⟨h1, h2, h3⟩ := hs
  have hle := ho.le
  refine (take_calls hp s (by unfold Wf; omega) (by omega) h2 (by omega) h3).mono ?_
  intro e w' ht
  unfold TakeP at ht
  rw [if_neg (by omega), ho.none hn] at ht
  simp only at ht
  rw [hf] at ht
  simp only at ht
  obtain ⟨h1, h2, h3⟩ := ht
  rw [show ((i : Int) + 1 - 1).toNat = i by omega] at h2
  refine ⟨h1, st_own hi hs0 ho hn ?_ ?_ h2, h3⟩
  · funext j
    split
    · next e => rw [e, hfree]; exact ho.neg (by decide)
    · rfl
  · rw [hfree]; simp
/-- One that has one is told it. -/
theorem take_old (h : St w base B bm vo os hand rounds) (hs : Sml os hand rounds) {i : Nat} (hi : i < os.length) (h0 : 0 ≤ os[i]) :
    Calls Try.prog 31 #[.pointer (some ⟨B, 0, none⟩), .int .i64 os[i]] w fun e w' => e = .returned (.tuple #[.int .i64 ((i : Int) + 1), .int .i64 0]) ∧ St w' base B bm vo os hand rounds ∧ Mv (pid B bm vo) w w' := by
  obtain ⟨f, c, hp, ho⟩ := h
  obtain ⟨h1, h2, h3⟩ := hs
  have hle := ho.le
  refine (take_calls hp os[i] (ho.wf _ (List.getElem_mem hi)) (by omega) h2 (by omega) h3).mono ?_
  intro e w' ht
  unfold TakeP at ht
  rw [if_neg (by omega), ho.at hi h0] at ht
  exact ⟨ht.1, ⟨f, c, ht.2.1, ho⟩, ht.2.2⟩
/-- None is free. -/
theorem take_none (h : St w base B bm vo os hand rounds) (hs : Sml os hand rounds) {s : Int} (hs0 : 0 ≤ s ∧ s ≤ 9223372036854775807) (hn : s ∉ os) (hf : (rot os.length hand).find? (free? os) = none) :
    Calls Try.prog 31 #[.pointer (some ⟨B, 0, none⟩), .int .i64 s] w fun e w' => e = .returned (.tuple #[.int .i64 0, .int .i64 8]) ∧ St w' base B bm vo os hand rounds ∧ Mv (pid B bm vo) w w' := by
  obtain ⟨f, c, hp, ho⟩ := h
  obtain ⟨h1, h2, h3⟩ := hs
  have hle := ho.le
  refine (take_calls hp s (by unfold Wf; omega) (by omega) h2 (by omega) h3).mono ?_
  intro e w' ht
  unfold TakeP at ht
  rw [if_neg (by omega), ho.none hn] at ht
  simp only at ht
  rw [hf] at ht
  exact ⟨ht.1, ⟨f, c, ht.2.1, ho⟩, ht.2.2⟩
theorem owner_at {i : Nat} (hi : i < os.length) (h0 : os[i] ≠ -1) : ownerP os ((i : Int) + 1) = (os[i], true) := by
  have hin : inP ((i : Int) + 1) os.length = true := by unfold inP; simp; omega
  have hg : os.getD ((i : Int) + 1 - 1).toNat (-1) = os[i] := by rw [show ((i : Int) + 1 - 1).toNat = i by omega, List.getD_eq_getElem?_getD, List.getElem?_eq_getElem hi]; rfl
  unfold ownerP
  rw [hg, if_pos ⟨hin, h0⟩]
theorem owner_free {i : Nat} (hi : i < os.length) (h0 : os[i] = -1) : ownerP os ((i : Int) + 1) = (0, false) := by
  have hg : os.getD ((i : Int) + 1 - 1).toNat (-1) = os[i] := by rw [show ((i : Int) + 1 - 1).toNat = i by omega, List.getD_eq_getElem?_getD, List.getElem?_eq_getElem hi]; rfl
  unfold ownerP
  rw [hg, if_neg (fun h => h.2 h0)]
/-- Another's number is stolen. -/
theorem steal_st (h : St w base B bm vo os hand rounds) (hs : Sml os hand rounds) {s : Int} (hs0 : 0 ≤ s ∧ s ≤ 9223372036854775807) (hn : s ∉ os) {i : Nat} (hi : i < os.length) (h0 : 0 ≤ os[i]) :
    Calls Try.prog 38 #[.pointer (some ⟨B, 0, none⟩), .int .i64 ((i : Int) + 1), .int .i64 s] w fun e w' => e = .returned (.tuple #[.int .i64 os[i], .int .i64 0]) ∧ St w' base B bm vo (os.set i s) (nxt os.length i) (rnd hand rounds os.length i) ∧ Mv (pid B bm vo) w w' := by
  obtain ⟨f, c, hp, ho⟩ := h
  obtain ⟨h1, h2, h3⟩ := hs
  have hle := ho.le
  refine (steal_calls hp ((i : Int) + 1) s (by unfold Wf; omega) (by unfold Wf; omega) (by omega) (by omega) h3 (by unfold Wf; omega) ho.wf).mono ?_
  intro e w' ht
  unfold StealP at ht
  rw [if_neg (by unfold inP; simp; omega), ho.none hn, if_neg (by simp), owner_at hi (by omega), if_neg (by simp)] at ht
  simp only at ht
  obtain ⟨h1, h2, h3⟩ := ht
  rw [show ((i : Int) + 1 - 1).toNat = i by omega, ho.at hi h0] at h3
  exact ⟨h1, st_own hi hs0 ho hn rfl (by simp [h0]) h3, h2⟩
/-- A number is given. -/
theorem give_st (h : St w base B bm vo os hand rounds) (hs : Sml os hand rounds) {i : Nat} (hi : i < os.length) (h0 : 0 ≤ os[i]) :
    Calls Try.prog 32 #[.pointer (some ⟨B, 0, none⟩), .int .i64 os[i]] w fun e w' => e = .returned (.tuple #[.int .i64 ((i : Int) + 1), .int .i64 0]) ∧ St w' base B bm vo (os.set i (-1)) hand rounds ∧ Mv (pid B bm vo) w w' := by
  obtain ⟨f, c, hp, ho⟩ := h
  obtain ⟨h1, h2, h3⟩ := hs
  refine (give_calls hp os[i] (ho.wf _ (List.getElem_mem hi)) (by omega) (fun n hn => by obtain ⟨j, hj, h, _⟩ := ho.some hn; omega)).mono ?_
  intro e w' ht
  unfold GiveP at ht
  rw [ho.at hi h0] at ht
  simp only at ht
  rw [show ((i : Int) + 1 - 1).toNat = i by omega] at ht
  exact ⟨ht.1, ⟨_, _, ht.2.1, ho.unset hi h0⟩, ht.2.2⟩
theorem victim_st (h : St w base B bm vo os hand rounds) (hs : Sml os hand rounds) (A : Option Addr) (cap : Nat) (avoid : List Int) (hC : (Kd.int .i64).C w A avoid.length avoid) (hcap : avoid.length ≤ cap) (hal : avoid.length ≤ 100000) :
    Calls Try.prog 37 #[.pointer (some ⟨B, 0, none⟩), .slice A avoid.length cap] w (VictimP os avoid hand w) := by
  obtain ⟨f, c, hp, ho⟩ := h
  exact victim_calls hp (by have := hs.1; omega) hs.2.1 A cap avoid hC hcap hal
theorem free_st (h : St w base B bm vo os hand rounds) (hs : Sml os hand rounds) : Calls Try.prog 35 #[.pointer (some ⟨B, 0, none⟩)] w fun e w' => e = .returned (.int .i64 ((os.length : Int) - (os.countP (fun x => decide (0 ≤ x)) : Int))) ∧ Below w.heap.size w w' := by
  obtain ⟨f, c, hp, ho⟩ := h
  have hle := ho.le
  have h1 := hs.1
  rw [← ho.hc]
  exact free_calls hp (by omega) (by omega)
theorem St.mv (h : St w base B bm vo os hand rounds) {w0 : World} (hb : Below base w0 w) (hm : Mv (pid B bm vo) w w') (hw : base ≤ w.heap.size) : Below base w0 w' := hb.trans (hm.below hw h.ge)
theorem rot_head {n : Nat} {hand : Int} (h1 : 1 ≤ hand) (h2 : hand ≤ (n : Int)) (p : Int → Bool) (hp : p hand = true) : (rot n hand).find? p = some hand := by
  obtain ⟨m, rfl⟩ : ∃ m, n = m + 1 := ⟨n - 1, by omega⟩
  unfold rot
  rw [List.range_succ_eq_map, List.map_cons]
  have e : (hand - 1 + ((0 : Nat) : Int)) % ((m + 1 : Nat) : Int) + 1 = hand := by
    rw [Int.emod_eq_of_lt (by omega) (by omega)]; omega
  rw [e, List.find?_cons_of_pos hp]
end

end Go.Proofs.Ytcbnmmkmgpbfiaa.PP

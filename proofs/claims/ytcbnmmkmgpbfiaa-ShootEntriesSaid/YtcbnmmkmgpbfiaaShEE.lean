/- ShootEntries: the plain law. -/
import Derived.Test.YtcbnmmkmgpbfiaaShPE
import Derived.Test.YtcbnmmkmgpbfiaaPSx14E
import Derived.Test.YtcbnmmkmgpbfiaaPageGE
import Derived.Test.YtcbnmmkmgpbfiaaOpenEE
import Derived.Lib.Builder
import Derived.OneCell
namespace Go.Proofs.Ytcbnmmkmgpbfiaa.PS
open Go.RowKit Go.Proofs.YtcbnmmkmgpbfiaaW.PrintWords Go.Proofs.YtcbnmmkmgpbfiaaW.PrintLast Go.Proofs.YtcbnmmkmgpbfiaaW.PrintMore
attribute [local go_sem] max2_int min2_int max_two min_two max_three min_three max_four min_four   -- for this text's walks alone
set_option linter.unusedVariables false
set_option linter.unusedSimpArgs false
/-- An entry's size and address, such as may be. -/
def Gd (e : S32) : Prop := ∃ s va : Nat, e.f0 = s ∧ s < 4 ∧ e.f2 = va ∧ va < 2 ^ 64
theorem u64_rng (n : Int) : 0 ≤ IntKind.u64.wrap n ∧ IntKind.u64.wrap n < 18446744073709551616 := by rw [IntKind.wrap_u64]; omega
theorem base_rng {a s v : Int} (h : lookasideref02_Base.f a s = some v) : 0 ≤ v ∧ v < 18446744073709551616 := by
  unfold lookasideref02_Base.f at h
  obtain ⟨m, _, h⟩ := Option.bind_eq_some_iff.1 h
  split at h
  · obtain ⟨b, _, h⟩ := Option.bind_eq_some_iff.1 h
    split at h
    · cases h
    · obtain ⟨b2, _, h⟩ := Option.bind_eq_some_iff.1 h
      obtain rfl := Option.some.inj h
      exact u64_rng _
  · obtain rfl := Option.some.inj h
    omega
theorem tmod4 (a : Int) (h : 0 ≤ a) : ∃ s : Nat, Int.tmod a 4 = s ∧ s < 4 := by
  obtain ⟨n, rfl⟩ := Int.eq_ofNat_of_zero_le h
  exact ⟨n % 4, PageG.tmod_nat n 4, by omega⟩
theorem neg_norm (a : Int) (h : -9223372036854775808 ≤ a) (hn : a < 0) : 0 ≤ wrap64 (-(wrap64 (a + 1))) := by
  rw [wi (a + 1) (by omega) (by omega), wi _ (by omega) (by omega)]; omega
theorem good3_gd (k : Nat) (hk : 60 ≤ k) (e : S32) (he : OpenE.Ok32 e) : ∃ y : S32, lookasideref03_Good.f k e.f0 e.f1 e.f2 e.f3 e.f4.f0 e.f4.f1 e.f4.f2 e.f4.f3 e.f4.f4 e.f4.f5 e.f5 = some (y.f0, y.f1, y.f2, y.f3, y.f4.f0, y.f4.f1, y.f4.f2, y.f4.f3, y.f4.f4, y.f4.f5, y.f5) ∧ Gd y := by
  obtain ⟨k, rfl⟩ : ∃ m, k = m + 1 + 1 := ⟨k - 2, by omega⟩
  obtain ⟨v, hv⟩ := va_some k (by omega) e.f2
  unfold lookasideref03_Good.f
  have hj1 : ∀ (n : Int) (s : Nat) (x5 : Int), n = s → s < 4 → ∃ y : S32, lookasideref03_Good.j1 (k + 1) x5 e.f0 e.f1 e.f2 e.f3 e.f4.f0 e.f4.f1 e.f4.f2 e.f4.f3 e.f4.f4 e.f4.f5 e.f5 n 0 0 0 e.f4.f0 e.f4.f1 e.f4.f2 e.f4.f3 e.f4.f4 e.f4.f5 true = some (y.f0, y.f1, y.f2, y.f3, y.f4.f0, y.f4.f1, y.f4.f2, y.f4.f3, y.f4.f4, y.f4.f5, y.f5) ∧ Gd y := fun n s x5 hns hs => by
    rw [lookasideref03_Good.j1]
    obtain ⟨b1, h1⟩ := base_some v n
    obtain ⟨b2, h2⟩ := base_some (Int.tmod e.f3 2199023255552) n
    have hr := base_rng h1
    rw [hv]
    simp only [Option.bind_some]
    rw [h1]
    simp only [Option.bind_some]
    rw [h2]
    simp only [Option.bind_some]
    split
    · exact ⟨⟨_, _, _, _, ⟨_, _, _, _, _, _⟩, _⟩, rfl, s, b1.toNat, hns, hs, by simp only; omega, by omega⟩
    · exact ⟨⟨_, _, _, _, ⟨_, _, _, _, _, _⟩, _⟩, rfl, s, b1.toNat, hns, hs, by simp only; omega, by omega⟩
  have hj0 : ∀ x4 : Int, 0 ≤ x4 → ∃ y : S32, lookasideref03_Good.j0 (k + 1 + 1) x4 e.f0 e.f1 e.f2 e.f3 e.f4.f0 e.f4.f1 e.f4.f2 e.f4.f3 e.f4.f4 e.f4.f5 e.f5 0 0 0 0 e.f4.f0 e.f4.f1 e.f4.f2 e.f4.f3 e.f4.f4 e.f4.f5 true = some (y.f0, y.f1, y.f2, y.f3, y.f4.f0, y.f4.f1, y.f4.f2, y.f4.f3, y.f4.f4, y.f4.f5, y.f5) ∧ Gd y := fun x4 h4 => by
    rw [lookasideref03_Good.j0]
    obtain ⟨s, hs, hs4⟩ := tmod4 x4 h4
    split
    · exact hj1 _ s _ hs hs4
    · exact hj1 _ s _ hs hs4
  split
  · rename_i hn
    exact hj0 _ (neg_norm _ he.1.1 hn)
  · rename_i hn
    exact hj0 _ (by omega)
theorem entries_gd_l0 (l : List S32) (hl : ∀ e ∈ l, OpenE.Ok32 e) : ∀ (k j : Nat) (x : List S32), j ≤ 12 → 12 + 70 < j + k → x.length = j → (∀ e ∈ x, Gd e) → ∃ r, lookasidelaw19_entries.l0 k l x j = some r ∧ r.length ≤ 12 ∧ ∀ e ∈ r, Gd e
  | 0, j, x, h1, h2, _, _ => by omega
  | k + 1, j, x, h1, h2, h3, h4 => by
    unfold lookasidelaw19_entries.l0
    by_cases hj : (j : Int) < (l.length : Int)
    · rw [if_pos hj]
      by_cases h12 : (j : Int) < 12
      · rw [if_pos h12, if_pos (by omega)]
        have hjl : j < l.length := by omega
        rw [rd32 hjl]
        obtain ⟨y, hy, hg⟩ := good3_gd k (by omega) l[j] (hl _ (List.getElem_mem hjl))
        rw [hy]
        simp only [Option.bind_some]
        rw [if_pos (by omega), wi _ (by omega) (by omega)]
        exact entries_gd_l0 l hl k (j + 1) _ (by omega) (by omega) (by simp [h3]) (fun e he => (List.mem_append.1 he).elim (h4 e) (fun h => by simp at h; subst h; exact hg))
      · rw [if_neg h12]
        exact ⟨_, rfl, by omega, h4⟩
    · rw [if_neg hj]
      exact ⟨_, rfl, by omega, h4⟩
theorem entries_gd (k : Nat) (hk : 90 ≤ k) (l : List S32) (hl : ∀ e ∈ l, OpenE.Ok32 e) : ∃ r, lookasidelaw19_entries.f k l = some r ∧ r.length ≤ 12 ∧ ∀ e ∈ r, Gd e :=
  entries_gd_l0 l hl k 0 [] (by omega) (by omega) rfl (by simp)
/-! ### Whether entries part -/
theorem parts_eq (a b : S32) (ha : Gd a) (hb : Gd b) (k : Nat) : ∃ r, pP (a, b) = some r ∧ lookasideref06_Parts.f (k + 1) a.f0 a.f1 a.f2 a.f3 a.f4.f0 a.f4.f1 a.f4.f2 a.f4.f3 a.f4.f4 a.f4.f5 a.f5 b.f0 b.f1 b.f2 b.f3 b.f4.f0 b.f4.f1 b.f4.f2 b.f4.f3 b.f4.f4 b.f4.f5 b.f5 = some r := by
  obtain ⟨s, va, e1, e2, e3, e4⟩ := ha
  obtain ⟨t, vb, f1, f2, f3, f4⟩ := hb
  unfold pP tlb_Parts.f lookasideref06_Parts.f
  simp only
  rw [e1, e3, f1, f3, PageG.meet_p va s vb t e4 f4 e2 f2, PageG.meet_r k va s vb t e4 f4 e2 f2]
  simp only [Option.bind_some]
  split
  · split
    · exact ⟨_, rfl, rfl⟩
    · split
      · exact ⟨_, rfl, rfl⟩
      · exact ⟨_, rfl, rfl⟩
  · exact ⟨_, rfl, rfl⟩
def pb (x : S32 × S32) : Bool := (pP x).getD false
theorem mem_prsTo {l : List S32} {x : S32 × S32} : ∀ {i : Nat}, x ∈ prsTo l i → x.1 ∈ l ∧ x.2 ∈ l
  | 0, h => by simp [prsTo] at h
  | i + 1, h => by
    rw [prsTo, List.mem_append] at h
    rcases h with h | h
    · exact mem_prsTo h
    · unfold prs at h
      split at h
      · rename_i b hb
        obtain ⟨a, ha, rfl⟩ := List.mem_map.1 h
        exact ⟨List.mem_of_mem_take ha, List.mem_of_getElem? hb⟩
      · cases h
theorem apart_f (l : List S32) (hl : l.length ≤ 1000) (hg : ∀ e ∈ l, Gd e) : shoot_Apart.f l = some ((pairsL l).all pb) := by
  unfold shoot_Apart.f
  rw [if_pos]
  · rfl
  · simp only [Bool.and_eq_true, List.all_eq_true, decide_eq_true_eq]
    refine ⟨by omega, fun x hx => ?_⟩
    obtain ⟨h1, h2⟩ := mem_prsTo (show x ∈ prsTo l l.length from hx)
    obtain ⟨r, hr, _⟩ := parts_eq x.1 x.2 (hg _ h1) (hg _ h2) 0
    rw [hr]; rfl
theorem all_split {l : List S32} {i j : Nat} (hi : i < l.length) (hj : j < i) : (l[j]'(by omega), l[i]) ∈ pairsL l := by
  obtain ⟨s, hs⟩ := prsTo_pre l (i + 1) l.length (by omega)
  rw [show pairsL l = prsTo l l.length from rfl, ← hs, prsTo, prs_at (List.getElem?_eq_getElem hi)]
  refine List.mem_append_left _ (List.mem_append_right _ (List.mem_map.2 ⟨l[j]'(by omega), ?_, rfl⟩))
  exact List.mem_take_iff_getElem.2 ⟨j, by omega, rfl⟩
theorem apart_r (l : List S32) (hl : l.length ≤ 12) (hg : ∀ e ∈ l, Gd e) : ∀ k : Nat,
    (∀ i : Nat, i ≤ l.length → 14 * (l.length - i) + 3 ≤ k → (∀ q p (hp : p < l.length), p < i → ∀ hq : q < p, pb (l[q]'(by omega), l[p]) = true) → lookasideref19_Apart.l0 k l i = some ((pairsL l).all pb)) ∧
    (∀ i j : Nat, i < l.length → j ≤ i → (i - j) + 14 * (l.length - i - 1) + 5 ≤ k → (∀ q p (hp : p < l.length), p < i → ∀ hq : q < p, pb (l[q]'(by omega), l[p]) = true) → (∀ q (hi : i < l.length) (hq : q < i), q < j → pb (l[q]'(by omega), l[i]) = true) → lookasideref19_Apart.l1 k l i j = some ((pairsL l).all pb)) := by
  intro k
  induction k with
  | zero => exact ⟨fun i h1 h2 _ => by omega, fun i j h1 h2 h3 _ _ => by omega⟩
  | succ k ih =>
    obtain ⟨ih0, ih1⟩ := ih
    refine ⟨fun i h1 h2 h3 => ?_, fun i j h1 h2 h3 h4 h5 => ?_⟩
    · unfold lookasideref19_Apart.l0
      by_cases hi : i < l.length
      · rw [if_pos (by omega)]
        exact ih1 i 0 hi (by omega) (by omega) h3 (fun q _ _ h => by omega)
      · rw [if_neg (by omega)]
        congr 1
        refine (List.all_eq_true.2 fun x hx => ?_).symm
        obtain ⟨i, rfl⟩ : ∃ z, z = i := ⟨i, rfl⟩
        have key : ∀ n, n ≤ l.length → ∀ x ∈ prsTo l n, pb x = true := by
          intro n
          induction n with
          | zero => intro _ x hx; simp [prsTo] at hx
          | succ n ihn =>
            intro hn x hx
            rw [prsTo, List.mem_append] at hx
            rcases hx with hx | hx
            · exact ihn (by omega) x hx
            · rw [prs_at (List.getElem?_eq_getElem (show n < l.length by omega))] at hx
              obtain ⟨a, ha, rfl⟩ := List.mem_map.1 hx
              obtain ⟨q, hq, rfl⟩ := List.mem_take_iff_getElem.1 ha
              exact h3 q n (by omega) (by omega) (by omega)
        exact key l.length (Nat.le_refl _) x hx
    · unfold lookasideref19_Apart.l1
      by_cases hj : j < i
      · rw [if_pos (by omega), if_pos (by omega), if_pos (by omega), if_pos (by omega), if_pos (by omega), rd32 (show j < l.length by omega), rd32 h1]
        obtain ⟨r, hr1, hr2⟩ := parts_eq (l[j]'(by omega)) l[i] (hg _ (List.getElem_mem _)) (hg _ (List.getElem_mem _)) (k - 1)
        rw [show k - 1 + 1 = k from by omega] at hr2
        rw [hr2]
        simp only [Option.bind_some]
        have hpb : pb (l[j]'(by omega), l[i]) = r := by unfold pb; rw [hr1]; rfl
        cases r with
        | true =>
          rw [if_pos rfl, wi _ (by omega) (by omega)]
          exact ih1 i (j + 1) h1 (by omega) (by omega) h4 (fun q hi hq hqj => by
            rcases Nat.lt_or_ge q j with h | h
            · exact h5 q hi hq h
            · obtain rfl : q = j := by omega
              exact hpb)
        | false =>
          rw [if_neg (by simp)]
          congr 1
          refine (Bool.eq_false_iff.2 fun h => ?_).symm
          rw [List.all_eq_true] at h
          have := h _ (all_split h1 hj)
          rw [hpb] at this
          cases this
      · obtain rfl : j = i := by omega
        rw [if_neg (by omega), wi _ (by omega) (by omega)]
        exact ih0 (j + 1) (by omega) (by omega) (fun q p hp hpj hq => by
          rcases Nat.lt_or_ge p j with h | h
          · exact h4 q p hp h hq
          · obtain rfl : p = j := by omega
            exact h5 q hp hq (by omega))
theorem apart_rf (l : List S32) (hl : l.length ≤ 12) (hg : ∀ e ∈ l, Gd e) (k : Nat) (hk : 200 ≤ k) : lookasideref19_Apart.f k l = some ((pairsL l).all pb) :=
  (apart_r l hl hg k).1 0 (Nat.zero_le _) (by omega) (fun q p hp h => by omega)
/-! ### What an access reaches -/
theorem j2_eq (k : Nat) : fault_Judge.j2 k = lookasideref09_Judge.j2 k := by cases k <;> rfl
theorem j1_eq (k : Nat) : fault_Judge.j1 k = lookasideref09_Judge.j1 k := by
  cases k with
  | zero => rfl
  | succ k => funext x13 x0 x1 x2 x3 x4 x5 x6 x7 x8; rw [fault_Judge.j1, lookasideref09_Judge.j1, j2_eq]
theorem j0_eq (k : Nat) : fault_Judge.j0 k = lookasideref09_Judge.j0 k := by
  cases k with
  | zero => rfl
  | succ k => funext x13 x0 x1 x2 x3 x4 x5 x6 x7 x8; rw [fault_Judge.j0, lookasideref09_Judge.j0, j1_eq]
theorem judge_eq (k : Nat) (a0 a1 a2 a3 a4 a5 : Bool) (b : Int) (c : Bool) (d : Int) : fault_Judge.f k a0 a1 a2 a3 a4 a5 b c d = lookasideref09_Judge.f k a0 a1 a2 a3 a4 a5 b c d := by
  unfold fault_Judge.f lookasideref09_Judge.f
  rw [j0_eq]
theorem judge_some (k : Nat) (hk : 3 ≤ k) (a0 a1 a2 a3 a4 a5 : Bool) (b : Int) (c : Bool) (d : Int) : ∃ r, fault_Judge.f k a0 a1 a2 a3 a4 a5 b c d = some r := by
  obtain ⟨k, rfl⟩ : ∃ m, k = m + 1 + 1 + 1 := ⟨k - 3, by omega⟩
  have h2 : ∀ x, ∃ r, fault_Judge.j2 (k + 1) x a0 a1 a2 a3 a4 a5 b c d = some r := fun x => by
    rw [fault_Judge.j2]
    repeat (first | exact ⟨_, rfl⟩ | split)
  have h1 : ∀ x, ∃ r, fault_Judge.j1 (k + 1 + 1) x a0 a1 a2 a3 a4 a5 b c d = some r := fun x => by
    rw [fault_Judge.j1]
    split
    · exact ⟨_, rfl⟩
    · split
      · exact h2 _
      · exact h2 _
  have h0 : ∀ x, ∃ r, fault_Judge.j0 (k + 1 + 1 + 1) x a0 a1 a2 a3 a4 a5 b c d = some r := fun x => by
    rw [fault_Judge.j0]
    split
    · exact ⟨_, rfl⟩
    · split
      · exact h1 _
      · exact h1 _
  unfold fault_Judge.f
  split
  · exact h0 _
  · exact h0 _
theorem hits_eq (e : S32) (he : Gd e) (va : Nat) (hv : va < 2 ^ 64) (cx : Int) : ∃ r, tte_Hits.f e.f0 e.f1 e.f2 e.f3 e.f4.f0 e.f4.f1 e.f4.f2 e.f4.f3 e.f4.f4 e.f4.f5 e.f5 va cx = some r ∧ lookasideref03_Hits.f e.f0 e.f1 e.f2 e.f3 e.f4.f0 e.f4.f1 e.f4.f2 e.f4.f3 e.f4.f4 e.f4.f5 e.f5 va cx = some r := by
  obtain ⟨s, b, e1, e2, e3, e4⟩ := he
  unfold tte_Hits.f lookasideref03_Hits.f
  rw [e1, e3, PageG.rmay, PageG.in_p va b s hv e4 e2, PageG.base_r va s hv e2, PageG.base_r b s e4 e2]
  simp only [Option.bind_some]
  have hd : decide ((0 : Int) ≤ (s : Int) ∧ (s : Int) < 4) = true := decide_eq_true ⟨by omega, by omega⟩
  by_cases hv5 : e.f5 = true
  · by_cases hb : PageG.bs va s = PageG.bs b s
    · by_cases hg4 : e.f4.f4 = true
      · exact ⟨true, by simp [hv5, hb, hg4], by rw [if_pos hv5, if_pos hd, if_pos (by rw [hb]), if_pos hg4]⟩
      · exact ⟨e.f1 == cx, by simp [hv5, hb, hg4], by rw [if_pos hv5, if_pos hd, if_pos (by rw [hb]), if_neg hg4]⟩
    · exact ⟨false, by simp [hv5, hb], by rw [if_pos hv5, if_pos hd, if_neg (by omega)]⟩
  · exact ⟨false, by rw [if_neg hv5], by rw [if_neg hv5]⟩
theorem reach_l0 (l : List S32) (hl : l.length ≤ 12) (hg : ∀ e ∈ l, Gd e) (kd : Int) (pv : Bool) (va : Nat) (hv : va < 2 ^ 64) : ∀ (k j : Nat) (acc : List Int), j ≤ l.length → l.length + 5 < j + k → acc.length ≤ j →
    ∃ r : List Int, shoot_Reach.l0 k acc l (l.length : Int) j kd pv va = some r ∧ lookasideref19_Reach.l0 k l acc j kd pv va = some r ∧ r.length ≤ 12
  | 0, j, acc, h1, h2, _ => by omega
  | k + 1, j, acc, h1, h2, h3 => by
    unfold shoot_Reach.l0 lookasideref19_Reach.l0
    by_cases hj : j < l.length
    · rw [if_pos (by omega), if_pos (by omega), if_pos (by omega), if_pos (by omega), if_pos (by omega), rd32 hj]
      obtain ⟨r, hr1, hr2⟩ := hits_eq l[j] (hg _ (List.getElem_mem _)) va hv l[j].f1
      rw [hr1, hr2]
      simp only [Option.bind_some]
      rw [wi ((j : Int) + 1) (by omega) (by omega)]
      have hrec := reach_l0 l hl hg kd pv va hv k (j + 1) acc (by omega) (by omega) (by omega)
      cases r with
      | true =>
        rw [if_pos rfl, if_pos rfl, judge_eq]
        obtain ⟨z, hz⟩ := judge_some k (by omega) l[j].f4.f0 l[j].f4.f1 l[j].f4.f2 l[j].f4.f3 l[j].f4.f4 l[j].f4.f5 kd pv va
        rw [judge_eq] at hz
        rw [hz]
        simp only [Option.bind_some]
        by_cases hz0 : z = 0
        · rw [if_pos hz0, if_pos hz0, if_pos (by omega), if_pos (by omega)]
          exact reach_l0 l hl hg kd pv va hv k (j + 1) (acc ++ [(j : Int)]) (by omega) (by omega) (by simp; omega)
        · rw [if_neg hz0, if_neg hz0]
          exact hrec
      | false =>
        simp only [Bool.false_eq_true, if_false]
        exact hrec
    · rw [if_neg (by omega), if_neg (by omega)]
      exact ⟨acc, rfl, rfl, by omega⟩
theorem same2_l0 (l : List Int) (hl : l.length ≤ 1000) : ∀ (k j : Nat), j ≤ l.length → l.length < j + k → lookasideref02_Same.l0 k l l j = some true
  | 0, j, h1, h2 => by omega
  | k + 1, j, h1, h2 => by
    unfold lookasideref02_Same.l0
    by_cases hj : j < l.length
    · rw [if_pos (by omega), if_pos (by omega), if_pos (by omega), if_pos rfl, wi _ (by omega) (by omega)]
      exact same2_l0 l hl k (j + 1) (by omega) (by omega)
    · rw [if_neg (by omega)]
theorem va_rng (k : Nat) (hk : 50 ≤ k) (a : Int) (h : 0 ≤ a ∧ a < 18446744073709551616) : ∃ v : Nat, lookasideref02_Va.f k a = some (v : Int) ∧ v < 2 ^ 64 := by
  obtain ⟨v, hv⟩ := va_some k hk a
  have : 0 ≤ v ∧ v < 18446744073709551616 := by
    unfold lookasideref02_Va.f at hv
    obtain ⟨b, _, hv⟩ := Option.bind_eq_some_iff.1 hv
    split at hv
    · obtain rfl := Option.some.inj hv
      exact u64_rng _
    · obtain rfl := Option.some.inj hv
      obtain ⟨n, rfl⟩ := Int.eq_ofNat_of_zero_le h.1
      have := PageG.tmod_nat n 8796093022208
      rw [show ((8796093022208 : Nat) : Int) = 8796093022208 from rfl] at this
      rw [this]
      omega
  exact ⟨v.toNat, by rw [hv]; congr 1; omega, by omega⟩
theorem entries_j1 (k : Nat) (hk : 250 ≤ k) (l : List S32) (hl : l.length ≤ 12) (hg : ∀ e ∈ l, Gd e) (kd : Int) (pv : Bool) (va : Nat) (hv : va < 2 ^ 64) : lookasidelaw19_ShootEntries.j1 (k + 1) l kd pv va = some true := by
  rw [lookasidelaw19_ShootEntries.j1, apart_f l (by omega) hg, Option.bind_some, apart_rf l hl hg k (by omega), Option.bind_some, if_pos (by simp)]
  obtain ⟨r, h1, h2, h3⟩ := reach_l0 l hl hg kd pv va hv k 0 [] (by omega) (by omega) (by simp)
  rw [show shoot_Reach.f k l kd pv va = some r from h1, Option.bind_some, show lookasideref19_Reach.f k l kd pv va = some r from h2, Option.bind_some]
  have hs : lookasideref02_Same.f k r r = some true := by
    unfold lookasideref02_Same.f
    rw [if_pos rfl]
    exact same2_l0 r (by omega) k 0 (by omega) (by omega)
  rw [hs, Option.bind_some, if_pos rfl, lives_true]
  rfl
theorem shoot_entries (l : List S32) (hl : ∀ e ∈ l, OpenE.Ok32 e) (kd : Int) (hkd : -9223372036854775808 ≤ kd) (pv : Bool) (va : Int) (hv : 0 ≤ va ∧ va < 18446744073709551616) (n : Int) : lookasidelaw19_ShootEntries.f 300 l kd pv va n = some true := by
  obtain ⟨r, hr, hr12, hrg⟩ := entries_gd 300 (by omega) l hl
  obtain ⟨v, hv1, hv2⟩ := va_rng 300 (by omega) va hv
  unfold lookasidelaw19_ShootEntries.f
  rw [hr, Option.bind_some]
  have hg : ∃ kd' : Int, lookasideref09_Good.f 300 kd pv va true = some (kd', pv, (v : Int)) := by
    unfold lookasideref09_Good.f
    split
    · rw [if_pos rfl, hv1]; exact ⟨_, rfl⟩
    · rw [if_pos rfl, hv1]; exact ⟨_, rfl⟩
  obtain ⟨kd', hg⟩ := hg
  rw [hg, Option.bind_some]
  have hj0 : ∀ x : Bool, (x = true → 0 < n ∧ 0 < r.length) → lookasidelaw19_ShootEntries.j0 300 n r x kd' pv v = some true := fun x hx => by
    rw [show (300 : Nat) = 299 + 1 from rfl, lookasidelaw19_ShootEntries.j0]
    cases x with
    | true =>
      obtain ⟨hn, hr0⟩ := hx rfl
      obtain ⟨N, rfl⟩ := Int.eq_ofNat_of_zero_le (Int.le_of_lt hn)
      have ht := PageG.tmod_nat N r.length
      have hmod := Nat.mod_lt N hr0
      rw [if_pos rfl, if_neg (by omega), ht, if_pos (by omega), if_pos (by omega)]
      obtain ⟨z, hz, hz2⟩ : ∃ z : Nat, IntKind.u64.wrap ((rd_T32 r ((N % r.length : Nat) : Int)).f2 + Int.tmod (v : Int) 8192) = z ∧ z < 2 ^ 64 := by
        have := u64_rng ((rd_T32 r ((N % r.length : Nat) : Int)).f2 + Int.tmod (v : Int) 8192)
        exact ⟨(IntKind.u64.wrap ((rd_T32 r ((N % r.length : Nat) : Int)).f2 + Int.tmod (v : Int) 8192)).toNat, by omega, by omega⟩
      rw [hz]
      exact entries_j1 298 (by omega) r hr12 hrg kd' pv z hz2
    | false =>
      rw [if_neg (by simp)]
      exact entries_j1 298 (by omega) r hr12 hrg kd' pv v hv2
  split
  · rename_i h0
    exact hj0 _ (fun hx => ⟨by simpa using hx, by omega⟩)
  · exact hj0 _ (by simp)
end Go.Proofs.Ytcbnmmkmgpbfiaa.PS


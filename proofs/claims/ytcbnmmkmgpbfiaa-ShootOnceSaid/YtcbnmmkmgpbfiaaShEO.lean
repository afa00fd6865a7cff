/- ShootEntries: the plain law. -/
import Derived.Test.YtcbnmmkmgpbfiaaShPO
import Derived.Test.YtcbnmmkmgpbfiaaPSx14O
import Derived.Test.YtcbnmmkmgpbfiaaPageGO
import Derived.Test.YtcbnmmkmgpbfiaaOpenEO
import Derived.Lib.Builder
import Derived.OneCell
namespace Go.Proofs.Ytcbnmmkmgpbfiaa.PS
open Go.RowKit Go.Proofs.YtcbnmmkmgpbfiaaW.PrintWords Go.Proofs.YtcbnmmkmgpbfiaaW.PrintLast Go.Proofs.YtcbnmmkmgpbfiaaW.PrintMore
attribute [local go_sem] max2_int min2_int max_two min_two max_three min_three max_four min_four   -- for this text's walks alone
set_option linter.unusedVariables false
set_option linter.unusedSimpArgs false
/-- An entry's size and address, such as may be. -/
def Gd (e : S32) : Prop := ∃ s va : Nat, e.f0 = s ∧ s < 4 ∧ e.f2 = va ∧ va < 2 ^ 64
theorem u64_rng (n : Int) : 0 ≤ IntKind.u64.wrap n ∧ IntKind.u64.wrap n < 18446744073709551616 := by rw [IntKind.wrap_u64]; omega
theorem base_rng {a s v : Int} (h : lookasideref02_Base.f a s = some v) : 0 ≤ v ∧ v < 18446744073709551616 := by
  unfold lookasideref02_Base.f at h
  obtain ⟨m, _, h⟩ := Option.bind_eq_some_iff.1 h
  split at h
  · obtain ⟨b, _, h⟩ := Option.bind_eq_some_iff.1 h
    split at h
    · cases h
    · obtain ⟨b2, _, h⟩ := Option.bind_eq_some_iff.1 h
      obtain rfl := Option.some.inj h
      exact u64_rng _
  · obtain rfl := Option.some.inj h
    omega
theorem tmod4 (a : Int) (h : 0 ≤ a) : ∃ s : Nat, Int.tmod a 4 = s ∧ s < 4 := by
  obtain ⟨n, rfl⟩ := Int.eq_ofNat_of_zero_le h
  exact ⟨n % 4, PageG.tmod_nat n 4, by omega⟩
theorem neg_norm (a : Int) (h : -9223372036854775808 ≤ a) (hn : a < 0) : 0 ≤ wrap64 (-(wrap64 (a + 1))) := by
  rw [wi (a + 1) (by omega) (by omega), wi _ (by omega) (by omega)]; omega
theorem good3_gd (k : Nat) (hk : 60 ≤ k) (e : S32) (he : OpenE.Ok32 e) : ∃ y : S32, lookasideref03_Good.f k e.f0 e.f1 e.f2 e.f3 e.f4.f0 e.f4.f1 e.f4.f2 e.f4.f3 e.f4.f4 e.f4.f5 e.f5 = some (y.f0, y.f1, y.f2, y.f3, y.f4.f0, y.f4.f1, y.f4.f2, y.f4.f3, y.f4.f4, y.f4.f5, y.f5) ∧ Gd y := by
  obtain ⟨k, rfl⟩ : ∃ m, k = m + 1 + 1 := ⟨k - 2, by omega⟩
  obtain ⟨v, hv⟩ := va_some k (by omega) e.f2
  unfold lookasideref03_Good.f
  have hj1 : ∀ (n : Int) (s : Nat) (x5 : Int), n = s → s < 4 → ∃ y : S32, lookasideref03_Good.j1 (k + 1) x5 e.f0 e.f1 e.f2 e.f3 e.f4.f0 e.f4.f1 e.f4.f2 e.f4.f3 e.f4.f4 e.f4.f5 e.f5 n 0 0 0 e.f4.f0 e.f4.f1 e.f4.f2 e.f4.f3 e.f4.f4 e.f4.f5 true = some (y.f0, y.f1, y.f2, y.f3, y.f4.f0, y.f4.f1, y.f4.f2, y.f4.f3, y.f4.f4, y.f4.f5, y.f5) ∧ Gd y := fun n s x5 hns hs => by
    rw [lookasideref03_Good.j1]
    obtain ⟨b1, h1⟩ := base_some v n
    obtain ⟨b2, h2⟩ := base_some (Int.tmod e.f3 2199023255552) n
    have hr := base_rng h1
    rw [hv]
    simp only [Option.bind_some]
    rw [h1]
    simp only [Option.bind_some]
    rw [h2]
    simp only [Option.bind_some]
    split
    · exact ⟨⟨_, _, _, _, ⟨_, _, _, _, _, _⟩, _⟩, rfl, s, b1.toNat, hns, hs, by simp only; omega, by omega⟩
    · exact ⟨⟨_, _, _, _, ⟨_, _, _, _, _, _⟩, _⟩, rfl, s, b1.toNat, hns, hs, by simp only; omega, by omega⟩
  have hj0 : ∀ x4 : Int, 0 ≤ x4 → ∃ y : S32, lookasideref03_Good.j0 (k + 1 + 1) x4 e.f0 e.f1 e.f2 e.f3 e.f4.f0 e.f4.f1 e.f4.f2 e.f4.f3 e.f4.f4 e.f4.f5 e.f5 0 0 0 0 e.f4.f0 e.f4.f1 e.f4.f2 e.f4.f3 e.f4.f4 e.f4.f5 true = some (y.f0, y.f1, y.f2, y.f3, y.f4.f0, y.f4.f1, y.f4.f2, y.f4.f3, y.f4.f4, y.f4.f5, y.f5) ∧ Gd y := fun x4 h4 => by
    rw [lookasideref03_Good.j0]
    obtain ⟨s, hs, hs4⟩ := tmod4 x4 h4
    split
    · exact hj1 _ s _ hs hs4
    · exact hj1 _ s _ hs hs4
  split
  · rename_i hn
    exact hj0 _ (neg_norm _ he.1.1 hn)
  · rename_i hn
    exact hj0 _ (by omega)
theorem entries_gd_l0 (l : List S32) (hl : ∀ e ∈ l, OpenE.Ok32 e) : ∀ (k j : Nat) (x : List S32), j ≤ 12 → 12 + 70 < j + k → x.length = j → (∀ e ∈ x, Gd e) → ∃ r, lookasidelaw19_entries.l0 k l x j = some r ∧ r.length ≤ 12 ∧ ∀ e ∈ r, Gd e
  | 0, j, x, h1, h2, _, _ => by omega
  | k + 1, j, x, h1, h2, h3, h4 => by
    unfold lookasidelaw19_entries.l0
    by_cases hj : (j : Int) < (l.length : Int)
    · rw [if_pos hj]
      by_cases h12 : (j : Int) < 12
      · rw [if_pos h12, if_pos (by omega)]
        have hjl : j < l.length := by omega
        rw [rd32 hjl]
        obtain ⟨y, hy, hg⟩ := good3_gd k (by omega) l[j] (hl _ (List.getElem_mem hjl))
        rw [hy]
        simp only [Option.bind_some]
        rw [if_pos (by omega), wi _ (by omega) (by omega)]
        exact entries_gd_l0 l hl k (j + 1) _ (by omega) (by omega) (by simp [h3]) (fun e he => (List.mem_append.1 he).elim (h4 e) (fun h => by simp at h; subst h; exact hg))
      · rw [if_neg h12]
        exact ⟨_, rfl, by omega, h4⟩
    · rw [if_neg hj]
      exact ⟨_, rfl, by omega, h4⟩
theorem entries_gd (k : Nat) (hk : 90 ≤ k) (l : List S32) (hl : ∀ e ∈ l, OpenE.Ok32 e) : ∃ r, lookasidelaw19_entries.f k l = some r ∧ r.length ≤ 12 ∧ ∀ e ∈ r, Gd e :=
  entries_gd_l0 l hl k 0 [] (by omega) (by omega) rfl (by simp)
/-! ### Whether entries part -/
theorem parts_eq (a b : S32) (ha : Gd a) (hb : Gd b) (k : Nat) : ∃ r, pP (a, b) = some r ∧ lookasideref06_Parts.f (k + 1) a.f0 a.f1 a.f2 a.f3 a.f4.f0 a.f4.f1 a.f4.f2 a.f4.f3 a.f4.f4 a.f4.f5 a.f5 b.f0 b.f1 b.f2 b.f3 b.f4.f0 b.f4.f1 b.f4.f2 b.f4.f3 b.f4.f4 b.f4.f5 b.f5 = some r := by
  obtain ⟨s, va, e1, e2, e3, e4⟩ := ha
  obtain ⟨t, vb, f1, f2, f3, f4⟩ := hb
  unfold pP tlb_Parts.f lookasideref06_Parts.f
  simp only
  rw [e1, e3, f1, f3, PageG.meet_p va s vb t e4 f4 e2 f2, PageG.meet_r k va s vb t e4 f4 e2 f2]
  simp only [Option.bind_some]
  split
  · split
    · exact ⟨_, rfl, rfl⟩
    · split
      · exact ⟨_, rfl, rfl⟩
      · exact ⟨_, rfl, rfl⟩
  · exact ⟨_, rfl, rfl⟩
def pb (x : S32 × S32) : Bool := (pP x).getD false
theorem mem_prsTo {l : List S32} {x : S32 × S32} : ∀ {i : Nat}, x ∈ prsTo l i → x.1 ∈ l ∧ x.2 ∈ l
  | 0, h => by simp [prsTo] at h
  | i + 1, h => by
    rw [prsTo, List.mem_append] at h
    rcases h with h | h
    · exact mem_prsTo h
    · unfold prs at h
      split at h
      · rename_i b hb
        obtain ⟨a, ha, rfl⟩ := List.mem_map.1 h
        exact ⟨List.mem_of_mem_take ha, List.mem_of_getElem? hb⟩
      · cases h
theorem apart_f (l : List S32) (hl : l.length ≤ 1000) (hg : ∀ e ∈ l, Gd e) : shoot_Apart.f l = some ((pairsL l).all pb) := by
  unfold shoot_Apart.f
  rw [if_pos]
  · rfl
  · simp only [Bool.and_eq_true, List.all_eq_true, decide_eq_true_eq]
    refine ⟨by omega, fun x hx => ?_⟩
    obtain ⟨h1, h2⟩ := mem_prsTo (show x ∈ prsTo l l.length from hx)
    obtain ⟨r, hr, _⟩ := parts_eq x.1 x.2 (hg _ h1) (hg _ h2) 0
    rw [hr]; rfl
/-! ### What an access reaches -/
theorem hits_eq (e : S32) (he : Gd e) (va : Nat) (hv : va < 2 ^ 64) (cx : Int) : ∃ r, tte_Hits.f e.f0 e.f1 e.f2 e.f3 e.f4.f0 e.f4.f1 e.f4.f2 e.f4.f3 e.f4.f4 e.f4.f5 e.f5 va cx = some r ∧ lookasideref03_Hits.f e.f0 e.f1 e.f2 e.f3 e.f4.f0 e.f4.f1 e.f4.f2 e.f4.f3 e.f4.f4 e.f4.f5 e.f5 va cx = some r := by
  obtain ⟨s, b, e1, e2, e3, e4⟩ := he
  unfold tte_Hits.f lookasideref03_Hits.f
  rw [e1, e3, PageG.rmay, PageG.in_p va b s hv e4 e2, PageG.base_r va s hv e2, PageG.base_r b s e4 e2]
  simp only [Option.bind_some]
  have hd : decide ((0 : Int) ≤ (s : Int) ∧ (s : Int) < 4) = true := decide_eq_true ⟨by omega, by omega⟩
  by_cases hv5 : e.f5 = true
  · by_cases hb : PageG.bs va s = PageG.bs b s
    · by_cases hg4 : e.f4.f4 = true
      · exact ⟨true, by simp [hv5, hb, hg4], by rw [if_pos hv5, if_pos hd, if_pos (by rw [hb]), if_pos hg4]⟩
      · exact ⟨e.f1 == cx, by simp [hv5, hb, hg4], by rw [if_pos hv5, if_pos hd, if_pos (by rw [hb]), if_neg hg4]⟩
    · exact ⟨false, by simp [hv5, hb], by rw [if_pos hv5, if_pos hd, if_neg (by omega)]⟩
  · exact ⟨false, by rw [if_neg hv5], by rw [if_neg hv5]⟩
theorem va_rng (k : Nat) (hk : 50 ≤ k) (a : Int) (h : 0 ≤ a ∧ a < 18446744073709551616) : ∃ v : Nat, lookasideref02_Va.f k a = some (v : Int) ∧ v < 2 ^ 64 := by
  obtain ⟨v, hv⟩ := va_some k hk a
  have : 0 ≤ v ∧ v < 18446744073709551616 := by
    unfold lookasideref02_Va.f at hv
    obtain ⟨b, _, hv⟩ := Option.bind_eq_some_iff.1 hv
    split at hv
    · obtain rfl := Option.some.inj hv
      exact u64_rng _
    · obtain rfl := Option.some.inj hv
      obtain ⟨n, rfl⟩ := Int.eq_ofNat_of_zero_le h.1
      have := PageG.tmod_nat n 8796093022208
      rw [show ((8796093022208 : Nat) : Int) = 8796093022208 from rfl] at this
      rw [this]
      omega
  exact ⟨v.toNat, by rw [hv]; congr 1; omega, by omega⟩
end Go.Proofs.Ytcbnmmkmgpbfiaa.PS


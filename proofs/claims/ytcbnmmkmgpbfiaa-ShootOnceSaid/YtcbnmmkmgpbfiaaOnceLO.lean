/- ShootOnce: the plain law. -/
import Derived.Test.YtcbnmmkmgpbfiaaShEO
import Derived.Test.YtcbnmmkmgpbfiaaOnceWO
namespace Go.Proofs.Ytcbnmmkmgpbfiaa.PS
open Go.RowKit PageG Go.Proofs.YtcbnmmkmgpbfiaaW.PrintWords Go.Proofs.YtcbnmmkmgpbfiaaW.PrintLast Go.Proofs.YtcbnmmkmgpbfiaaW.PrintMore
set_option linter.unusedVariables false
set_option linter.unusedSimpArgs false
theorem two_of {α : Type} {p : α → Bool} : ∀ {l : List α}, 2 ≤ l.countP p → ∃ (j i : Nat) (hj : j < l.length) (hi : i < j), p (l[i]'(by omega)) = true ∧ p l[j] = true
  | [], h => by simp at h
  | a :: t, h => by
    rw [List.countP_cons] at h
    by_cases ha : p a = true
    · have h1 : 0 < t.countP p := by split at h <;> omega
      obtain ⟨y, hy, hyp⟩ := List.countP_pos_iff.1 h1
      obtain ⟨n, hn, rfl⟩ := List.getElem_of_mem hy
      exact ⟨n + 1, 0, by simpa using hn, by omega, by simpa using ha, by simpa using hyp⟩
    · rw [if_neg ha] at h
      obtain ⟨j, i, hj, hi, h1, h2⟩ := two_of (l := t) (by omega)
      exact ⟨j + 1, i + 1, by simpa using hj, by omega, by simpa using h1, by simpa using h2⟩
theorem bs_up {a b m M : Nat} (h : bs a m = bs b m) (hm : m ≤ M) : bs a M = bs b M := by
  obtain ⟨d, rfl⟩ : ∃ d, M = m + d := ⟨M - m, by omega⟩
  unfold bs at h ⊢
  have h2 := Nat.eq_of_mul_eq_mul_right (pow_pos' m) h
  rw [show 13 + 3 * (m + d) = (13 + 3 * m) + 3 * d by omega, Nat.pow_add, ← Nat.div_div_eq_div_mul, ← Nat.div_div_eq_div_mul, h2]
theorem bs_bs (v s : Nat) : bs (bs v s) s = bs v s := by
  unfold bs
  rw [Nat.mul_div_cancel _ (pow_pos' s)]
theorem split_prs {α : Type} {l : List α} {i j : Nat} (hi : i < l.length) (hj : j < i) : (l[j]'(by omega), l[i]) ∈ pairsL l := by
  obtain ⟨s, hs⟩ := prsTo_pre l (i + 1) l.length (by omega)
  rw [show pairsL l = prsTo l l.length from rfl, ← hs, prsTo, prs_at (List.getElem?_eq_getElem hi)]
  refine List.mem_append_left _ (List.mem_append_right _ (List.mem_map.2 ⟨l[j]'(by omega), ?_, rfl⟩))
  exact List.mem_take_iff_getElem.2 ⟨j, by omega, rfl⟩
theorem mem_prs' {α : Type} {l : List α} {x : α × α} : ∀ {i : Nat}, x ∈ prsTo l i → x.1 ∈ l ∧ x.2 ∈ l
  | 0, h => by simp [prsTo] at h
  | i + 1, h => by
    rw [prsTo, List.mem_append] at h
    rcases h with h | h
    · exact mem_prs' h
    · unfold prs at h
      split at h
      · rename_i b hb
        obtain ⟨a, ha, rfl⟩ := List.mem_map.1 h
        exact ⟨List.mem_of_mem_take ha, List.mem_of_getElem? hb⟩
      · cases h
/-! ### Entries -/
def hitB (va : Nat) (cx : Int) (e : S32) : Bool := (lookasideref03_Hits.f e.f0 e.f1 e.f2 e.f3 e.f4.f0 e.f4.f1 e.f4.f2 e.f4.f3 e.f4.f4 e.f4.f5 e.f5 va cx).getD false
theorem hit_some (va : Nat) (hv : va < 2 ^ 64) (cx : Int) (e : S32) (he : Gd e) : lookasideref03_Hits.f e.f0 e.f1 e.f2 e.f3 e.f4.f0 e.f4.f1 e.f4.f2 e.f4.f3 e.f4.f4 e.f4.f5 e.f5 va cx = some (hitB va cx e) := by
  obtain ⟨r, _, hr⟩ := hits_eq e he va hv cx
  unfold hitB
  rw [hr]; rfl
theorem hit_spec (va : Nat) (hv : va < 2 ^ 64) (cx : Int) (e : S32) (he : Gd e) (h : hitB va cx e = true) : ∃ s b : Nat, e.f0 = s ∧ s < 4 ∧ e.f2 = b ∧ b < 2 ^ 64 ∧ bs va s = bs b s ∧ (e.f4.f4 = true ∨ e.f1 = cx) := by
  have h2 := hit_some va hv cx e he
  rw [h] at h2
  obtain ⟨s, b, e1, e2, e3, e4⟩ := he
  refine ⟨s, b, e1, e2, e3, e4, ?_⟩
  unfold lookasideref03_Hits.f at h2
  rw [e1, e3, rmay, base_r va s hv e2, base_r b s e4 e2] at h2
  simp only [Option.bind_some] at h2
  split at h2
  · split at h2
    · split at h2
      · rename_i hb
        split at h2
        · rename_i hg
          exact ⟨by omega, .inl hg⟩
        · have h3 := Option.some.inj h2
          exact ⟨by omega, .inr (by simpa using h3)⟩
      · cases h2
    · cases h2
  · cases h2
theorem apart_two (l : List S32) (hg : ∀ e ∈ l, Gd e) (va : Nat) (hv : va < 2 ^ 64) (cx : Int) : l.countP (hitB va cx) < 2 ∨ (pairsL l).all pb = false := by
  by_cases h : l.countP (hitB va cx) < 2
  · exact .inl h
  · right
    obtain ⟨j, i, hj, hi, h1, h2⟩ := two_of (l := l) (p := hitB va cx) (by omega)
    have hm := split_prs hj hi
    have hga := hg _ (List.getElem_mem (show i < l.length by omega))
    have hgb := hg _ (List.getElem_mem hj)
    generalize l[i] = a at h1 hm hga
    generalize l[j] = b at h2 hm hgb
    obtain ⟨s, x, a1, a2, a3, a4, a5, a6⟩ := hit_spec va hv cx a hga h1
    obtain ⟨t, y, b1, b2, b3, b4, b5, b6⟩ := hit_spec va hv cx b hgb h2
    rw [List.all_eq_false]
    refine ⟨_, hm, ?_⟩
    have hmm : bs x (max s t) = bs y (max s t) := (bs_up a5 (Nat.le_max_left _ _)).symm.trans (bs_up b5 (Nat.le_max_right _ _))
    have hp : pP (a, b) = some false := by
      unfold pP tlb_Parts.f
      simp only
      rw [a1, a3, b1, b3, meet_p x s y t a4 b4 a2 b2]
      simp only [Option.bind_some]
      rw [if_pos (by simpa using hmm)]
      by_cases g1 : a.f4.f4 = true
      · rw [if_pos g1]
      · rw [if_neg g1]
        by_cases g2 : b.f4.f4 = true
        · rw [if_pos g2]
        · rw [if_neg g2, a6.resolve_left g1, b6.resolve_left g2]
          simp
    unfold pb
    rw [hp]; simp
/-! ### Pages -/
def Gp (p : S30) : Prop := ∃ s v : Nat, p.f1 = s ∧ s < 4 ∧ p.f0 = v ∧ v < 2 ^ 64 ∧ bs v s = v
theorem bs_lt {v s : Nat} (h : v < 2 ^ 64) : bs v s < 2 ^ 64 := Nat.lt_of_le_of_lt (bs_le v s) h
theorem good12_gp (k : Nat) (hk : 60 ≤ k) (p : S30) (hp : OpenE.Ok30 p) : ∃ y : S30, lookasideref12_Good.f k p.f0 p.f1 p.f2 p.f3.f0 p.f3.f1 p.f3.f2 p.f3.f3 p.f3.f4 p.f3.f5 p.f4 p.f5 = some (y.f0, y.f1, y.f2, y.f3.f0, y.f3.f1, y.f3.f2, y.f3.f3, y.f3.f4, y.f3.f5, y.f4, y.f5) ∧ Gp y := by
  obtain ⟨v, hv, hv2⟩ := va_rng k (by omega) p.f0 hp.1
  unfold lookasideref12_Good.f
  rw [hv]
  simp only [Option.bind_some]
  split
  · rename_i hn
    obtain ⟨s, hs, hs4⟩ := tmod4 _ (neg_norm _ hp.2.1.1 hn)
    rw [hs]
    obtain ⟨b2, h2⟩ := base_some (Int.tmod p.f2 2199023255552) s
    rw [base_r v s hv2 hs4]
    simp only [Option.bind_some]
    rw [h2]
    simp only [Option.bind_some]
    exact ⟨⟨_, _, _, ⟨_, _, _, _, _, _⟩, _, _⟩, rfl, s, bs v s, rfl, hs4, rfl, bs_lt hv2, bs_bs v s⟩
  · rename_i hn
    obtain ⟨s, hs, hs4⟩ := tmod4 p.f1 (by omega)
    rw [hs]
    obtain ⟨b2, h2⟩ := base_some (Int.tmod p.f2 2199023255552) s
    rw [base_r v s hv2 hs4]
    simp only [Option.bind_some]
    rw [h2]
    simp only [Option.bind_some]
    exact ⟨⟨_, _, _, ⟨_, _, _, _, _, _⟩, _, _⟩, rfl, s, bs v s, rfl, hs4, rfl, bs_lt hv2, bs_bs v s⟩
theorem pages_gp_l0 (l : List S30) (hl : ∀ e ∈ l, OpenE.Ok30 e) : ∀ (k j : Nat) (x : List S30), j ≤ 12 → 12 + 70 < j + k → x.length = j → (∀ e ∈ x, Gp e) → ∃ r, lookasidelaw19_pages.l0 k l x j = some r ∧ r.length ≤ 12 ∧ ∀ e ∈ r, Gp e
  | 0, j, x, h1, h2, _, _ => by omega
  | k + 1, j, x, h1, h2, h3, h4 => by
    unfold lookasidelaw19_pages.l0
    by_cases hj : (j : Int) < (l.length : Int)
    · rw [if_pos hj]
      by_cases h12 : (j : Int) < 12
      · rw [if_pos h12, if_pos (by omega)]
        have hjl : j < l.length := by omega
        rw [rd30 hjl]
        obtain ⟨y, hy, hg⟩ := good12_gp k (by omega) l[j] (hl _ (List.getElem_mem hjl))
        rw [hy]
        simp only [Option.bind_some]
        rw [if_pos (by omega), wi _ (by omega) (by omega)]
        exact pages_gp_l0 l hl k (j + 1) _ (by omega) (by omega) (by simp [h3]) (fun e he => (List.mem_append.1 he).elim (h4 e) (fun h => by simp at h; subst h; exact hg))
      · rw [if_neg h12]
        exact ⟨_, rfl, by omega, h4⟩
    · rw [if_neg hj]
      exact ⟨_, rfl, by omega, h4⟩
theorem pages_gp (k : Nat) (hk : 90 ≤ k) (l : List S30) (hl : ∀ e ∈ l, OpenE.Ok30 e) : ∃ r, lookasidelaw19_pages.f k l = some r ∧ r.length ≤ 12 ∧ ∀ e ∈ r, Gp e :=
  pages_gp_l0 l hl k 0 [] (by omega) (by omega) rfl (by simp)
def bvP (va : Nat) (p : S30) : Int := (lookasideref02_Base.f va p.f1).getD 0
theorem bv_some (va : Nat) (hv : va < 2 ^ 64) (p : S30) (hp : Gp p) : lookasideref02_Base.f va p.f1 = some (bvP va p) := by
  obtain ⟨s, v, e1, e2, e3, e4, e5⟩ := hp
  unfold bvP
  rw [e1, base_r va s hv e2]; rfl
theorem in_eq (va : Nat) (hv : va < 2 ^ 64) (p : S30) (hp : Gp p) : iN va p = some (bvP va p == p.f0) := by
  obtain ⟨s, v, e1, e2, e3, e4, e5⟩ := hp
  unfold bvP iN
  rw [e1, e3, base_r va s hv e2, in_p va v s hv e4 e2, e5]
  congr 1
  rw [Bool.eq_iff_iff]
  simp
  omega
theorem bv_spec (va : Nat) (hv : va < 2 ^ 64) (p : S30) (hp : Gp p) (h : (bvP va p == p.f0) = true) : ∃ s v : Nat, p.f1 = s ∧ s < 4 ∧ p.f0 = v ∧ v < 2 ^ 64 ∧ bs va s = bs v s := by
  obtain ⟨s, v, e1, e2, e3, e4, e5⟩ := hp
  refine ⟨s, v, e1, e2, e3, e4, ?_⟩
  unfold bvP at h
  rw [e1, e3, base_r va s hv e2] at h
  simp at h
  omega
theorem clear_f (l : List S30) (hl : l.length ≤ 1000) (hg : ∀ e ∈ l, Gp e) : shoot_Clear.f l = some ((pairsL l).all fun x => (pM x).getD false) := by
  unfold shoot_Clear.f
  rw [if_pos]
  simp only [Bool.and_eq_true, List.all_eq_true, decide_eq_true_eq]
  refine ⟨by omega, fun x hx => ?_⟩
  obtain ⟨h1, h2⟩ := mem_prs' (show x ∈ prsTo l l.length from hx)
  obtain ⟨s, a, a1, a2, a3, a4, a5⟩ := hg _ h1
  obtain ⟨t, b, b1, b2, b3, b4, b5⟩ := hg _ h2
  unfold pM
  rw [a1, a3, b1, b3, meet_p a s b t a4 b4 a2 b2]; rfl
theorem clear_two (l : List S30) (hg : ∀ e ∈ l, Gp e) (va : Nat) (hv : va < 2 ^ 64) : l.countP (fun p => bvP va p == p.f0) < 2 ∨ ((pairsL l).all fun x => (pM x).getD false) = false := by
  by_cases h : l.countP (fun p => bvP va p == p.f0) < 2
  · exact .inl h
  · right
    obtain ⟨j, i, hj, hi, h1, h2⟩ := two_of (l := l) (p := fun p => bvP va p == p.f0) (by omega)
    have hm := split_prs hj hi
    have hga := hg _ (List.getElem_mem (show i < l.length by omega))
    have hgb := hg _ (List.getElem_mem hj)
    generalize l[i] = a at h1 hm hga
    generalize l[j] = b at h2 hm hgb
    obtain ⟨s, x, a1, a2, a3, a4, a5⟩ := bv_spec va hv a hga h1
    obtain ⟨t, y, b1, b2, b3, b4, b5⟩ := bv_spec va hv b hgb h2
    rw [List.all_eq_false]
    refine ⟨_, hm, ?_⟩
    have hmm : bs x (max s t) = bs y (max s t) := (bs_up a5 (Nat.le_max_left _ _)).symm.trans (bs_up b5 (Nat.le_max_right _ _))
    have hp : pM (a, b) = some false := by
      unfold pM
      simp only
      rw [a1, a3, b1, b3, meet_p x s y t a4 b4 a2 b2]
      simp [hmm]
    rw [hp]; simp
/-! ### The law -/
theorem once (w : World) (A0 : Option Addr) (c0 : Nat) (l0 : List S32) (A1 : Option Addr) (c1 : Nat) (l1 : List S30) (va ctx : Int) (hr0 : Kd.C k32 w A0 l0.length l0) (hc0 : l0.length ≤ c0) (hr1 : Kd.C k30 w A1 l1.length l1) (hc1 : l1.length ≤ c1)
    (hl0 : ∀ e ∈ l0, OpenE.Ok32 e) (hl1 : ∀ e ∈ l1, OpenE.Ok30 e) (hva : 0 ≤ va ∧ va < 18446744073709551616) :
    Calls Try.prog 5 #[.slice A0 l0.length c0, .slice A1 l1.length c1, .int .u64 va, .int .i64 ctx] w fun e w' => e = .returned (.bool true) ∧ Below w.heap.size w w' := by
  obtain ⟨v, rfl⟩ : ∃ v : Nat, va = v := ⟨va.toNat, by omega⟩
  have hv : v < 2 ^ 64 := by omega
  obtain ⟨E, hE0, hE1, hEg⟩ := entries_gd 100 (by omega) l0 hl0
  obtain ⟨G, hG0, hG1, hGg⟩ := pages_gp 100 (by omega) l1 hl1
  exact once_calls w A0 c0 l0 A1 c1 l1 v ctx hr0 hc0 hr1 hc1 E hE0 hE1 G hG0 hG1 (hitB v ctx) (fun e he => hit_some v hv ctx e (hEg e he)) (bvP v) (fun p hp => bv_some v hv p (hGg p hp)) (fun p hp => in_eq v hv p (hGg p hp)) _ _
    (apart_f E (by omega) hEg) (clear_f G (by omega) hGg) (apart_two E hEg v hv ctx) (clear_two G hGg v hv)
end Go.Proofs.Ytcbnmmkmgpbfiaa.PS


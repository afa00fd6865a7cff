/- How the queues of the program stand to the document's list (layer 15): kept by Send and Take. -/
import Derived.Test.YtgmdlndiilibpaaRefD
namespace Go.Proofs.Ytgmdlndiilibpaa.PR
open Go.RowKit Go.Proofs.YtgmdlndiilibpaaW.PrintWords Go.Proofs.Ytgmdlndiilibpaa.PC Go.Proofs.Ytgmdlndiilibpaa.CallK
set_option linter.unusedVariables false
set_option linter.unusedSimpArgs false
def Fit (q : Nat) (s : S104) : Prop := Ok s.f0.f0 s.f0.f1 s.f0.f2 ∧ s.f1.all (inR q) = true ∧ s.f1.Nodup ∧ s.f1.length ≤ 10
structure Rel (q : Nat) (qs : List (List Sn)) (left : List Int) (L : List S104) : Prop where
  len : qs.length = q
  hq : ∀ c : Nat, c < q → qs[c]? = some (wq 0 (c : Int) L)
  hl : left = lens L
  ok : ∀ s ∈ L, Fit q s
theorem Rel.new (q : Nat) : Rel q (List.replicate q []) [] [] where
  len := by simp
  hq := fun c hc => by rw [List.getElem?_replicate, if_pos hc]; rfl
  hl := rfl
  ok := by simp
theorem Rel.left_len {q : Nat} {qs : List (List Sn)} {left : List Int} {L : List S104} (h : Rel q qs left L) : left.length = L.length := by rw [h.hl]; simp [lens]
theorem Rel.short {q : Nat} {qs : List (List Sn)} {left : List Int} {L : List S104} (h : Rel q qs left L) : ∀ s ∈ L, s.f1.length ≤ 1000 := fun s hs => by have := (h.ok s hs).2.2.2; omega
theorem nodup_of {T : List Int} (h : dups T = false) : T.Nodup := by
  rw [List.nodup_iff_pairwise_ne, List.pairwise_iff_getElem]
  intro i j hi hj hij e
  have : dups T = true := by
    unfold dups
    rw [List.any_eq_true]
    refine ⟨j, List.mem_range.2 hj, ?_⟩
    unfold dupAt
    rw [List.contains_iff_mem, List.getD_eq_getElem?_getD, List.getElem?_eq_getElem hj, Option.getD_some, ← e]
    rw [List.mem_take_iff_getElem]
    exact ⟨i, by omega, rfl⟩
  rw [h] at this
  cases this
theorem qsend_get (x : Sn) : ∀ (T : List Int) (qs : List (List Sn)) (c : Nat) (m : List Sn), T.Nodup → (∀ t ∈ T, 0 ≤ t) → qs[c]? = some m → (qsend qs T x)[c]? = some (m ++ if T.contains (c : Int) = true then [x] else [])
  | [], qs, c, m, _, _, h => by simpa [qsend] using h
  | t :: T, qs, c, m, hn, h0, h => by
    have ht := h0 t (by simp)
    obtain ⟨n, rfl⟩ : ∃ n : Nat, t = n := ⟨t.toNat, by omega⟩
    rw [List.nodup_cons] at hn
    show (qsend (push1 x qs n) T x)[c]? = _
    obtain ⟨hcl, hcm⟩ := List.getElem?_eq_some_iff.1 h
    by_cases e : n = c
    · subst e
      have h2 : (push1 x qs (n : Int))[n]? = some (m ++ [x]) := by
        unfold push1
        rw [Int.toNat_natCast, List.getElem?_set_self hcl, List.getD_eq_getElem?_getD, h]; rfl
      rw [qsend_get x T _ n _ hn.2 (fun t ht => h0 t (by simp [ht])) h2]
      have h3 : T.contains (n : Int) = false := by rw [Bool.eq_false_iff, Ne, List.contains_iff_mem]; exact hn.1
      rw [h3, if_neg (by simp), if_pos (by simp), List.append_nil]
    · have h2 : (push1 x qs (n : Int))[c]? = some m := by
        unfold push1
        rw [Int.toNat_natCast, List.getElem?_set_ne e]; exact h
      rw [qsend_get x T _ c _ hn.2 (fun t ht => h0 t (by simp [ht])) h2]
      have h3 : ((n : Int) :: T).contains (c : Int) = T.contains (c : Int) := by
        rw [List.contains_cons]
        have : ((c : Int) == (n : Int)) = false := by rw [beq_eq_false_iff_ne]; omega
        rw [this, Bool.false_or]
      rw [h3]
theorem Rel.send {q : Nat} {qs : List (List Sn)} {left : List Int} {L : List S104} (h : Rel q qs left L) {kd cx va : Int} {T : List Int} (he : sendErr q kd va T = 0) (hT : T.length ≤ 10) :
    Rel q (qsend qs T (packV kd cx va, (left.length : Int))) (left ++ [(T.length : Int)]) (L ++ [⟨⟨kd, cx, va⟩, T⟩]) := by
  have h1 : okB kd va = true := by
    unfold sendErr at he
    split at he
    · cases he
    · rename_i h; simpa using h
  have h2 : T.all (inR q) = true := by
    unfold sendErr at he
    rw [if_neg (by rw [h1]; simp)] at he
    split at he
    · cases he
    · rename_i h; simpa using h
  have h3 : dups T = false := by
    unfold sendErr at he
    rw [if_neg (by rw [h1]; simp), if_neg (by rw [h2]; simp)] at he
    split at he
    · cases he
    · rename_i h; simpa using h
  have h4 := nodup_of h3
  have h0 : ∀ t ∈ T, 0 ≤ t := fun t ht => by
    have := List.all_eq_true.1 h2 t ht
    unfold inR at this; simp at this; omega
  refine ⟨by rw [qsend_len]; exact h.len, fun c hc => ?_, ?_, fun s hs => ?_⟩
  · rw [qsend_get _ T qs c _ h4 h0 (h.hq c hc), wq_snoc, h.left_len, Nat.zero_add]
  · rw [h.hl]; simp [lens]
  · rw [List.mem_append, List.mem_singleton] at hs
    rcases hs with hs | rfl
    · exact h.ok s hs
    · exact ⟨ok_of h1, h2, h4, hT⟩
theorem Rel.none {q : Nat} {qs : List (List Sn)} {left : List Int} {L : List S104} (h : Rel q qs left L) {c : Int} (hc : ¬ (0 ≤ c ∧ c < (q : Int))) : wq 0 c L = [] ∧ firstL 0 c L = -1 := by
  have hno : ∀ s ∈ L, s.f1.contains c = false := fun s hs => by
    rw [Bool.eq_false_iff, Ne, List.contains_iff_mem]
    intro hm
    have := List.all_eq_true.1 (h.ok s hs).2.1 c hm
    unfold inR at this
    simp at this
    exact hc this
  have h1 := wq_none c L 0 [] hno
  rw [List.append_nil] at h1
  refine ⟨h1, ?_⟩
  rcases firstL_ge L 0 c with h2 | ⟨i, _, _, h2⟩
  · exact h2
  · obtain ⟨a, b, s, e, _, _, h5⟩ := firstL_split L 0 i c h2
    rw [hno s (by rw [e]; simp)] at h5
    cases h5
theorem Rel.waits {q : Nat} {qs : List (List Sn)} {left : List Int} {L : List S104} (h : Rel q qs left L) (c : Int) : waits qs c = (wq 0 c L).length := by
  by_cases hc : 0 ≤ c ∧ c < (q : Int)
  · obtain ⟨n, rfl⟩ : ∃ n : Nat, c = n := ⟨c.toNat, by omega⟩
    unfold PC.waits
    rw [if_pos hc.1, Int.toNat_natCast, List.getD_eq_getElem?_getD, h.hq n (by omega)]; rfl
  · rw [(h.none hc).1]
    unfold PC.waits
    split
    · rw [List.getD_eq_getElem?_getD, List.getElem?_eq_none (by rw [h.len]; omega)]; rfl
    · rfl
/-- What Take finds, and leaves. -/
theorem Rel.take {q : Nat} {qs : List (List Sn)} {left : List Int} {L : List S104} (h : Rel q qs left L) (c : Nat) (hc : c < q) :
    (PC.waits qs c = 0 ∧ firstL 0 c L = -1) ∨
    ∃ (s : S104) (i : Nat) (rest : List Sn), firstL 0 c L = (i : Int) ∧ L[i]? = some s ∧ qs[c]? = some ((packV s.f0.f0 s.f0.f1 s.f0.f2, (i : Int)) :: rest) ∧ left[i]? = some (s.f1.length : Int) ∧ 1 ≤ s.f1.length ∧ s.f1.length ≤ 10 ∧ Ok s.f0.f0 s.f0.f1 s.f0.f2 ∧
      Rel q (qs.set c rest) (left.set i ((s.f1.length : Int) - 1)) (takeL c L) := by
  rcases firstL_ge L 0 c with h1 | ⟨i, _, hi, h1⟩
  · refine .inl ⟨?_, h1⟩
    rw [h.waits, wq_first _ _ h1]; rfl
  · obtain ⟨a, b, s, e, hia, ha, hs⟩ := firstL_split L 0 i c h1
    have hia' : i = a.length := by omega
    have hLi : L[i]? = some s := by rw [e, hia']; simp
    have hsL : s ∈ L := by rw [e]; simp
    have hf := h.ok s hsL
    have hmem : (c : Int) ∈ s.f1 := List.contains_iff_mem.1 hs
    have hpos : 0 < s.f1.length := List.length_pos_of_mem hmem
    have hwq : wq 0 c L = (packV s.f0.f0 s.f0.f1 s.f0.f2, (i : Int)) :: wq (i + 1) c b := by
      rw [e, wq_none c a 0 (s :: b) ha, Nat.zero_add, ← hia', wq, if_pos hs]
    have hfl : (s.f1.filter fun x => x != (c : Int)).length = s.f1.length - 1 := by
      have := hf.2.2.1.erase_eq_filter (c : Int)
      have h2 := List.length_erase_of_mem hmem
      rw [this] at h2
      exact h2
    refine .inr ⟨s, i, wq (i + 1) c b, h1, hLi, by rw [h.hq c hc, hwq], ?_, hpos, hf.2.2.2, hf.1, ⟨by simp [h.len], fun c' hc' => ?_, ?_, fun x hx => ?_⟩⟩
    · rw [h.hl, lens, List.getElem?_map, hLi]; rfl
    · rw [e, takeL_split c a b s ha hs]
      by_cases hcc : c = c'
      · subst hcc
        have hno : ∀ x ∈ a ++ [(⟨s.f0, s.f1.filter fun x => x != (c : Int)⟩ : S104)], x.f1.contains (c : Int) = false := fun x hx => by
          rw [List.mem_append, List.mem_singleton] at hx
          rcases hx with hx | rfl
          · exact ha x hx
          · rw [Bool.eq_false_iff, Ne, List.contains_iff_mem, List.mem_filter]; simp
        rw [List.getElem?_set_self (by rw [h.len]; exact hc)]
        have := wq_none c _ 0 b hno
        rw [List.append_assoc, List.singleton_append] at this
        rw [this]
        congr 2
        simp; omega
      · rw [List.getElem?_set_ne hcc, h.hq c' hc', e]
        congr 1
        refine wq_set (c' : Int) a 0 b s _ rfl ?_
        show s.f1.contains (c' : Int) = (s.f1.filter fun x => x != (c : Int)).contains (c' : Int)
        rw [Bool.eq_iff_iff, List.contains_iff_mem, List.contains_iff_mem, List.mem_filter]
        exact ⟨fun h => ⟨h, by simp; omega⟩, fun h => h.1⟩
    · rw [e, takeL_split c a b s ha hs, h.hl, e, hia']
      simp only [lens, List.map_append, List.map_cons, hfl]
      rw [List.set_append_right _ _ (by simp), List.length_map, Nat.sub_self, List.set_cons_zero]
      congr 2
      omega
    · rw [e, takeL_split c a b s ha hs] at hx
      rw [List.mem_append, List.mem_cons] at hx
      rcases hx with hx | rfl | hx
      · exact h.ok x (by rw [e]; simp [hx])
      · refine ⟨hf.1, ?_, hf.2.2.1.filter _, by rw [hfl]; have := hf.2.2.2; omega⟩
        rw [List.all_eq_true]
        intro t ht
        exact List.all_eq_true.1 hf.2.1 t ((List.mem_filter.1 ht).1)
      · exact h.ok x (by rw [e]; simp [hx])
def idleTo (qs : List (List Sn)) (c : Nat) : Bool := (List.range c).all fun k : Nat => decide (PC.waits qs ((k : Int) - 1) = 0)
theorem idleTo_succ (qs : List (List Sn)) (c : Nat) : idleTo qs (c + 1) = (idleTo qs c && decide (PC.waits qs ((c : Int) - 1) = 0)) := by
  unfold idleTo
  rw [List.range_succ, List.all_append]; simp
theorem Rel.idle {q : Nat} {qs : List (List Sn)} {left : List Int} {L : List S104} (h : Rel q qs left L) : isIdle qs = idleTo qs (q + 2) := by
  rw [Bool.eq_iff_iff]
  unfold isIdle idleTo
  rw [List.all_eq_true, List.all_eq_true]
  constructor
  · intro hh k hk
    rw [decide_eq_true_iff]
    by_cases hc : 0 ≤ (k : Int) - 1 ∧ (k : Int) - 1 < (q : Int)
    · obtain ⟨n, hn⟩ : ∃ n : Nat, (k : Int) - 1 = n := ⟨k - 1, by omega⟩
      rw [hn]
      unfold PC.waits
      rw [if_pos (by omega), Int.toNat_natCast, List.getD_eq_getElem?_getD]
      have hnq : n < qs.length := by rw [h.len]; omega
      rw [List.getElem?_eq_getElem hnq]
      have := hh _ (List.getElem_mem hnq)
      rw [List.isEmpty_iff] at this
      rw [Option.getD_some, this]; rfl
    · rw [h.waits, (h.none hc).1]; rfl
  · intro hh l hl
    obtain ⟨n, hn, rfl⟩ := List.getElem_of_mem hl
    have := hh (n + 1) (List.mem_range.2 (by rw [h.len] at hn; omega))
    rw [decide_eq_true_iff, show ((n + 1 : Nat) : Int) - 1 = (n : Int) by omega] at this
    unfold PC.waits at this
    rw [if_pos (by omega), Int.toNat_natCast, List.getD_eq_getElem?_getD, List.getElem?_eq_getElem hn, Option.getD_some] at this
    rw [List.isEmpty_iff]
    exact List.eq_nil_of_length_eq_zero this
end Go.Proofs.Ytgmdlndiilibpaa.PR

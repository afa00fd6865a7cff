/- What a table's chains have: plain laws. -/
import Derived.Test.YtgmdlndiilibpaaTabC
import Derived.Test.YtgmdlndiilibpaaKeyG
set_option linter.unusedVariables false
set_option linter.unusedSimpArgs false
namespace Go.Proofs.Ytgmdlndiilibpaa.Tab
open Go.RowKit Go.Proofs.Ytgmdlndiilibpaa.PH Go.Proofs.Ytgmdlndiilibpaa.KeyG
/-- What a chain has of a key. -/
def val (key : Int × Int × Int) : List Nd → Option Int
  | [] => none
  | n :: r => if n.key = key then some n.v else val key r
theorem pos_cons (key : Int × Int × Int) (n : Nd) (r : List Nd) : pos key (n :: r) = if n.key = key then 0 else pos key r + 1 := by
  unfold pos
  rw [List.findIdx_cons]
  by_cases h : n.key = key <;> simp [h]
theorem val_none {key : Int × Int × Int} : ∀ {l : List Nd}, val key l = none → pos key l = l.length
  | [], _ => rfl
  | n :: r, h => by
    rw [pos_cons]
    unfold val at h
    by_cases hk : n.key = key
    · rw [if_pos hk] at h; cases h
    · rw [if_neg hk] at h ⊢; rw [val_none h]; rfl
theorem val_some {key : Int × Int × Int} {x : Int} : ∀ {l : List Nd}, val key l = some x → ∃ h : pos key l < l.length, (l[pos key l]'h).v = x
  | [], h => by cases h
  | n :: r, h => by
    have e := pos_cons key n r
    unfold val at h
    by_cases hk : n.key = key
    · rw [if_pos hk] at h e
      simp only [e]
      exact ⟨by simp, by simpa using h⟩
    · rw [if_neg hk] at h e
      obtain ⟨h1, h2⟩ := val_some h
      simp only [e]
      exact ⟨by simpa using h1, by simpa using h2⟩
theorem val_iff {key : Int × Int × Int} : ∀ {l : List Nd}, val key l = none ↔ key ∉ l.map Nd.key
  | [] => by simp [val]
  | n :: r => by
    unfold val
    by_cases hk : n.key = key
    · simp [hk]
    · rw [if_neg hk, val_iff (l := r), List.map_cons, List.mem_cons, not_or]
      exact ⟨fun h => ⟨fun e => hk e.symm, h⟩, fun h => h.2⟩
theorem val_erase_ne {key key' : Int × Int × Int} (hne : key' ≠ key) : ∀ (l : List Nd), val key' (l.eraseIdx (pos key l)) = val key' l
  | [] => by simp [val]
  | n :: r => by
    rw [pos_cons]
    by_cases hk : n.key = key
    · rw [if_pos hk, List.eraseIdx_cons_zero]
      unfold val
      rw [if_neg (fun e => hne (e.symm.trans hk))]
      try (cases r <;> rfl)
    · rw [if_neg hk, List.eraseIdx_cons_succ]
      unfold val
      rw [val_erase_ne hne r]
      try (cases r <;> rfl)
theorem val_erase_self {key : Int × Int × Int} : ∀ (l : List Nd), (l.map Nd.key).Nodup → val key (l.eraseIdx (pos key l)) = none
  | [], _ => by simp [val]
  | n :: r, hn => by
    rw [pos_cons]
    rw [List.map_cons, List.nodup_cons] at hn
    by_cases hk : n.key = key
    · rw [if_pos hk, List.eraseIdx_cons_zero]
      exact val_iff.2 (hk ▸ hn.1)
    · rw [if_neg hk, List.eraseIdx_cons_succ]
      unfold val
      rw [if_neg hk]
      exact val_erase_self r hn.2
theorem getN_none {key : Int × Int × Int} {l : List Nd} (h : val key l = none) : getN key l = (0, l.length, false) := by
  unfold getN
  rw [dif_neg (by rw [val_none h]; omega)]
theorem getN_some {key : Int × Int × Int} {l : List Nd} {x : Int} (h : val key l = some x) : getN key l = (x, pos key l + 1, true) := by
  obtain ⟨h1, h2⟩ := val_some h
  unfold getN
  rw [dif_pos h1, h2]
/-- A key, of the reference's form. -/
def k3 (x : S24) : Int × Int × Int := (x.f0, x.f1, x.f2)
theorem k3_inj {x y : S24} (h : k3 x = k3 y) : x = y := by
  obtain ⟨a, b, c⟩ := x
  obtain ⟨a', b', c'⟩ := y
  simp only [k3, Prod.mk.injEq] at h
  obtain ⟨rfl, rfl, rfl⟩ := h
  rfl
/-- A key that may be. -/
def Gk (x : S24) : Prop := ∃ g v z : Nat, x = ⟨g, v, z⟩ ∧ g < 64 ∧ v < 2 ^ 64 ∧ z < 4 ∧ mayB g v z = true
def cN (x : S24) (N : Nat) : Nat := chN x.f0.toNat x.f1.toNat x.f2.toNat N
theorem Gk.may {x : S24} (h : Gk x) : hash_May.f x.f0 x.f1 x.f2 = some true := by
  obtain ⟨g, v, z, rfl, h1, h2, h3, h4⟩ := h
  rw [may_p g v z h2, h4]
theorem Gk.ch {x : S24} (h : Gk x) {N : Nat} (h0 : 0 < N) (hN : N ≤ 10000000) : hash_Chain.f x.f0 x.f1 x.f2 N = some ((cN x N : Nat) : Int) := by
  obtain ⟨g, v, z, rfl, h1, h2, h3, h4⟩ := h
  exact ch_p g v z N h1 h2 h3 h0 hN
theorem cN_lt (x : S24) {N : Nat} (h0 : 0 < N) : cN x N < N := chN_lt _ _ _ _ h0
/-- The chains have the keys xs, each with its place, and no others. -/
structure Has (N : Nat) (L : List (List Nd)) (xs : List S24) : Prop where
  len : L.length = N
  gk : ∀ x ∈ xs, Gk x
  yes : ∀ (j : Nat) (x : S24) (l : List Nd), xs[j]? = some x → L[cN x N]? = some l → val (k3 x) l = some (j : Int)
  no : ∀ (x : S24) (l : List Nd), Gk x → x ∉ xs → L[cN x N]? = some l → val (k3 x) l = none
  nd : ∀ l ∈ L, (l.map Nd.key).Nodup
  few : ∀ l ∈ L, l.length ≤ xs.length
theorem Has.new (N : Nat) : Has N (List.replicate N []) [] where
  len := by simp
  gk := by simp
  yes := by simp
  no := fun x l hx _ hl => by
    have := List.mem_of_getElem? hl
    rw [(List.mem_replicate.1 this).2]; rfl
  nd := fun l hl => by rw [(List.mem_replicate.1 hl).2]; simp
  few := fun l hl => by rw [(List.mem_replicate.1 hl).2]; simp
theorem Has.push {N : Nat} {L : List (List Nd)} {xs : List S24} (h : Has N L xs) {x : S24} {l : List Nd} (hx : Gk x) (hn : x ∉ xs) (hl : L[cN x N]? = some l) (g : Nat) :
    Has N (L.set (cN x N) (⟨g, x.f0, x.f1, x.f2, (xs.length : Int)⟩ :: l)) (xs ++ [x]) where
  len := by rw [List.length_set]; exact h.len
  gk := fun y hy => by
    rcases List.mem_append.1 hy with hy | hy
    · exact h.gk y hy
    · rw [List.mem_singleton.1 hy]; exact hx
  yes := fun j y l' hj hl' => by
    have hlt : cN x N < L.length := (List.getElem?_eq_some_iff.1 hl).1
    by_cases hc : cN x N = cN y N
    · rw [← hc, List.getElem?_set_self hlt] at hl'
      cases hl'
      unfold val
      by_cases hxy : x = y
      · subst hxy
        rw [if_pos (show (⟨g, x.f0, x.f1, x.f2, (xs.length : Int)⟩ : Nd).key = k3 x from rfl)]
        by_cases hjl : j < xs.length
        · rw [List.getElem?_append_left hjl] at hj
          exact absurd (List.mem_of_getElem? hj) hn
        · have : j < (xs ++ [x]).length := (List.getElem?_eq_some_iff.1 hj).1
          rw [List.length_append, List.length_singleton] at this
          have : j = xs.length := by omega
          rw [this]
      · rw [if_neg (show ¬ (⟨g, x.f0, x.f1, x.f2, (xs.length : Int)⟩ : Nd).key = k3 y from fun e => hxy (k3_inj e))]
        have hj2 : xs[j]? = some y := by
          by_cases hjl : j < xs.length
          · rwa [List.getElem?_append_left hjl] at hj
          · rw [List.getElem?_append_right (by omega)] at hj
            have : y ∈ [x] := List.mem_of_getElem? hj
            exact absurd (List.mem_singleton.1 this).symm hxy
        have := h.yes j y l hj2 (hc ▸ hl)
        exact this
    · rw [List.getElem?_set_ne hc] at hl'
      have hj2 : xs[j]? = some y := by
        by_cases hjl : j < xs.length
        · rwa [List.getElem?_append_left hjl] at hj
        · rw [List.getElem?_append_right (by omega)] at hj
          have : y ∈ [x] := List.mem_of_getElem? hj
          exact absurd (by rw [List.mem_singleton.1 this]) hc
      exact h.yes j y l' hj2 hl'
  no := fun y l' hy hny hl' => by
    have hlt : cN x N < L.length := (List.getElem?_eq_some_iff.1 hl).1
    have hny1 : y ∉ xs := fun hh => hny (List.mem_append_left _ hh)
    have hxy : x ≠ y := fun e => hny (List.mem_append_right _ (by simp [e]))
    by_cases hc : cN x N = cN y N
    · rw [← hc, List.getElem?_set_self hlt] at hl'
      cases hl'
      unfold val
      rw [if_neg (show ¬ (⟨g, x.f0, x.f1, x.f2, (xs.length : Int)⟩ : Nd).key = k3 y from fun e => hxy (k3_inj e))]
      exact h.no y l hy hny1 (hc ▸ hl)
    · rw [List.getElem?_set_ne hc] at hl'
      exact h.no y l' hy hny1 hl'
  nd := fun l' hl' => by
    rcases List.mem_or_eq_of_mem_set hl' with hl' | rfl
    · exact h.nd l' hl'
    · rw [List.map_cons, List.nodup_cons]
      exact ⟨val_iff.1 (h.no x l hx hn hl), h.nd l (List.mem_of_getElem? hl)⟩
  few := fun l' hl' => by
    rw [List.length_append, List.length_singleton]
    rcases List.mem_or_eq_of_mem_set hl' with hl' | rfl
    · exact Nat.le_succ_of_le (h.few l' hl')
    · have := h.few l (List.mem_of_getElem? hl)
      rw [List.length_cons]; omega
theorem Has.cut {N : Nat} {L : List (List Nd)} {xs : List S24} (h : Has N L xs) {k : Nat} {x : S24} {l : List Nd} (hk : xs[k]? = some x) (hl : L[cN x N]? = some l) (j : Nat) (z : S24) (l' : List Nd)
    (hj : xs[j]? = some z) (hl' : (L.set (cN x N) (l.eraseIdx (pos (k3 x) l)))[cN z N]? = some l') : val (k3 z) l' = if j = k then none else some (j : Int) := by
  have hlt : cN x N < L.length := (List.getElem?_eq_some_iff.1 hl).1
  have hvx := h.yes k x l hk hl
  by_cases hjk : j = k
  · subst hjk
    rw [if_pos rfl]
    have hzx : x = z := Option.some.inj (hk.symm.trans hj)
    subst hzx
    rw [List.getElem?_set_self hlt] at hl'
    cases hl'
    exact val_erase_self l (h.nd l (List.mem_of_getElem? hl))
  · rw [if_neg hjk]
    have hzx : z ≠ x := by
      rintro rfl
      have := h.yes j z l hj hl
      rw [hvx] at this
      injection this with this
      omega
    by_cases hc : cN x N = cN z N
    · rw [← hc, List.getElem?_set_self hlt] at hl'
      cases hl'
      rw [val_erase_ne (fun e => hzx (k3_inj e))]
      exact h.yes j z l hj (hc ▸ hl)
    · rw [List.getElem?_set_ne hc] at hl'
      exact h.yes j z l' hj hl'
end Go.Proofs.Ytgmdlndiilibpaa.Tab

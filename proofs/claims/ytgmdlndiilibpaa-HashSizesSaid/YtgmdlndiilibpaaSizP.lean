/- HashSizes: what the chains have when they are made anew (plain). -/
import Derived.Test.YtgmdlndiilibpaaTabRs
import Derived.Test.YtgmdlndiilibpaaTabK
import Derived.Test.YtgmdlndiilibpaaTabLo
set_option linter.unusedVariables false
set_option linter.unusedSimpArgs false
namespace Go.Proofs.Ytgmdlndiilibpaa.PH
open Go.RowKit Go.Proofs.YtgmdlndiilibpaaW.PrintWords Go.Proofs.YtgmdlndiilibpaaW.PrintLast Go.Proofs.YtgmdlndiilibpaaW.PrintMore Go.Proofs.Ytgmdlndiilibpaa.Tab
/-- The keys with their places. -/
def prs (xs : List S24) : List ((Int × Int × Int) × Int) := xs.zipIdx.map (fun p => (k3 p.1, (p.2 : Int)))
theorem prs_snoc (xs : List S24) (x : S24) : prs (xs ++ [x]) = prs xs ++ [(k3 x, (xs.length : Int))] := by
  simp [prs, List.zipIdx_append]
theorem prs_mem {xs : List S24} {e : (Int × Int × Int) × Int} : e ∈ prs xs ↔ ∃ (j : Nat) (x : S24), xs[j]? = some x ∧ e = (k3 x, (j : Int)) := by
  unfold prs
  rw [List.mem_map]
  constructor
  · rintro ⟨⟨x, j⟩, h1, rfl⟩
    exact ⟨j, x, by simpa [List.mem_zipIdx_iff_getElem?] using h1, rfl⟩
  · rintro ⟨j, x, h1, rfl⟩
    exact ⟨(x, j), by simpa [List.mem_zipIdx_iff_getElem?] using h1, rfl⟩
theorem prs_fst (xs : List S24) : (prs xs).map Prod.fst = xs.map k3 := by
  unfold prs
  rw [List.map_map]
  have : (Prod.fst ∘ fun p : S24 × Nat => (k3 p.1, (p.2 : Int))) = k3 ∘ Prod.fst := rfl
  rw [this, ← List.map_map, List.zipIdx_map_fst]
/-- What all chains have, in whatever row. -/
def PF (L : List (List Nd)) (xs : List S24) : Prop := (L.flatten.map kv).Perm (prs xs)
theorem PF.new (N : Nat) : PF (List.replicate N []) [] := by
  unfold PF
  have : (List.replicate N ([] : List Nd)).flatten = [] := by simp
  rw [this]
  exact List.Perm.refl _
theorem PF.push {L : List (List Nd)} {xs : List S24} (h : PF L xs) {i g : Nat} {l : List Nd} (x : S24) (hl : L[i]? = some l) : PF (L.set i (⟨g, x.f0, x.f1, x.f2, (xs.length : Int)⟩ :: l)) (xs ++ [x]) := by
  unfold PF at h ⊢
  rw [prs_snoc]
  refine ((flatten_set_perm (x := ⟨g, x.f0, x.f1, x.f2, (xs.length : Int)⟩) hl).map kv).trans ?_
  rw [List.map_cons]
  exact (h.cons _).trans (List.perm_append_singleton _ _).symm
theorem has_nodup {N : Nat} {L : List (List Nd)} {xs : List S24} (h : Has N L xs) (hN : 0 < N) : xs.Nodup := by
  rw [List.nodup_iff_pairwise_ne, List.pairwise_iff_getElem]
  intro i j hi hj hij he
  have hc : cN xs[i] N < L.length := by rw [h.len]; exact cN_lt _ hN
  have h1 := h.yes i xs[i] _ (List.getElem?_eq_getElem hi) (List.getElem?_eq_getElem hc)
  have h2 := h.yes j xs[i] _ (by rw [List.getElem?_eq_getElem hj, he]) (List.getElem?_eq_getElem hc)
  rw [h1] at h2
  have := Option.some.inj h2
  omega
theorem val_mem {n : Nd} : ∀ {l : List Nd}, (l.map Nd.key).Nodup → n ∈ l → val n.key l = some n.v
  | [], _, h => by cases h
  | m :: r, hn, h => by
    rw [List.map_cons, List.nodup_cons] at hn
    unfold val
    by_cases hk : m.key = n.key
    · rw [if_pos hk]
      rcases List.mem_cons.1 h with rfl | h
      · rfl
      · exact absurd (by rw [hk]; exact List.mem_map_of_mem h) hn.1
    · rw [if_neg hk]
      rcases List.mem_cons.1 h with rfl | h
      · exact absurd rfl hk
      · exact val_mem hn.2 h
/-- The chain of a key, at N chains. -/
def chK (N : Nat) (k : Int × Int × Int) : Nat := cN ⟨k.1, k.2.1, k.2.2⟩ N
theorem chK_k3 (N : Nat) (x : S24) : chK N (k3 x) = cN x N := rfl
theorem PF.ch {L : List (List Nd)} {xs : List S24} (h : PF L xs) (hg : ∀ x ∈ xs, Gk x) {N : Nat} (h0 : 0 < N) (hN : N ≤ 10000000) : ∀ m ∈ L.flatten, chK N m.key < N ∧ hash_Chain.f m.sp m.va m.sz (N : Int) = some ((chK N m.key : Nat) : Int) := by
  intro m hm
  have h1 : kv m ∈ prs xs := h.mem_iff.1 (List.mem_map_of_mem hm)
  obtain ⟨j, x, hj, e⟩ := prs_mem.1 h1
  have hx := hg x (List.mem_of_getElem? hj)
  have e2 : m.key = k3 x := congrArg Prod.fst e
  rw [e2, chK_k3]
  refine ⟨cN_lt x h0, ?_⟩
  have e3 := hx.ch h0 hN
  simp only [Nd.key, k3, Prod.mk.injEq] at e2
  rw [e2.1, e2.2.1, e2.2.2]
  exact e3
theorem PF.len {L : List (List Nd)} {xs : List S24} (h : PF L xs) : L.flatten.length = xs.length := by
  have := h.length_eq
  rw [List.length_map] at this
  exact this.trans (by simp [prs])
theorem has_redo {N N' : Nat} {L L' : List (List Nd)} {xs : List S24} (h : Has N L xs) (hp : PF L xs) (h0 : 0 < N) (h0' : 0 < N') (hr : L'.map (List.map kv) = PH.redo (chK N') N' (L.flatten.map kv)) : Has N' L' xs := by
  have hxn := has_nodup h h0
  have hkn : ((L.flatten.map kv).map Prod.fst).Nodup := by
    have h1 := hp.map Prod.fst
    rw [prs_fst] at h1
    refine h1.nodup_iff.2 ?_
    rw [List.nodup_iff_pairwise_ne, List.pairwise_map]
    exact (List.nodup_iff_pairwise_ne.1 hxn).imp (fun hne e => hne (k3_inj e))
  have hlen : L'.length = N' := dist_len hr
  have hch : ∀ (i : Nat) (l : List Nd), L'[i]? = some l → l.map kv = (L.flatten.map kv).filter (fun y => decide (chK N' y.1 = i)) ∧ l.length ≤ (L.flatten.map kv).length := fun i l hl => by
    have hi : i < N' := by rw [← hlen]; exact (List.getElem?_eq_some_iff.1 hl).1
    obtain ⟨l2, h1, h2, h3⟩ := dist_chain hr hi
    rw [hl] at h1
    obtain rfl := Option.some.inj h1
    exact ⟨h2, h3⟩
  have hkey : ∀ l : List Nd, l.map Nd.key = (l.map kv).map Prod.fst := fun l => by rw [List.map_map]; rfl
  have hnd : ∀ (i : Nat) (l : List Nd), L'[i]? = some l → (l.map Nd.key).Nodup := fun i l hl => by
    rw [hkey, (hch i l hl).1]
    exact hkn.sublist (List.filter_sublist.map _)
  refine ⟨hlen, h.gk, fun j x l hj hl => ?_, fun x l hx hn hl => ?_, fun l hl => ?_, fun l hl => ?_⟩
  · have h1 : (k3 x, (j : Int)) ∈ l.map kv := by
      rw [(hch _ l hl).1, List.mem_filter]
      exact ⟨hp.mem_iff.2 (prs_mem.2 ⟨j, x, hj, rfl⟩), by simp [chK_k3]⟩
    obtain ⟨n, hn, e⟩ := List.mem_map.1 h1
    have e1 : n.key = k3 x := congrArg Prod.fst e
    have e2 : n.v = (j : Int) := congrArg Prod.snd e
    rw [← e1, ← e2]
    exact val_mem (hnd _ l hl) hn
  · rw [val_iff]
    intro hm
    obtain ⟨n, hn', e⟩ := List.mem_map.1 hm
    have h1 : kv n ∈ l.map kv := List.mem_map_of_mem hn'
    rw [(hch _ l hl).1, List.mem_filter] at h1
    obtain ⟨j, y, hj, e3⟩ := prs_mem.1 (hp.mem_iff.1 h1.1)
    have e4 : n.key = k3 y := congrArg Prod.fst e3
    rw [e] at e4
    exact hn (by rw [k3_inj e4]; exact List.mem_of_getElem? hj)
  · obtain ⟨i, hi, rfl⟩ := List.getElem_of_mem hl
    exact hnd i _ (List.getElem?_eq_getElem hi)
  · obtain ⟨i, hi, rfl⟩ := List.getElem_of_mem hl
    have := (hch i _ (List.getElem?_eq_getElem hi)).2
    rw [List.length_map, hp.len] at this
    exact this
theorem mv_of1 {S : List Nat} {b : Nat} {w w' : World} (h : Mv [b] w w') (hb : b ∈ S) : Mv S w w' := ⟨h.os, h.tape, h.output, h.size, fun k hk hn => h.block k hk (fun e => hn (by rw [List.mem_singleton.1 e]; exact hb))⟩
end Go.Proofs.Ytgmdlndiilibpaa.PH


/- slices.Backward over a row of blocks: the iterator's contract. -/
import Derived.Test.YtgmdlndiilibpaaIter
set_option linter.unusedVariables false
set_option linter.unusedSimpArgs false
namespace Go.Proofs.Ytgmdlndiilibpaa.PH
open Go.RowKit Go.Shelf Go.Proofs.YtgmdlndiilibpaaW.PrintWords Go.Proofs.YtgmdlndiilibpaaW.PrintLast Go.Proofs.YtgmdlndiilibpaaW.PrintMore Go.Proofs.Ytgmdlndiilibpaa.Tab
attribute [local go_sem] Oper.semAt_some
/-- The pointer to a block. -/
def pv (k : Nat) : Value := .pointer (some ⟨k, 0, none⟩)
/-- What Backward yields: the places from the last down. -/
def bkQ (ks : List Nat) : List (Int × Nat) := (List.range ks.length).map (fun j => (((ks.length - 1 - j : Nat) : Int), ks.getD (ks.length - 1 - j) 0))
theorem bkQ_len (ks : List Nat) : (bkQ ks).length = ks.length := by simp [bkQ]
theorem bkQ_take {ks : List Nat} {p : Nat} (h : p < ks.length) : (bkQ ks).take (ks.length - p) = (bkQ ks).take (ks.length - (p + 1)) ++ [((p : Int), ks[p])] := by
  have e : ks.length - p = (ks.length - (p + 1)) + 1 := by omega
  have hlt : ks.length - (p + 1) < (bkQ ks).length := by rw [bkQ_len]; omega
  rw [e, List.take_succ_eq_append_getElem hlt]
  congr 2
  simp only [bkQ, List.getElem_map, List.getElem_range]
  have e2 : ks.length - 1 - (ks.length - (p + 1)) = p := by omega
  rw [e2, List.getD_eq_getElem?_getD, List.getElem?_eq_getElem h]
  rfl
theorem bkQ_snd (ks : List Nat) : (bkQ ks).map Prod.snd = ks.reverse := by
  apply List.ext_getElem
  · simp [bkQ]
  · intro i h1 h2
    simp only [List.length_reverse] at h2
    simp only [bkQ, List.map_map, List.getElem_map, List.getElem_range, Function.comp, List.getElem_reverse]
    rw [List.getD_eq_getElem?_getD, List.getElem?_eq_getElem (by omega)]
    rfl
/-- The blocks below n₀, but those of S, stay. -/
def KpB (n₀ : Nat) (S : List Nat) (W W' : World) : Prop := W.heap.size ≤ W'.heap.size ∧ ∀ k, k < n₀ → k ∉ S → W'.heap[k]? = W.heap[k]?
theorem KpB.refl (n₀ : Nat) (S : List Nat) (W : World) : KpB n₀ S W W := ⟨Nat.le_refl _, fun _ _ _ => rfl⟩
theorem KpB.trans {n₀ : Nat} {S : List Nat} {A B C : World} (h : KpB n₀ S A B) (k : KpB n₀ S B C) : KpB n₀ S A C := ⟨Nat.le_trans h.1 k.1, fun i h1 h2 => (k.2 i h1 h2).trans (h.2 i h1 h2)⟩
theorem KpB.of_below {n₀ : Nat} {S : List Nat} {A B : World} (h : Below n₀ A B) : KpB n₀ S A B := ⟨h.size, fun k hk _ => h.block k hk⟩
theorem KpB.cell {n₀ : Nat} {S : List Nat} {A B : World} (h : KpB n₀ S A B) {p : Addr} (h1 : p.block < n₀) (h2 : p.block ∉ S) : B.cell? p = A.cell? p := by
  unfold World.cell?
  rw [h.2 _ h1 h2]
set_option maxHeartbeats 4000000 in
set_option maxRecDepth 100000 in
theorem back_calls (F : Fence) (n : Nat) (h78 : F.fn 78) (hro : F.round = none) (A : Option Addr) (m c : Nat) (w : World) :
    CallsIn F n Try.prog 78 #[.slice A m c] w fun e w' => e = .returned (.func (.func 94) #[] #[.pointer (some ⟨w.heap.size, 0, none⟩)]) ∧ w' = w.alloc (.cells #[.slice A m c] 114) := by
  refine callsIn_of_wp Try.func78 rfl h78 ?_ hro
  simp only [Try.ntmps78, List.size_toArray, List.length_cons, List.length_nil, Nat.reduceAdd, Nat.reduceSub, Array.replicate_succ, Array.replicate_zero, List.push_toArray, List.append_toArray, List.nil_append, List.cons_append]
  gi_wp2
  go_ret
  exact ⟨rfl, rfl⟩
theorem q_len {α : Type} {f : α → Int × Nat} {ks : List Nat} {Q : List α} (hQ : Q.map f = bkQ ks) : Q.length = ks.length := by
  have := congrArg List.length hQ
  rwa [List.length_map, bkQ_len] at this
theorem q_take {α : Type} {f : α → Int × Nat} {ks : List Nat} {Q : List α} (hQ : Q.map f = bkQ ks) {p : Nat} (h : p < ks.length) : ∃ x, Q.take (ks.length - p) = Q.take (ks.length - (p + 1)) ++ [x] ∧ f x = ((p : Int), ks[p]) := by
  have hl := q_len hQ
  have e : ks.length - p = (ks.length - (p + 1)) + 1 := by omega
  have hlt : ks.length - (p + 1) < Q.length := by omega
  refine ⟨Q[ks.length - (p + 1)], ?_, ?_⟩
  · rw [e, List.take_succ_eq_append_getElem hlt]
  · have h1 := bkQ_take h
    rw [← hQ, ← List.map_take, ← List.map_take, e, List.take_succ_eq_append_getElem hlt, List.map_append] at h1
    have h2 := List.append_cancel_left h1
    simpa using h2
/-- Each of a list as an element that bears what it is. -/
theorem lift_list {α : Type} (p : α → Prop) : ∀ (l : List α), (∀ x ∈ l, p x) → ∃ Q : List { x : α // p x }, Q.map Subtype.val = l
  | [], _ => ⟨[], rfl⟩
  | a :: l, h => by
    obtain ⟨Q, hQ⟩ := lift_list p l (fun x hx => h x (List.mem_cons_of_mem _ hx))
    exact ⟨⟨a, h a List.mem_cons_self⟩ :: Q, by rw [List.map_cons, hQ]⟩
set_option maxHeartbeats 4000000 in
set_option maxRecDepth 100000 in
theorem back1_in {α : Type} (f : α → Int × Nat) (n : Nat) (hn : 1 ≤ n) (lq Bn n₀ : Nat) (S : List Nat) (A : Option Addr) (c : Nat) (ks : List Nat) (hmx : ks.length ≤ 1000000000000) (hlc : ks.length ≤ c) (Q : List α) (hQ : Q.map f = bkQ ks) (J Jx : List α → World → Prop)
    (hY : ∀ pre x W, J pre W → pre.length < Q.length → YieldAt Fence.wide (n - 1) Try.prog lq #[.int .i64 (f x).1, pv (f x).2] W fun e W' =>
      (e = .returned (.bool true) ∧ J (pre ++ [x]) W' ∧ KpB n₀ S W W') ∨ (e = .returned (.bool false) ∧ Jx (pre ++ [x]) W'))
    (W : World) (hB0 : Bn < n₀) (hBS : Bn ∉ S) (hBn : W.cell? ⟨Bn, 0, none⟩ = some (.slice A ks.length c))
    (hA : ∀ i (h : i < ks.length), ∃ g, A = some ⟨g, 0, none⟩ ∧ g < n₀ ∧ g ∉ S ∧ W.cell? ⟨g, i, none⟩ = some (pv ks[i])) (h0 : J [] W) :
    CallsIn Fence.wide n Try.prog 94 #[.func (.yield lq) #[] #[], .pointer (some ⟨Bn, 0, none⟩)] W fun e W' => (∃ v, e = .returned v) ∧
      ((∃ ys, ys = Q ∧ J ys W') ∨ (∃ pre, pre <+: Q ∧ Jx pre W')) := by
  have HQ := Aside0.mk hQ
  clear hQ
  have HA := Aside0.mk hA
  have HY := Aside0.mk hY
  have HBN := Aside0.mk hBn
  have HBS := Aside0.mk hBS
  clear hA hY hBS
  refine callsIn_of_wp Try.func94 rfl trivial ?_ rfl
  simp only [Try.ntmps94, List.size_toArray, List.length_cons, List.length_nil, Nat.reduceAdd, Nat.reduceSub, Array.replicate_succ, Array.replicate_zero, List.push_toArray, List.append_toArray, List.nil_append, List.cons_append]
  gi_wp2
  clear hBn
  gi_loopw [3] (fun iv wr => ∃ m : Nat, iv = .int .i64 ((m : Int) - 1) ∧ m ≤ ks.length ∧ J (Q.take (ks.length - m)) wr ∧ Aside0 (KpB n₀ S W wr)) (fun iv _ => (intOf iv + 1).toNat)
  case atStart => exact ⟨ks.length, rfl, Nat.le_refl _, by simpa using h0, ⟨KpB.refl _ _ _⟩⟩
  case round =>
    obtain ⟨m, rfl, hm, hJ, HK⟩ := hrel
    rcases m with _ | p
    · have hJ' : J Q wr := by
        have : Q.take (ks.length - 0) = Q := List.take_of_length_le (by rw [q_len HQ.out]; omega)
        rwa [this] at hJ
      have HJ := Aside0.mk hJ'
      clear hJ hJ' h0
      gi_wp2
      go_end0
      exact ⟨⟨_, rfl⟩, .inl ⟨_, rfl, HJ.out⟩⟩
    · have hpl : p < ks.length := by omega
      obtain ⟨g, eA, hg0, hgS, hgc⟩ := HA.out p hpl
      subst eA
      have cB : wr.cell? ⟨Bn, 0, none⟩ = some (.slice (some ⟨g, 0, none⟩) ks.length c) := (HK.out.cell (p := ⟨Bn, 0, none⟩) hB0 HBS.out).trans HBN.out
      have cg : wr.cell? ⟨g, p, none⟩ = some (.pointer (some ⟨ks[p], 0, none⟩)) := (HK.out.cell (p := ⟨g, p, none⟩) hg0 hgS).trans hgc
      have e1 : ((p + 1 : Nat) : Int) - 1 = (p : Int) := by omega
      rw [e1]
      obtain ⟨x, htk, hfx⟩ := q_take HQ.out hpl
      have hq : (Q.take (ks.length - (p + 1))).length < Q.length := by rw [List.length_take, q_len HQ.out]; omega
      obtain ⟨fn, tmps, assign, body, hy, hR⟩ := HY.out _ x _ hJ hq
      rw [hfx] at hy
      dsimp only [pv] at hy
      have hR2 := hR.mono (R' := fun e W' => (e = .returned (.bool true) ∧ J (Q.take (ks.length - p)) W' ∧ KpB n₀ S wr W') ∨ (e = .returned (.bool false) ∧ Jx (Q.take (ks.length - p)) W')) (fun e W' h => by rw [htk]; exact h)
      have hp0 : (0 : Int) ≤ (p : Int) := by omega
      have hp1 : (p : Int) < (ks.length : Int) := by omega
      generalize ks[p] = kp at *
      clear htk hfx hq hR hgc e1 hJ h0
      gi_wp2
      refine hR2.mono ?_
      rintro e W3 (⟨rfl, hJ3, hk3⟩ | ⟨rfl, hJx3⟩)
      · have HK3 := Aside0.mk (HK.out.trans hk3)
        have HJ3 := Aside0.mk hJ3
        clear hJ3 hk3 HK cB cg hy hR2
        gi_wp2
        go_roundw
        case rel => exact ⟨p, by first | rfl | go_num, by omega, HJ3.out, HK3⟩
        case measure => simp [intOf]
      · have HJx := Aside0.mk hJx3
        clear hJx3
        gi_wp2
        refine bodyPost_ret (results_none rfl _ _ _) rfl ?_
        exact ⟨⟨_, rfl⟩, .inr ⟨_, List.take_prefix _ _, HJx.out⟩⟩
/-- What Backward hands back, as a contract for callers. -/
theorem back_stops {α : Type} (f : α → Int × Nat) (n : Nat) (hn : 1 ≤ n) (Bn n₀ : Nat) (S : List Nat) (A : Option Addr) (c : Nat) (ks : List Nat) (hmx : ks.length ≤ 1000000000000) (hlc : ks.length ≤ c) (Q : List α) (hQ : Q.map f = bkQ ks) (w : World) (hn₀ : n₀ ≤ w.heap.size) (hB0 : Bn < n₀) (hBS : Bn ∉ S)
    (hc : w.cell? ⟨Bn, 0, none⟩ = some (.slice A ks.length c)) (hA : ∀ i (h : i < ks.length), ∃ g, A = some ⟨g, 0, none⟩ ∧ g < n₀ ∧ g ∉ S ∧ w.cell? ⟨g, i, none⟩ = some (pv ks[i])) :
    SeqStopsK Fence.wide n Try.prog 94 #[.pointer (some ⟨Bn, 0, none⟩)] (fun x : α => #[.int .i64 (f x).1, pv (f x).2]) (KpB n₀ S) (fun ys => ys = Q) (fun pre => pre <+: Q) Q.length w := fun l J Jx W hW hJ _ hY h0 =>
  back1_in f n hn l Bn n₀ S A c ks hmx hlc Q hQ J Jx hY W hB0 hBS ((hW.cell (p := ⟨Bn, 0, none⟩) (Nat.lt_of_lt_of_le hB0 hn₀)).trans hc) (fun i h => by
    obtain ⟨g, e, h1, h2, h3⟩ := hA i h
    exact ⟨g, e, h1, h2, (hW.cell (p := ⟨g, i, none⟩) (Nat.lt_of_lt_of_le h1 hn₀)).trans h3⟩) h0
end Go.Proofs.Ytgmdlndiilibpaa.PH


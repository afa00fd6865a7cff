/- A pool of numbers (layer 14): how many are free; a number made a space's. Written by mkctxo.py over ctxo.txt. -/
import Derived.Test.YtcbnmmkmgpbfiaaCtxP
namespace Go.Proofs.Ytcbnmmkmgpbfiaa.PP
open Go.RowKit Go.Proofs.Ytcbnmmkmgpbfiaa.PX Go.Proofs.YtcbnmmkmgpbfiaaW.PrintWords Go.Proofs.YtcbnmmkmgpbfiaaW.PrintLast Go.Proofs.YtcbnmmkmgpbfiaaW.PrintMore
attribute [local go_sem] max2_int min2_int max_two min_two max_three min_three max_four min_four   -- for this text's walks alone
set_option linter.unusedVariables false
set_option linter.unusedSimpArgs false
/-- What stays beside some blocks. -/
structure Mv (S : List Nat) (w w' : World) : Prop where
  os : w'.os = w.os
  tape : w'.tape = w.tape
  output : w'.output = w.output
  size : w.heap.size ≤ w'.heap.size
  block : ∀ k, k < w.heap.size → k ∉ S → w'.heap[k]? = w.heap[k]?
theorem Mv.of_below {S : List Nat} {w w' : World} (h : Below w.heap.size w w') : Mv S w w' := ⟨h.os, h.tape, h.output, h.size, fun k hk _ => h.block k hk⟩
theorem Mv.below {S : List Nat} {B : Nat} {w w' : World} (h : Mv S w w') (hB : B ≤ w.heap.size) (hS : ∀ k ∈ S, B ≤ k) : Below B w w' :=
  ⟨h.os, h.tape, h.output, h.size, fun k hk => h.block k (Nat.lt_of_lt_of_le hk hB) (fun hm => Nat.not_lt.2 (hS k hm) hk)⟩
theorem Mv.trans {S S' : List Nat} {w w1 w2 : World} (h : Mv S w w1) (h' : Mv S' w1 w2) (hS : ∀ k ∈ S', k ∈ S ∨ w.heap.size ≤ k) : Mv S w w2 :=
  ⟨h'.os.trans h.os, h'.tape.trans h.tape, h'.output.trans h.output, Nat.le_trans h.size h'.size, fun k hk hn => (h'.block k (Nat.lt_of_lt_of_le hk h.size) (fun hm => (hS k hm).elim hn (fun h => Nat.not_lt.2 h hk))).trans (h.block k hk hn)⟩
theorem Mv.set {S : List Nat} {w W : World} {p : Addr} (h : Mv S w W) (hp : p.block ∈ S ∨ w.heap.size ≤ p.block) (u : Value) : Mv S w (W.setCell p u) :=
  ⟨h.os, h.tape, h.output, by have : (W.setCell p u).heap.size = W.heap.size := by simp [World.setCell]
                              rw [this]; exact h.size, fun k hk hn => (Below.heap_setCell W p u k (fun e => hp.elim (fun h => hn (e ▸ h)) (fun h => by omega))).trans (h.block k hk hn)⟩
theorem Mv.setBlock {S : List Nat} {w W : World} {b : Nat} (h : Mv S w W) (hp : b ∈ S) (o : Obj) : Mv S w (ChangeMaps.setBlock W b o) :=
  ⟨h.os, h.tape, h.output, by have : (ChangeMaps.setBlock W b o).heap.size = W.heap.size := by simp [ChangeMaps.setBlock]
                              rw [this]; exact h.size, fun k hk hn => by
    have e : k ≠ b := fun e => hn (e ▸ hp)
    have : (ChangeMaps.setBlock W b o).heap[k]? = W.heap[k]? := by simp [ChangeMaps.setBlock, Array.getElem?_setIfInBounds, Ne.symm e]
    exact this.trans (h.block k hk hn)⟩
theorem sb_other {W : World} {b k : Nat} (o : Obj) (e : k ≠ b) : (ChangeMaps.setBlock W b o).heap[k]? = W.heap[k]? := by simp [ChangeMaps.setBlock, Array.getElem?_setIfInBounds, Ne.symm e]
theorem sb_same {W : World} {b : Nat} (o : Obj) (hb : b < W.heap.size) : (ChangeMaps.setBlock W b o).heap[b]? = some o := by simp [ChangeMaps.setBlock, Array.getElem?_setIfInBounds, hb]
theorem pid_ge {w : World} {base B bm : Nat} {vo : Value} {os : List Int} {f : Int → Option Int} {c : Nat} {hand rounds : Int} (h : PA w base B bm vo os f c hand rounds) : ∀ k ∈ pid B bm vo, base ≤ k := fun k hk => (h.typed hk).1
theorem pid_lt {w : World} {base B bm : Nat} {vo : Value} {os : List Int} {f : Int → Option Int} {c : Nat} {hand rounds : Int} (h : PA w base B bm vo os f c hand rounds) : ∀ k ∈ pid B bm vo, k < w.heap.size := fun k hk => (h.typed hk).2
section
variable {w w1 w' : World} {base B bm : Nat} {vo : Value} {os : List Int} {f : Int → Option Int} {c : Nat} {hand rounds : Int}
set_option maxHeartbeats 4000000 in
set_option maxRecDepth 100000 in
theorem free_calls (h : PA w base B bm vo os f c hand rounds) (hl : os.length ≤ 100000) (hc : c ≤ 100000) : Calls Try.prog 35 #[.pointer (some ⟨B, 0, none⟩)] w fun e w' => e = .returned (.int .i64 ((os.length : Int) - (c : Int))) ∧ Below w.heap.size w w' := by
  have c0 := h.cell0
  have c1 := h.cell1
  have hm := h.hM
  have hw : wrap64 ((os.length : Int) - (c : Int)) = (os.length : Int) - (c : Int) := by unfold wrap64; omega
  obtain ⟨A, cap, rfl⟩ := h.form
  clear h
  go_enter Try.func35, Try.ntmps35
  go_wp2_with fail
  refine start_ (n := 12) (S := fun w' => w'.cell? ⟨B, 0, none⟩ = some (.slice A os.length cap) ∧ w'.cell? ⟨B, 1, none⟩ = some (.map (some bm)) ∧ PM w' bm f c) (ds := []) #[false, false, false, false, false, false, false, false, false, false, false, false] (by kernel_rfl) rfl rfl ⟨c0, c1, hm⟩ (fun hHeld => ?_)
  refine pure_ (i := 0) (N := some 3) (v := ?_) (a' := ?_) #[true, false, false, false, false, false, false, false, false, false, false, false] rfl rfl (by kernel_rfl) (fun _ _ _ h => h) (Or.inl ⟨by rfl, ?_⟩) ?_ ?_
  rotate_left
  · intro w'
    go_simp
    with_reducible rfl
  rotate_left
  · simp only [Act.put, List.setIfInBounds_toArray, List.set_cons_zero, List.set_cons_succ, i64_w, i32_w]
    rfl
  refine pure_ (i := 1) (N := some 4) (v := ?_) (a' := ?_) #[true, true, false, false, false, false, false, false, false, false, false, false] rfl rfl (by kernel_rfl) (fun _ _ _ h => h) (Or.inl ⟨by rfl, ?_⟩) ?_ ?_
  rotate_left
  · intro w'
    go_simp
    with_reducible rfl
  rotate_left
  · simp only [Act.put, List.setIfInBounds_toArray, List.set_cons_zero, List.set_cons_succ, i64_w, i32_w]
    rfl
  refine pure_ (i := 2) (N := some 5) (v := ?_) (a' := ?_) #[true, true, true, false, false, false, false, false, false, false, false, false] rfl rfl (by kernel_rfl) (fun _ _ _ h => h) (Or.inl ⟨by rfl, ?_⟩) ?_ ?_
  rotate_left
  · intro w'
    go_simp
    with_reducible rfl
  rotate_left
  · simp only [Act.put, List.setIfInBounds_toArray, List.set_cons_zero, List.set_cons_succ, i64_w, i32_w]
    rfl
  refine pure_ (i := 5) (N := some 8) (v := ?_) (a' := ?_) #[true, true, true, false, false, true, false, false, false, false, false, false] rfl rfl (by kernel_rfl) (fun _ _ _ h => h) (Or.inl ⟨by rfl, ?_⟩) ?_ ?_
  rotate_left
  · intro w'
    go_simp
    with_reducible rfl
  rotate_left
  · simp only [Act.put, List.setIfInBounds_toArray, List.set_cons_zero, List.set_cons_succ, i64_w, i32_w]
    rfl
  refine pure_ (i := 6) (N := some 9) (v := ?_) (a' := ?_) #[true, true, true, false, false, true, true, false, false, false, false, false] rfl rfl (by kernel_rfl) (fun _ _ _ h => h) (Or.inl ⟨by rfl, ?_⟩) ?_ ?_
  rotate_left
  · intro w'
    go_simp
    with_reducible rfl
  rotate_left
  · simp only [Act.put, List.setIfInBounds_toArray, List.set_cons_zero, List.set_cons_succ, i64_w, i32_w]
    rfl
  refine pure_ (i := 7) (N := some 10) (v := ?_) (a' := ?_) #[true, true, true, false, false, true, true, true, false, false, false, false] rfl rfl (by kernel_rfl) (fun _ _ _ h => h) (Or.inl ⟨by rfl, ?_⟩) ?_ ?_
  rotate_left
  · intro w'
    go_simp
    with_reducible rfl
  rotate_left
  · simp only [Act.put, List.setIfInBounds_toArray, List.set_cons_zero, List.set_cons_succ, i64_w, i32_w]
    rfl
  refine take_ (i := 3) (N := some 6) (v := ?_) (a' := ?_) #[true, true, true, true, false, true, true, true, false, false, false, false] rfl rfl (by kernel_rfl) (fun _ _ _ h => h) (Or.inl ⟨by rfl, ?_⟩) hHeld ?_ ?_
  rotate_left
  · rintro w' ⟨s0, s1, s2⟩
    have hln := s2.len
    go_simp
    with_reducible rfl
  rotate_left
  · simp only [Act.put, List.setIfInBounds_toArray, List.set_cons_zero, List.set_cons_succ, i64_w, i32_w]
    rfl
  refine pure_ (i := 4) (N := some 7) (v := ?_) (a' := ?_) #[true, true, true, true, true, true, true, true, false, false, false, false] rfl rfl (by kernel_rfl) (fun _ _ _ h => h) (Or.inl ⟨by rfl, ?_⟩) ?_ ?_
  rotate_left
  · intro w'
    go_simp
    with_reducible rfl
  rotate_left
  · simp only [Act.put, List.setIfInBounds_toArray, List.set_cons_zero, List.set_cons_succ, i64_w, i32_w]
    rfl
  refine take_ (i := 8) (N := some 11) (v := ?_) (a' := ?_) #[true, true, true, true, true, true, true, true, true, false, false, false] rfl rfl (by kernel_rfl) (fun _ _ _ h => h) (Or.inl ⟨by rfl, ?_⟩) hHeld ?_ ?_
  rotate_left
  · rintro w' ⟨s0, s1, s2⟩
    have hln := s2.len
    go_simp
    with_reducible rfl
  rotate_left
  · simp only [Act.put, List.setIfInBounds_toArray, List.set_cons_zero, List.set_cons_succ, i64_w, i32_w]
    rfl
  refine take_ (i := 9) (N := some 12) (v := ?_) (a' := ?_) #[true, true, true, true, true, true, true, true, true, true, false, false] rfl rfl (by kernel_rfl) (fun _ _ _ h => h) (Or.inl ⟨by rfl, ?_⟩) hHeld ?_ ?_
  rotate_left
  · rintro w' ⟨s0, s1, s2⟩
    have hln := s2.len
    go_simp
    with_reducible rfl
  rotate_left
  · simp only [Act.put, List.setIfInBounds_toArray, List.set_cons_zero, List.set_cons_succ, i64_w, i32_w]
    rfl
  refine pure_ (i := 10) (N := some 13) (v := ?_) (a' := ?_) #[true, true, true, true, true, true, true, true, true, true, true, false] rfl rfl (by kernel_rfl) (fun _ _ _ h => h) (Or.inl ⟨by rfl, ?_⟩) ?_ ?_
  rotate_left
  · intro w'
    go_simp
    with_reducible rfl
  rotate_left
  · simp only [Act.put, List.setIfInBounds_toArray, List.set_cons_zero, List.set_cons_succ, i64_w, i32_w]
    rfl
  refine pure_ (i := 11) (N := some 2) (v := ?_) (a' := ?_) #[true, true, true, true, true, true, true, true, true, true, true, true] rfl rfl (by kernel_rfl) (fun _ _ _ h => h) (Or.inl ⟨by rfl, ?_⟩) ?_ ?_
  rotate_left
  · intro w'
    go_simp
    with_reducible rfl
  rotate_left
  · simp only [Act.put, List.setIfInBounds_toArray, List.set_cons_zero, List.set_cons_succ, i64_w, i32_w]
    rfl
  refine done_ (by kernel_rfl) ?_
  (try simp only [Exit.inBlock, Exit.then])
  go_wp2
  go_ret
  exact ⟨rfl, (Below.refl _ _).drew⟩
theorem PA.setr (h : PA w base B bm vo os f c hand rounds) (r' : Int) : PA (w.setCell ⟨B, 3, none⟩ (.int .i64 r')) base B bm vo os f c hand r' where
  hB := blk_put h.hB 3 (.int .i64 r') rfl
  hO := Kd.R_move h.hO (fun k hk => Below.heap_setCell w ⟨B, 3, none⟩ _ k (h.ne_o hk.symm).1)
  hM := h.hM.move (Below.heap_setCell w ⟨B, 3, none⟩ _ bm (Ne.symm h.ne_Bm))
  bB := h.bB
  bM := h.bM
theorem PA.seth (h : PA w base B bm vo os f c hand rounds) (h' : Int) : PA (w.setCell ⟨B, 2, none⟩ (.int .i64 h')) base B bm vo os f c h' rounds where
  hB := blk_put h.hB 2 (.int .i64 h') rfl
  hO := Kd.R_move h.hO (fun k hk => Below.heap_setCell w ⟨B, 2, none⟩ _ k (h.ne_o hk.symm).1)
  hM := h.hM.move (Below.heap_setCell w ⟨B, 2, none⟩ _ bm (Ne.symm h.ne_Bm))
  bB := h.bB
  bM := h.bM
def OwnR (base B bm : Nat) (vo : Value) (os : List Int) (f : Int → Option Int) (c : Nat) (hand rounds : Int) (i : Nat) (s : Int) (w' : World) : Prop :=
  PA w' base B bm vo (os.set i s) (fun j => if j = s then some ((i : Int) + 1) else f j) (c + (if (f s).isSome then 0 else 1)) (((i : Int) + 1) % (os.length : Int) + 1) (rounds + (if (i : Int) + 1 < hand ∨ i + 1 = os.length then 1 else 0))
def OwnP (base B bm : Nat) (vo : Value) (os : List Int) (f : Int → Option Int) (c : Nat) (hand rounds : Int) (i : Nat) (s : Int) (w : World) (e : Ending) (w' : World) : Prop :=
  e = .returned (.tuple #[]) ∧
      OwnR base B bm vo os f c hand rounds i s w' ∧ Mv (pid B bm vo) w w'
set_option maxHeartbeats 8000000 in
set_option maxRecDepth 100000 in
theorem own_calls (h : PA w base B bm vo os f c hand rounds) (i : Nat) (hi : i < os.length) (s : Int) (hs : Wf s) (hl : os.length ≤ 10000) (hc : c < 1000000) (hr : -1000000000 ≤ rounds ∧ rounds ≤ 1000000000) (hh : Wf hand) :
    Calls Try.prog 70 #[.pointer (some ⟨B, 0, none⟩), .int .i64 ((i : Int) + 1), .int .i64 s] w (OwnP base B bm vo os f c hand rounds i s w) := by
  have c0 := h.cell0
  have c1 := h.cell1
  obtain ⟨g, cap, hvo, hcg, hfg, hcap⟩ := h.at hi
  subst hvo
  have hgB := (h.ne_o (g := g) (by simp [Value.ownBlock])).1
  have hgm := (h.ne_o (g := g) (by simp [Value.ownBlock])).2
  have hBm := h.ne_Bm
  have hmd : PM ((w.setCell ⟨g, i, none⟩ (.int .i64 s)).drew) bm f c := h.hM.move (Below.heap_setCell w ⟨g, i, none⟩ (.int .i64 s) bm (Ne.symm hgm))
  obtain ⟨v0, st, o1, hr1, o2, hr2⟩ := hmd.put hs (show Wf ((i : Int) + 1) by unfold Wf; omega) hc
  have hbl : bm < ((w.setCell ⟨g, i, none⟩ (.int .i64 s)).drew).heap.size := hmd.lt
  obtain ⟨hr3, hpm⟩ := hr2 _ (sb_same o1 hbl)
  have hr4 : (Instr.entryStore 101 (.map (some bm)) (.int .i64 (st : Int)) (.int .i64 ((i : Int) + 1))).run Try.prog (ChangeMaps.setBlock ((w.setCell ⟨g, i, none⟩ (.int .i64 s)).drew) bm o1) = _ := hr3
  clear hr3
  have HP := Aside0.mk h
  have HPM := Aside0.mk hpm
  clear hmd hr2 h hpm
  have hil : (i : Int) < (os.length : Int) := by omega
  have hi0 : (0 : Int) ≤ (i : Int) := by omega
  have hwi : wrap64 (i : Int) = (i : Int) := by unfold wrap64; omega
  go_enter Try.func70, Try.ntmps70
  go_wp2_with fail
  refine start_ (n := 18) (S := fun w' => w'.cell? ⟨B, 0, none⟩ = some (.slice (some ⟨g, 0, none⟩) os.length cap) ∧ w'.cell? ⟨B, 1, none⟩ = some (.map (some bm))) (ds := []) #[false, false, false, false, false, false, false, false, false, false, false, false, false, false, false, false, false, false] (by kernel_rfl) rfl rfl ⟨c0, c1⟩ (fun hHeld => ?_)
  refine pure_ (i := 0) (N := some 6) (v := ?_) (a' := ?_) #[true, false, false, false, false, false, false, false, false, false, false, false, false, false, false, false, false, false] rfl rfl (by kernel_rfl) (fun _ _ _ h => h) (Or.inl ⟨by rfl, ?_⟩) ?_ ?_
  rotate_left
  · intro w'
    go_simp
    with_reducible rfl
  rotate_left
  · simp only [Act.put, List.setIfInBounds_toArray, List.set_cons_zero, List.set_cons_succ, i64_w, i32_w]
    rfl
  refine pure_ (i := 1) (N := some 7) (v := ?_) (a' := ?_) #[true, true, false, false, false, false, false, false, false, false, false, false, false, false, false, false, false, false] rfl rfl (by kernel_rfl) (fun _ _ _ h => h) (Or.inl ⟨by rfl, ?_⟩) ?_ ?_
  rotate_left
  · intro w'
    go_simp
    with_reducible rfl
  rotate_left
  · simp only [Act.put, List.setIfInBounds_toArray, List.set_cons_zero, List.set_cons_succ, i64_w, i32_w]
    rfl
  refine pure_ (i := 2) (N := some 8) (v := ?_) (a' := ?_) #[true, true, true, false, false, false, false, false, false, false, false, false, false, false, false, false, false, false] rfl rfl (by kernel_rfl) (fun _ _ _ h => h) (Or.inl ⟨by rfl, ?_⟩) ?_ ?_
  rotate_left
  · intro w'
    go_simp
    with_reducible rfl
  rotate_left
  · simp only [Act.put, List.setIfInBounds_toArray, List.set_cons_zero, List.set_cons_succ, i64_w, i32_w]
    rfl
  refine pure_ (i := 4) (N := some 10) (v := ?_) (a' := ?_) #[true, true, true, false, true, false, false, false, false, false, false, false, false, false, false, false, false, false] rfl rfl (by kernel_rfl) (fun _ _ _ h => h) (Or.inl ⟨by rfl, ?_⟩) ?_ ?_
  rotate_left
  · intro w'
    go_simp
    with_reducible rfl
  rotate_left
  · simp only [Act.put, List.setIfInBounds_toArray, List.set_cons_zero, List.set_cons_succ, i64_w, i32_w]
    rfl
  refine pure_ (i := 5) (N := some 11) (v := ?_) (a' := ?_) #[true, true, true, false, true, true, false, false, false, false, false, false, false, false, false, false, false, false] rfl rfl (by kernel_rfl) (fun _ _ _ h => h) (Or.inl ⟨by rfl, ?_⟩) ?_ ?_
  rotate_left
  · intro w'
    go_simp
    with_reducible rfl
  rotate_left
  · simp only [Act.put, List.setIfInBounds_toArray, List.set_cons_zero, List.set_cons_succ, i64_w, i32_w]
    rfl
  refine pure_ (i := 6) (N := some 12) (v := ?_) (a' := ?_) #[true, true, true, false, true, true, true, false, false, false, false, false, false, false, false, false, false, false] rfl rfl (by kernel_rfl) (fun _ _ _ h => h) (Or.inl ⟨by rfl, ?_⟩) ?_ ?_
  rotate_left
  · intro w'
    go_simp
    with_reducible rfl
  rotate_left
  · simp only [Act.put, List.setIfInBounds_toArray, List.set_cons_zero, List.set_cons_succ, i64_w, i32_w]
    rfl
  refine pure_ (i := 7) (N := some 13) (v := ?_) (a' := ?_) #[true, true, true, false, true, true, true, true, false, false, false, false, false, false, false, false, false, false] rfl rfl (by kernel_rfl) (fun _ _ _ h => h) (Or.inl ⟨by rfl, ?_⟩) ?_ ?_
  rotate_left
  · intro w'
    go_simp
    with_reducible rfl
  rotate_left
  · simp only [Act.put, List.setIfInBounds_toArray, List.set_cons_zero, List.set_cons_succ, i64_w, i32_w]
    rfl
  refine pure_ (i := 8) (N := some 14) (v := ?_) (a' := ?_) #[true, true, true, false, true, true, true, true, true, false, false, false, false, false, false, false, false, false] rfl rfl (by kernel_rfl) (fun _ _ _ h => h) (Or.inl ⟨by rfl, ?_⟩) ?_ ?_
  rotate_left
  · intro w'
    go_simp
    with_reducible rfl
  rotate_left
  · simp only [Act.put, List.setIfInBounds_toArray, List.set_cons_zero, List.set_cons_succ, i64_w, i32_w]
    rfl
  refine pure_ (i := 10) (N := some 16) (v := ?_) (a' := ?_) #[true, true, true, false, true, true, true, true, true, false, true, false, false, false, false, false, false, false] rfl rfl (by kernel_rfl) (fun _ _ _ h => h) (Or.inl ⟨by rfl, ?_⟩) ?_ ?_
  rotate_left
  · intro w'
    go_simp
    with_reducible rfl
  rotate_left
  · simp only [Act.put, List.setIfInBounds_toArray, List.set_cons_zero, List.set_cons_succ, i64_w, i32_w]
    rfl
  refine pure_ (i := 11) (N := some 17) (v := ?_) (a' := ?_) #[true, true, true, false, true, true, true, true, true, false, true, true, false, false, false, false, false, false] rfl rfl (by kernel_rfl) (fun _ _ _ h => h) (Or.inl ⟨by rfl, ?_⟩) ?_ ?_
  rotate_left
  · intro w'
    go_simp
    with_reducible rfl
  rotate_left
  · simp only [Act.put, List.setIfInBounds_toArray, List.set_cons_zero, List.set_cons_succ, i64_w, i32_w]
    rfl
  refine pure_ (i := 12) (N := some 18) (v := ?_) (a' := ?_) #[true, true, true, false, true, true, true, true, true, false, true, true, true, false, false, false, false, false] rfl rfl (by kernel_rfl) (fun _ _ _ h => h) (Or.inl ⟨by rfl, ?_⟩) ?_ ?_
  rotate_left
  · intro w'
    go_simp
    with_reducible rfl
  rotate_left
  · simp only [Act.put, List.setIfInBounds_toArray, List.set_cons_zero, List.set_cons_succ, i64_w, i32_w]
    rfl
  refine take_ (i := 3) (N := some 9) (v := ?_) (a' := ?_) #[true, true, true, true, true, true, true, true, true, false, true, true, true, false, false, false, false, false] rfl rfl (by kernel_rfl) (fun _ _ _ h => h) (Or.inl ⟨by rfl, ?_⟩) hHeld ?_ ?_
  rotate_left
  · rintro w' ⟨s0, s1⟩
    go_simp
    with_reducible rfl
  rotate_left
  · simp only [Act.put, List.setIfInBounds_toArray, List.set_cons_zero, List.set_cons_succ, i64_w, i32_w]
    rfl
  refine take_ (i := 9) (N := some 15) (v := ?_) (a' := ?_) #[true, true, true, true, true, true, true, true, true, true, true, true, true, false, false, false, false, false] rfl rfl (by kernel_rfl) (fun _ _ _ h => h) (Or.inl ⟨by rfl, ?_⟩) hHeld ?_ ?_
  rotate_left
  · rintro w' ⟨s0, s1⟩
    go_simp
    with_reducible rfl
  rotate_left
  · simp only [Act.put, List.setIfInBounds_toArray, List.set_cons_zero, List.set_cons_succ, i64_w, i32_w]
    rfl
  refine pure_ (i := 13) (N := some 19) (v := ?_) (a' := ?_) #[true, true, true, true, true, true, true, true, true, true, true, true, true, true, false, false, false, false] rfl rfl (by kernel_rfl) (fun _ _ _ h => h) (Or.inl ⟨by rfl, ?_⟩) ?_ ?_
  rotate_left
  · intro w'
    go_simp
    with_reducible rfl
  rotate_left
  · simp only [Act.put, List.setIfInBounds_toArray, List.set_cons_zero, List.set_cons_succ, i64_w, i32_w]
    rfl
  refine one_ (i := 14) (N := none) #[true, true, true, true, true, true, true, true, true, true, true, true, true, true, true, false, false, false] rfl rfl (by kernel_rfl) (by decide) (fun K hK => ?_)
  refine skip_ (w1 := (w.setCell ⟨g, i, none⟩ (.int .i64 s)).drew) (by rfl) rfl ?_ ?_
  · go_simp
  obtain ⟨s0, s1⟩ := hHeld
  refine hK.out _ _ ⟨(World.cell?_of_block (Below.heap_setCell w ⟨g, i, none⟩ (.int .i64 s) B (Ne.symm hgB))).trans s0, (World.cell?_of_block (Below.heap_setCell w ⟨g, i, none⟩ (.int .i64 s) B (Ne.symm hgB))).trans s1⟩ (fun hHeld => ?_)
  clear hK K
  refine one_ (i := 15) (N := some 20) #[true, true, true, true, true, true, true, true, true, true, true, true, true, true, true, true, false, false] rfl rfl (by kernel_rfl) (by decide) (fun K hK => ?_)
  refine value_ (v := .tuple #[v0, goInt st]) (w1 := ChangeMaps.setBlock ((w.setCell ⟨g, i, none⟩ (.int .i64 s)).drew) bm o1) (by rfl) rfl ?_ ?_
  · go_simp
  obtain ⟨s0, s1⟩ := hHeld
  refine hK.out _ _ ⟨(World.cell?_of_block (sb_other o1 hBm)).trans s0, (World.cell?_of_block (sb_other o1 hBm)).trans s1⟩ (fun hHeld => ?_)
  clear hK K
  refine norm_ (a' := ?_) ?_ ?_
  rotate_left
  · show Act.put _ (some 20) _ = _
    simp only [Act.put, List.setIfInBounds_toArray, List.set_cons_zero, List.set_cons_succ, i64_w, i32_w]
    rfl
  refine pure_ (i := 16) (N := some 21) (v := ?_) (a' := ?_) #[true, true, true, true, true, true, true, true, true, true, true, true, true, true, true, true, true, false] rfl rfl (by kernel_rfl) (fun _ _ _ h => h) (Or.inl ⟨by rfl, ?_⟩) ?_ ?_
  rotate_left
  · intro w'
    go_simp
    with_reducible rfl
  rotate_left
  · simp only [Act.put, List.setIfInBounds_toArray, List.set_cons_zero, List.set_cons_succ, i64_w, i32_w]
    rfl
  refine one_ (i := 17) (N := none) #[true, true, true, true, true, true, true, true, true, true, true, true, true, true, true, true, true, true] rfl rfl (by kernel_rfl) (by decide) (fun K hK => ?_)
  refine skip_ (w1 := ChangeMaps.setBlock (ChangeMaps.setBlock ((w.setCell ⟨g, i, none⟩ (.int .i64 s)).drew) bm o1) bm o2) (by rfl) rfl ?_ ?_
  · go_simp
  obtain ⟨s0, s1⟩ := hHeld
  refine hK.out _ _ ⟨(World.cell?_of_block (sb_other o2 hBm)).trans s0, (World.cell?_of_block (sb_other o2 hBm)).trans s1⟩ (fun hHeld => ?_)
  clear hK K
  refine done_ (by kernel_rfl) ?_
  have hB3 : (ChangeMaps.setBlock (ChangeMaps.setBlock ((w.setCell ⟨g, i, none⟩ (.int .i64 s)).drew) bm o1) bm o2).heap[B]? = w.heap[B]? := (sb_other o2 hBm).trans ((sb_other o1 hBm).trans (Below.heap_setCell w ⟨g, i, none⟩ _ B (Ne.symm hgB)))
  have hput := Kd.R_putn HP.out.hO (i : Int) s
  rw [Int.toNat_natCast] at hput
  have h3 : PA (ChangeMaps.setBlock (ChangeMaps.setBlock ((w.setCell ⟨g, i, none⟩ (.int .i64 s)).drew) bm o1) bm o2) base B bm (.slice (some ⟨g, 0, none⟩) os.length cap) (os.set i s) (fun j => if j = s then some ((i : Int) + 1) else f j) (c + (if (f s).isSome then 0 else 1)) hand rounds :=
    ⟨hB3.trans HP.out.hB, Kd.R_move (w := (w.setCell ⟨g, i, none⟩ (.int .i64 s)).drew) (Kd.R_drew hput) (fun k hk => by
      have e : k ≠ bm := (HP.out.ne_o hk.symm).2
      exact (sb_other o2 e).trans (sb_other o1 e)), HPM.out, HP.out.bB, HP.out.bM⟩
  have hm3 : Mv (pid B bm (.slice (some ⟨g, 0, none⟩) os.length cap)) w (ChangeMaps.setBlock (ChangeMaps.setBlock ((w.setCell ⟨g, i, none⟩ (.int .i64 s)).drew) bm o1) bm o2) := by
    have e0 : Mv (pid B bm (.slice (some ⟨g, 0, none⟩) os.length cap)) w w := Mv.of_below (Below.refl _ w)
    have e1 := e0.set (p := ⟨g, i, none⟩) (.inl (mem_pid.2 (.inr (.inr (by simp [Value.ownBlock]))))) (.int .i64 s)
    have e2 : Mv (pid B bm (.slice (some ⟨g, 0, none⟩) os.length cap)) w ((w.setCell ⟨g, i, none⟩ (.int .i64 s)).drew) := ⟨e1.os, e1.tape, e1.output, e1.size, e1.block⟩
    exact (e2.setBlock (mem_pid.2 (.inr (.inl rfl))) o1).setBlock (mem_pid.2 (.inr (.inl rfl))) o2
  have H3 := Aside0.mk h3
  have HM3 := Aside0.mk hm3
  have hBp : B ∈ pid B bm (.slice (some ⟨g, 0, none⟩) os.length cap) := mem_pid.2 (.inl rfl)
  clear hHeld s0 s1 hr1 hr4 hcg hfg c0 c1 h3 hm3 hput hB3 HP HPM hbl
  generalize ChangeMaps.setBlock (ChangeMaps.setBlock ((w.setCell ⟨g, i, none⟩ (.int .i64 s)).drew) bm o1) bm o2 = w3 at *
  have c0 := H3.out.cell0
  have c2 := H3.out.cell2
  have c3 := H3.out.cell3
  have f3 := blk_frozen H3.out.hB
  have hlp : (0 : Int) < (os.length : Int) := by omega
  have hmod : Int.tmod ((i : Int) + 1) (os.length : Int) = ((i : Int) + 1) % (os.length : Int) := Int.tmod_eq_emod_of_nonneg (by omega)
  have hm1 := Int.emod_nonneg ((i : Int) + 1) (show (os.length : Int) ≠ 0 by omega)
  have hm2 := Int.emod_lt_of_pos ((i : Int) + 1) hlp
  obtain ⟨hd, hhd⟩ : ∃ hd, ((i : Int) + 1) % (os.length : Int) = hd := ⟨_, rfl⟩
  rw [hhd] at hmod hm1 hm2
  have HHD := Aside0.mk hhd
  clear hhd
  have hwh : wrap64 (hd + 1) = hd + 1 := by unfold wrap64; omega
  have hwr : wrap64 (rounds + 1) = rounds + 1 := by unfold wrap64; omega
  have hlz : ((os.length : Int) == 0) = false := by rw [beq_eq_false_iff_ne]; omega
  (try simp only [Exit.inBlock, Exit.then])
  by_cases hlt : (i : Int) + 1 < hand
  · have hld : decide ((i : Int) + 1 < hand) = true := decide_eq_true hlt
    have hcd : ((i : Int) + 1 < hand ∨ i + 1 = os.length) := .inl hlt
    have hfin := (H3.out.setr (rounds + 1)).seth (hd + 1)
    have hmf := ((HM3.out.set (p := ⟨B, 3, none⟩) (.inl hBp) (.int .i64 (rounds + 1))).set (p := ⟨B, 2, none⟩) (.inl hBp) (.int .i64 (hd + 1)))
    have HF := Aside0.mk hfin
    have HMF := Aside0.mk hmf
    have HC := Aside0.mk hcd
    clear hfin hmf hcd H3 HM3
    go_wp2
    go_end0
    have e1 := HF.out
    refine ⟨rfl, ?_, HMF.out⟩
    unfold OwnR
    rw [if_pos HC.out]
    rw [HHD.out]
    exact e1
  · have hld : decide ((i : Int) + 1 < hand) = false := decide_eq_false hlt
    by_cases hle : i + 1 = os.length
    · have hed : ((i : Int) + 1 == (os.length : Int)) = true := by rw [beq_iff_eq]; omega
      have hcd : ((i : Int) + 1 < hand ∨ i + 1 = os.length) := .inr hle
      have hfin := (H3.out.setr (rounds + 1)).seth (hd + 1)
      have hmf := ((HM3.out.set (p := ⟨B, 3, none⟩) (.inl hBp) (.int .i64 (rounds + 1))).set (p := ⟨B, 2, none⟩) (.inl hBp) (.int .i64 (hd + 1)))
      have HF := Aside0.mk hfin
      have HMF := Aside0.mk hmf
      have HC := Aside0.mk hcd
      clear hfin hmf hcd H3 HM3 hle
      go_wp2
      go_end0
      have e1 := HF.out
      refine ⟨rfl, ?_, HMF.out⟩
      unfold OwnR
      rw [if_pos HC.out]
      rw [HHD.out]
      exact e1
    · have hed : ((i : Int) + 1 == (os.length : Int)) = false := by rw [beq_eq_false_iff_ne]; omega
      have hcd : ¬((i : Int) + 1 < hand ∨ i + 1 = os.length) := fun h => h.elim hlt hle
      have hfin := (H3.out.seth (hd + 1))
      have hmf := ((HM3.out.set (p := ⟨B, 2, none⟩) (.inl hBp) (.int .i64 (hd + 1))))
      have HF := Aside0.mk hfin
      have HMF := Aside0.mk hmf
      have HC := Aside0.mk hcd
      clear hfin hmf hcd H3 HM3 hle
      go_wp2
      go_end0
      have e1 := HF.out
      refine ⟨rfl, ?_, HMF.out⟩
      unfold OwnR
      rw [if_neg HC.out]
      rw [HHD.out, Int.add_zero]
      exact e1
end

end Go.Proofs.Ytcbnmmkmgpbfiaa.PP

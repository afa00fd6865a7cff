/- A pool of numbers (layer 14): a number taken: its walk. -/
import Derived.Test.YtcbnmmkmgpbfiaaCtxV
namespace Go.Proofs.Ytcbnmmkmgpbfiaa.PP
open Go.RowKit Go.Proofs.Ytcbnmmkmgpbfiaa.PX Go.Proofs.YtcbnmmkmgpbfiaaW.PrintWords Go.Proofs.YtcbnmmkmgpbfiaaW.PrintLast Go.Proofs.YtcbnmmkmgpbfiaaW.PrintMore
attribute [local go_sem] max2_int min2_int max_two min_two max_three min_three max_four min_four   -- for this text's walks alone
set_option linter.unusedVariables false
set_option linter.unusedSimpArgs false
open Go.Shelf
attribute [local go_sem] Oper.semAt_some
def free? (os : List Int) (k : Int) : Bool := os.getD (k - 1).toNat 0 == -1
def TakeP (base B bm : Nat) (vo : Value) (os : List Int) (f : Int → Option Int) (c : Nat) (hand rounds : Int) (s : Int) (w : World) (e : Ending) (w' : World) : Prop :=
  if s < 0 then e = .returned (.tuple #[.int .i64 0, .int .i64 1]) ∧ PA w' base B bm vo os f c hand rounds ∧ Mv (pid B bm vo) w w' else
  match f s with
  | some n => e = .returned (.tuple #[.int .i64 n, .int .i64 0]) ∧ PA w' base B bm vo os f c hand rounds ∧ Mv (pid B bm vo) w w'
  | none =>
    match (rot os.length hand).find? (free? os) with
    | some k => e = .returned (.tuple #[.int .i64 k, .int .i64 0]) ∧ OwnR base B bm vo os f c hand rounds (k - 1).toNat s w' ∧ Mv (pid B bm vo) w w'
    | none => e = .returned (.tuple #[.int .i64 0, .int .i64 8]) ∧ PA w' base B bm vo os f c hand rounds ∧ Mv (pid B bm vo) w w'
theorem Mv.grown {S : List Nat} {w W W' : World} {row : Option Nat} (h : Mv S w W) (hg : W.grownBy W' row) (hr : ∀ r, row = some r → w.heap.size ≤ r) : Mv S w W' := by
  obtain ⟨h1, h2, h3, h4, h5⟩ := hg
  exact ⟨h1.trans h.os, h2.trans h.tape, h3.trans h.output, Nat.le_trans h.size h4, fun k hk hn => (h5 k (Nat.lt_of_lt_of_le hk h.size) (fun e => Nat.not_lt.2 (hr k e.symm) hk)).trans (h.block k hk hn)⟩
theorem PA.grown {w w' : World} {base B bm : Nat} {vo : Value} {os : List Int} {f : Int → Option Int} {c : Nat} {hand rounds : Int} {row : Option Nat} (h : PA w base B bm vo os f c hand rounds) (hg : w.grownBy w' row) (hr : ∀ k ∈ pid B bm vo, some k ≠ row) : PA w' base B bm vo os f c hand rounds :=
  h.step (fun k hk => hg.block k (h.typed hk).2 (hr k hk))
set_option maxHeartbeats 8000000 in
set_option maxRecDepth 100000 in
theorem take_calls {w : World} {base B bm : Nat} {vo : Value} {os : List Int} {f : Int → Option Int} {c : Nat} {hand rounds : Int} (h : PA w base B bm vo os f c hand rounds) (s : Int) (hs : Wf s) (hl : os.length ≤ 10000) (hh : 1 ≤ hand ∧ hand ≤ 10000)
    (hc : c < 1000000) (hr : -1000000000 ≤ rounds ∧ rounds ≤ 1000000000) :
    Calls Try.prog 31 #[.pointer (some ⟨B, 0, none⟩), .int .i64 s] w (TakeP base B bm vo os f c hand rounds s w) := by
  have HP := Aside0.mk h
  have HS := Aside0.mk hs
  clear h hs
  refine (callsIn_wide (n := 5)).1 ?_
  have h1 : 1 ≤ 5 := by omega
  refine callsIn_of_wp_marks Try.func31 rfl trivial ?_ rfl
  simp only [Try.ntmps31, List.size_toArray, List.length_cons, List.length_nil, Nat.reduceAdd, Nat.reduceSub, Array.replicate_succ, Array.replicate_zero, List.push_toArray, List.append_toArray, List.nil_append, List.cons_append]
  have hpl : ∀ k ∈ pid B bm vo, k < w.heap.size := fun k hk => (HP.out.typed hk).2
  obtain ⟨D, hD⟩ : ∃ D, w.heap.size = D := ⟨_, rfl⟩
  rw [hD] at hpl
  by_cases hs0 : s < 0
  · have hsd : decide (s < 0) = true := decide_eq_true hs0
    gi_wp2
    have b2 : Boxed ((((w.alloc (.cells #[.pointer (some ⟨B, 0, none⟩)] 52)).alloc (.cells #[.int .i64 s] 3)).alloc (.cells #[.int .i64 0] 3)).alloc (.cells #[.int .i64 1] 54)) (D + 2) 3 (.int .i64 0) := by
      have := (Boxed.new ((w.alloc (.cells #[.pointer (some ⟨B, 0, none⟩)] 52)).alloc (.cells #[.int .i64 s] 3)) 3 (.int .i64 0)).alloc (.cells #[.int .i64 1] 54)
      simpa only [World.size_alloc, hD] using this
    have b3 : Boxed ((((w.alloc (.cells #[.pointer (some ⟨B, 0, none⟩)] 52)).alloc (.cells #[.int .i64 s] 3)).alloc (.cells #[.int .i64 0] 3)).alloc (.cells #[.int .i64 1] 54)) (D + 3) 54 (.int .i64 1) := by
      have := (Boxed.new (((w.alloc (.cells #[.pointer (some ⟨B, 0, none⟩)] 52)).alloc (.cells #[.int .i64 s] 3)).alloc (.cells #[.int .i64 0] 3)) 54 (.int .i64 1))
      simpa only [World.size_alloc, hD] using this
    have hB0 : Below w.heap.size w ((((w.alloc (.cells #[.pointer (some ⟨B, 0, none⟩)] 52)).alloc (.cells #[.int .i64 s] 3)).alloc (.cells #[.int .i64 0] 3)).alloc (.cells #[.int .i64 1] 54)) := (((((Below.refl _ w).alloc (Nat.le_refl _) _).alloc (by simp) _).alloc (by simp; omega) _).alloc (by simp; omega) _)
    have hc2 := b2.cell
    have hc3 := b3.cell
    simp only [hD, Nat.add_assoc, Nat.reduceAdd]
    have HB := Aside0.mk hB0
    clear b2 b3 hB0
    refine ⟨.tuple #[.int .i64 0, .int .i64 1], ?_, ?_⟩
    · simp [results, Try.f31, go_sem, hc2, hc3]
    · unfold TakeP
      rw [if_pos hs0]
      exact ⟨rfl, HP.out.below HB.out, Mv.of_below HB.out⟩
  have hsd : decide (s < 0) = false := decide_eq_false hs0
  gi_wp2
  have b0 := ((((Boxed.new w 52 (.pointer (some ⟨B, 0, none⟩))).alloc (.cells #[.int .i64 s] 3)).alloc (.cells #[.int .i64 0] 3)).alloc (.cells #[.int .i64 0] 54))
  have b1 := (((Boxed.new (w.alloc (.cells #[.pointer (some ⟨B, 0, none⟩)] 52)) 3 (.int .i64 s)).alloc (.cells #[.int .i64 0] 3)).alloc (.cells #[.int .i64 0] 54))
  have b2 := ((Boxed.new ((w.alloc (.cells #[.pointer (some ⟨B, 0, none⟩)] 52)).alloc (.cells #[.int .i64 s] 3)) 3 (.int .i64 0)).alloc (.cells #[.int .i64 0] 54))
  have b3 := (Boxed.new (((w.alloc (.cells #[.pointer (some ⟨B, 0, none⟩)] 52)).alloc (.cells #[.int .i64 s] 3)).alloc (.cells #[.int .i64 0] 3)) 54 (.int .i64 0))
  simp only [World.size_alloc] at b1 b2 b3
  have hB0 : Below w.heap.size w ((((w.alloc (.cells #[.pointer (some ⟨B, 0, none⟩)] 52)).alloc (.cells #[.int .i64 s] 3)).alloc (.cells #[.int .i64 0] 3)).alloc (.cells #[.int .i64 0] 54)) := (((((Below.refl _ w).alloc (Nat.le_refl _) _).alloc (by simp) _).alloc (by simp; omega) _).alloc (by simp; omega) _)
  have hsz : ((((w.alloc (.cells #[.pointer (some ⟨B, 0, none⟩)] 52)).alloc (.cells #[.int .i64 s] 3)).alloc (.cells #[.int .i64 0] 3)).alloc (.cells #[.int .i64 0] 54)).heap.size = w.heap.size + 4 := by simp
  obtain ⟨W0, hW0⟩ : ∃ W0, ((((w.alloc (.cells #[.pointer (some ⟨B, 0, none⟩)] 52)).alloc (.cells #[.int .i64 s] 3)).alloc (.cells #[.int .i64 0] 3)).alloc (.cells #[.int .i64 0] 54)) = W0 := ⟨_, rfl⟩
  rw [hW0] at b0 b1 b2 b3 hB0 hsz ⊢
  clear hW0
  have hP0 := HP.out.below hB0
  try simp only [hD] at b0
  try simp only [hD, Nat.add_assoc, Nat.reduceAdd] at b1
  try simp only [hD, Nat.add_assoc, Nat.reduceAdd] at b2
  try simp only [hD, Nat.add_assoc, Nat.reduceAdd] at b3
  try simp only [hD] at hB0
  try simp only [hD] at hsz
  try simp only [hD, Nat.add_assoc, Nat.reduceAdd]
  have c0 := b0.cell
  have c1 := b1.cell
  have cb := hP0.cell1
  have cm := hP0.hM
  have B1 := Aside0.mk b1
  have B0 := Aside0.mk b0
  have B2 := Aside0.mk b2
  have B3 := Aside0.mk b3
  have HP0 := Aside0.mk hP0
  have HB0 := Aside0.mk hB0
  clear b0 b1 b2 b3 hP0 hB0
  cases hf : f s with
  | some x =>
    have HF := Aside0.mk hf
    clear hf
    refine Code.wpIn_mono (Q := fun e a' w' => match e with | .normal => (∃ (x11 x12 x13 x14 x15 x16 x17 x18 x19 : Value), a' = { tmps := #[.pointer (some ⟨B, 0, none⟩), .int .i64 s, .pointer (some ⟨D, 0, none⟩), .pointer (some ⟨D + 1, 0, none⟩), .pointer (some ⟨D + 2, 0, none⟩), .pointer (some ⟨D + 3, 0, none⟩), .int .i64 x, .bool true, undef, .int .i64 s, .bool false, x11, x12, x13, x14, x15, x16, x17, x18, x19, undef, undef, undef, undef, undef, undef, undef, undef, undef, undef, undef, undef, undef, undef, undef, undef, undef, undef, undef], defers := [] }) ∧ w' = W0.drew | _ => False) ?_ ?_
    rotate_left
    · skip
      refine startIn_ (fun _ => Iff.rfl) (fun _ => trivial) rfl (by kernel_rfl) (fun _ _ h => h) (n := 11) (S := fun w' => w'.cell? ⟨D, 0, none⟩ = some (.pointer (some ⟨B, 0, none⟩)) ∧ w'.cell? ⟨D + 1, 0, none⟩ = some (.int .i64 s) ∧ w'.cell? ⟨B, 1, none⟩ = some (.map (some bm)) ∧ PM w' bm f c) (ds := []) #[false, false, false, false, false, false, false, false, false, false, false] (by kernel_rfl) rfl rfl ⟨c0, c1, cb, cm⟩ (fun hHeld => ?_)
      refine take_ (i := 0) (N := some 12) (v := ?_) (a' := ?_) #[true, false, false, false, false, false, false, false, false, false, false] rfl rfl (by kernel_rfl) (fun _ _ _ h => h) (Or.inl ⟨by rfl, ?_⟩) hHeld ?_ ?_
      rotate_left
      · rintro w' ⟨s0, s1, s2, s3⟩
        have hlk : (Instr.lookup 101 (.map (some bm)) (.int .i64 s) true).run Try.prog w' = .ok (.tuple #[.int .i64 x, .bool true]) w' := by have hlk := s3.look HS.out; rw [HF.out] at hlk; exact hlk
        go_simp
        with_reducible rfl
      rotate_left
      · simp only [Act.put, List.setIfInBounds_toArray, List.set_cons_zero, List.set_cons_succ, i64_w, i32_w]
        rfl
      refine pure_ (i := 1) (N := some 13) (v := ?_) (a' := ?_) #[true, true, false, false, false, false, false, false, false, false, false] rfl rfl (by kernel_rfl) (fun _ _ _ h => h) (Or.inl ⟨by rfl, ?_⟩) ?_ ?_
      rotate_left
      · intro w'
        go_simp
        with_reducible rfl
      rotate_left
      · simp only [Act.put, List.setIfInBounds_toArray, List.set_cons_zero, List.set_cons_succ, i64_w, i32_w]
        rfl
      refine pure_ (i := 2) (N := some 14) (v := ?_) (a' := ?_) #[true, true, true, false, false, false, false, false, false, false, false] rfl rfl (by kernel_rfl) (fun _ _ _ h => h) (Or.inl ⟨by rfl, ?_⟩) ?_ ?_
      rotate_left
      · intro w'
        go_simp
        with_reducible rfl
      rotate_left
      · simp only [Act.put, List.setIfInBounds_toArray, List.set_cons_zero, List.set_cons_succ, i64_w, i32_w]
        rfl
      refine take_ (i := 3) (N := some 15) (v := ?_) (a' := ?_) #[true, true, true, true, false, false, false, false, false, false, false] rfl rfl (by kernel_rfl) (fun _ _ _ h => h) (Or.inl ⟨by rfl, ?_⟩) hHeld ?_ ?_
      rotate_left
      · rintro w' ⟨s0, s1, s2, s3⟩
        have hlk : (Instr.lookup 101 (.map (some bm)) (.int .i64 s) true).run Try.prog w' = .ok (.tuple #[.int .i64 x, .bool true]) w' := by have hlk := s3.look HS.out; rw [HF.out] at hlk; exact hlk
        go_simp
        with_reducible rfl
      rotate_left
      · simp only [Act.put, List.setIfInBounds_toArray, List.set_cons_zero, List.set_cons_succ, i64_w, i32_w]
        rfl
      refine take_ (i := 4) (N := some 16) (v := ?_) (a' := ?_) #[true, true, true, true, true, false, false, false, false, false, false] rfl rfl (by kernel_rfl) (fun _ _ _ h => h) (Or.inl ⟨by rfl, ?_⟩) hHeld ?_ ?_
      rotate_left
      · rintro w' ⟨s0, s1, s2, s3⟩
        have hlk : (Instr.lookup 101 (.map (some bm)) (.int .i64 s) true).run Try.prog w' = .ok (.tuple #[.int .i64 x, .bool true]) w' := by have hlk := s3.look HS.out; rw [HF.out] at hlk; exact hlk
        go_simp
        with_reducible rfl
      rotate_left
      · simp only [Act.put, List.setIfInBounds_toArray, List.set_cons_zero, List.set_cons_succ, i64_w, i32_w]
        rfl
      refine take_ (i := 5) (N := some 17) (v := ?_) (a' := ?_) #[true, true, true, true, true, true, false, false, false, false, false] rfl rfl (by kernel_rfl) (fun _ _ _ h => h) (Or.inl ⟨by rfl, ?_⟩) hHeld ?_ ?_
      rotate_left
      · rintro w' ⟨s0, s1, s2, s3⟩
        have hlk : (Instr.lookup 101 (.map (some bm)) (.int .i64 s) true).run Try.prog w' = .ok (.tuple #[.int .i64 x, .bool true]) w' := by have hlk := s3.look HS.out; rw [HF.out] at hlk; exact hlk
        go_simp
        with_reducible rfl
      rotate_left
      · simp only [Act.put, List.setIfInBounds_toArray, List.set_cons_zero, List.set_cons_succ, i64_w, i32_w]
        rfl
      refine pure_ (i := 6) (N := some 11) (v := ?_) (a' := ?_) #[true, true, true, true, true, true, true, false, false, false, false] rfl rfl (by kernel_rfl) (fun _ _ _ h => h) (Or.inl ⟨by rfl, ?_⟩) ?_ ?_
      rotate_left
      · intro w'
        go_simp
        with_reducible rfl
      rotate_left
      · simp only [Act.put, List.setIfInBounds_toArray, List.set_cons_zero, List.set_cons_succ, i64_w, i32_w]
        rfl
      refine pure_ (i := 7) (N := some 18) (v := ?_) (a' := ?_) #[true, true, true, true, true, true, true, true, false, false, false] rfl rfl (by kernel_rfl) (fun _ _ _ h => h) (Or.inl ⟨by rfl, ?_⟩) ?_ ?_
      rotate_left
      · intro w'
        go_simp
        with_reducible rfl
      rotate_left
      · simp only [Act.put, List.setIfInBounds_toArray, List.set_cons_zero, List.set_cons_succ, i64_w, i32_w]
        rfl
      refine pure_ (i := 8) (N := some 19) (v := ?_) (a' := ?_) #[true, true, true, true, true, true, true, true, true, false, false] rfl rfl (by kernel_rfl) (fun _ _ _ h => h) (Or.inl ⟨by rfl, ?_⟩) ?_ ?_
      rotate_left
      · intro w'
        go_simp
        with_reducible rfl
      rotate_left
      · simp only [Act.put, List.setIfInBounds_toArray, List.set_cons_zero, List.set_cons_succ, i64_w, i32_w]
        rfl
      refine pure_ (i := 9) (N := some 6) (v := ?_) (a' := ?_) #[true, true, true, true, true, true, true, true, true, true, false] rfl rfl (by kernel_rfl) (fun _ _ _ h => h) (Or.inl ⟨by rfl, ?_⟩) ?_ ?_
      rotate_left
      · intro w'
        go_simp
        with_reducible rfl
      rotate_left
      · simp only [Act.put, List.setIfInBounds_toArray, List.set_cons_zero, List.set_cons_succ, i64_w, i32_w]
        rfl
      refine pure_ (i := 10) (N := some 7) (v := ?_) (a' := ?_) #[true, true, true, true, true, true, true, true, true, true, true] rfl rfl (by kernel_rfl) (fun _ _ _ h => h) (Or.inl ⟨by rfl, ?_⟩) ?_ ?_
      rotate_left
      · intro w'
        go_simp
        with_reducible rfl
      rotate_left
      · simp only [Act.put, List.setIfInBounds_toArray, List.set_cons_zero, List.set_cons_succ, i64_w, i32_w]
        rfl
      refine done_ (by kernel_rfl) ?_
      exact ⟨⟨_, _, _, _, _, _, _, _, _, rfl⟩, rfl⟩
    rintro e a2 w2 hq
    cases e with
    | normal =>
      obtain ⟨⟨x11, x12, x13, x14, x15, x16, x17, x18, x19, rfl⟩, rfl⟩ := hq
      have d0 : Boxed W0.drew D 52 (.pointer (some ⟨B, 0, none⟩)) := B0.out
      have d1 : Boxed W0.drew (D + 1) 3 (.int .i64 s) := B1.out
      have d2 : Boxed W0.drew (D + 2) 3 (.int .i64 0) := B2.out
      have d3 : Boxed W0.drew (D + 3) 54 (.int .i64 0) := B3.out
      have hp1 : PA W0.drew base B bm vo os f c hand rounds := HP0.out.step (fun k hk => rfl)
      have hb1 : Below D w W0.drew := HB0.out.drew
      have hs1 : W0.drew.heap.size = D + 4 := hsz
      clear B0 B1 B2 B3 HP0 HB0 hsz c0 c1 cb cm
      generalize W0.drew = W1 at *
      have k0 := d0.cell
      have k1 := d1.cell
      have k2 := d2.cell
      have k3 := d3.cell
      have f2 := d2.frozen
      have f3 := d3.frozen
      have HP1 := Aside0.mk hp1
      have HB1 := Aside0.mk hb1
      have g2 := (Boxed.set (.int .i64 x) d2).other (B' := D + 3) (by omega) (.int .i64 0)
      have g3 := Boxed.set (.int .i64 0) (d3.other (B' := D + 2) (by omega) (.int .i64 x))
      have hb4 := ((hb1.setCell (p := ⟨D + 2, 0, none⟩) (by simp) (.int .i64 x))).setCell (p := ⟨D + 3, 0, none⟩) (by simp) (.int .i64 0)
      have G2 := Aside0.mk g2.cell
      have G3 := Aside0.mk g3.cell
      have HB4 := Aside0.mk hb4
      clear g2 g3 hb4 hp1 hb1 d0 d1 d2 d3
      gi_wp2
      have hc2 := G2.out
      have hc3 := G3.out
      refine ⟨.tuple #[.int .i64 x, .int .i64 0], ?_, ?_⟩
      · simp [results, Try.f31, go_sem, hc2, hc3]
      · unfold TakeP
        rw [if_neg (by omega), HF.out]
        have hb := HB4.out
        generalize (W1.setCell ⟨D + 2, 0, none⟩ (.int .i64 x)).setCell ⟨D + 3, 0, none⟩ (.int .i64 0) = W5 at hb ⊢
        rw [← hD] at hb
        exact ⟨rfl, HP.out.below hb, Mv.of_below hb⟩
    | _ => exact hq.elim
  | none =>
    have HF := Aside0.mk hf
    clear hf
    refine Code.wpIn_mono (Q := fun e a' w' => match e with | .normal => (∃ (x11 x12 x13 x14 x15 x16 x17 x18 x19 : Value), a' = { tmps := #[.pointer (some ⟨B, 0, none⟩), .int .i64 s, .pointer (some ⟨D, 0, none⟩), .pointer (some ⟨D + 1, 0, none⟩), .pointer (some ⟨D + 2, 0, none⟩), .pointer (some ⟨D + 3, 0, none⟩), .int .i64 0, .bool false, undef, .int .i64 s, .bool false, x11, x12, x13, x14, x15, x16, x17, x18, x19, undef, undef, undef, undef, undef, undef, undef, undef, undef, undef, undef, undef, undef, undef, undef, undef, undef, undef, undef], defers := [] }) ∧ w' = W0.drew | _ => False) ?_ ?_
    rotate_left
    · skip
      refine startIn_ (fun _ => Iff.rfl) (fun _ => trivial) rfl (by kernel_rfl) (fun _ _ h => h) (n := 11) (S := fun w' => w'.cell? ⟨D, 0, none⟩ = some (.pointer (some ⟨B, 0, none⟩)) ∧ w'.cell? ⟨D + 1, 0, none⟩ = some (.int .i64 s) ∧ w'.cell? ⟨B, 1, none⟩ = some (.map (some bm)) ∧ PM w' bm f c) (ds := []) #[false, false, false, false, false, false, false, false, false, false, false] (by kernel_rfl) rfl rfl ⟨c0, c1, cb, cm⟩ (fun hHeld => ?_)
      refine take_ (i := 0) (N := some 12) (v := ?_) (a' := ?_) #[true, false, false, false, false, false, false, false, false, false, false] rfl rfl (by kernel_rfl) (fun _ _ _ h => h) (Or.inl ⟨by rfl, ?_⟩) hHeld ?_ ?_
      rotate_left
      · rintro w' ⟨s0, s1, s2, s3⟩
        have hlk : (Instr.lookup 101 (.map (some bm)) (.int .i64 s) true).run Try.prog w' = .ok (.tuple #[.int .i64 0, .bool false]) w' := by have hlk := s3.look HS.out; rw [HF.out] at hlk; exact hlk
        go_simp
        with_reducible rfl
      rotate_left
      · simp only [Act.put, List.setIfInBounds_toArray, List.set_cons_zero, List.set_cons_succ, i64_w, i32_w]
        rfl
      refine pure_ (i := 1) (N := some 13) (v := ?_) (a' := ?_) #[true, true, false, false, false, false, false, false, false, false, false] rfl rfl (by kernel_rfl) (fun _ _ _ h => h) (Or.inl ⟨by rfl, ?_⟩) ?_ ?_
      rotate_left
      · intro w'
        go_simp
        with_reducible rfl
      rotate_left
      · simp only [Act.put, List.setIfInBounds_toArray, List.set_cons_zero, List.set_cons_succ, i64_w, i32_w]
        rfl
      refine pure_ (i := 2) (N := some 14) (v := ?_) (a' := ?_) #[true, true, true, false, false, false, false, false, false, false, false] rfl rfl (by kernel_rfl) (fun _ _ _ h => h) (Or.inl ⟨by rfl, ?_⟩) ?_ ?_
      rotate_left
      · intro w'
        go_simp
        with_reducible rfl
      rotate_left
      · simp only [Act.put, List.setIfInBounds_toArray, List.set_cons_zero, List.set_cons_succ, i64_w, i32_w]
        rfl
      refine take_ (i := 3) (N := some 15) (v := ?_) (a' := ?_) #[true, true, true, true, false, false, false, false, false, false, false] rfl rfl (by kernel_rfl) (fun _ _ _ h => h) (Or.inl ⟨by rfl, ?_⟩) hHeld ?_ ?_
      rotate_left
      · rintro w' ⟨s0, s1, s2, s3⟩
        have hlk : (Instr.lookup 101 (.map (some bm)) (.int .i64 s) true).run Try.prog w' = .ok (.tuple #[.int .i64 0, .bool false]) w' := by have hlk := s3.look HS.out; rw [HF.out] at hlk; exact hlk
        go_simp
        with_reducible rfl
      rotate_left
      · simp only [Act.put, List.setIfInBounds_toArray, List.set_cons_zero, List.set_cons_succ, i64_w, i32_w]
        rfl
      refine take_ (i := 4) (N := some 16) (v := ?_) (a' := ?_) #[true, true, true, true, true, false, false, false, false, false, false] rfl rfl (by kernel_rfl) (fun _ _ _ h => h) (Or.inl ⟨by rfl, ?_⟩) hHeld ?_ ?_
      rotate_left
      · rintro w' ⟨s0, s1, s2, s3⟩
        have hlk : (Instr.lookup 101 (.map (some bm)) (.int .i64 s) true).run Try.prog w' = .ok (.tuple #[.int .i64 0, .bool false]) w' := by have hlk := s3.look HS.out; rw [HF.out] at hlk; exact hlk
        go_simp
        with_reducible rfl
      rotate_left
      · simp only [Act.put, List.setIfInBounds_toArray, List.set_cons_zero, List.set_cons_succ, i64_w, i32_w]
        rfl
      refine take_ (i := 5) (N := some 17) (v := ?_) (a' := ?_) #[true, true, true, true, true, true, false, false, false, false, false] rfl rfl (by kernel_rfl) (fun _ _ _ h => h) (Or.inl ⟨by rfl, ?_⟩) hHeld ?_ ?_
      rotate_left
      · rintro w' ⟨s0, s1, s2, s3⟩
        have hlk : (Instr.lookup 101 (.map (some bm)) (.int .i64 s) true).run Try.prog w' = .ok (.tuple #[.int .i64 0, .bool false]) w' := by have hlk := s3.look HS.out; rw [HF.out] at hlk; exact hlk
        go_simp
        with_reducible rfl
      rotate_left
      · simp only [Act.put, List.setIfInBounds_toArray, List.set_cons_zero, List.set_cons_succ, i64_w, i32_w]
        rfl
      refine pure_ (i := 6) (N := some 11) (v := ?_) (a' := ?_) #[true, true, true, true, true, true, true, false, false, false, false] rfl rfl (by kernel_rfl) (fun _ _ _ h => h) (Or.inl ⟨by rfl, ?_⟩) ?_ ?_
      rotate_left
      · intro w'
        go_simp
        with_reducible rfl
      rotate_left
      · simp only [Act.put, List.setIfInBounds_toArray, List.set_cons_zero, List.set_cons_succ, i64_w, i32_w]
        rfl
      refine pure_ (i := 7) (N := some 18) (v := ?_) (a' := ?_) #[true, true, true, true, true, true, true, true, false, false, false] rfl rfl (by kernel_rfl) (fun _ _ _ h => h) (Or.inl ⟨by rfl, ?_⟩) ?_ ?_
      rotate_left
      · intro w'
        go_simp
        with_reducible rfl
      rotate_left
      · simp only [Act.put, List.setIfInBounds_toArray, List.set_cons_zero, List.set_cons_succ, i64_w, i32_w]
        rfl
      refine pure_ (i := 8) (N := some 19) (v := ?_) (a' := ?_) #[true, true, true, true, true, true, true, true, true, false, false] rfl rfl (by kernel_rfl) (fun _ _ _ h => h) (Or.inl ⟨by rfl, ?_⟩) ?_ ?_
      rotate_left
      · intro w'
        go_simp
        with_reducible rfl
      rotate_left
      · simp only [Act.put, List.setIfInBounds_toArray, List.set_cons_zero, List.set_cons_succ, i64_w, i32_w]
        rfl
      refine pure_ (i := 9) (N := some 6) (v := ?_) (a' := ?_) #[true, true, true, true, true, true, true, true, true, true, false] rfl rfl (by kernel_rfl) (fun _ _ _ h => h) (Or.inl ⟨by rfl, ?_⟩) ?_ ?_
      rotate_left
      · intro w'
        go_simp
        with_reducible rfl
      rotate_left
      · simp only [Act.put, List.setIfInBounds_toArray, List.set_cons_zero, List.set_cons_succ, i64_w, i32_w]
        rfl
      refine pure_ (i := 10) (N := some 7) (v := ?_) (a' := ?_) #[true, true, true, true, true, true, true, true, true, true, true] rfl rfl (by kernel_rfl) (fun _ _ _ h => h) (Or.inl ⟨by rfl, ?_⟩) ?_ ?_
      rotate_left
      · intro w'
        go_simp
        with_reducible rfl
      rotate_left
      · simp only [Act.put, List.setIfInBounds_toArray, List.set_cons_zero, List.set_cons_succ, i64_w, i32_w]
        rfl
      refine done_ (by kernel_rfl) ?_
      exact ⟨⟨_, _, _, _, _, _, _, _, _, rfl⟩, rfl⟩
    rintro e a2 w2 hq
    cases e with
    | normal =>
      obtain ⟨⟨x11, x12, x13, x14, x15, x16, x17, x18, x19, rfl⟩, rfl⟩ := hq
      have d0 : Boxed W0.drew D 52 (.pointer (some ⟨B, 0, none⟩)) := B0.out
      have d1 : Boxed W0.drew (D + 1) 3 (.int .i64 s) := B1.out
      have d2 : Boxed W0.drew (D + 2) 3 (.int .i64 0) := B2.out
      have d3 : Boxed W0.drew (D + 3) 54 (.int .i64 0) := B3.out
      have hp1 : PA W0.drew base B bm vo os f c hand rounds := HP0.out.step (fun k hk => rfl)
      have hb1 : Below D w W0.drew := HB0.out.drew
      have hs1 : W0.drew.heap.size = D + 4 := hsz
      clear B0 B1 B2 B3 HP0 HB0 hsz c0 c1 cb cm
      generalize W0.drew = W1 at *
      have k0 := d0.cell
      have k1 := d1.cell
      have k2 := d2.cell
      have k3 := d3.cell
      have f2 := d2.frozen
      have f3 := d3.frozen
      have HP1 := Aside0.mk hp1
      have HB1 := Aside0.mk hb1
      clear hp1 hb1
      gi_wp2_with (refine ⟨trivial, ?_⟩; gi_at_call 69; refine (round_in Fence.wide _ trivial rfl _ _).mono ?_; rintro e w' ⟨rfl, rfl⟩)
      have b0 := d0.alloc (.cells #[.pointer (some ⟨B, 0, none⟩)] 52)
      have b1 := d1.alloc (.cells #[.pointer (some ⟨B, 0, none⟩)] 52)
      have b2 := d2.alloc (.cells #[.pointer (some ⟨B, 0, none⟩)] 52)
      have b3 := d3.alloc (.cells #[.pointer (some ⟨B, 0, none⟩)] 52)
      have b4 := Boxed.new W1 52 (.pointer (some ⟨B, 0, none⟩))
      rw [hs1] at b4
      have hB0 := HB1.out.alloc (by omega) (.cells #[.pointer (some ⟨B, 0, none⟩)] 52)
      have hP0 := HP1.out.below (below_alloc (Below.refl _ W1) (.cells #[.pointer (some ⟨B, 0, none⟩)] 52))
      have hsz : (W1.alloc (.cells #[.pointer (some ⟨B, 0, none⟩)] 52)).heap.size = D + 5 := by rw [World.size_alloc, hs1]
      clear d0 d1 d2 d3 hs1 k0 k1 k2 k3 f2 f3 HP1 HB1
      generalize W1.alloc (.cells #[.pointer (some ⟨B, 0, none⟩)] 52) = W2 at *
      obtain ⟨N, hN⟩ : ∃ N, D + 5 = N := ⟨_, rfl⟩
      rw [hN] at hsz
      refine wpIn_rangeFunc_ownH rfl h1 (gf := 90) (lb := #[.pointer (some ⟨D + 4, 0, none⟩)]) rfl trivial (enters_of Try.func90 (by kernel_rfl) rfl)
        (round_stopsR 4 (by omega) (D + 4) N W2 (by omega) (by omega) hl hh b4.cell hP0 (fun k hk => Nat.lt_of_lt_of_le (hpl k hk) (by omega))) belowK_t (belowK_b (by omega)) (Below.refl _ _) (fun _ => rfl)
        (fun pre W => (∀ k ∈ pre, free? os k.1 = false) ∧ Below N W2 W)
        (fun cd pre W => cd = .ret ∧ ∃ pre' k, pre = pre' ++ [k] ∧ (∀ j ∈ pre', free? os j.1 = false) ∧ free? os k.1 = true ∧ (Boxed W (D + 2) 3 (.int .i64 k.1) ∧ Boxed W (D + 3) 54 (.int .i64 0)) ∧ OwnR base B bm vo os f c hand rounds (k.1 - 1).toNat s W ∧ Mv (pid B bm vo) w W)
        ?hI ?hIx ?h0
        (fun x a' W => a' = { tmps := #[.pointer (some ⟨B, 0, none⟩), .int .i64 s, .pointer (some ⟨D, 0, none⟩), .pointer (some ⟨D + 1, 0, none⟩), .pointer (some ⟨D + 2, 0, none⟩), .pointer (some ⟨D + 3, 0, none⟩), .int .i64 0, .bool false, .int .i64 x.1, .int .i64 s, .bool false, x11, x12, x13, x14, x15, x16, x17, x18, x19, .bool false, undef, .pointer (some ⟨B, 0, none⟩), .func (.func 90) #[] #[.pointer (some ⟨D + 4, 0, none⟩)], .int .i64 x.1, undef, undef, undef, undef, undef, undef, undef, undef, undef, undef, undef, undef, undef, undef], defers := [] })
        ?hAx ?assign ?body ?done ?stop
      case hI => exact OwnFrom.and (fun s X Y row hs _ _ => hs) (ownFrom_below (by omega) (by omega))
      case hIx =>
        rintro cd ps X Y row ⟨h1, p, k, h2, h3, h4, ⟨h5, h6⟩, h7, h8⟩ hg hr
        have hr' : ∀ r, row = some r → D + 5 ≤ r := fun r e => by have := (hr r e).1; omega
        refine ⟨h1, p, k, h2, h3, h4, ⟨h5.kept hg (fun e => by have := hr' _ e.symm; omega), h6.kept hg (fun e => by have := hr' _ e.symm; omega)⟩, ?_, h8.grown hg (fun r e => by have := hr' r e; omega)⟩
        unfold OwnR at h7 ⊢
        exact h7.grown hg (fun k hk e => by have := hr' _ e.symm; have := hpl k hk; omega)
      case h0 => exact ⟨fun k hk => by simp at hk, by rw [← hsz]; exact Below.refl _ _⟩
      case hAx =>
        rintro x a' _ X Y row h2 hg hr
        exact h2
      case assign =>
        rintro l pre x W K ⟨hp, hBW⟩ hK
        dsimp only [encI]
        gi_wp2
        exact hK _ _ (KeepsFrom.refl _ _) (Below.refl _ _) ⟨hp, hBW⟩ rfl
      case body =>
        rintro l pre ⟨x, hx1, hx2⟩ a' W hlB ⟨r, hr⟩ ⟨hp, hBW⟩ rfl hlt
        have hPW := hP0.step (fun k hk => hBW.block k (Nat.lt_of_lt_of_le (hpl k hk) (by omega)))
        obtain ⟨i, hi⟩ : ∃ i : Nat, x = (i : Int) + 1 := ⟨(x - 1).toNat, by omega⟩
        subst hi
        have hil : i < os.length := by omega
        obtain ⟨g, cap, hvo, hcg, hfg, hcap⟩ := hPW.at hil
        have hfr : free? os ((i : Int) + 1) = (os[i] == -1) := by
          unfold free?
          rw [show ((i : Int) + 1 - 1).toNat = i by omega, List.getD_eq_getElem?_getD, List.getElem?_eq_getElem hil]; rfl
        have e0 : Boxed W D 52 _ := (hBW.block D (by omega)).trans b0
        have e1 : Boxed W (D + 1) 3 _ := (hBW.block (D + 1) (by omega)).trans b1
        have e2 : Boxed W (D + 2) 3 _ := (hBW.block (D + 2) (by omega)).trans b2
        have e3 : Boxed W (D + 3) 54 _ := (hBW.block (D + 3) (by omega)).trans b3
        have hBD : Below D w W := hB0.trans (hBW.mono (by omega))
        have hWs := hBW.size
        have HBW := Aside0.mk hBW
        have HBD := Aside0.mk hBD
        have HPP := Aside0.mk hp
        have HPW := Aside0.mk hPW
        have c0 := e0.cell
        have c1 := e1.cell
        have cb := hPW.cell0
        rw [hvo] at cb
        have E2 := Aside0.mk e2
        have E3 := Aside0.mk e3
        have HVO := Aside0.mk hvo
        have HFR := Aside0.mk hfr
        have hi0 : (0 : Int) ≤ (i : Int) := by omega
        have hil2 : (i : Int) < (os.length : Int) := by omega
        obtain ⟨o, ho⟩ : ∃ o, os[i] = o := ⟨_, rfl⟩
        rw [ho] at hcg
        have HO := Aside0.mk ho
        clear hBW hBD hp b0 b1 b2 b3 b4 hP0 hB0 hPW hvo hfr e0 e1 e2 e3 ho hr
        by_cases hoo : o = -1
        · have hob : (o == -1) = true := beq_iff_eq.2 hoo
          subst hoo
          have hfy : free? os ((i : Int) + 1) = true := by rw [HFR.out, HO.out]; rfl
          have HFY := Aside0.mk hfy
          have hhw : Wf hand := by unfold Wf; omega
          have hgp : ∀ k ∈ pid B bm vo, k < N := fun k hk => by have := hpl k hk; omega
          have hn2 : D + 2 ∉ pid B bm vo := fun h => by have := hpl _ h; omega
          have hn3 : D + 3 ∉ pid B bm vo := fun h => by have := hpl _ h; omega
          have hl2 : D + 2 < W.heap.size := E2.out.lt
          have hl3 : D + 3 < W.heap.size := E3.out.lt
          have hwi : wrap64 (i : Int) = (i : Int) := by unfold wrap64; omega
          clear hfy HO HFR
          gi_wp2_with fail
          clear hwi
          refine ⟨trivial, calls_in wide_round (fun _ => trivial) ((own_calls HPW.out i hil s HS.out hl hc hr hhw).mono ?_)⟩
          rintro e w3 ⟨rfl, hor, hmv⟩
          have e2' : Boxed w3 (D + 2) 3 (.int .i64 0) := (hmv.block _ hl2 hn2).trans E2.out
          have e3' : Boxed w3 (D + 3) 54 (.int .i64 0) := (hmv.block _ hl3 hn3).trans E3.out
          have hkf : KeepsFrom W2.heap.size W w3 := ⟨hmv.size, fun k o hB hk _ => (hmv.block k (Array.getElem?_eq_some_iff.1 hk).1 (fun h => by have := hgp k h; omega)).trans hk⟩
          have hmw : Mv (pid B bm vo) w w3 := by
            have h0 : Below w.heap.size w W := by rw [hD]; exact HBD.out
            exact (Mv.of_below h0).trans hmv (fun k hk => .inl hk)
          have c2 := e2'.cell
          have c3 := e3'.cell
          have f2 := e2'.frozen
          have f3 := e3'.frozen
          have g2 := (Boxed.set (.int .i64 ((i : Int) + 1)) e2').other (B' := D + 3) (by omega) (.int .i64 0)
          have g3 := Boxed.set (.int .i64 0) (e3'.other (B' := D + 2) (by omega) (.int .i64 ((i : Int) + 1)))
          have hk4 := (hkf.trans ((KeepsOthers.setCell w3 ⟨D + 2, 0, none⟩ (.int .i64 ((i : Int) + 1))).from _)).trans ((KeepsOthers.setCell _ ⟨D + 3, 0, none⟩ (.int .i64 0)).from _)
          have hm4 := (hmw.set (p := ⟨D + 2, 0, none⟩) (.inr (by simp; omega)) (.int .i64 ((i : Int) + 1))).set (p := ⟨D + 3, 0, none⟩) (.inr (by simp; omega)) (.int .i64 0)
          have ho4 : OwnR base B bm vo os f c hand rounds i s ((w3.setCell ⟨D + 2, 0, none⟩ (.int .i64 ((i : Int) + 1))).setCell ⟨D + 3, 0, none⟩ (.int .i64 0)) := by
            unfold OwnR at hor ⊢
            refine hor.step (fun k hk => ?_)
            have h3 : k ≠ D + 3 := fun e => hn3 (e ▸ hk)
            have h2 : k ≠ D + 2 := fun e => hn2 (e ▸ hk)
            exact (Below.heap_setCell _ ⟨D + 3, 0, none⟩ _ k h3).trans (Below.heap_setCell _ ⟨D + 2, 0, none⟩ _ k h2)
          have G2 := Aside0.mk g2
          have G3 := Aside0.mk g3
          have HK4 := Aside0.mk hk4
          have HM4 := Aside0.mk hm4
          have HO4 := Aside0.mk ho4
          clear g2 g3 hk4 hm4 ho4 hor hmv hkf hmw hgp hn2 hn3 hl2 hl3 hcg hfg cb c0 c1 e2' e3' E2 E3 HBW HBD HPW hlB hWs
          gi_wp2
          exact ⟨HK4.out, rfl, pre, ⟨(i : Int) + 1, hx1, hx2⟩, rfl, HPP.out, HFY.out, ⟨G2.out, G3.out⟩, by
            show OwnR base B bm vo os f c hand rounds (((i : Int) + 1 - 1).toNat) s _
            rw [show ((i : Int) + 1 - 1).toNat = i by omega]
            exact HO4.out, HM4.out⟩
        · have hob : (o == -1) = false := beq_eq_false_iff_ne.2 hoo
          have hall : ∀ k ∈ pre ++ [⟨(i : Int) + 1, hx1, hx2⟩], free? os k.1 = false := fun k hk => by
            rcases List.mem_append.1 hk with h | h
            · exact HPP.out k h
            · rw [List.mem_singleton.1 h]
              show free? os ((i : Int) + 1) = false
              rw [HFR.out, HO.out]; exact hob
          have HALL := Aside0.mk hall
          have hwi : wrap64 (i : Int) = (i : Int) := by unfold wrap64; omega
          clear hall
          gi_wp2
          exact ⟨KeepsFrom.refl _ _, Below.refl _ _, HALL.out, HBW.out⟩
      case done =>
        rintro D2 xs W hD2 hxs ⟨hp, hBW⟩ hK
        have e2 : Boxed W (D + 2) 3 (.int .i64 0) := (hBW.block (D + 2) (by omega)).trans b2
        have e3 : Boxed W (D + 3) 54 (.int .i64 0) := (hBW.block (D + 3) (by omega)).trans b3
        have hBD : Below D w W := hB0.trans (hBW.mono (by omega))
        have hfn : (rot os.length hand).find? (free? os) = none := List.find?_eq_none.2 (fun k hk => by
          rw [← hxs] at hk
          obtain ⟨z, hz, rfl⟩ := List.mem_map.1 hk
          rw [hp z hz]; simp)
        have d2 := e2.cell
        have d3 := e3.cell
        have f2 := e2.frozen
        have f3 := e3.frozen
        have g2 := (Boxed.set (.int .i64 0) e2).other (B' := D + 3) (by omega) (.int .i64 8)
        have g3 := Boxed.set (.int .i64 8) (e3.other (B' := D + 2) (by omega) (.int .i64 0))
        have hk4 := (KeepsOthers.setCell _ ⟨D + 3, 0, none⟩ (.int .i64 8)).same D2 _ ((KeepsOthers.setCell W ⟨D + 2, 0, none⟩ (.int .i64 0)).same D2 _ hK rfl) rfl
        have hb4 := (hBD.setCell (p := ⟨D + 2, 0, none⟩) (by simp) (.int .i64 0)).setCell (p := ⟨D + 3, 0, none⟩) (by simp) (.int .i64 8)
        have HFN := Aside0.mk hfn
        have G2 := Aside0.mk g2
        have G3 := Aside0.mk g3
        have HK4 := Aside0.mk hk4
        have HB4 := Aside0.mk hb4
        clear hfn hBD hp b0 b1 b2 b3 b4 hP0 hB0 g2 g3 hk4 hb4
        gi_wp2
        refine ⟨by simp, .inl ⟨_, _, rfl, run_takeDeferred HK4.out, ?_⟩⟩
        have hc2 := cell_kept G2.out.cell (grownBy_putObj' _ D2 (.deferred none)) (fun r e => by cases e; exact ⟨_, HK4.out, rfl⟩)
        have hc3 := cell_kept G3.out.cell (grownBy_putObj' _ D2 (.deferred none)) (fun r e => by cases e; exact ⟨_, HK4.out, rfl⟩)
        refine ⟨.tuple #[.int .i64 0, .int .i64 8], ?_, ?_⟩
        · simp [results, Try.f31, go_sem, hc2, hc3]
        · have hb := HB4.out.trans (belowK_b (w := W2) (by omega) _ D2 _ (.deferred none) hD2 HK4.out rfl rfl)
          unfold TakeP
          rw [if_neg (by omega), HF.out]
          simp only
          rw [HFN.out]
          simp only
          have hb' := (show ∀ W9, Below D w W9 → Below w.heap.size w W9 from fun W9 h => by rw [hD]; exact h) _ hb
          exact ⟨by trivial, HP.out.below hb', Mv.of_below hb'⟩
      case stop =>
        rintro D2 cd pre W hD2 hpre ⟨rfl, p, k, rfl, h3, h4, ⟨h5, h6⟩, h7, h8⟩ hK
        have hfn : (rot os.length hand).find? (free? os) = some k.1 := by
          obtain ⟨s, hs⟩ := hpre
          rw [← hs, nums_snoc, List.append_assoc, List.find?_append, List.find?_eq_none.2 (fun j hj => by
            obtain ⟨z, hz, rfl⟩ := List.mem_map.1 hj
            rw [h3 z hz]; simp)]
          simp [h4]
        have HFN := Aside0.mk hfn
        have H7 := Aside0.mk h7
        have H8 := Aside0.mk h8
        clear hfn h3 h4 h7 h8 b0 b1 b2 b3 b4 hP0 hB0
        gi_wp2
        refine ⟨by simp, .inl ⟨_, _, rfl, run_takeDeferred hK, ?_⟩⟩
        have hc2 := cell_kept h5.cell (grownBy_putObj' _ D2 (.deferred none)) (fun r e => by cases e; exact ⟨_, hK, rfl⟩)
        have hc3 := cell_kept h6.cell (grownBy_putObj' _ D2 (.deferred none)) (fun r e => by cases e; exact ⟨_, hK, rfl⟩)
        refine ⟨.tuple #[.int .i64 k.1, .int .i64 0], ?_, ?_⟩
        · simp [results, Try.f31, go_sem, hc2, hc3]
        · unfold TakeP
          rw [if_neg (by omega), HF.out]
          simp only
          rw [HFN.out]
          simp only
          have hg := grownBy_putObj' W D2 (.deferred none)
          refine ⟨by trivial, ?_, H8.out.grown hg (fun r e => by cases e; omega)⟩
          have h7 := H7.out
          unfold OwnR at h7 ⊢
          exact h7.grown hg (fun k hk e => by have h1 := hpl k hk; cases e; omega)
    | _ => exact hq.elim

end Go.Proofs.Ytcbnmmkmgpbfiaa.PP

/- The law's 'does' (layer 14): a deed done to the program's pool and to the document's. Written by mkctxdo.py over ctxdo.txt. -/
import Derived.Test.YtcbnmmkmgpbfiaaCtxQa
import Derived.Test.YtcbnmmkmgpbfiaaRegIn
import Derived.Lib.Builder
import Derived.OneCell
import Derived.Deep.RegionHeld3
namespace Go.Proofs.Ytcbnmmkmgpbfiaa.PP
open Go.RowKit Go.Proofs.Ytcbnmmkmgpbfiaa.PX Go.Proofs.YtcbnmmkmgpbfiaaW.PrintWords Go.Proofs.YtcbnmmkmgpbfiaaW.PrintLast Go.Proofs.YtcbnmmkmgpbfiaaW.PrintMore
attribute [local go_sem] max2_int min2_int max_two min_two max_three min_three max_four min_four   -- for this text's walks alone
set_option linter.unusedVariables false
set_option linter.unusedSimpArgs false
/-- Both: the program's pool, and the document's list. -/
structure Both (w0 W : World) (base B bm : Nat) (vo : Value) (os : List Int) (hand rounds : Int) (u : Value) (L : List Int) : Prop where
  st : St W base B bm vo os hand rounds
  rv : Kd.R (Kd.int .i64) 3 W base (fun k => k ∉ pid B bm vo) u L
  bl : Below w0.heap.size w0 W
  le : base = w0.heap.size
/-- What was there stays, but for X. -/
def Stay (X : Nat → Prop) (W W' : World) : Prop := ∀ k, ¬ X k → ∀ o, W.heap[k]? = some o → W'.heap[k]? = some o
theorem Stay.trans {X : Nat → Prop} {W W' W2 : World} (h : Stay X W W') (h' : Stay X W' W2) : Stay X W W2 := fun k hk o ho => h' k hk o (h k hk o ho)
theorem Stay.below {X : Nat → Prop} {W W' : World} (h : Below W.heap.size W W') : Stay X W W' := fun _ _ _ ho => blk_below ho h
theorem Stay.pool {X : Nat → Prop} {W W' : World} {S : List Nat} (h : Mv S W W') (hS : ∀ k ∈ S, X k) : Stay X W W' := fun k hk _ ho => (h.block k (blk_lt ho) (fun hm => hk (hS k hm))).trans ho
theorem Stay.ref {X : Nat → Prop} {W W' : World} {S : Nat → Prop} (h : Kept W W' S) (hS : ∀ k, S k → X k) : Stay X W W' := fun k hk _ ho => blk_kept ho h (fun hm => hk (hS k hm))
theorem Stay.far {X : Nat → Prop} {W W' : World} (h : Stay X W W') (g j : Nat) (x : Value) : Stay (fun k => X k ∨ k = g) W (W'.setCell ⟨g, j, none⟩ x) := fun k hk o ho =>
  (Below.heap_setCell W' ⟨g, j, none⟩ x k (fun e => hk (.inr e))).trans (h k (fun hx => hk (.inl hx)) o ho)
/-- The blocks of the pool and of the document's list. -/
def Xp (B bm : Nat) (vo u : Value) (k : Nat) : Prop := k ∈ pid B bm vo ∨ some k = u.ownBlock
section
variable {w0 W W' : World} {base B bm : Nat} {vo : Value} {os os' : List Int} {hand rounds hand' rounds' : Int} {u u' : Value} {L L' : List Int}
theorem St.step (h : St W base B bm vo os hand rounds) (hk : ∀ k, k ∈ pid B bm vo → W'.heap[k]? = W.heap[k]?) : St W' base B bm vo os hand rounds := let ⟨f, c, h1, h2⟩ := h; ⟨f, c, h1.step hk, h2⟩
theorem Both.size (h : Both w0 W base B bm vo os hand rounds u L) : base ≤ W.heap.size := by rw [h.le]; exact h.bl.size
theorem Both.below (h : Both w0 W base B bm vo os hand rounds u L) (hb : Below W.heap.size W W') : Both w0 W' base B bm vo os hand rounds u L :=
  ⟨h.st.below hb, Kd.R_below h.rv hb, h.bl.trans (hb.mono h.bl.size), h.le⟩
theorem Both.pool (h : Both w0 W base B bm vo os hand rounds u L) (hs : St W' base B bm vo os' hand' rounds') (hm : Mv (pid B bm vo) W W') : Both w0 W' base B bm vo os' hand' rounds' u L :=
  ⟨hs, Kd.R_step h.rv (fun k hk hlt => hm.block k hlt hk), by have := h.st.mv (h.le ▸ h.bl) hm h.size; rw [h.le] at this; exact this, h.le⟩
theorem Both.own (h : Both w0 W base B bm vo os hand rounds u L) : Kd.R (Kd.int .i64) 3 W w0.heap.size (fun k => some k = u.ownBlock) u L := by have := Kd.R_tight rfl h.rv; rw [h.le] at this; exact this
theorem Both.ref (h : Both w0 W base B bm vo os hand rounds u L) (hr : Kd.R (Kd.int .i64) 3 W' w0.heap.size (fun k => some k = u.ownBlock ∨ W.heap.size ≤ k) u' L') (hk : Kept W W' (fun k => some k = u.ownBlock)) (hb : Below w0.heap.size w0 W') :
    Both w0 W' base B bm vo os hand rounds u' L' := by
  refine ⟨h.st.step (fun k hm => hk.2 k (h.st.lt k hm) (fun e => h.rv.1 k e.symm hm)), ?_, hb, h.le⟩
  rw [h.le]
  refine Kd.R_mono hr (fun k hk hm => ?_)
  rcases hk with hk | hk
  · exact h.rv.1 k hk.symm hm
  · have := h.st.lt k hm; omega
theorem Both.far (h : Both w0 W base B bm vo os hand rounds u L) {g : Nat} {cs : Array Value} {t : TypeId} (hg : W.heap[g]? = some (.cells cs t (0, 0))) (ht : t ≠ 103 ∧ t ≠ 3) (h0 : w0.heap.size ≤ g) (j : Nat) (x : Value) :
    Both w0 (W.setCell ⟨g, j, none⟩ x) base B bm vo os hand rounds u L := by
  have hn : g ∉ pid B bm vo := let ⟨_, _, hp, _⟩ := h.st; not_pid hp hg ht
  refine ⟨h.st.step (fun k hm => Below.heap_setCell W ⟨g, j, none⟩ x k (fun e => hn (by have e2 : k = g := e; rw [← e2]; exact hm))), ?_, h.bl.setCell (p := ⟨g, j, none⟩) h0 x, h.le⟩
  have hne := Kd.R_ne h.rv hg (Ne.symm ht.2)
  exact Kd.R_mono (Kd.R_far (p := ⟨g, j, none⟩) (Kd.R_tight rfl h.rv) (fun k hk e => hne (by have e2 : k = g := e; rw [← e2]; exact hk)) x) (fun k hk => h.rv.1 k hk.symm)
theorem Both.reads {A : Option Addr} {c : Nat} (h : Both w0 W base B bm vo os hand rounds (.slice A L.length c) L) : L.length ≤ c ∧ Kd.C (Kd.int .i64) W A L.length L := (Kd.R_reads' h.rv).2
end
theorem Nx.re {L : List Int} {r : Int} {a : Ans} (h : Nx L r a) : Nx L r (a.1, a.2.1, a.2.2.1, 0, 0) := ⟨h.doc, h.len, h.lo, h.hi⟩
/-- What 'does' leaves. -/
def DoesP (w0 w : World) (base B bm : Nat) (vo : Value) (os : List Int) (hand rounds : Int) (u : Value) (L : List Int) (h r : Int) (e : Ending) (w' : World) : Prop :=
  ∃ (os' : List Int) (hand' rounds' : Int) (A' : Option Addr) (c' : Nat) (L' : List Int) (h' r' : Int) (same : Bool),
    e = .returned (.tuple #[.agg #[.slice A' L'.length c', .int .i64 h', .int .i64 r'], .bool same]) ∧ Both w0 w' base B bm vo os' hand' rounds' (.slice A' L'.length c') L' ∧
      Nx os rounds (os', hand', rounds', 0, 0) ∧ Nx L r (L', h', r', 0, 0) ∧ (os = L → hand = h → rounds = r → same = true ∧ os' = L' ∧ hand' = h' ∧ rounds' = r') ∧ (∀ k, k < w.heap.size → ¬ Xp B bm vo u k → ∀ o, w.heap[k]? = some o → w'.heap[k]? = some o)
theorem int_take {w : World} {A : Option Addr} {n m : Nat} {xs : List Int} (h : Kd.C (Kd.int .i64) w A n xs) (hm : m ≤ n) : Kd.C (Kd.int .i64) w A m (xs.take m) := by
  obtain ⟨h1, h2, h3⟩ := h
  refine ⟨by rw [List.length_take]; omega, by omega, fun hp => ?_⟩
  obtain ⟨a, ha, hr⟩ := h3 (by omega)
  refine ⟨a, ha, fun j x hj => ?_⟩
  rw [List.getElem?_take] at hj
  split at hj
  · exact hr j x hj
  · cases hj
section
variable {w0 w : World} {base B bm : Nat} {vo : Value} {os : List Int} {hand rounds : Int} {Au : Option Addr} {cu : Nat} {L : List Int} {h r : Int}
set_option maxHeartbeats 8000000 in
set_option maxRecDepth 100000 in
theorem does_take (hB : Both w0 w base B bm vo os hand rounds (.slice Au L.length cu) L) (d : Doc os hand rounds) (dL : Doc L h r) (hr1 : rounds < 1000000) (hr2 : r < 1000000) (n sp : Int) (hs : Wf sp) (A : Option Addr) (c : Nat) (xs : List Int) (hxc : xs.length ≤ c) (hC : Kd.C (Kd.int .i64) w0 A xs.length xs) :
    Calls Try.prog 42 #[.pointer (some ⟨B, 0, none⟩), .agg #[.slice Au L.length cu, .int .i64 h, .int .i64 r], .agg #[.int .i64 0, .int .i64 n, .int .i64 sp, .slice A xs.length c]] w (DoesP w0 w base B bm vo os hand rounds (.slice Au L.length cu) L h r) := by
  obtain ⟨T, hT, hTl, hTx⟩ : ∃ T : List Int, T = xs.take 10 ∧ T.length ≤ 10 ∧ (if (10 : Int) < (xs.length : Int) then 10 else (xs.length : Int)) = (T.length : Int) := ⟨_, rfl, by rw [List.length_take]; omega, by rw [List.length_take]; split <;> omega⟩
  have hTc : T.length ≤ c := by rw [hT, List.length_take]; omega
  have hCT : ∀ W, Below w0.heap.size w0 W → Kd.C (Kd.int .i64) W A T.length T := fun W hW => by
    have := int_take (Kd.C_below hC hW) (show T.length ≤ xs.length by rw [hT, List.length_take]; omega)
    have e : xs.take T.length = T := by rw [hT, List.length_take, List.take_eq_take_iff]; omega
    rwa [e] at this
  have HCT := Aside0.mk hCT
  clear hCT hT hC
  have hb0 := (((Below.refl w.heap.size w).alloc (Nat.le_refl _) (.cells #[.slice Au L.length cu, .int .i64 h, .int .i64 r] 67)).alloc (by simp) (.cells #[.int .i64 0, .int .i64 n, .int .i64 sp, .slice A xs.length c] 72)).alloc (by simp; omega) (.cells #[.slice none 0 0, .int .i64 0, .int .i64 0] 67)
  have hk4 := blk_alloc (blk_alloc (blk_new w (.cells #[.slice Au L.length cu, .int .i64 h, .int .i64 r] 67)) (.cells #[.int .i64 0, .int .i64 n, .int .i64 sp, .slice A xs.length c] 72)) (.cells #[.slice none 0 0, .int .i64 0, .int .i64 0] 67)
  have hk5 := blk_alloc (blk_new (w.alloc (.cells #[.slice Au L.length cu, .int .i64 h, .int .i64 r] 67)) (.cells #[.int .i64 0, .int .i64 n, .int .i64 sp, .slice A xs.length c] 72)) (.cells #[.slice none 0 0, .int .i64 0, .int .i64 0] 67)
  have hk6 := blk_new ((w.alloc (.cells #[.slice Au L.length cu, .int .i64 h, .int .i64 r] 67)).alloc (.cells #[.int .i64 0, .int .i64 n, .int .i64 sp, .slice A xs.length c] 72)) (.cells #[.slice none 0 0, .int .i64 0, .int .i64 0] 67)
  have hsz : (w.alloc (.cells #[.slice Au L.length cu, .int .i64 h, .int .i64 r] 67)).heap.size = w.heap.size + 1 := by simp
  have hsz2 : ((w.alloc (.cells #[.slice Au L.length cu, .int .i64 h, .int .i64 r] 67)).alloc (.cells #[.int .i64 0, .int .i64 n, .int .i64 sp, .slice A xs.length c] 72)).heap.size = w.heap.size + 2 := by simp
  rw [hsz] at hk5
  rw [hsz2] at hk6
  go_enter Try.func42, Try.ntmps42
  go_wp2_with fail
  have HXL := Aside0.mk (show ∀ k, Xp B bm vo (Value.slice Au L.length cu) k → k < w.heap.size from fun k hk => hk.elim (hB.st.lt k) (fun hk => Kd.R_lt hB.rv k hk.symm))
  have HZ := Aside0.mk (hB.below hb0)
  have HDO := Aside0.mk d
  have HDL := Aside0.mk dL
  have HW0 := Aside0.mk hB.bl.size
  have HSY := Aside0.mk (show Stay (Xp B bm vo (Value.slice Au L.length cu)) w _ from Stay.below hb0)
  clear hB hb0 hsz hsz2 d dL
  generalize ((w.alloc (.cells #[.slice Au L.length cu, .int .i64 h, .int .i64 r] 67)).alloc (.cells #[.int .i64 0, .int .i64 n, .int .i64 sp, .slice A xs.length c] 72)).alloc (.cells #[.slice none 0 0, .int .i64 0, .int .i64 0] 67) = wD at *
  have HK4 := Aside0.mk hk4
  have HK5 := Aside0.mk hk5
  have HK6 := Aside0.mk hk6
  clear hk4 hk5 hk6
  obtain ⟨x0, x1, x2⟩ := And.intro ((blk_cell HK4.out 0).trans rfl) (And.intro ((blk_cell HK4.out 1).trans rfl) ((blk_cell HK4.out 2).trans rfl))
  obtain ⟨y0, y1, y2, y3⟩ := And.intro ((blk_cell HK5.out 0).trans rfl) (And.intro ((blk_cell HK5.out 1).trans rfl) (And.intro ((blk_cell HK5.out 2).trans rfl) ((blk_cell HK5.out 3).trans rfl)))
  obtain ⟨r0, r1, r2⟩ := And.intro ((blk_cell HK6.out 0).trans rfl) (And.intro ((blk_cell HK6.out 1).trans rfl) ((blk_cell HK6.out 2).trans rfl))
  have f6 := blk_frozen HK6.out
  obtain ⟨⟨L1, h1, r1', n1, e1⟩, ha⟩ : ∃ a, takeS L h r sp = a := ⟨_, rfl⟩
  obtain ⟨⟨os2, hd2, rn2, n2, e2⟩, hb⟩ : ∃ a, takeS os hand rounds sp = a := ⟨_, rfl⟩
  have hf := Take_f L h r sp HDL.out hr2
  rw [ha] at hf
  have HF := Aside0.mk hf
  have HNL := Aside0.mk (ha ▸ takeS_nx HDL.out hr2 hs)
  have HNO := Aside0.mk (hb ▸ takeS_nx HDO.out hr1 hs)
  have HEQ := Aside0.mk (show os = L → hand = h → rounds = r → ((os2, hd2, rn2, n2, e2) : Ans) = (L1, h1, r1', n1, e1) from fun a1 a2 a3 => by rw [← ha, ← hb, a1, a2, a3])
  have HB := Aside0.mk hb
  clear hf ha hb
  go_wp2_with fail
  refine (lookasideref14_Take.calls 9000 (fun k => some k = (Value.slice Au L.length cu).ownBlock) (.slice Au L.length cu) L h r sp L1 h1 r1' n1 e1 w0 wD HZ.out.bl HZ.out.own HF.out).mono ?_
  rintro e wE ⟨v1, rfl, hR1, hb1, hk1⟩
  obtain ⟨A1, c1, rfl⟩ := Kd.R_slice hR1
  clear x0 x1 x2 y0 y1 y2 y3 r0 r1 r2 f6 HF
  have hstay := Aside0.mk (show Stay (Xp B bm vo (Value.slice Au L.length cu)) _ _ from Stay.ref hk1 (fun k hk => .inr hk))
  replace HK4 := Aside0.mk (hstay.out _ (fun hx => by have := HXL.out _ hx; omega) _ HK4.out)
  replace HK5 := Aside0.mk (hstay.out _ (fun hx => by have := HXL.out _ hx; omega) _ HK5.out)
  replace HK6 := Aside0.mk (hstay.out _ (fun hx => by have := HXL.out _ hx; omega) _ HK6.out)
  replace HSY := Aside0.mk (HSY.out.trans hstay.out)
  clear hstay
  replace HZ := Aside0.mk (HZ.out.ref hR1 hk1 hb1)
  clear hR1 hk1 hb1
  have hbF := (Below.refl wE.heap.size wE).alloc (Nat.le_refl _) (.cells #[.slice A1 L1.length c1, .int .i64 h1, .int .i64 r1'] 67)
  have hkF := blk_new wE (.cells #[.slice A1 L1.length c1, .int .i64 h1, .int .i64 r1'] 67)
  have hlF := HK6.out
  have hlF := blk_lt hlF
  have hstay := Aside0.mk (show Stay (Xp B bm vo (Value.slice Au L.length cu)) _ _ from Stay.below hbF)
  replace HK4 := Aside0.mk (hstay.out _ (fun hx => by have := HXL.out _ hx; omega) _ HK4.out)
  replace HK5 := Aside0.mk (hstay.out _ (fun hx => by have := HXL.out _ hx; omega) _ HK5.out)
  replace HK6 := Aside0.mk (hstay.out _ (fun hx => by have := HXL.out _ hx; omega) _ HK6.out)
  replace HSY := Aside0.mk (HSY.out.trans hstay.out)
  clear hstay
  replace HZ := Aside0.mk (HZ.out.below hbF)
  have HKF := Aside0.mk hkF
  clear hbF hkF
  obtain ⟨x0, x1, x2⟩ := And.intro ((blk_cell HK4.out 0).trans rfl) (And.intro ((blk_cell HK4.out 1).trans rfl) ((blk_cell HK4.out 2).trans rfl))
  obtain ⟨y0, y1, y2, y3⟩ := And.intro ((blk_cell HK5.out 0).trans rfl) (And.intro ((blk_cell HK5.out 1).trans rfl) (And.intro ((blk_cell HK5.out 2).trans rfl) ((blk_cell HK5.out 3).trans rfl)))
  obtain ⟨r0, r1, r2⟩ := And.intro ((blk_cell HK6.out 0).trans rfl) (And.intro ((blk_cell HK6.out 1).trans rfl) ((blk_cell HK6.out 2).trans rfl))
  have f6 := blk_frozen HK6.out
  go_wp2_with fail
  generalize wE.alloc (.cells #[.slice A1 L1.length c1, .int .i64 h1, .int .i64 r1'] 67) = wF at *
  generalize wE.heap.size = g9 at *
  have hpool := take_S HZ.out.st HDO.out hs
  rw [HB.out] at hpool
  refine hpool.mono ?_
  clear hpool
  rintro e wG ⟨rfl, hst, hmv⟩
  clear x0 x1 x2 y0 y1 y2 y3 r0 r1 r2 f6
  have hstay := Aside0.mk (show Stay (Xp B bm vo (Value.slice Au L.length cu)) _ _ from Stay.pool hmv (fun k hk => .inl hk))
  replace HK4 := Aside0.mk (hstay.out _ (fun hx => by have := HXL.out _ hx; omega) _ HK4.out)
  replace HK5 := Aside0.mk (hstay.out _ (fun hx => by have := HXL.out _ hx; omega) _ HK5.out)
  replace HK6 := Aside0.mk (hstay.out _ (fun hx => by have := HXL.out _ hx; omega) _ HK6.out)
  replace HSY := Aside0.mk (HSY.out.trans hstay.out)
  clear hstay
  have HKF' := Aside0.mk ((show Stay (Xp B bm vo (Value.slice Au L.length cu)) _ _ from Stay.pool hmv (fun k hk => .inl hk)) g9 (fun hx => by have := HXL.out _ hx; omega) _ HKF.out)
  replace HZ := Aside0.mk (HZ.out.pool hst hmv)
  clear hst hmv HKF HB hlF
  obtain ⟨x0, x1, x2⟩ := And.intro ((blk_cell HK4.out 0).trans rfl) (And.intro ((blk_cell HK4.out 1).trans rfl) ((blk_cell HK4.out 2).trans rfl))
  obtain ⟨y0, y1, y2, y3⟩ := And.intro ((blk_cell HK5.out 0).trans rfl) (And.intro ((blk_cell HK5.out 1).trans rfl) (And.intro ((blk_cell HK5.out 2).trans rfl) ((blk_cell HK5.out 3).trans rfl)))
  obtain ⟨r0, r1, r2⟩ := And.intro ((blk_cell HK6.out 0).trans rfl) (And.intro ((blk_cell HK6.out 1).trans rfl) ((blk_cell HK6.out 2).trans rfl))
  have f6 := blk_frozen HK6.out
  obtain ⟨z0, z1, z2⟩ := And.intro ((blk_cell HKF'.out 0).trans rfl) (And.intro ((blk_cell HKF'.out 1).trans rfl) ((blk_cell HKF'.out 2).trans rfl))
  have hBG := HZ.out
  have hfar := ((hBG.far HK6.out (by decide) (Nat.le_trans HW0.out (Nat.le_add_right _ 2)) 0 (.slice A1 L1.length c1)).far (blk_put HK6.out 0 (.slice A1 L1.length c1) rfl) (by decide) (Nat.le_trans HW0.out (Nat.le_add_right _ 2)) 1 (.int .i64 h1)).far (blk_put (blk_put HK6.out 0 (.slice A1 L1.length c1) rfl) 1 (.int .i64 h1) rfl) (by decide) (Nat.le_trans HW0.out (Nat.le_add_right _ 2)) 2 (.int .i64 r1')
  have hk6' := blk_put (blk_put (blk_put HK6.out 0 (.slice A1 L1.length c1) rfl) 1 (.int .i64 h1) rfl) 2 (.int .i64 r1') rfl
  have HFAR := Aside0.mk hfar
  have HK6' := Aside0.mk hk6'
  have HFR := Aside0.mk (((HSY.out.far (w.heap.size + 2) 0 (.slice A1 L1.length c1)).far (w.heap.size + 2) 1 (.int .i64 h1)).far (w.heap.size + 2) 2 (.int .i64 r1'))
  clear hBG hfar hk6'
  by_cases hq1 : n2 = n1
  · have hb1 : (n2 == n1) = true := beq_iff_eq.2 hq1
    by_cases hq2 : e2 = e1
    · have hb2 : (e2 == e1) = true := beq_iff_eq.2 hq2
      go_wp2_with fail
      refine bodyPost_ret (results_ct rfl _ _ (w.heap.size + 2) 67 #[.slice A1 L1.length c1, .int .i64 h1, .int .i64 r1'] (0, 0) _ rfl HK6'.out Try.underlying67 rfl (by kernel_rfl)) rfl ?_
      exact ⟨os2, hd2, rn2, A1, c1, L1, h1, r1', true, rfl, HFAR.out, HNO.out.re, HNL.out.re, fun a1 a2 a3 => (by have := HEQ.out a1 a2 a3; simp only [Prod.mk.injEq] at this; exact ⟨rfl, this.1, this.2.1, this.2.2.1⟩), fun k hk hx => HFR.out k (fun hy => by rcases hy with ((hy | hy) | hy) | hy <;> first | exact hx hy | omega)⟩
    · have hb2 : (e2 == e1) = false := beq_eq_false_iff_ne.2 hq2
      go_wp2_with fail
      refine bodyPost_ret (results_ct rfl _ _ (w.heap.size + 2) 67 #[.slice A1 L1.length c1, .int .i64 h1, .int .i64 r1'] (0, 0) _ rfl HK6'.out Try.underlying67 rfl (by kernel_rfl)) rfl ?_
      exact ⟨os2, hd2, rn2, A1, c1, L1, h1, r1', false, rfl, HFAR.out, HNO.out.re, HNL.out.re, fun a1 a2 a3 => (by have := HEQ.out a1 a2 a3; simp only [Prod.mk.injEq] at this; exact absurd this.2.2.2.2 hq2), fun k hk hx => HFR.out k (fun hy => by rcases hy with ((hy | hy) | hy) | hy <;> first | exact hx hy | omega)⟩
  · have hb1 : (n2 == n1) = false := beq_eq_false_iff_ne.2 hq1
    go_wp2_with fail
    refine bodyPost_ret (results_ct rfl _ _ (w.heap.size + 2) 67 #[.slice A1 L1.length c1, .int .i64 h1, .int .i64 r1'] (0, 0) _ rfl HK6'.out Try.underlying67 rfl (by kernel_rfl)) rfl ?_
    exact ⟨os2, hd2, rn2, A1, c1, L1, h1, r1', false, rfl, HFAR.out, HNO.out.re, HNL.out.re, fun a1 a2 a3 => (by have := HEQ.out a1 a2 a3; simp only [Prod.mk.injEq] at this; exact absurd this.2.2.2.1 hq1), fun k hk hx => HFR.out k (fun hy => by rcases hy with ((hy | hy) | hy) | hy <;> first | exact hx hy | omega)⟩
set_option maxHeartbeats 8000000 in
set_option maxRecDepth 100000 in
theorem does_give (hB : Both w0 w base B bm vo os hand rounds (.slice Au L.length cu) L) (d : Doc os hand rounds) (dL : Doc L h r) (hr1 : rounds < 1000000) (hr2 : r < 1000000) (n sp : Int) (hs : Wf sp) (A : Option Addr) (c : Nat) (xs : List Int) (hxc : xs.length ≤ c) (hC : Kd.C (Kd.int .i64) w0 A xs.length xs) :
    Calls Try.prog 42 #[.pointer (some ⟨B, 0, none⟩), .agg #[.slice Au L.length cu, .int .i64 h, .int .i64 r], .agg #[.int .i64 2, .int .i64 n, .int .i64 sp, .slice A xs.length c]] w (DoesP w0 w base B bm vo os hand rounds (.slice Au L.length cu) L h r) := by
  obtain ⟨T, hT, hTl, hTx⟩ : ∃ T : List Int, T = xs.take 10 ∧ T.length ≤ 10 ∧ (if (10 : Int) < (xs.length : Int) then 10 else (xs.length : Int)) = (T.length : Int) := ⟨_, rfl, by rw [List.length_take]; omega, by rw [List.length_take]; split <;> omega⟩
  have hTc : T.length ≤ c := by rw [hT, List.length_take]; omega
  have hCT : ∀ W, Below w0.heap.size w0 W → Kd.C (Kd.int .i64) W A T.length T := fun W hW => by
    have := int_take (Kd.C_below hC hW) (show T.length ≤ xs.length by rw [hT, List.length_take]; omega)
    have e : xs.take T.length = T := by rw [hT, List.length_take, List.take_eq_take_iff]; omega
    rwa [e] at this
  have HCT := Aside0.mk hCT
  clear hCT hT hC
  have hb0 := (((Below.refl w.heap.size w).alloc (Nat.le_refl _) (.cells #[.slice Au L.length cu, .int .i64 h, .int .i64 r] 67)).alloc (by simp) (.cells #[.int .i64 2, .int .i64 n, .int .i64 sp, .slice A xs.length c] 72)).alloc (by simp; omega) (.cells #[.slice none 0 0, .int .i64 0, .int .i64 0] 67)
  have hk4 := blk_alloc (blk_alloc (blk_new w (.cells #[.slice Au L.length cu, .int .i64 h, .int .i64 r] 67)) (.cells #[.int .i64 2, .int .i64 n, .int .i64 sp, .slice A xs.length c] 72)) (.cells #[.slice none 0 0, .int .i64 0, .int .i64 0] 67)
  have hk5 := blk_alloc (blk_new (w.alloc (.cells #[.slice Au L.length cu, .int .i64 h, .int .i64 r] 67)) (.cells #[.int .i64 2, .int .i64 n, .int .i64 sp, .slice A xs.length c] 72)) (.cells #[.slice none 0 0, .int .i64 0, .int .i64 0] 67)
  have hk6 := blk_new ((w.alloc (.cells #[.slice Au L.length cu, .int .i64 h, .int .i64 r] 67)).alloc (.cells #[.int .i64 2, .int .i64 n, .int .i64 sp, .slice A xs.length c] 72)) (.cells #[.slice none 0 0, .int .i64 0, .int .i64 0] 67)
  have hsz : (w.alloc (.cells #[.slice Au L.length cu, .int .i64 h, .int .i64 r] 67)).heap.size = w.heap.size + 1 := by simp
  have hsz2 : ((w.alloc (.cells #[.slice Au L.length cu, .int .i64 h, .int .i64 r] 67)).alloc (.cells #[.int .i64 2, .int .i64 n, .int .i64 sp, .slice A xs.length c] 72)).heap.size = w.heap.size + 2 := by simp
  rw [hsz] at hk5
  rw [hsz2] at hk6
  go_enter Try.func42, Try.ntmps42
  go_wp2_with fail
  have HXL := Aside0.mk (show ∀ k, Xp B bm vo (Value.slice Au L.length cu) k → k < w.heap.size from fun k hk => hk.elim (hB.st.lt k) (fun hk => Kd.R_lt hB.rv k hk.symm))
  have HZ := Aside0.mk (hB.below hb0)
  have HDO := Aside0.mk d
  have HDL := Aside0.mk dL
  have HW0 := Aside0.mk hB.bl.size
  have HSY := Aside0.mk (show Stay (Xp B bm vo (Value.slice Au L.length cu)) w _ from Stay.below hb0)
  clear hB hb0 hsz hsz2 d dL
  generalize ((w.alloc (.cells #[.slice Au L.length cu, .int .i64 h, .int .i64 r] 67)).alloc (.cells #[.int .i64 2, .int .i64 n, .int .i64 sp, .slice A xs.length c] 72)).alloc (.cells #[.slice none 0 0, .int .i64 0, .int .i64 0] 67) = wD at *
  have HK4 := Aside0.mk hk4
  have HK5 := Aside0.mk hk5
  have HK6 := Aside0.mk hk6
  clear hk4 hk5 hk6
  obtain ⟨x0, x1, x2⟩ := And.intro ((blk_cell HK4.out 0).trans rfl) (And.intro ((blk_cell HK4.out 1).trans rfl) ((blk_cell HK4.out 2).trans rfl))
  obtain ⟨y0, y1, y2, y3⟩ := And.intro ((blk_cell HK5.out 0).trans rfl) (And.intro ((blk_cell HK5.out 1).trans rfl) (And.intro ((blk_cell HK5.out 2).trans rfl) ((blk_cell HK5.out 3).trans rfl)))
  obtain ⟨r0, r1, r2⟩ := And.intro ((blk_cell HK6.out 0).trans rfl) (And.intro ((blk_cell HK6.out 1).trans rfl) ((blk_cell HK6.out 2).trans rfl))
  have f6 := blk_frozen HK6.out
  obtain ⟨⟨L1, h1, r1', n1, e1⟩, ha⟩ : ∃ a, giveS L h r sp = a := ⟨_, rfl⟩
  obtain ⟨⟨os2, hd2, rn2, n2, e2⟩, hb⟩ : ∃ a, giveS os hand rounds sp = a := ⟨_, rfl⟩
  have hf := Give_f L h r sp HDL.out
  rw [ha] at hf
  have HF := Aside0.mk hf
  have HNL := Aside0.mk (ha ▸ giveS_nx HDL.out sp)
  have HNO := Aside0.mk (hb ▸ giveS_nx HDO.out sp)
  have HEQ := Aside0.mk (show os = L → hand = h → rounds = r → ((os2, hd2, rn2, n2, e2) : Ans) = (L1, h1, r1', n1, e1) from fun a1 a2 a3 => by rw [← ha, ← hb, a1, a2, a3])
  have HB := Aside0.mk hb
  clear hf ha hb
  go_wp2_with fail
  refine (lookasideref14_Give.calls 9000 (fun k => some k = (Value.slice Au L.length cu).ownBlock) (.slice Au L.length cu) L h r sp L1 h1 r1' n1 e1 w0 wD HZ.out.bl HZ.out.own HF.out).mono ?_
  rintro e wE ⟨v1, rfl, hR1, hb1, hk1⟩
  obtain ⟨A1, c1, rfl⟩ := Kd.R_slice hR1
  clear x0 x1 x2 y0 y1 y2 y3 r0 r1 r2 f6 HF
  have hstay := Aside0.mk (show Stay (Xp B bm vo (Value.slice Au L.length cu)) _ _ from Stay.ref hk1 (fun k hk => .inr hk))
  replace HK4 := Aside0.mk (hstay.out _ (fun hx => by have := HXL.out _ hx; omega) _ HK4.out)
  replace HK5 := Aside0.mk (hstay.out _ (fun hx => by have := HXL.out _ hx; omega) _ HK5.out)
  replace HK6 := Aside0.mk (hstay.out _ (fun hx => by have := HXL.out _ hx; omega) _ HK6.out)
  replace HSY := Aside0.mk (HSY.out.trans hstay.out)
  clear hstay
  replace HZ := Aside0.mk (HZ.out.ref hR1 hk1 hb1)
  clear hR1 hk1 hb1
  have hbF := (Below.refl wE.heap.size wE).alloc (Nat.le_refl _) (.cells #[.slice A1 L1.length c1, .int .i64 h1, .int .i64 r1'] 67)
  have hkF := blk_new wE (.cells #[.slice A1 L1.length c1, .int .i64 h1, .int .i64 r1'] 67)
  have hlF := HK6.out
  have hlF := blk_lt hlF
  have hstay := Aside0.mk (show Stay (Xp B bm vo (Value.slice Au L.length cu)) _ _ from Stay.below hbF)
  replace HK4 := Aside0.mk (hstay.out _ (fun hx => by have := HXL.out _ hx; omega) _ HK4.out)
  replace HK5 := Aside0.mk (hstay.out _ (fun hx => by have := HXL.out _ hx; omega) _ HK5.out)
  replace HK6 := Aside0.mk (hstay.out _ (fun hx => by have := HXL.out _ hx; omega) _ HK6.out)
  replace HSY := Aside0.mk (HSY.out.trans hstay.out)
  clear hstay
  replace HZ := Aside0.mk (HZ.out.below hbF)
  have HKF := Aside0.mk hkF
  clear hbF hkF
  obtain ⟨x0, x1, x2⟩ := And.intro ((blk_cell HK4.out 0).trans rfl) (And.intro ((blk_cell HK4.out 1).trans rfl) ((blk_cell HK4.out 2).trans rfl))
  obtain ⟨y0, y1, y2, y3⟩ := And.intro ((blk_cell HK5.out 0).trans rfl) (And.intro ((blk_cell HK5.out 1).trans rfl) (And.intro ((blk_cell HK5.out 2).trans rfl) ((blk_cell HK5.out 3).trans rfl)))
  obtain ⟨r0, r1, r2⟩ := And.intro ((blk_cell HK6.out 0).trans rfl) (And.intro ((blk_cell HK6.out 1).trans rfl) ((blk_cell HK6.out 2).trans rfl))
  have f6 := blk_frozen HK6.out
  go_wp2_with fail
  generalize wE.alloc (.cells #[.slice A1 L1.length c1, .int .i64 h1, .int .i64 r1'] 67) = wF at *
  generalize wE.heap.size = g9 at *
  have hpool := give_S HZ.out.st HDO.out hs
  rw [HB.out] at hpool
  refine hpool.mono ?_
  clear hpool
  rintro e wG ⟨rfl, hst, hmv⟩
  clear x0 x1 x2 y0 y1 y2 y3 r0 r1 r2 f6
  have hstay := Aside0.mk (show Stay (Xp B bm vo (Value.slice Au L.length cu)) _ _ from Stay.pool hmv (fun k hk => .inl hk))
  replace HK4 := Aside0.mk (hstay.out _ (fun hx => by have := HXL.out _ hx; omega) _ HK4.out)
  replace HK5 := Aside0.mk (hstay.out _ (fun hx => by have := HXL.out _ hx; omega) _ HK5.out)
  replace HK6 := Aside0.mk (hstay.out _ (fun hx => by have := HXL.out _ hx; omega) _ HK6.out)
  replace HSY := Aside0.mk (HSY.out.trans hstay.out)
  clear hstay
  have HKF' := Aside0.mk ((show Stay (Xp B bm vo (Value.slice Au L.length cu)) _ _ from Stay.pool hmv (fun k hk => .inl hk)) g9 (fun hx => by have := HXL.out _ hx; omega) _ HKF.out)
  replace HZ := Aside0.mk (HZ.out.pool hst hmv)
  clear hst hmv HKF HB hlF
  obtain ⟨x0, x1, x2⟩ := And.intro ((blk_cell HK4.out 0).trans rfl) (And.intro ((blk_cell HK4.out 1).trans rfl) ((blk_cell HK4.out 2).trans rfl))
  obtain ⟨y0, y1, y2, y3⟩ := And.intro ((blk_cell HK5.out 0).trans rfl) (And.intro ((blk_cell HK5.out 1).trans rfl) (And.intro ((blk_cell HK5.out 2).trans rfl) ((blk_cell HK5.out 3).trans rfl)))
  obtain ⟨r0, r1, r2⟩ := And.intro ((blk_cell HK6.out 0).trans rfl) (And.intro ((blk_cell HK6.out 1).trans rfl) ((blk_cell HK6.out 2).trans rfl))
  have f6 := blk_frozen HK6.out
  obtain ⟨z0, z1, z2⟩ := And.intro ((blk_cell HKF'.out 0).trans rfl) (And.intro ((blk_cell HKF'.out 1).trans rfl) ((blk_cell HKF'.out 2).trans rfl))
  have hBG := HZ.out
  have hfar := ((hBG.far HK6.out (by decide) (Nat.le_trans HW0.out (Nat.le_add_right _ 2)) 0 (.slice A1 L1.length c1)).far (blk_put HK6.out 0 (.slice A1 L1.length c1) rfl) (by decide) (Nat.le_trans HW0.out (Nat.le_add_right _ 2)) 1 (.int .i64 h1)).far (blk_put (blk_put HK6.out 0 (.slice A1 L1.length c1) rfl) 1 (.int .i64 h1) rfl) (by decide) (Nat.le_trans HW0.out (Nat.le_add_right _ 2)) 2 (.int .i64 r1')
  have hk6' := blk_put (blk_put (blk_put HK6.out 0 (.slice A1 L1.length c1) rfl) 1 (.int .i64 h1) rfl) 2 (.int .i64 r1') rfl
  have HFAR := Aside0.mk hfar
  have HK6' := Aside0.mk hk6'
  have HFR := Aside0.mk (((HSY.out.far (w.heap.size + 2) 0 (.slice A1 L1.length c1)).far (w.heap.size + 2) 1 (.int .i64 h1)).far (w.heap.size + 2) 2 (.int .i64 r1'))
  clear hBG hfar hk6'
  by_cases hq1 : n2 = n1
  · have hb1 : (n2 == n1) = true := beq_iff_eq.2 hq1
    by_cases hq2 : e2 = e1
    · have hb2 : (e2 == e1) = true := beq_iff_eq.2 hq2
      go_wp2_with fail
      refine bodyPost_ret (results_ct rfl _ _ (w.heap.size + 2) 67 #[.slice A1 L1.length c1, .int .i64 h1, .int .i64 r1'] (0, 0) _ rfl HK6'.out Try.underlying67 rfl (by kernel_rfl)) rfl ?_
      exact ⟨os2, hd2, rn2, A1, c1, L1, h1, r1', true, rfl, HFAR.out, HNO.out.re, HNL.out.re, fun a1 a2 a3 => (by have := HEQ.out a1 a2 a3; simp only [Prod.mk.injEq] at this; exact ⟨rfl, this.1, this.2.1, this.2.2.1⟩), fun k hk hx => HFR.out k (fun hy => by rcases hy with ((hy | hy) | hy) | hy <;> first | exact hx hy | omega)⟩
    · have hb2 : (e2 == e1) = false := beq_eq_false_iff_ne.2 hq2
      go_wp2_with fail
      refine bodyPost_ret (results_ct rfl _ _ (w.heap.size + 2) 67 #[.slice A1 L1.length c1, .int .i64 h1, .int .i64 r1'] (0, 0) _ rfl HK6'.out Try.underlying67 rfl (by kernel_rfl)) rfl ?_
      exact ⟨os2, hd2, rn2, A1, c1, L1, h1, r1', false, rfl, HFAR.out, HNO.out.re, HNL.out.re, fun a1 a2 a3 => (by have := HEQ.out a1 a2 a3; simp only [Prod.mk.injEq] at this; exact absurd this.2.2.2.2 hq2), fun k hk hx => HFR.out k (fun hy => by rcases hy with ((hy | hy) | hy) | hy <;> first | exact hx hy | omega)⟩
  · have hb1 : (n2 == n1) = false := beq_eq_false_iff_ne.2 hq1
    go_wp2_with fail
    refine bodyPost_ret (results_ct rfl _ _ (w.heap.size + 2) 67 #[.slice A1 L1.length c1, .int .i64 h1, .int .i64 r1'] (0, 0) _ rfl HK6'.out Try.underlying67 rfl (by kernel_rfl)) rfl ?_
    exact ⟨os2, hd2, rn2, A1, c1, L1, h1, r1', false, rfl, HFAR.out, HNO.out.re, HNL.out.re, fun a1 a2 a3 => (by have := HEQ.out a1 a2 a3; simp only [Prod.mk.injEq] at this; exact absurd this.2.2.2.1 hq1), fun k hk hx => HFR.out k (fun hy => by rcases hy with ((hy | hy) | hy) | hy <;> first | exact hx hy | omega)⟩
end

end Go.Proofs.Ytcbnmmkmgpbfiaa.PP
/- The law's 'asks' (layer 14). -/
namespace Go.Proofs.Ytcbnmmkmgpbfiaa.PP
open Go.RowKit Go.Proofs.Ytcbnmmkmgpbfiaa.PX Go.Proofs.YtcbnmmkmgpbfiaaW.PrintWords Go.Proofs.YtcbnmmkmgpbfiaaW.PrintLast Go.Proofs.YtcbnmmkmgpbfiaaW.PrintMore
attribute [local go_sem] max2_int min2_int max_two min_two max_three min_three max_four min_four   -- for this text's walks alone
set_option linter.unusedVariables false
set_option linter.unusedSimpArgs false
/-- Of the document's list: whose a number is. -/
def odocS (L : List Int) (n : Int) : Int := if inP n L.length = true then L.getD (n - 1).toNat (-1) else -1
theorem asks_eq {L : List Int} {h r : Int} (d : Doc L h r) (n : Int) : (ownerP L n).2 = decide (odocS L n ≥ 0) ∧ (ownerP L n).1 = max (odocS L n) 0 := by
  unfold odocS
  by_cases hi : inP n L.length = true
  · have hin := hi
    unfold inP at hin
    have hin := of_decide_eq_true hin
    obtain ⟨j, rfl⟩ : ∃ j : Nat, n = (j : Int) + 1 := ⟨(n - 1).toNat, by omega⟩
    have hj : j < L.length := by omega
    have hlow := (d.low _ (List.getElem_mem hj)).1
    rw [owner_low hj hlow, if_pos hi, show ((j : Int) + 1 - 1).toNat = j by omega, List.getD_eq_getElem?_getD, List.getElem?_eq_getElem hj, Option.getD_some]
    split
    · next e => exact ⟨by rw [decide_eq_false (by omega)], by show (0 : Int) = max L[j] 0; omega⟩
    · next e => exact ⟨by rw [decide_eq_true (by omega)], by show L[j] = max L[j] 0; omega⟩
  · unfold ownerP
    rw [if_neg (fun e => hi e.1), if_neg hi]
    exact ⟨by decide, by decide⟩
def AsksP (os L : List Int) (w : World) (e : Ending) (w' : World) : Prop := ∃ b : Bool, e = .returned (.bool b) ∧ (os = L → b = true) ∧ Below w.heap.size w w'
set_option maxHeartbeats 8000000 in
set_option maxRecDepth 100000 in
theorem asks_calls {w : World} {base B bm : Nat} {vo : Value} {os : List Int} {hand rounds : Int} {Au : Option Addr} {cu : Nat} {L : List Int} {h r : Int} (hst : St w base B bm vo os hand rounds) (d : Doc os hand rounds) (dL : Doc L h r) (hcu : L.length ≤ cu) (hCL : Kd.C (Kd.int .i64) w Au L.length L) (kd n sp : Int) (hs : Wf sp) (Av : Option Addr) (nv cv : Nat) :
    Calls Try.prog 76 #[.pointer (some ⟨B, 0, none⟩), .agg #[.slice Au L.length cu, .int .i64 h, .int .i64 r], .agg #[.int .i64 kd, .int .i64 n, .int .i64 sp, .slice Av nv cv]] w (AsksP os L w) := by
  have hdl := dL.len
  have hb0 := ((Below.refl w.heap.size w).alloc (Nat.le_refl _) (.cells #[.slice Au L.length cu, .int .i64 h, .int .i64 r] 67)).alloc (by simp) (.cells #[.int .i64 kd, .int .i64 n, .int .i64 sp, .slice Av nv cv] 72)
  have hk4 := blk_alloc (blk_new w (.cells #[.slice Au L.length cu, .int .i64 h, .int .i64 r] 67)) (.cells #[.int .i64 kd, .int .i64 n, .int .i64 sp, .slice Av nv cv] 72)
  have hk5 := blk_new (w.alloc (.cells #[.slice Au L.length cu, .int .i64 h, .int .i64 r] 67)) (.cells #[.int .i64 kd, .int .i64 n, .int .i64 sp, .slice Av nv cv] 72)
  have hsz : (w.alloc (.cells #[.slice Au L.length cu, .int .i64 h, .int .i64 r] 67)).heap.size = w.heap.size + 1 := by simp
  rw [hsz] at hk5
  obtain ⟨x0, x1, x2⟩ := And.intro ((blk_cell hk4 0).trans rfl) (And.intro ((blk_cell hk4 1).trans rfl) ((blk_cell hk4 2).trans rfl))
  obtain ⟨y0, y1, y2, y3⟩ := And.intro ((blk_cell hk5 0).trans rfl) (And.intro ((blk_cell hk5 1).trans rfl) (And.intro ((blk_cell hk5 2).trans rfl) ((blk_cell hk5 3).trans rfl)))
  have HST := Aside0.mk (hst.below hb0)
  have HC := Aside0.mk (Kd.C_below hCL hb0)
  have HB := Aside0.mk hb0
  have HD := Aside0.mk d
  have HDL := Aside0.mk dL
  have HK4 := Aside0.mk hk4
  have HK5 := Aside0.mk hk5
  have HCU := Aside0.mk hcu
  clear hst hCL hb0 d hk4 hk5 hsz dL hcu
  go_enter Try.func76, Try.ntmps76
  go_wp2_with fail
  generalize (w.alloc (.cells #[.slice Au L.length cu, .int .i64 h, .int .i64 r] 67)).alloc (.cells #[.int .i64 kd, .int .i64 n, .int .i64 sp, .slice Av nv cv] 72) = wD at *
  refine (of_S HST.out hs).mono ?_
  rintro e w1 ⟨rfl, rfl⟩
  go_wp2_with fail
  refine (lookasideref14_Of.calls 9000 Au cu L h r sp _ w1 HC.out HCU.out (Of_f L h r sp (by omega) 9000 (by omega))).mono ?_
  rintro e w2 ⟨rfl, hb2⟩
  clear x0 x1 x2 y0 y1 y2 y3
  replace HST := Aside0.mk (HST.out.below hb2)
  replace HC := Aside0.mk (Kd.C_below HC.out hb2)
  replace HB := Aside0.mk (HB.out.trans (hb2.mono HB.out.size))
  replace HK4 := Aside0.mk (blk_below HK4.out hb2)
  replace HK5 := Aside0.mk (blk_below HK5.out hb2)
  clear hb2
  obtain ⟨x0, x1, x2⟩ := And.intro ((blk_cell HK4.out 0).trans rfl) (And.intro ((blk_cell HK4.out 1).trans rfl) ((blk_cell HK4.out 2).trans rfl))
  obtain ⟨y0, y1, y2, y3⟩ := And.intro ((blk_cell HK5.out 0).trans rfl) (And.intro ((blk_cell HK5.out 1).trans rfl) (And.intro ((blk_cell HK5.out 2).trans rfl) ((blk_cell HK5.out 3).trans rfl)))
  go_wp2_with fail
  refine (owner_S HST.out HD.out n).mono ?_
  rintro e w3 ⟨rfl, rfl⟩
  go_wp2_with fail
  refine (lookasideref14_Owner.calls Au cu L h r n (odocS L n) w3 HC.out HCU.out (Owner_f L h r n (by omega))).mono ?_
  rintro e w4 ⟨rfl, hb4⟩
  have hbf := HB.out.trans (hb4.mono HB.out.size)
  have heq := asks_eq HDL.out n
  clear x0 x1 x2 y0 y1 y2 y3 HST HC HB HK4 HK5 hb4
  have HEQ := Aside0.mk (show os = L → (ofS os sp == ofS L sp) = true ∧ (decide (ofS os sp > 0) == decide (ofS L sp > 0)) = true ∧ ((ownerP os n).2 == decide (odocS L n ≥ 0)) = true ∧ ((ownerP os n).1 == max (odocS L n) 0) = true from fun e => by
    subst e; rw [heq.1, heq.2]; simp)
  clear heq
  generalize ofS os sp = n1 at *
  generalize ofS L sp = m1 at *
  generalize odocS L n = o1 at *
  generalize ownerP os n = q at *
  obtain ⟨s1, b2⟩ := q
  simp only at HEQ ⊢
  obtain ⟨mx, hmx⟩ : ∃ mx, max o1 0 = mx := ⟨_, rfl⟩
  rw [hmx] at HEQ
  have hmc : (o1 < 0 ∧ mx = 0) ∨ (¬ o1 < 0 ∧ mx = o1) := by omega
  clear hmx
  rcases hmc with ⟨hm, rfl⟩ | ⟨hm, rfl⟩
  · by_cases c1 : (n1 == m1) = true
    · by_cases c2 : (decide (n1 > 0) == decide (m1 > 0)) = true
      · by_cases c3 : (b2 == decide (o1 ≥ 0)) = true
        · by_cases c4 : (s1 == 0) = true
          · go_wp2
            go_ret
            exact ⟨true, rfl, fun _ => rfl, hbf⟩
          · have c4' : (s1 == 0) = false := by simpa using c4
            go_wp2
            go_ret
            exact ⟨false, rfl, fun e => absurd (HEQ.out e).2.2.2 c4, hbf⟩
        · have c3' : (b2 == decide (o1 ≥ 0)) = false := by simpa using c3
          go_wp2
          go_ret
          exact ⟨false, rfl, fun e => absurd (HEQ.out e).2.2.1 c3, hbf⟩
      · have c2' : (decide (n1 > 0) == decide (m1 > 0)) = false := by simpa using c2
        go_wp2
        go_ret
        exact ⟨false, rfl, fun e => absurd (HEQ.out e).2.1 c2, hbf⟩
    · have c1' : (n1 == m1) = false := by simpa using c1
      go_wp2
      go_ret
      exact ⟨false, rfl, fun e => absurd (HEQ.out e).1 c1, hbf⟩
  · by_cases c1 : (n1 == m1) = true
    · by_cases c2 : (decide (n1 > 0) == decide (m1 > 0)) = true
      · by_cases c3 : (b2 == decide (mx ≥ 0)) = true
        · by_cases c4 : (s1 == mx) = true
          · go_wp2
            go_ret
            exact ⟨true, rfl, fun _ => rfl, hbf⟩
          · have c4' : (s1 == mx) = false := by simpa using c4
            go_wp2
            go_ret
            exact ⟨false, rfl, fun e => absurd (HEQ.out e).2.2.2 c4, hbf⟩
        · have c3' : (b2 == decide (mx ≥ 0)) = false := by simpa using c3
          go_wp2
          go_ret
          exact ⟨false, rfl, fun e => absurd (HEQ.out e).2.2.1 c3, hbf⟩
      · have c2' : (decide (n1 > 0) == decide (m1 > 0)) = false := by simpa using c2
        go_wp2
        go_ret
        exact ⟨false, rfl, fun e => absurd (HEQ.out e).2.1 c2, hbf⟩
    · have c1' : (n1 == m1) = false := by simpa using c1
      go_wp2
      go_ret
      exact ⟨false, rfl, fun e => absurd (HEQ.out e).1 c1, hbf⟩

end Go.Proofs.Ytcbnmmkmgpbfiaa.PP
/- The law's 'does' (layer 14): thefts, victims, questions; all kinds. Written by mkctxdp.py. -/
namespace Go.Proofs.Ytcbnmmkmgpbfiaa.PP
open Go.RowKit Go.Proofs.Ytcbnmmkmgpbfiaa.PX Go.Proofs.YtcbnmmkmgpbfiaaW.PrintWords Go.Proofs.YtcbnmmkmgpbfiaaW.PrintLast Go.Proofs.YtcbnmmkmgpbfiaaW.PrintMore
attribute [local go_sem] max2_int min2_int max_two min_two max_three min_three max_four min_four   -- for this text's walks alone
set_option linter.unusedVariables false
set_option linter.unusedSimpArgs false
section
variable {w0 w : World} {base B bm : Nat} {vo : Value} {os : List Int} {hand rounds : Int} {Au : Option Addr} {cu : Nat} {L : List Int} {h r : Int}
set_option maxHeartbeats 8000000 in
set_option maxRecDepth 100000 in
theorem does_steal (hB : Both w0 w base B bm vo os hand rounds (.slice Au L.length cu) L) (d : Doc os hand rounds) (dL : Doc L h r) (hr1 : rounds < 1000000) (hr2 : r < 1000000) (n sp : Int) (hn : Wf n) (hs : Wf sp) (A : Option Addr) (c : Nat) (xs : List Int) (hxc : xs.length ≤ c) (hC : Kd.C (Kd.int .i64) w0 A xs.length xs) :
    Calls Try.prog 42 #[.pointer (some ⟨B, 0, none⟩), .agg #[.slice Au L.length cu, .int .i64 h, .int .i64 r], .agg #[.int .i64 1, .int .i64 n, .int .i64 sp, .slice A xs.length c]] w (DoesP w0 w base B bm vo os hand rounds (.slice Au L.length cu) L h r) := by
  obtain ⟨T, hT, hTl, hTx⟩ : ∃ T : List Int, T = xs.take 10 ∧ T.length ≤ 10 ∧ (if (10 : Int) < (xs.length : Int) then 10 else (xs.length : Int)) = (T.length : Int) := ⟨_, rfl, by rw [List.length_take]; omega, by rw [List.length_take]; split <;> omega⟩
  have hTc : T.length ≤ c := by rw [hT, List.length_take]; omega
  have hCT : ∀ W, Below w0.heap.size w0 W → Kd.C (Kd.int .i64) W A T.length T := fun W hW => by
    have := int_take (Kd.C_below hC hW) (show T.length ≤ xs.length by rw [hT, List.length_take]; omega)
    have e : xs.take T.length = T := by rw [hT, List.length_take, List.take_eq_take_iff]; omega
    rwa [e] at this
  have HCT := Aside0.mk hCT
  clear hCT hT hC
  have hb0 := (((Below.refl w.heap.size w).alloc (Nat.le_refl _) (.cells #[.slice Au L.length cu, .int .i64 h, .int .i64 r] 67)).alloc (by simp) (.cells #[.int .i64 1, .int .i64 n, .int .i64 sp, .slice A xs.length c] 72)).alloc (by simp; omega) (.cells #[.slice none 0 0, .int .i64 0, .int .i64 0] 67)
  have hk4 := blk_alloc (blk_alloc (blk_new w (.cells #[.slice Au L.length cu, .int .i64 h, .int .i64 r] 67)) (.cells #[.int .i64 1, .int .i64 n, .int .i64 sp, .slice A xs.length c] 72)) (.cells #[.slice none 0 0, .int .i64 0, .int .i64 0] 67)
  have hk5 := blk_alloc (blk_new (w.alloc (.cells #[.slice Au L.length cu, .int .i64 h, .int .i64 r] 67)) (.cells #[.int .i64 1, .int .i64 n, .int .i64 sp, .slice A xs.length c] 72)) (.cells #[.slice none 0 0, .int .i64 0, .int .i64 0] 67)
  have hk6 := blk_new ((w.alloc (.cells #[.slice Au L.length cu, .int .i64 h, .int .i64 r] 67)).alloc (.cells #[.int .i64 1, .int .i64 n, .int .i64 sp, .slice A xs.length c] 72)) (.cells #[.slice none 0 0, .int .i64 0, .int .i64 0] 67)
  have hsz : (w.alloc (.cells #[.slice Au L.length cu, .int .i64 h, .int .i64 r] 67)).heap.size = w.heap.size + 1 := by simp
  have hsz2 : ((w.alloc (.cells #[.slice Au L.length cu, .int .i64 h, .int .i64 r] 67)).alloc (.cells #[.int .i64 1, .int .i64 n, .int .i64 sp, .slice A xs.length c] 72)).heap.size = w.heap.size + 2 := by simp
  rw [hsz] at hk5
  rw [hsz2] at hk6
  go_enter Try.func42, Try.ntmps42
  go_wp2_with fail
  have HXL := Aside0.mk (show ∀ k, Xp B bm vo (Value.slice Au L.length cu) k → k < w.heap.size from fun k hk => hk.elim (hB.st.lt k) (fun hk => Kd.R_lt hB.rv k hk.symm))
  have HZ := Aside0.mk (hB.below hb0)
  have HDO := Aside0.mk d
  have HDL := Aside0.mk dL
  have HW0 := Aside0.mk hB.bl.size
  have HSY := Aside0.mk (show Stay (Xp B bm vo (Value.slice Au L.length cu)) w _ from Stay.below hb0)
  clear hB hb0 hsz hsz2 d dL
  generalize ((w.alloc (.cells #[.slice Au L.length cu, .int .i64 h, .int .i64 r] 67)).alloc (.cells #[.int .i64 1, .int .i64 n, .int .i64 sp, .slice A xs.length c] 72)).alloc (.cells #[.slice none 0 0, .int .i64 0, .int .i64 0] 67) = wD at *
  have HK4 := Aside0.mk hk4
  have HK5 := Aside0.mk hk5
  have HK6 := Aside0.mk hk6
  clear hk4 hk5 hk6
  obtain ⟨x0, x1, x2⟩ := And.intro ((blk_cell HK4.out 0).trans rfl) (And.intro ((blk_cell HK4.out 1).trans rfl) ((blk_cell HK4.out 2).trans rfl))
  obtain ⟨y0, y1, y2, y3⟩ := And.intro ((blk_cell HK5.out 0).trans rfl) (And.intro ((blk_cell HK5.out 1).trans rfl) (And.intro ((blk_cell HK5.out 2).trans rfl) ((blk_cell HK5.out 3).trans rfl)))
  obtain ⟨r0, r1, r2⟩ := And.intro ((blk_cell HK6.out 0).trans rfl) (And.intro ((blk_cell HK6.out 1).trans rfl) ((blk_cell HK6.out 2).trans rfl))
  have f6 := blk_frozen HK6.out
  obtain ⟨⟨L1, h1, r1', n1, e1⟩, ha⟩ : ∃ a, stealS L h r n sp = a := ⟨_, rfl⟩
  obtain ⟨⟨os2, hd2, rn2, n2, e2⟩, hb⟩ : ∃ a, stealS os hand rounds n sp = a := ⟨_, rfl⟩
  have hf := Steal_f L h r n sp HDL.out hr2
  rw [ha] at hf
  have HF := Aside0.mk hf
  have HNL := Aside0.mk (ha ▸ stealS_nx HDL.out hr2 n hs)
  have HNO := Aside0.mk (hb ▸ stealS_nx HDO.out hr1 n hs)
  have HEQ := Aside0.mk (show os = L → hand = h → rounds = r → ((os2, hd2, rn2, n2, e2) : Ans) = (L1, h1, r1', n1, e1) from fun a1 a2 a3 => by rw [← ha, ← hb, a1, a2, a3])
  have HB := Aside0.mk hb
  clear hf ha hb
  go_wp2_with fail
  refine (lookasideref14_Steal.calls 9000 (fun k => some k = (Value.slice Au L.length cu).ownBlock) (.slice Au L.length cu) L h r n sp L1 h1 r1' n1 e1 w0 _ HZ.out.bl HZ.out.own HF.out).mono ?_
  rintro e wE ⟨v1, rfl, hR1, hb1, hk1⟩
  obtain ⟨A1, c1, rfl⟩ := Kd.R_slice hR1
  clear x0 x1 x2 y0 y1 y2 y3 r0 r1 r2 f6 HF
  have hstay := Aside0.mk (show Stay (Xp B bm vo (Value.slice Au L.length cu)) _ _ from Stay.ref hk1 (fun k hk => .inr hk))
  replace HK4 := Aside0.mk (hstay.out _ (fun hx => by have := HXL.out _ hx; omega) _ HK4.out)
  replace HK5 := Aside0.mk (hstay.out _ (fun hx => by have := HXL.out _ hx; omega) _ HK5.out)
  replace HK6 := Aside0.mk (hstay.out _ (fun hx => by have := HXL.out _ hx; omega) _ HK6.out)
  replace HSY := Aside0.mk (HSY.out.trans hstay.out)
  clear hstay
  replace HZ := Aside0.mk (HZ.out.ref hR1 hk1 hb1)
  clear hR1 hk1 hb1
  have hbF := (Below.refl wE.heap.size wE).alloc (Nat.le_refl _) (.cells #[.slice A1 L1.length c1, .int .i64 h1, .int .i64 r1'] 67)
  have hkF := blk_new wE (.cells #[.slice A1 L1.length c1, .int .i64 h1, .int .i64 r1'] 67)
  have hlF := HK6.out
  have hlF := blk_lt hlF
  have hstay := Aside0.mk (show Stay (Xp B bm vo (Value.slice Au L.length cu)) _ _ from Stay.below hbF)
  replace HK4 := Aside0.mk (hstay.out _ (fun hx => by have := HXL.out _ hx; omega) _ HK4.out)
  replace HK5 := Aside0.mk (hstay.out _ (fun hx => by have := HXL.out _ hx; omega) _ HK5.out)
  replace HK6 := Aside0.mk (hstay.out _ (fun hx => by have := HXL.out _ hx; omega) _ HK6.out)
  replace HSY := Aside0.mk (HSY.out.trans hstay.out)
  clear hstay
  replace HZ := Aside0.mk (HZ.out.below hbF)
  have HKF := Aside0.mk hkF
  clear hbF hkF
  obtain ⟨x0, x1, x2⟩ := And.intro ((blk_cell HK4.out 0).trans rfl) (And.intro ((blk_cell HK4.out 1).trans rfl) ((blk_cell HK4.out 2).trans rfl))
  obtain ⟨y0, y1, y2, y3⟩ := And.intro ((blk_cell HK5.out 0).trans rfl) (And.intro ((blk_cell HK5.out 1).trans rfl) (And.intro ((blk_cell HK5.out 2).trans rfl) ((blk_cell HK5.out 3).trans rfl)))
  obtain ⟨r0, r1, r2⟩ := And.intro ((blk_cell HK6.out 0).trans rfl) (And.intro ((blk_cell HK6.out 1).trans rfl) ((blk_cell HK6.out 2).trans rfl))
  have f6 := blk_frozen HK6.out
  go_wp2_with fail
  generalize wE.alloc (.cells #[.slice A1 L1.length c1, .int .i64 h1, .int .i64 r1'] 67) = wF at *
  generalize wE.heap.size = g9 at *
  have hpool := steal_S HZ.out.st HDO.out (n := n) hn hs
  rw [HB.out] at hpool
  refine hpool.mono ?_
  clear hpool
  rintro e wG ⟨rfl, hst, hmv⟩
  clear x0 x1 x2 y0 y1 y2 y3 r0 r1 r2 f6
  have hstay := Aside0.mk (show Stay (Xp B bm vo (Value.slice Au L.length cu)) _ _ from Stay.pool hmv (fun k hk => .inl hk))
  replace HK4 := Aside0.mk (hstay.out _ (fun hx => by have := HXL.out _ hx; omega) _ HK4.out)
  replace HK5 := Aside0.mk (hstay.out _ (fun hx => by have := HXL.out _ hx; omega) _ HK5.out)
  replace HK6 := Aside0.mk (hstay.out _ (fun hx => by have := HXL.out _ hx; omega) _ HK6.out)
  replace HSY := Aside0.mk (HSY.out.trans hstay.out)
  clear hstay
  have HKF' := Aside0.mk ((show Stay (Xp B bm vo (Value.slice Au L.length cu)) _ _ from Stay.pool hmv (fun k hk => .inl hk)) g9 (fun hx => by have := HXL.out _ hx; omega) _ HKF.out)
  replace HZ := Aside0.mk (HZ.out.pool hst hmv)
  clear hst hmv HKF HB hlF
  obtain ⟨x0, x1, x2⟩ := And.intro ((blk_cell HK4.out 0).trans rfl) (And.intro ((blk_cell HK4.out 1).trans rfl) ((blk_cell HK4.out 2).trans rfl))
  obtain ⟨y0, y1, y2, y3⟩ := And.intro ((blk_cell HK5.out 0).trans rfl) (And.intro ((blk_cell HK5.out 1).trans rfl) (And.intro ((blk_cell HK5.out 2).trans rfl) ((blk_cell HK5.out 3).trans rfl)))
  obtain ⟨r0, r1, r2⟩ := And.intro ((blk_cell HK6.out 0).trans rfl) (And.intro ((blk_cell HK6.out 1).trans rfl) ((blk_cell HK6.out 2).trans rfl))
  have f6 := blk_frozen HK6.out
  obtain ⟨z0, z1, z2⟩ := And.intro ((blk_cell HKF'.out 0).trans rfl) (And.intro ((blk_cell HKF'.out 1).trans rfl) ((blk_cell HKF'.out 2).trans rfl))
  have hBG := HZ.out
  have hfar := ((hBG.far HK6.out (by decide) (Nat.le_trans HW0.out (Nat.le_add_right _ 2)) 0 (.slice A1 L1.length c1)).far (blk_put HK6.out 0 (.slice A1 L1.length c1) rfl) (by decide) (Nat.le_trans HW0.out (Nat.le_add_right _ 2)) 1 (.int .i64 h1)).far (blk_put (blk_put HK6.out 0 (.slice A1 L1.length c1) rfl) 1 (.int .i64 h1) rfl) (by decide) (Nat.le_trans HW0.out (Nat.le_add_right _ 2)) 2 (.int .i64 r1')
  have hk6' := blk_put (blk_put (blk_put HK6.out 0 (.slice A1 L1.length c1) rfl) 1 (.int .i64 h1) rfl) 2 (.int .i64 r1') rfl
  have HFAR := Aside0.mk hfar
  have HK6' := Aside0.mk hk6'
  have HFR := Aside0.mk (((HSY.out.far (w.heap.size + 2) 0 (.slice A1 L1.length c1)).far (w.heap.size + 2) 1 (.int .i64 h1)).far (w.heap.size + 2) 2 (.int .i64 r1'))
  clear hBG hfar hk6'
  by_cases hq1 : n2 = n1
  · have hb1 : (n2 == n1) = true := beq_iff_eq.2 hq1
    by_cases hq2 : e2 = e1
    · have hb2 : (e2 == e1) = true := beq_iff_eq.2 hq2
      go_wp2_with fail
      refine bodyPost_ret (results_ct rfl _ _ (w.heap.size + 2) 67 #[.slice A1 L1.length c1, .int .i64 h1, .int .i64 r1'] (0, 0) _ rfl HK6'.out Try.underlying67 rfl (by kernel_rfl)) rfl ?_
      exact ⟨os2, hd2, rn2, A1, c1, L1, h1, r1', true, rfl, HFAR.out, HNO.out.re, HNL.out.re, fun a1 a2 a3 => (by have := HEQ.out a1 a2 a3; simp only [Prod.mk.injEq] at this; exact ⟨rfl, this.1, this.2.1, this.2.2.1⟩), fun k hk hx => HFR.out k (fun hy => by rcases hy with ((hy | hy) | hy) | hy <;> first | exact hx hy | omega)⟩
    · have hb2 : (e2 == e1) = false := beq_eq_false_iff_ne.2 hq2
      go_wp2_with fail
      refine bodyPost_ret (results_ct rfl _ _ (w.heap.size + 2) 67 #[.slice A1 L1.length c1, .int .i64 h1, .int .i64 r1'] (0, 0) _ rfl HK6'.out Try.underlying67 rfl (by kernel_rfl)) rfl ?_
      exact ⟨os2, hd2, rn2, A1, c1, L1, h1, r1', false, rfl, HFAR.out, HNO.out.re, HNL.out.re, fun a1 a2 a3 => (by have := HEQ.out a1 a2 a3; simp only [Prod.mk.injEq] at this; exact absurd this.2.2.2.2 hq2), fun k hk hx => HFR.out k (fun hy => by rcases hy with ((hy | hy) | hy) | hy <;> first | exact hx hy | omega)⟩
  · have hb1 : (n2 == n1) = false := beq_eq_false_iff_ne.2 hq1
    go_wp2_with fail
    refine bodyPost_ret (results_ct rfl _ _ (w.heap.size + 2) 67 #[.slice A1 L1.length c1, .int .i64 h1, .int .i64 r1'] (0, 0) _ rfl HK6'.out Try.underlying67 rfl (by kernel_rfl)) rfl ?_
    exact ⟨os2, hd2, rn2, A1, c1, L1, h1, r1', false, rfl, HFAR.out, HNO.out.re, HNL.out.re, fun a1 a2 a3 => (by have := HEQ.out a1 a2 a3; simp only [Prod.mk.injEq] at this; exact absurd this.2.2.2.1 hq1), fun k hk hx => HFR.out k (fun hy => by rcases hy with ((hy | hy) | hy) | hy <;> first | exact hx hy | omega)⟩
theorem victS_wf {L : List Int} {h r : Int} (d : Doc L h r) {T : List Int} {k s e : Int} (ha : victS L h T = (k, s, e)) : Wf k := by
  have hl := d.len
  unfold victS at ha
  split at ha
  · next hf =>
    obtain ⟨i, hi, rfl, _⟩ := find_in hf
    simp only [Prod.mk.injEq] at ha
    unfold Wf; omega
  · simp only [Prod.mk.injEq] at ha
    unfold Wf; omega
set_option maxHeartbeats 8000000 in
set_option maxRecDepth 100000 in
theorem does_vict3 (hB : Both w0 w base B bm vo os hand rounds (.slice Au L.length cu) L) (d : Doc os hand rounds) (dL : Doc L h r) (hr1 : rounds < 1000000) (hr2 : r < 1000000) (n sp : Int) (hn : Wf n) (hs : Wf sp) (A : Option Addr) (c : Nat) (xs : List Int) (hxc : xs.length ≤ c) (hC : Kd.C (Kd.int .i64) w0 A xs.length xs) :
    Calls Try.prog 42 #[.pointer (some ⟨B, 0, none⟩), .agg #[.slice Au L.length cu, .int .i64 h, .int .i64 r], .agg #[.int .i64 3, .int .i64 n, .int .i64 sp, .slice A xs.length c]] w (DoesP w0 w base B bm vo os hand rounds (.slice Au L.length cu) L h r) := by
  obtain ⟨T, hT, hTl, hTx⟩ : ∃ T : List Int, T = xs.take 10 ∧ T.length ≤ 10 ∧ (if (10 : Int) < (xs.length : Int) then 10 else (xs.length : Int)) = (T.length : Int) := ⟨_, rfl, by rw [List.length_take]; omega, by rw [List.length_take]; split <;> omega⟩
  have hTc : T.length ≤ c := by rw [hT, List.length_take]; omega
  have hCT : ∀ W, Below w0.heap.size w0 W → Kd.C (Kd.int .i64) W A T.length T := fun W hW => by
    have := int_take (Kd.C_below hC hW) (show T.length ≤ xs.length by rw [hT, List.length_take]; omega)
    have e : xs.take T.length = T := by rw [hT, List.length_take, List.take_eq_take_iff]; omega
    rwa [e] at this
  have HCT := Aside0.mk hCT
  clear hCT hT hC
  have hb0 := (((Below.refl w.heap.size w).alloc (Nat.le_refl _) (.cells #[.slice Au L.length cu, .int .i64 h, .int .i64 r] 67)).alloc (by simp) (.cells #[.int .i64 3, .int .i64 n, .int .i64 sp, .slice A xs.length c] 72)).alloc (by simp; omega) (.cells #[.slice none 0 0, .int .i64 0, .int .i64 0] 67)
  have hk4 := blk_alloc (blk_alloc (blk_new w (.cells #[.slice Au L.length cu, .int .i64 h, .int .i64 r] 67)) (.cells #[.int .i64 3, .int .i64 n, .int .i64 sp, .slice A xs.length c] 72)) (.cells #[.slice none 0 0, .int .i64 0, .int .i64 0] 67)
  have hk5 := blk_alloc (blk_new (w.alloc (.cells #[.slice Au L.length cu, .int .i64 h, .int .i64 r] 67)) (.cells #[.int .i64 3, .int .i64 n, .int .i64 sp, .slice A xs.length c] 72)) (.cells #[.slice none 0 0, .int .i64 0, .int .i64 0] 67)
  have hk6 := blk_new ((w.alloc (.cells #[.slice Au L.length cu, .int .i64 h, .int .i64 r] 67)).alloc (.cells #[.int .i64 3, .int .i64 n, .int .i64 sp, .slice A xs.length c] 72)) (.cells #[.slice none 0 0, .int .i64 0, .int .i64 0] 67)
  have hsz : (w.alloc (.cells #[.slice Au L.length cu, .int .i64 h, .int .i64 r] 67)).heap.size = w.heap.size + 1 := by simp
  have hsz2 : ((w.alloc (.cells #[.slice Au L.length cu, .int .i64 h, .int .i64 r] 67)).alloc (.cells #[.int .i64 3, .int .i64 n, .int .i64 sp, .slice A xs.length c] 72)).heap.size = w.heap.size + 2 := by simp
  rw [hsz] at hk5
  rw [hsz2] at hk6
  go_enter Try.func42, Try.ntmps42
  go_wp2_with fail
  have HXL := Aside0.mk (show ∀ k, Xp B bm vo (Value.slice Au L.length cu) k → k < w.heap.size from fun k hk => hk.elim (hB.st.lt k) (fun hk => Kd.R_lt hB.rv k hk.symm))
  have HZ := Aside0.mk (hB.below hb0)
  have HDO := Aside0.mk d
  have HDL := Aside0.mk dL
  have HW0 := Aside0.mk hB.bl.size
  have HSY := Aside0.mk (show Stay (Xp B bm vo (Value.slice Au L.length cu)) w _ from Stay.below hb0)
  clear hB hb0 hsz hsz2 d dL
  generalize ((w.alloc (.cells #[.slice Au L.length cu, .int .i64 h, .int .i64 r] 67)).alloc (.cells #[.int .i64 3, .int .i64 n, .int .i64 sp, .slice A xs.length c] 72)).alloc (.cells #[.slice none 0 0, .int .i64 0, .int .i64 0] 67) = wD at *
  have HK4 := Aside0.mk hk4
  have HK5 := Aside0.mk hk5
  have HK6 := Aside0.mk hk6
  clear hk4 hk5 hk6
  obtain ⟨x0, x1, x2⟩ := And.intro ((blk_cell HK4.out 0).trans rfl) (And.intro ((blk_cell HK4.out 1).trans rfl) ((blk_cell HK4.out 2).trans rfl))
  obtain ⟨y0, y1, y2, y3⟩ := And.intro ((blk_cell HK5.out 0).trans rfl) (And.intro ((blk_cell HK5.out 1).trans rfl) (And.intro ((blk_cell HK5.out 2).trans rfl) ((blk_cell HK5.out 3).trans rfl)))
  obtain ⟨r0, r1, r2⟩ := And.intro ((blk_cell HK6.out 0).trans rfl) (And.intro ((blk_cell HK6.out 1).trans rfl) ((blk_cell HK6.out 2).trans rfl))
  have f6 := blk_frozen HK6.out
  obtain ⟨⟨k2, s2, e2⟩, hb⟩ : ∃ a, victS os hand T = a := ⟨_, rfl⟩
  obtain ⟨⟨k1, s1, e1⟩, ha⟩ : ∃ a, victS L h T = a := ⟨_, rfl⟩
  have hf := Victim_f L h r T (by omega) HDL.out
  rw [ha] at hf
  have HF := Aside0.mk hf
  have HVN := Aside0.mk (victS_wf HDL.out ha)
  have HEQ0 := Aside0.mk (show os = L → hand = h → k2 = k1 ∧ s2 = s1 ∧ e2 = e1 from fun a1 a2 => by
    have : ((k2, s2, e2) : Int × Int × Int) = (k1, s1, e1) := by rw [← ha, ← hb, a1, a2]
    simpa using this)
  have HB0 := Aside0.mk hb
  clear hf ha hb
  have hpool := vict_S HZ.out.st HDO.out A c T (HCT.out _ HZ.out.bl) hTc (by omega)
  rw [HB0.out] at hpool
  go_wp2_with fail
  refine hpool.mono ?_
  clear hpool HB0
  rintro e wE ⟨rfl, hbE⟩
  clear x0 x1 x2 y0 y1 y2 y3 r0 r1 r2 f6
  have hstay := Aside0.mk (show Stay (Xp B bm vo (Value.slice Au L.length cu)) _ _ from Stay.below hbE)
  replace HK4 := Aside0.mk (hstay.out _ (fun hx => by have := HXL.out _ hx; omega) _ HK4.out)
  replace HK5 := Aside0.mk (hstay.out _ (fun hx => by have := HXL.out _ hx; omega) _ HK5.out)
  replace HK6 := Aside0.mk (hstay.out _ (fun hx => by have := HXL.out _ hx; omega) _ HK6.out)
  replace HSY := Aside0.mk (HSY.out.trans hstay.out)
  clear hstay
  replace HZ := Aside0.mk (HZ.out.below hbE)
  clear hbE
  obtain ⟨x0, x1, x2⟩ := And.intro ((blk_cell HK4.out 0).trans rfl) (And.intro ((blk_cell HK4.out 1).trans rfl) ((blk_cell HK4.out 2).trans rfl))
  obtain ⟨y0, y1, y2, y3⟩ := And.intro ((blk_cell HK5.out 0).trans rfl) (And.intro ((blk_cell HK5.out 1).trans rfl) (And.intro ((blk_cell HK5.out 2).trans rfl) ((blk_cell HK5.out 3).trans rfl)))
  obtain ⟨r0, r1, r2⟩ := And.intro ((blk_cell HK6.out 0).trans rfl) (And.intro ((blk_cell HK6.out 1).trans rfl) ((blk_cell HK6.out 2).trans rfl))
  have f6 := blk_frozen HK6.out
  obtain ⟨hcL, hCL⟩ := HZ.out.reads
  have hCTE := HCT.out _ HZ.out.bl
  go_wp2_with fail
  refine (lookasideref14_Victim.calls 9000 Au cu L h r A c T k1 s1 e1 wE hCL hcL hCTE hTc HF.out).mono ?_
  rintro e wF ⟨rfl, hbF⟩
  clear x0 x1 x2 y0 y1 y2 y3 r0 r1 r2 f6 hCL hcL hCTE HF
  have hstay := Aside0.mk (show Stay (Xp B bm vo (Value.slice Au L.length cu)) _ _ from Stay.below hbF)
  replace HK4 := Aside0.mk (hstay.out _ (fun hx => by have := HXL.out _ hx; omega) _ HK4.out)
  replace HK5 := Aside0.mk (hstay.out _ (fun hx => by have := HXL.out _ hx; omega) _ HK5.out)
  replace HK6 := Aside0.mk (hstay.out _ (fun hx => by have := HXL.out _ hx; omega) _ HK6.out)
  replace HSY := Aside0.mk (HSY.out.trans hstay.out)
  clear hstay
  replace HZ := Aside0.mk (HZ.out.below hbF)
  clear hbF
  obtain ⟨x0, x1, x2⟩ := And.intro ((blk_cell HK4.out 0).trans rfl) (And.intro ((blk_cell HK4.out 1).trans rfl) ((blk_cell HK4.out 2).trans rfl))
  obtain ⟨y0, y1, y2, y3⟩ := And.intro ((blk_cell HK5.out 0).trans rfl) (And.intro ((blk_cell HK5.out 1).trans rfl) (And.intro ((blk_cell HK5.out 2).trans rfl) ((blk_cell HK5.out 3).trans rfl)))
  obtain ⟨r0, r1, r2⟩ := And.intro ((blk_cell HK6.out 0).trans rfl) (And.intro ((blk_cell HK6.out 1).trans rfl) ((blk_cell HK6.out 2).trans rfl))
  have f6 := blk_frozen HK6.out
  by_cases hq1 : k2 = k1
  · have b0 : (k2 == k1) = true := by simpa using hq1
    have c0 : (k2 != k1) = false := by simpa using hq1
    by_cases hq2 : s2 = s1
    · have b1 : (s2 == s1) = true := by simpa using hq2
      have c1 : (s2 != s1) = false := by simpa using hq2
      by_cases hq3 : e2 = e1
      · have b2 : (e2 == e1) = true := by simpa using hq3
        have c2 : (e2 != e1) = false := by simpa using hq3
        have hBG := HZ.out
        have hfar := ((hBG.far HK6.out (by decide) (Nat.le_trans HW0.out (Nat.le_add_right _ 2)) 0 (.slice Au L.length cu)).far (blk_put HK6.out 0 (.slice Au L.length cu) rfl) (by decide) (Nat.le_trans HW0.out (Nat.le_add_right _ 2)) 1 (.int .i64 h)).far (blk_put (blk_put HK6.out 0 (.slice Au L.length cu) rfl) 1 (.int .i64 h) rfl) (by decide) (Nat.le_trans HW0.out (Nat.le_add_right _ 2)) 2 (.int .i64 r)
        have hk6' := blk_put (blk_put (blk_put HK6.out 0 (.slice Au L.length cu) rfl) 1 (.int .i64 h) rfl) 2 (.int .i64 r) rfl
        have HFAR := Aside0.mk hfar
        have HK6' := Aside0.mk hk6'
        have HFR := Aside0.mk (((HSY.out.far (w.heap.size + 2) 0 (.slice Au L.length cu)).far (w.heap.size + 2) 1 (.int .i64 h)).far (w.heap.size + 2) 2 (.int .i64 r))
        clear hBG hfar hk6'
        go_wp2_with fail
        refine bodyPost_ret (results_ct rfl _ _ (w.heap.size + 2) 67 #[.slice Au L.length cu, .int .i64 h, .int .i64 r] (0, 0) _ rfl HK6'.out Try.underlying67 rfl (by kernel_rfl)) rfl ?_
        exact ⟨os, hand, rounds, Au, cu, L, h, r, true, rfl, HFAR.out, HDO.out.nx0, HDL.out.nx0, fun a1 a2 a3 => (by have := HEQ0.out a1 a2; exact ⟨rfl, a1, a2, a3⟩), fun k hk hx => HFR.out k (fun hy => by rcases hy with ((hy | hy) | hy) | hy <;> first | exact hx hy | omega)⟩
      · have b2 : (e2 == e1) = false := by simpa using hq3
        have c2 : (e2 != e1) = true := by simpa using hq3
        have hBG := HZ.out
        have hfar := ((hBG.far HK6.out (by decide) (Nat.le_trans HW0.out (Nat.le_add_right _ 2)) 0 (.slice Au L.length cu)).far (blk_put HK6.out 0 (.slice Au L.length cu) rfl) (by decide) (Nat.le_trans HW0.out (Nat.le_add_right _ 2)) 1 (.int .i64 h)).far (blk_put (blk_put HK6.out 0 (.slice Au L.length cu) rfl) 1 (.int .i64 h) rfl) (by decide) (Nat.le_trans HW0.out (Nat.le_add_right _ 2)) 2 (.int .i64 r)
        have hk6' := blk_put (blk_put (blk_put HK6.out 0 (.slice Au L.length cu) rfl) 1 (.int .i64 h) rfl) 2 (.int .i64 r) rfl
        have HFAR := Aside0.mk hfar
        have HK6' := Aside0.mk hk6'
        have HFR := Aside0.mk (((HSY.out.far (w.heap.size + 2) 0 (.slice Au L.length cu)).far (w.heap.size + 2) 1 (.int .i64 h)).far (w.heap.size + 2) 2 (.int .i64 r))
        clear hBG hfar hk6'
        go_wp2_with fail
        refine bodyPost_ret (results_ct rfl _ _ (w.heap.size + 2) 67 #[.slice Au L.length cu, .int .i64 h, .int .i64 r] (0, 0) _ rfl HK6'.out Try.underlying67 rfl (by kernel_rfl)) rfl ?_
        exact ⟨os, hand, rounds, Au, cu, L, h, r, false, rfl, HFAR.out, HDO.out.nx0, HDL.out.nx0, fun a1 a2 a3 => (by have := HEQ0.out a1 a2; exact absurd this.2.2 hq3), fun k hk hx => HFR.out k (fun hy => by rcases hy with ((hy | hy) | hy) | hy <;> first | exact hx hy | omega)⟩
    · have b1 : (s2 == s1) = false := by simpa using hq2
      have c1 : (s2 != s1) = true := by simpa using hq2
      have hBG := HZ.out
      have hfar := ((hBG.far HK6.out (by decide) (Nat.le_trans HW0.out (Nat.le_add_right _ 2)) 0 (.slice Au L.length cu)).far (blk_put HK6.out 0 (.slice Au L.length cu) rfl) (by decide) (Nat.le_trans HW0.out (Nat.le_add_right _ 2)) 1 (.int .i64 h)).far (blk_put (blk_put HK6.out 0 (.slice Au L.length cu) rfl) 1 (.int .i64 h) rfl) (by decide) (Nat.le_trans HW0.out (Nat.le_add_right _ 2)) 2 (.int .i64 r)
      have hk6' := blk_put (blk_put (blk_put HK6.out 0 (.slice Au L.length cu) rfl) 1 (.int .i64 h) rfl) 2 (.int .i64 r) rfl
      have HFAR := Aside0.mk hfar
      have HK6' := Aside0.mk hk6'
      have HFR := Aside0.mk (((HSY.out.far (w.heap.size + 2) 0 (.slice Au L.length cu)).far (w.heap.size + 2) 1 (.int .i64 h)).far (w.heap.size + 2) 2 (.int .i64 r))
      clear hBG hfar hk6'
      go_wp2_with fail
      refine bodyPost_ret (results_ct rfl _ _ (w.heap.size + 2) 67 #[.slice Au L.length cu, .int .i64 h, .int .i64 r] (0, 0) _ rfl HK6'.out Try.underlying67 rfl (by kernel_rfl)) rfl ?_
      exact ⟨os, hand, rounds, Au, cu, L, h, r, false, rfl, HFAR.out, HDO.out.nx0, HDL.out.nx0, fun a1 a2 a3 => (by have := HEQ0.out a1 a2; exact absurd this.2.1 hq2), fun k hk hx => HFR.out k (fun hy => by rcases hy with ((hy | hy) | hy) | hy <;> first | exact hx hy | omega)⟩
  · have b0 : (k2 == k1) = false := by simpa using hq1
    have c0 : (k2 != k1) = true := by simpa using hq1
    have hBG := HZ.out
    have hfar := ((hBG.far HK6.out (by decide) (Nat.le_trans HW0.out (Nat.le_add_right _ 2)) 0 (.slice Au L.length cu)).far (blk_put HK6.out 0 (.slice Au L.length cu) rfl) (by decide) (Nat.le_trans HW0.out (Nat.le_add_right _ 2)) 1 (.int .i64 h)).far (blk_put (blk_put HK6.out 0 (.slice Au L.length cu) rfl) 1 (.int .i64 h) rfl) (by decide) (Nat.le_trans HW0.out (Nat.le_add_right _ 2)) 2 (.int .i64 r)
    have hk6' := blk_put (blk_put (blk_put HK6.out 0 (.slice Au L.length cu) rfl) 1 (.int .i64 h) rfl) 2 (.int .i64 r) rfl
    have HFAR := Aside0.mk hfar
    have HK6' := Aside0.mk hk6'
    have HFR := Aside0.mk (((HSY.out.far (w.heap.size + 2) 0 (.slice Au L.length cu)).far (w.heap.size + 2) 1 (.int .i64 h)).far (w.heap.size + 2) 2 (.int .i64 r))
    clear hBG hfar hk6'
    go_wp2_with fail
    refine bodyPost_ret (results_ct rfl _ _ (w.heap.size + 2) 67 #[.slice Au L.length cu, .int .i64 h, .int .i64 r] (0, 0) _ rfl HK6'.out Try.underlying67 rfl (by kernel_rfl)) rfl ?_
    exact ⟨os, hand, rounds, Au, cu, L, h, r, false, rfl, HFAR.out, HDO.out.nx0, HDL.out.nx0, fun a1 a2 a3 => (by have := HEQ0.out a1 a2; exact absurd this.1 hq1), fun k hk hx => HFR.out k (fun hy => by rcases hy with ((hy | hy) | hy) | hy <;> first | exact hx hy | omega)⟩
set_option maxHeartbeats 8000000 in
set_option maxRecDepth 100000 in
theorem does_vict4 (hB : Both w0 w base B bm vo os hand rounds (.slice Au L.length cu) L) (d : Doc os hand rounds) (dL : Doc L h r) (hr1 : rounds < 1000000) (hr2 : r < 1000000) (n sp : Int) (hn : Wf n) (hs : Wf sp) (A : Option Addr) (c : Nat) (xs : List Int) (hxc : xs.length ≤ c) (hC : Kd.C (Kd.int .i64) w0 A xs.length xs) :
    Calls Try.prog 42 #[.pointer (some ⟨B, 0, none⟩), .agg #[.slice Au L.length cu, .int .i64 h, .int .i64 r], .agg #[.int .i64 4, .int .i64 n, .int .i64 sp, .slice A xs.length c]] w (DoesP w0 w base B bm vo os hand rounds (.slice Au L.length cu) L h r) := by
  obtain ⟨T, hT, hTl, hTx⟩ : ∃ T : List Int, T = xs.take 10 ∧ T.length ≤ 10 ∧ (if (10 : Int) < (xs.length : Int) then 10 else (xs.length : Int)) = (T.length : Int) := ⟨_, rfl, by rw [List.length_take]; omega, by rw [List.length_take]; split <;> omega⟩
  have hTc : T.length ≤ c := by rw [hT, List.length_take]; omega
  have hCT : ∀ W, Below w0.heap.size w0 W → Kd.C (Kd.int .i64) W A T.length T := fun W hW => by
    have := int_take (Kd.C_below hC hW) (show T.length ≤ xs.length by rw [hT, List.length_take]; omega)
    have e : xs.take T.length = T := by rw [hT, List.length_take, List.take_eq_take_iff]; omega
    rwa [e] at this
  have HCT := Aside0.mk hCT
  clear hCT hT hC
  have hb0 := (((Below.refl w.heap.size w).alloc (Nat.le_refl _) (.cells #[.slice Au L.length cu, .int .i64 h, .int .i64 r] 67)).alloc (by simp) (.cells #[.int .i64 4, .int .i64 n, .int .i64 sp, .slice A xs.length c] 72)).alloc (by simp; omega) (.cells #[.slice none 0 0, .int .i64 0, .int .i64 0] 67)
  have hk4 := blk_alloc (blk_alloc (blk_new w (.cells #[.slice Au L.length cu, .int .i64 h, .int .i64 r] 67)) (.cells #[.int .i64 4, .int .i64 n, .int .i64 sp, .slice A xs.length c] 72)) (.cells #[.slice none 0 0, .int .i64 0, .int .i64 0] 67)
  have hk5 := blk_alloc (blk_new (w.alloc (.cells #[.slice Au L.length cu, .int .i64 h, .int .i64 r] 67)) (.cells #[.int .i64 4, .int .i64 n, .int .i64 sp, .slice A xs.length c] 72)) (.cells #[.slice none 0 0, .int .i64 0, .int .i64 0] 67)
  have hk6 := blk_new ((w.alloc (.cells #[.slice Au L.length cu, .int .i64 h, .int .i64 r] 67)).alloc (.cells #[.int .i64 4, .int .i64 n, .int .i64 sp, .slice A xs.length c] 72)) (.cells #[.slice none 0 0, .int .i64 0, .int .i64 0] 67)
  have hsz : (w.alloc (.cells #[.slice Au L.length cu, .int .i64 h, .int .i64 r] 67)).heap.size = w.heap.size + 1 := by simp
  have hsz2 : ((w.alloc (.cells #[.slice Au L.length cu, .int .i64 h, .int .i64 r] 67)).alloc (.cells #[.int .i64 4, .int .i64 n, .int .i64 sp, .slice A xs.length c] 72)).heap.size = w.heap.size + 2 := by simp
  rw [hsz] at hk5
  rw [hsz2] at hk6
  go_enter Try.func42, Try.ntmps42
  go_wp2_with fail
  have HXL := Aside0.mk (show ∀ k, Xp B bm vo (Value.slice Au L.length cu) k → k < w.heap.size from fun k hk => hk.elim (hB.st.lt k) (fun hk => Kd.R_lt hB.rv k hk.symm))
  have HZ := Aside0.mk (hB.below hb0)
  have HDO := Aside0.mk d
  have HDL := Aside0.mk dL
  have HW0 := Aside0.mk hB.bl.size
  have HSY := Aside0.mk (show Stay (Xp B bm vo (Value.slice Au L.length cu)) w _ from Stay.below hb0)
  clear hB hb0 hsz hsz2 d dL
  generalize ((w.alloc (.cells #[.slice Au L.length cu, .int .i64 h, .int .i64 r] 67)).alloc (.cells #[.int .i64 4, .int .i64 n, .int .i64 sp, .slice A xs.length c] 72)).alloc (.cells #[.slice none 0 0, .int .i64 0, .int .i64 0] 67) = wD at *
  have HK4 := Aside0.mk hk4
  have HK5 := Aside0.mk hk5
  have HK6 := Aside0.mk hk6
  clear hk4 hk5 hk6
  obtain ⟨x0, x1, x2⟩ := And.intro ((blk_cell HK4.out 0).trans rfl) (And.intro ((blk_cell HK4.out 1).trans rfl) ((blk_cell HK4.out 2).trans rfl))
  obtain ⟨y0, y1, y2, y3⟩ := And.intro ((blk_cell HK5.out 0).trans rfl) (And.intro ((blk_cell HK5.out 1).trans rfl) (And.intro ((blk_cell HK5.out 2).trans rfl) ((blk_cell HK5.out 3).trans rfl)))
  obtain ⟨r0, r1, r2⟩ := And.intro ((blk_cell HK6.out 0).trans rfl) (And.intro ((blk_cell HK6.out 1).trans rfl) ((blk_cell HK6.out 2).trans rfl))
  have f6 := blk_frozen HK6.out
  obtain ⟨⟨k2, s2, e2⟩, hb⟩ : ∃ a, victS os hand T = a := ⟨_, rfl⟩
  obtain ⟨⟨k1, s1, e1⟩, ha⟩ : ∃ a, victS L h T = a := ⟨_, rfl⟩
  have hf := Victim_f L h r T (by omega) HDL.out
  rw [ha] at hf
  have HF := Aside0.mk hf
  have HVN := Aside0.mk (victS_wf HDL.out ha)
  have HEQ0 := Aside0.mk (show os = L → hand = h → k2 = k1 ∧ s2 = s1 ∧ e2 = e1 from fun a1 a2 => by
    have : ((k2, s2, e2) : Int × Int × Int) = (k1, s1, e1) := by rw [← ha, ← hb, a1, a2]
    simpa using this)
  have HB0 := Aside0.mk hb
  clear hf ha hb
  have hpool := vict_S HZ.out.st HDO.out A c T (HCT.out _ HZ.out.bl) hTc (by omega)
  rw [HB0.out] at hpool
  go_wp2_with fail
  refine hpool.mono ?_
  clear hpool HB0
  rintro e wE ⟨rfl, hbE⟩
  clear x0 x1 x2 y0 y1 y2 y3 r0 r1 r2 f6
  have hstay := Aside0.mk (show Stay (Xp B bm vo (Value.slice Au L.length cu)) _ _ from Stay.below hbE)
  replace HK4 := Aside0.mk (hstay.out _ (fun hx => by have := HXL.out _ hx; omega) _ HK4.out)
  replace HK5 := Aside0.mk (hstay.out _ (fun hx => by have := HXL.out _ hx; omega) _ HK5.out)
  replace HK6 := Aside0.mk (hstay.out _ (fun hx => by have := HXL.out _ hx; omega) _ HK6.out)
  replace HSY := Aside0.mk (HSY.out.trans hstay.out)
  clear hstay
  replace HZ := Aside0.mk (HZ.out.below hbE)
  clear hbE
  obtain ⟨x0, x1, x2⟩ := And.intro ((blk_cell HK4.out 0).trans rfl) (And.intro ((blk_cell HK4.out 1).trans rfl) ((blk_cell HK4.out 2).trans rfl))
  obtain ⟨y0, y1, y2, y3⟩ := And.intro ((blk_cell HK5.out 0).trans rfl) (And.intro ((blk_cell HK5.out 1).trans rfl) (And.intro ((blk_cell HK5.out 2).trans rfl) ((blk_cell HK5.out 3).trans rfl)))
  obtain ⟨r0, r1, r2⟩ := And.intro ((blk_cell HK6.out 0).trans rfl) (And.intro ((blk_cell HK6.out 1).trans rfl) ((blk_cell HK6.out 2).trans rfl))
  have f6 := blk_frozen HK6.out
  obtain ⟨hcL, hCL⟩ := HZ.out.reads
  have hCTE := HCT.out _ HZ.out.bl
  go_wp2_with fail
  refine (lookasideref14_Victim.calls 9000 Au cu L h r A c T k1 s1 e1 wE hCL hcL hCTE hTc HF.out).mono ?_
  rintro e wF ⟨rfl, hbF⟩
  clear x0 x1 x2 y0 y1 y2 y3 r0 r1 r2 f6 hCL hcL hCTE HF
  have hstay := Aside0.mk (show Stay (Xp B bm vo (Value.slice Au L.length cu)) _ _ from Stay.below hbF)
  replace HK4 := Aside0.mk (hstay.out _ (fun hx => by have := HXL.out _ hx; omega) _ HK4.out)
  replace HK5 := Aside0.mk (hstay.out _ (fun hx => by have := HXL.out _ hx; omega) _ HK5.out)
  replace HK6 := Aside0.mk (hstay.out _ (fun hx => by have := HXL.out _ hx; omega) _ HK6.out)
  replace HSY := Aside0.mk (HSY.out.trans hstay.out)
  clear hstay
  replace HZ := Aside0.mk (HZ.out.below hbF)
  clear hbF
  obtain ⟨x0, x1, x2⟩ := And.intro ((blk_cell HK4.out 0).trans rfl) (And.intro ((blk_cell HK4.out 1).trans rfl) ((blk_cell HK4.out 2).trans rfl))
  obtain ⟨y0, y1, y2, y3⟩ := And.intro ((blk_cell HK5.out 0).trans rfl) (And.intro ((blk_cell HK5.out 1).trans rfl) (And.intro ((blk_cell HK5.out 2).trans rfl) ((blk_cell HK5.out 3).trans rfl)))
  obtain ⟨r0, r1, r2⟩ := And.intro ((blk_cell HK6.out 0).trans rfl) (And.intro ((blk_cell HK6.out 1).trans rfl) ((blk_cell HK6.out 2).trans rfl))
  have f6 := blk_frozen HK6.out
  by_cases hq1 : k2 = k1
  · have b0 : (k2 == k1) = true := by simpa using hq1
    have c0 : (k2 != k1) = false := by simpa using hq1
    by_cases hq2 : s2 = s1
    · have b1 : (s2 == s1) = true := by simpa using hq2
      have c1 : (s2 != s1) = false := by simpa using hq2
      by_cases hq3 : e2 = e1
      · have b2 : (e2 == e1) = true := by simpa using hq3
        have c2 : (e2 != e1) = false := by simpa using hq3
        obtain ⟨⟨L1, h1, r1', n1, e1⟩, ha⟩ : ∃ a, stealS L h r k1 sp = a := ⟨_, rfl⟩
        obtain ⟨⟨os2, hd2, rn2, n2, e2⟩, hb⟩ : ∃ a, stealS os hand rounds k1 sp = a := ⟨_, rfl⟩
        have hf := Steal_f L h r k1 sp HDL.out hr2
        rw [ha] at hf
        have HF := Aside0.mk hf
        have HNL := Aside0.mk (ha ▸ stealS_nx HDL.out hr2 k1 hs)
        have HNO := Aside0.mk (hb ▸ stealS_nx HDO.out hr1 k1 hs)
        have HEQ := Aside0.mk (show os = L → hand = h → rounds = r → ((os2, hd2, rn2, n2, e2) : Ans) = (L1, h1, r1', n1, e1) from fun a1 a2 a3 => by rw [← ha, ← hb, a1, a2, a3])
        have HB := Aside0.mk hb
        clear hf ha hb
        go_wp2_with fail
        refine (lookasideref14_Steal.calls 9000 (fun k => some k = (Value.slice Au L.length cu).ownBlock) (.slice Au L.length cu) L h r k1 sp L1 h1 r1' n1 e1 w0 _ HZ.out.bl HZ.out.own HF.out).mono ?_
        rintro e wE ⟨v1, rfl, hR1, hb1, hk1⟩
        obtain ⟨A1, c1, rfl⟩ := Kd.R_slice hR1
        clear x0 x1 x2 y0 y1 y2 y3 r0 r1 r2 f6 HF
        have hstay := Aside0.mk (show Stay (Xp B bm vo (Value.slice Au L.length cu)) _ _ from Stay.ref hk1 (fun k hk => .inr hk))
        replace HK4 := Aside0.mk (hstay.out _ (fun hx => by have := HXL.out _ hx; omega) _ HK4.out)
        replace HK5 := Aside0.mk (hstay.out _ (fun hx => by have := HXL.out _ hx; omega) _ HK5.out)
        replace HK6 := Aside0.mk (hstay.out _ (fun hx => by have := HXL.out _ hx; omega) _ HK6.out)
        replace HSY := Aside0.mk (HSY.out.trans hstay.out)
        clear hstay
        replace HZ := Aside0.mk (HZ.out.ref hR1 hk1 hb1)
        clear hR1 hk1 hb1
        have hbF := (Below.refl wE.heap.size wE).alloc (Nat.le_refl _) (.cells #[.slice A1 L1.length c1, .int .i64 h1, .int .i64 r1'] 67)
        have hkF := blk_new wE (.cells #[.slice A1 L1.length c1, .int .i64 h1, .int .i64 r1'] 67)
        have hlF := HK6.out
        have hlF := blk_lt hlF
        have hstay := Aside0.mk (show Stay (Xp B bm vo (Value.slice Au L.length cu)) _ _ from Stay.below hbF)
        replace HK4 := Aside0.mk (hstay.out _ (fun hx => by have := HXL.out _ hx; omega) _ HK4.out)
        replace HK5 := Aside0.mk (hstay.out _ (fun hx => by have := HXL.out _ hx; omega) _ HK5.out)
        replace HK6 := Aside0.mk (hstay.out _ (fun hx => by have := HXL.out _ hx; omega) _ HK6.out)
        replace HSY := Aside0.mk (HSY.out.trans hstay.out)
        clear hstay
        replace HZ := Aside0.mk (HZ.out.below hbF)
        have HKF := Aside0.mk hkF
        clear hbF hkF
        obtain ⟨x0, x1, x2⟩ := And.intro ((blk_cell HK4.out 0).trans rfl) (And.intro ((blk_cell HK4.out 1).trans rfl) ((blk_cell HK4.out 2).trans rfl))
        obtain ⟨y0, y1, y2, y3⟩ := And.intro ((blk_cell HK5.out 0).trans rfl) (And.intro ((blk_cell HK5.out 1).trans rfl) (And.intro ((blk_cell HK5.out 2).trans rfl) ((blk_cell HK5.out 3).trans rfl)))
        obtain ⟨r0, r1, r2⟩ := And.intro ((blk_cell HK6.out 0).trans rfl) (And.intro ((blk_cell HK6.out 1).trans rfl) ((blk_cell HK6.out 2).trans rfl))
        have f6 := blk_frozen HK6.out
        go_wp2_with fail
        generalize wE.alloc (.cells #[.slice A1 L1.length c1, .int .i64 h1, .int .i64 r1'] 67) = wF at *
        generalize wE.heap.size = g9 at *
        have hpool := steal_S HZ.out.st HDO.out (n := k1) HVN.out hs
        rw [HB.out] at hpool
        refine hpool.mono ?_
        clear hpool
        rintro e wG ⟨rfl, hst, hmv⟩
        clear x0 x1 x2 y0 y1 y2 y3 r0 r1 r2 f6
        have hstay := Aside0.mk (show Stay (Xp B bm vo (Value.slice Au L.length cu)) _ _ from Stay.pool hmv (fun k hk => .inl hk))
        replace HK4 := Aside0.mk (hstay.out _ (fun hx => by have := HXL.out _ hx; omega) _ HK4.out)
        replace HK5 := Aside0.mk (hstay.out _ (fun hx => by have := HXL.out _ hx; omega) _ HK5.out)
        replace HK6 := Aside0.mk (hstay.out _ (fun hx => by have := HXL.out _ hx; omega) _ HK6.out)
        replace HSY := Aside0.mk (HSY.out.trans hstay.out)
        clear hstay
        have HKF' := Aside0.mk ((show Stay (Xp B bm vo (Value.slice Au L.length cu)) _ _ from Stay.pool hmv (fun k hk => .inl hk)) g9 (fun hx => by have := HXL.out _ hx; omega) _ HKF.out)
        replace HZ := Aside0.mk (HZ.out.pool hst hmv)
        clear hst hmv HKF HB hlF
        obtain ⟨x0, x1, x2⟩ := And.intro ((blk_cell HK4.out 0).trans rfl) (And.intro ((blk_cell HK4.out 1).trans rfl) ((blk_cell HK4.out 2).trans rfl))
        obtain ⟨y0, y1, y2, y3⟩ := And.intro ((blk_cell HK5.out 0).trans rfl) (And.intro ((blk_cell HK5.out 1).trans rfl) (And.intro ((blk_cell HK5.out 2).trans rfl) ((blk_cell HK5.out 3).trans rfl)))
        obtain ⟨r0, r1, r2⟩ := And.intro ((blk_cell HK6.out 0).trans rfl) (And.intro ((blk_cell HK6.out 1).trans rfl) ((blk_cell HK6.out 2).trans rfl))
        have f6 := blk_frozen HK6.out
        obtain ⟨z0, z1, z2⟩ := And.intro ((blk_cell HKF'.out 0).trans rfl) (And.intro ((blk_cell HKF'.out 1).trans rfl) ((blk_cell HKF'.out 2).trans rfl))
        have hBG := HZ.out
        have hfar := ((hBG.far HK6.out (by decide) (Nat.le_trans HW0.out (Nat.le_add_right _ 2)) 0 (.slice A1 L1.length c1)).far (blk_put HK6.out 0 (.slice A1 L1.length c1) rfl) (by decide) (Nat.le_trans HW0.out (Nat.le_add_right _ 2)) 1 (.int .i64 h1)).far (blk_put (blk_put HK6.out 0 (.slice A1 L1.length c1) rfl) 1 (.int .i64 h1) rfl) (by decide) (Nat.le_trans HW0.out (Nat.le_add_right _ 2)) 2 (.int .i64 r1')
        have hk6' := blk_put (blk_put (blk_put HK6.out 0 (.slice A1 L1.length c1) rfl) 1 (.int .i64 h1) rfl) 2 (.int .i64 r1') rfl
        have HFAR := Aside0.mk hfar
        have HK6' := Aside0.mk hk6'
        have HFR := Aside0.mk (((HSY.out.far (w.heap.size + 2) 0 (.slice A1 L1.length c1)).far (w.heap.size + 2) 1 (.int .i64 h1)).far (w.heap.size + 2) 2 (.int .i64 r1'))
        clear hBG hfar hk6'
        by_cases hq1 : n2 = n1
        · have hb1 : (n2 == n1) = true := beq_iff_eq.2 hq1
          by_cases hq2 : e2 = e1
          · have hb2 : (e2 == e1) = true := beq_iff_eq.2 hq2
            go_wp2_with fail
            refine bodyPost_ret (results_ct rfl _ _ (w.heap.size + 2) 67 #[.slice A1 L1.length c1, .int .i64 h1, .int .i64 r1'] (0, 0) _ rfl HK6'.out Try.underlying67 rfl (by kernel_rfl)) rfl ?_
            exact ⟨os2, hd2, rn2, A1, c1, L1, h1, r1', true, rfl, HFAR.out, HNO.out.re, HNL.out.re, fun a1 a2 a3 => (by have := HEQ.out a1 a2 a3; simp only [Prod.mk.injEq] at this; exact ⟨rfl, this.1, this.2.1, this.2.2.1⟩), fun k hk hx => HFR.out k (fun hy => by rcases hy with ((hy | hy) | hy) | hy <;> first | exact hx hy | omega)⟩
          · have hb2 : (e2 == e1) = false := beq_eq_false_iff_ne.2 hq2
            go_wp2_with fail
            refine bodyPost_ret (results_ct rfl _ _ (w.heap.size + 2) 67 #[.slice A1 L1.length c1, .int .i64 h1, .int .i64 r1'] (0, 0) _ rfl HK6'.out Try.underlying67 rfl (by kernel_rfl)) rfl ?_
            exact ⟨os2, hd2, rn2, A1, c1, L1, h1, r1', false, rfl, HFAR.out, HNO.out.re, HNL.out.re, fun a1 a2 a3 => (by have := HEQ.out a1 a2 a3; simp only [Prod.mk.injEq] at this; exact absurd this.2.2.2.2 hq2), fun k hk hx => HFR.out k (fun hy => by rcases hy with ((hy | hy) | hy) | hy <;> first | exact hx hy | omega)⟩
        · have hb1 : (n2 == n1) = false := beq_eq_false_iff_ne.2 hq1
          go_wp2_with fail
          refine bodyPost_ret (results_ct rfl _ _ (w.heap.size + 2) 67 #[.slice A1 L1.length c1, .int .i64 h1, .int .i64 r1'] (0, 0) _ rfl HK6'.out Try.underlying67 rfl (by kernel_rfl)) rfl ?_
          exact ⟨os2, hd2, rn2, A1, c1, L1, h1, r1', false, rfl, HFAR.out, HNO.out.re, HNL.out.re, fun a1 a2 a3 => (by have := HEQ.out a1 a2 a3; simp only [Prod.mk.injEq] at this; exact absurd this.2.2.2.1 hq1), fun k hk hx => HFR.out k (fun hy => by rcases hy with ((hy | hy) | hy) | hy <;> first | exact hx hy | omega)⟩
      · have b2 : (e2 == e1) = false := by simpa using hq3
        have c2 : (e2 != e1) = true := by simpa using hq3
        have hBG := HZ.out
        have hfar := ((hBG.far HK6.out (by decide) (Nat.le_trans HW0.out (Nat.le_add_right _ 2)) 0 (.slice Au L.length cu)).far (blk_put HK6.out 0 (.slice Au L.length cu) rfl) (by decide) (Nat.le_trans HW0.out (Nat.le_add_right _ 2)) 1 (.int .i64 h)).far (blk_put (blk_put HK6.out 0 (.slice Au L.length cu) rfl) 1 (.int .i64 h) rfl) (by decide) (Nat.le_trans HW0.out (Nat.le_add_right _ 2)) 2 (.int .i64 r)
        have hk6' := blk_put (blk_put (blk_put HK6.out 0 (.slice Au L.length cu) rfl) 1 (.int .i64 h) rfl) 2 (.int .i64 r) rfl
        have HFAR := Aside0.mk hfar
        have HK6' := Aside0.mk hk6'
        have HFR := Aside0.mk (((HSY.out.far (w.heap.size + 2) 0 (.slice Au L.length cu)).far (w.heap.size + 2) 1 (.int .i64 h)).far (w.heap.size + 2) 2 (.int .i64 r))
        clear hBG hfar hk6'
        go_wp2_with fail
        refine bodyPost_ret (results_ct rfl _ _ (w.heap.size + 2) 67 #[.slice Au L.length cu, .int .i64 h, .int .i64 r] (0, 0) _ rfl HK6'.out Try.underlying67 rfl (by kernel_rfl)) rfl ?_
        exact ⟨os, hand, rounds, Au, cu, L, h, r, false, rfl, HFAR.out, HDO.out.nx0, HDL.out.nx0, fun a1 a2 a3 => (by have := HEQ0.out a1 a2; exact absurd this.2.2 hq3), fun k hk hx => HFR.out k (fun hy => by rcases hy with ((hy | hy) | hy) | hy <;> first | exact hx hy | omega)⟩
    · have b1 : (s2 == s1) = false := by simpa using hq2
      have c1 : (s2 != s1) = true := by simpa using hq2
      have hBG := HZ.out
      have hfar := ((hBG.far HK6.out (by decide) (Nat.le_trans HW0.out (Nat.le_add_right _ 2)) 0 (.slice Au L.length cu)).far (blk_put HK6.out 0 (.slice Au L.length cu) rfl) (by decide) (Nat.le_trans HW0.out (Nat.le_add_right _ 2)) 1 (.int .i64 h)).far (blk_put (blk_put HK6.out 0 (.slice Au L.length cu) rfl) 1 (.int .i64 h) rfl) (by decide) (Nat.le_trans HW0.out (Nat.le_add_right _ 2)) 2 (.int .i64 r)
      have hk6' := blk_put (blk_put (blk_put HK6.out 0 (.slice Au L.length cu) rfl) 1 (.int .i64 h) rfl) 2 (.int .i64 r) rfl
      have HFAR := Aside0.mk hfar
      have HK6' := Aside0.mk hk6'
      have HFR := Aside0.mk (((HSY.out.far (w.heap.size + 2) 0 (.slice Au L.length cu)).far (w.heap.size + 2) 1 (.int .i64 h)).far (w.heap.size + 2) 2 (.int .i64 r))
      clear hBG hfar hk6'
      go_wp2_with fail
      refine bodyPost_ret (results_ct rfl _ _ (w.heap.size + 2) 67 #[.slice Au L.length cu, .int .i64 h, .int .i64 r] (0, 0) _ rfl HK6'.out Try.underlying67 rfl (by kernel_rfl)) rfl ?_
      exact ⟨os, hand, rounds, Au, cu, L, h, r, false, rfl, HFAR.out, HDO.out.nx0, HDL.out.nx0, fun a1 a2 a3 => (by have := HEQ0.out a1 a2; exact absurd this.2.1 hq2), fun k hk hx => HFR.out k (fun hy => by rcases hy with ((hy | hy) | hy) | hy <;> first | exact hx hy | omega)⟩
  · have b0 : (k2 == k1) = false := by simpa using hq1
    have c0 : (k2 != k1) = true := by simpa using hq1
    have hBG := HZ.out
    have hfar := ((hBG.far HK6.out (by decide) (Nat.le_trans HW0.out (Nat.le_add_right _ 2)) 0 (.slice Au L.length cu)).far (blk_put HK6.out 0 (.slice Au L.length cu) rfl) (by decide) (Nat.le_trans HW0.out (Nat.le_add_right _ 2)) 1 (.int .i64 h)).far (blk_put (blk_put HK6.out 0 (.slice Au L.length cu) rfl) 1 (.int .i64 h) rfl) (by decide) (Nat.le_trans HW0.out (Nat.le_add_right _ 2)) 2 (.int .i64 r)
    have hk6' := blk_put (blk_put (blk_put HK6.out 0 (.slice Au L.length cu) rfl) 1 (.int .i64 h) rfl) 2 (.int .i64 r) rfl
    have HFAR := Aside0.mk hfar
    have HK6' := Aside0.mk hk6'
    have HFR := Aside0.mk (((HSY.out.far (w.heap.size + 2) 0 (.slice Au L.length cu)).far (w.heap.size + 2) 1 (.int .i64 h)).far (w.heap.size + 2) 2 (.int .i64 r))
    clear hBG hfar hk6'
    go_wp2_with fail
    refine bodyPost_ret (results_ct rfl _ _ (w.heap.size + 2) 67 #[.slice Au L.length cu, .int .i64 h, .int .i64 r] (0, 0) _ rfl HK6'.out Try.underlying67 rfl (by kernel_rfl)) rfl ?_
    exact ⟨os, hand, rounds, Au, cu, L, h, r, false, rfl, HFAR.out, HDO.out.nx0, HDL.out.nx0, fun a1 a2 a3 => (by have := HEQ0.out a1 a2; exact absurd this.1 hq1), fun k hk hx => HFR.out k (fun hy => by rcases hy with ((hy | hy) | hy) | hy <;> first | exact hx hy | omega)⟩
set_option maxHeartbeats 8000000 in
set_option maxRecDepth 100000 in
theorem does_other (hB : Both w0 w base B bm vo os hand rounds (.slice Au L.length cu) L) (d : Doc os hand rounds) (dL : Doc L h r) (hr1 : rounds < 1000000) (hr2 : r < 1000000) (n sp : Int) (hn : Wf n) (hs : Wf sp) (A : Option Addr) (c : Nat) (xs : List Int) (hxc : xs.length ≤ c) (hC : Kd.C (Kd.int .i64) w0 A xs.length xs) (kd : Int) (hkd : kd < 0 ∨ 4 < kd) :
    Calls Try.prog 42 #[.pointer (some ⟨B, 0, none⟩), .agg #[.slice Au L.length cu, .int .i64 h, .int .i64 r], .agg #[.int .i64 kd, .int .i64 n, .int .i64 sp, .slice A xs.length c]] w (DoesP w0 w base B bm vo os hand rounds (.slice Au L.length cu) L h r) := by
  obtain ⟨T, hT, hTl, hTx⟩ : ∃ T : List Int, T = xs.take 10 ∧ T.length ≤ 10 ∧ (if (10 : Int) < (xs.length : Int) then 10 else (xs.length : Int)) = (T.length : Int) := ⟨_, rfl, by rw [List.length_take]; omega, by rw [List.length_take]; split <;> omega⟩
  have hTc : T.length ≤ c := by rw [hT, List.length_take]; omega
  have hCT : ∀ W, Below w0.heap.size w0 W → Kd.C (Kd.int .i64) W A T.length T := fun W hW => by
    have := int_take (Kd.C_below hC hW) (show T.length ≤ xs.length by rw [hT, List.length_take]; omega)
    have e : xs.take T.length = T := by rw [hT, List.length_take, List.take_eq_take_iff]; omega
    rwa [e] at this
  have HCT := Aside0.mk hCT
  clear hCT hT hC
  have hb0 := (((Below.refl w.heap.size w).alloc (Nat.le_refl _) (.cells #[.slice Au L.length cu, .int .i64 h, .int .i64 r] 67)).alloc (by simp) (.cells #[.int .i64 kd, .int .i64 n, .int .i64 sp, .slice A xs.length c] 72)).alloc (by simp; omega) (.cells #[.slice none 0 0, .int .i64 0, .int .i64 0] 67)
  have hk4 := blk_alloc (blk_alloc (blk_new w (.cells #[.slice Au L.length cu, .int .i64 h, .int .i64 r] 67)) (.cells #[.int .i64 kd, .int .i64 n, .int .i64 sp, .slice A xs.length c] 72)) (.cells #[.slice none 0 0, .int .i64 0, .int .i64 0] 67)
  have hk5 := blk_alloc (blk_new (w.alloc (.cells #[.slice Au L.length cu, .int .i64 h, .int .i64 r] 67)) (.cells #[.int .i64 kd, .int .i64 n, .int .i64 sp, .slice A xs.length c] 72)) (.cells #[.slice none 0 0, .int .i64 0, .int .i64 0] 67)
  have hk6 := blk_new ((w.alloc (.cells #[.slice Au L.length cu, .int .i64 h, .int .i64 r] 67)).alloc (.cells #[.int .i64 kd, .int .i64 n, .int .i64 sp, .slice A xs.length c] 72)) (.cells #[.slice none 0 0, .int .i64 0, .int .i64 0] 67)
  have hsz : (w.alloc (.cells #[.slice Au L.length cu, .int .i64 h, .int .i64 r] 67)).heap.size = w.heap.size + 1 := by simp
  have hsz2 : ((w.alloc (.cells #[.slice Au L.length cu, .int .i64 h, .int .i64 r] 67)).alloc (.cells #[.int .i64 kd, .int .i64 n, .int .i64 sp, .slice A xs.length c] 72)).heap.size = w.heap.size + 2 := by simp
  rw [hsz] at hk5
  rw [hsz2] at hk6
  go_enter Try.func42, Try.ntmps42
  go_wp2_with fail
  have HXL := Aside0.mk (show ∀ k, Xp B bm vo (Value.slice Au L.length cu) k → k < w.heap.size from fun k hk => hk.elim (hB.st.lt k) (fun hk => Kd.R_lt hB.rv k hk.symm))
  have HZ := Aside0.mk (hB.below hb0)
  have HDO := Aside0.mk d
  have HDL := Aside0.mk dL
  have HW0 := Aside0.mk hB.bl.size
  have HSY := Aside0.mk (show Stay (Xp B bm vo (Value.slice Au L.length cu)) w _ from Stay.below hb0)
  clear hB hb0 hsz hsz2 d dL
  generalize ((w.alloc (.cells #[.slice Au L.length cu, .int .i64 h, .int .i64 r] 67)).alloc (.cells #[.int .i64 kd, .int .i64 n, .int .i64 sp, .slice A xs.length c] 72)).alloc (.cells #[.slice none 0 0, .int .i64 0, .int .i64 0] 67) = wD at *
  have HK4 := Aside0.mk hk4
  have HK5 := Aside0.mk hk5
  have HK6 := Aside0.mk hk6
  clear hk4 hk5 hk6
  obtain ⟨x0, x1, x2⟩ := And.intro ((blk_cell HK4.out 0).trans rfl) (And.intro ((blk_cell HK4.out 1).trans rfl) ((blk_cell HK4.out 2).trans rfl))
  obtain ⟨y0, y1, y2, y3⟩ := And.intro ((blk_cell HK5.out 0).trans rfl) (And.intro ((blk_cell HK5.out 1).trans rfl) (And.intro ((blk_cell HK5.out 2).trans rfl) ((blk_cell HK5.out 3).trans rfl)))
  obtain ⟨r0, r1, r2⟩ := And.intro ((blk_cell HK6.out 0).trans rfl) (And.intro ((blk_cell HK6.out 1).trans rfl) ((blk_cell HK6.out 2).trans rfl))
  have f6 := blk_frozen HK6.out
  have hk0 : (kd == 0) = false := beq_eq_false_iff_ne.2 (by omega)
  have hk2 : (kd == 2) = false := beq_eq_false_iff_ne.2 (by omega)
  have hk3 : (kd == 3) = false := beq_eq_false_iff_ne.2 (by omega)
  have hk4 : (kd == 4) = false := beq_eq_false_iff_ne.2 (by omega)
  have hk1 : (kd == 1) = false := beq_eq_false_iff_ne.2 (by omega)
  obtain ⟨hcL, hCL⟩ := HZ.out.reads
  go_wp2_with fail
  refine start_ (n := 7) (S := fun w' => w'.cell? ⟨w.heap.size, 0, none⟩ = some (.slice Au L.length cu) ∧ w'.cell? ⟨w.heap.size, 1, none⟩ = some (.int .i64 h) ∧ w'.cell? ⟨w.heap.size, 2, none⟩ = some (.int .i64 r) ∧ w'.cell? ⟨w.heap.size + 1, 0, none⟩ = some (.int .i64 kd) ∧ w'.cell? ⟨w.heap.size + 1, 1, none⟩ = some (.int .i64 n) ∧ w'.cell? ⟨w.heap.size + 1, 2, none⟩ = some (.int .i64 sp) ∧ w'.cell? ⟨w.heap.size + 1, 3, none⟩ = some (.slice A xs.length c)) (ds := [5]) #[false, false, false, false, false, false, false] (by kernel_rfl) rfl rfl ⟨x0, x1, x2, y0, y1, y2, y3⟩ (fun hHeld => ?_)
  refine pure_ (i := 1) (N := some 43) (v := ?_) (a' := ?_) #[false, true, false, false, false, false, false] rfl rfl (by kernel_rfl) (fun _ _ _ h => h) (Or.inl ⟨by rfl, ?_⟩) ?_ ?_
  rotate_left
  · intro w'
    go_simp
    with_reducible rfl
  rotate_left
  · simp only [Act.put, List.setIfInBounds_toArray, List.set_cons_zero, List.set_cons_succ, i64_w, i32_w]
    rfl
  refine take_ (i := 0) (N := some 42) (v := ?_) (a' := ?_) #[true, true, false, false, false, false, false] rfl rfl (by kernel_rfl) (fun _ _ _ h => h) (Or.inl ⟨by rfl, ?_⟩) hHeld ?_ ?_
  rotate_left
  · rintro w' ⟨s0, s1, s2, s3, s4, s5, s6⟩
    go_simp
    with_reducible rfl
  rotate_left
  · simp only [Act.put, List.setIfInBounds_toArray, List.set_cons_zero, List.set_cons_succ, i64_w, i32_w]
    rfl
  refine take_ (i := 2) (N := some 44) (v := ?_) (a' := ?_) #[true, true, true, false, false, false, false] rfl rfl (by kernel_rfl) (fun _ _ _ h => h) (Or.inl ⟨by rfl, ?_⟩) hHeld ?_ ?_
  rotate_left
  · rintro w' ⟨s0, s1, s2, s3, s4, s5, s6⟩
    go_simp
    with_reducible rfl
  rotate_left
  · simp only [Act.put, List.setIfInBounds_toArray, List.set_cons_zero, List.set_cons_succ, i64_w, i32_w]
    rfl
  refine take_ (i := 3) (N := some 45) (v := ?_) (a' := ?_) #[true, true, true, true, false, false, false] rfl rfl (by kernel_rfl) (fun _ _ _ h => h) (Or.inl ⟨by rfl, ?_⟩) hHeld ?_ ?_
  rotate_left
  · rintro w' ⟨s0, s1, s2, s3, s4, s5, s6⟩
    go_simp
    with_reducible rfl
  rotate_left
  · simp only [Act.put, List.setIfInBounds_toArray, List.set_cons_zero, List.set_cons_succ, i64_w, i32_w]
    rfl
  refine one_ (i := 4) (N := some 46) #[true, true, true, true, true, false, false] rfl rfl (by kernel_rfl) (by decide) (fun K hK => ?_)
  refine goes_ Try.func76 (by kernel_rfl) rfl #[.pointer (some ⟨B, 0, none⟩), .agg #[.slice Au L.length cu, .int .i64 h, .int .i64 r], .agg #[.int .i64 kd, .int .i64 n, .int .i64 sp, .slice A xs.length c]] (by rfl) rfl rfl (by (try simp only [List.map_toArray, List.map_cons, List.map_nil]); first | done | rfl) ?_
  refine (asks_calls (HZ.out.below ((Below.refl _ _).drew)).st HDO.out HDL.out hcL (Kd.C_below hCL ((Below.refl _ _).drew)) kd n sp hs A xs.length c).mono ?_
  rintro e wG ⟨b, rfl, hbe, hbG⟩
  refine ⟨_, rfl, ?_⟩
  obtain ⟨s0, s1, s2, s3, s4, s5, s6⟩ := hHeld
  refine hK.out _ _ ⟨(hbG.cell (World.block_lt_of_cell? _ _ s0)).trans s0, (hbG.cell (World.block_lt_of_cell? _ _ s1)).trans s1, (hbG.cell (World.block_lt_of_cell? _ _ s2)).trans s2, (hbG.cell (World.block_lt_of_cell? _ _ s3)).trans s3, (hbG.cell (World.block_lt_of_cell? _ _ s4)).trans s4, (hbG.cell (World.block_lt_of_cell? _ _ s5)).trans s5, (hbG.cell (World.block_lt_of_cell? _ _ s6)).trans s6⟩ (fun hHeld => ?_)
  clear hK K
  refine norm_ (a' := ?_) ?_ ?_
  rotate_left
  · show Act.put _ (some 46) _ = _
    simp only [Act.put, List.setIfInBounds_toArray, List.set_cons_zero, List.set_cons_succ, i64_w, i32_w]
    rfl
  refine last_ (i := 5) (N := none) #[true, true, true, true, true, true, false] rfl rfl (by kernel_rfl) (by decide) (fun K hK => ?_)
  obtain ⟨s0, s1, s2, s3, s4, s5, s6⟩ := hHeld
  have hb2 : Below wD.heap.size wD wG := (Below.refl _ wD).drew.trans hbG
  have hk6G := blk_below HK6.out hb2
  have f0 := blk_frozen hk6G
  obtain ⟨q0, q1, q2⟩ := And.intro ((blk_cell hk6G 0).trans rfl) (And.intro ((blk_cell hk6G 1).trans rfl) ((blk_cell hk6G 2).trans rfl))
  refine skip_ (w1 := ?_) (by rfl) rfl ?_ ?_
  rotate_left
  · go_simp
    with_reducible rfl
  refine hK.out _ _ ?_
  clear hK K
  refine pure_ (i := 6) (N := some 7) (v := ?_) (a' := ?_) #[true, true, true, true, true, true, true] rfl rfl (by kernel_rfl) (fun _ _ _ h => h) (Or.inl ⟨by rfl, ?_⟩) ?_ ?_
  rotate_left
  · intro w'
    go_simp
    with_reducible rfl
  rotate_left
  · simp only [Act.put, List.setIfInBounds_toArray, List.set_cons_zero, List.set_cons_succ, i64_w, i32_w]
    rfl
  refine done_ (by kernel_rfl) ?_
  replace HSY := Aside0.mk (HSY.out.trans (Stay.below hb2))
  replace HZ := Aside0.mk (HZ.out.below hb2)
  have HK6G := Aside0.mk hk6G
  have hBG := HZ.out
  have hfar := ((hBG.far HK6G.out (by decide) (Nat.le_trans HW0.out (Nat.le_add_right _ 2)) 0 (.slice Au L.length cu)).far (blk_put HK6G.out 0 (.slice Au L.length cu) rfl) (by decide) (Nat.le_trans HW0.out (Nat.le_add_right _ 2)) 1 (.int .i64 h)).far (blk_put (blk_put HK6G.out 0 (.slice Au L.length cu) rfl) 1 (.int .i64 h) rfl) (by decide) (Nat.le_trans HW0.out (Nat.le_add_right _ 2)) 2 (.int .i64 r)
  have hk6' := blk_put (blk_put (blk_put HK6G.out 0 (.slice Au L.length cu) rfl) 1 (.int .i64 h) rfl) 2 (.int .i64 r) rfl
  have HFAR := Aside0.mk hfar
  have HK6' := Aside0.mk hk6'
  have HFR := Aside0.mk (((HSY.out.far (w.heap.size + 2) 0 (.slice Au L.length cu)).far (w.heap.size + 2) 1 (.int .i64 h)).far (w.heap.size + 2) 2 (.int .i64 r))
  clear hBG hfar hk6'
  clear hb2 hk6G
  (try simp only [Exit.inBlock, Exit.then])
  go_wp2
  refine bodyPost_ret (results_ct rfl _ _ (w.heap.size + 2) 67 #[.slice Au L.length cu, .int .i64 h, .int .i64 r] (0, 0) _ rfl HK6'.out Try.underlying67 rfl (by kernel_rfl)) rfl ?_
  exact ⟨os, hand, rounds, Au, cu, L, h, r, b, rfl, HFAR.out, HDO.out.nx0, HDL.out.nx0, fun a1 a2 a3 => ⟨hbe a1, a1, a2, a3⟩, fun k hk hx => HFR.out k (fun hy => by rcases hy with ((hy | hy) | hy) | hy <;> first | exact hx hy | omega)⟩
end

end Go.Proofs.Ytcbnmmkmgpbfiaa.PP
/- The law's 'does' at any deed, and 'like' (layer 14). -/
namespace Go.Proofs.Ytcbnmmkmgpbfiaa.PP
open Go.RowKit Go.Proofs.Ytcbnmmkmgpbfiaa.PX Go.Proofs.YtcbnmmkmgpbfiaaW.PrintWords Go.Proofs.YtcbnmmkmgpbfiaaW.PrintLast Go.Proofs.YtcbnmmkmgpbfiaaW.PrintMore
attribute [local go_sem] max2_int min2_int max_two min_two max_three min_three max_four min_four   -- for this text's walks alone
set_option linter.unusedVariables false
set_option linter.unusedSimpArgs false
section
variable {w0 w : World} {base B bm : Nat} {vo : Value} {os : List Int} {hand rounds : Int} {Au : Option Addr} {cu : Nat} {L : List Int} {h r : Int}
theorem does_any (hB : Both w0 w base B bm vo os hand rounds (.slice Au L.length cu) L) (d : Doc os hand rounds) (dL : Doc L h r) (hr1 : rounds < 1000000) (hr2 : r < 1000000) (x : OpenD3.Dd) (hx : OpenD3.Good w0 x) :
    Calls Try.prog 42 #[.pointer (some ⟨B, 0, none⟩), .agg #[.slice Au L.length cu, .int .i64 h, .int .i64 r], .agg #[.int .i64 x.kd, .int .i64 x.n, .int .i64 x.sp, .slice x.A x.av.length x.c]] w (DoesP w0 w base B bm vo os hand rounds (.slice Au L.length cu) L h r) := by
  obtain ⟨kd, n, sp, A, c, av⟩ := x
  obtain ⟨hk, hn, hs, hc, hC⟩ := hx
  by_cases h0 : kd = 0
  · subst h0; exact does_take hB d dL hr1 hr2 n sp hs A c av hc hC
  by_cases h2 : kd = 2
  · subst h2; exact does_give hB d dL hr1 hr2 n sp hs A c av hc hC
  by_cases h1 : kd = 1
  · subst h1; exact does_steal hB d dL hr1 hr2 n sp hn hs A c av hc hC
  by_cases h3 : kd = 3
  · subst h3; exact does_vict3 hB d dL hr1 hr2 n sp hn hs A c av hc hC
  by_cases h4 : kd = 4
  · subst h4; exact does_vict4 hB d dL hr1 hr2 n sp hn hs A c av hc hC
  exact does_other hB d dL hr1 hr2 n sp hn hs A c av hc hC kd (by omega)
end
/-- What holds while it is compared. -/
structure LK (w W : World) (base B bm : Nat) (vo : Value) (L : List Int) (h r : Int) (A : Option Addr) : Prop where
  st : St W base B bm vo L h r
  c : Kd.C (Kd.int .i64) W A L.length L
  bl : Below w.heap.size w W
theorem LK.below {w W W' : World} {base B bm : Nat} {vo : Value} {L : List Int} {h r : Int} {A : Option Addr} (k : LK w W base B bm vo L h r A) (hb : Below W.heap.size W W') : LK w W' base B bm vo L h r A :=
  ⟨k.st.below hb, Kd.C_below k.c hb, k.bl.trans (hb.mono k.bl.size)⟩
theorem same_below {w w' : World} (h : w' = w) : Below w.heap.size w w' := h ▸ Below.refl _ _
set_option maxHeartbeats 8000000 in
set_option maxRecDepth 100000 in
theorem like_calls {w : World} {base B bm : Nat} {vo : Value} {L : List Int} {h r : Int} {Au : Option Addr} {cu : Nat} (hst : St w base B bm vo L h r) (d : Doc L h r) (hcu : L.length ≤ cu) (hC : Kd.C (Kd.int .i64) w Au L.length L) :
    Calls Try.prog 44 #[.pointer (some ⟨B, 0, none⟩), .agg #[.slice Au L.length cu, .int .i64 h, .int .i64 r]] w fun e w' => e = .returned (.bool true) ∧ Below w.heap.size w w' := by
  have hb0 := (Below.refl w.heap.size w).alloc (Nat.le_refl _) (.cells #[.slice Au L.length cu, .int .i64 h, .int .i64 r] 67)
  have hk4 := blk_new w (.cells #[.slice Au L.length cu, .int .i64 h, .int .i64 r] 67)
  have HD := Aside0.mk d
  have HCU := Aside0.mk hcu
  have HLK := Aside0.mk (show LK w _ base B bm vo L h r Au from ⟨hst.below hb0, Kd.C_below hC hb0, hb0⟩)
  have hl10 := d.len
  obtain ⟨x0, x1, x2⟩ := And.intro ((blk_cell hk4 0).trans rfl) (And.intro ((blk_cell hk4 1).trans rfl) ((blk_cell hk4 2).trans rfl))
  clear hst d hcu hC hb0 hk4
  go_enter Try.func44, Try.ntmps44
  go_wp2_with fail
  generalize w.alloc (.cells #[.slice Au L.length cu, .int .i64 h, .int .i64 r] 67) = wD at *
  go_region_held3 (fun W => Aside0 (LK w W base B bm vo L h r Au) ∧ W.cell? ⟨w.heap.size, 0, none⟩ = some (.slice Au L.length cu) ∧ W.cell? ⟨w.heap.size, 1, none⟩ = some (.int .i64 h) ∧ W.cell? ⟨w.heap.size, 2, none⟩ = some (.int .i64 r))
    (first | (exact ⟨⟨HLK.out.below ((Below.refl _ _).drew)⟩, x0, x1, x2⟩) | (go_split_ands; exact ⟨⟨LK.below (Aside0.out (p := LK w _ base B bm vo L h r Au) (by assumption)) hbel⟩, pw_cell_below hbel (by assumption), pw_cell_below hbel (by assumption), pw_cell_below hbel (by assumption)⟩))
    (first
      | (go_at_call 79; go_split_ands; refine (len_S (LK.st (Aside0.out (p := LK w _ base B bm vo L h r Au) (by assumption)))).mono ?_; rintro e w' ⟨rfl, hw⟩; have hbel := same_below hw; clear hw)
      | (go_at_call 40; go_split_ands; refine (st_hand (LK.st (Aside0.out (p := LK w _ base B bm vo L h r Au) (by assumption)))).mono ?_; rintro e w' ⟨rfl, hw⟩; have hbel := same_below hw; clear hw)
      | (go_at_call 39; go_split_ands; refine (st_rounds (LK.st (Aside0.out (p := LK w _ base B bm vo L h r Au) (by assumption)))).mono ?_; rintro e w' ⟨rfl, hw⟩; have hbel := same_below hw; clear hw)
      | (go_at_call 35; go_split_ands; refine (free_st (LK.st (Aside0.out (p := LK w _ base B bm vo L h r Au) (by assumption))) HD.out.sml).mono ?_; rintro e w' ⟨rfl, hbel⟩)
      | (go_at_call 80; go_split_ands; refine (lookasideref14_Free.calls 9000 Au cu L h r _ _ (LK.c (Aside0.out (p := LK w _ base B bm vo L h r Au) (by assumption))) HCU.out (Free_f L h r HD.out)).mono ?_; rintro e w' ⟨rfl, hbel⟩)
      | (go_at_call 43; go_split_ands; refine (owners_S (LK.st (Aside0.out (p := LK w _ base B bm vo L h r Au) (by assumption))) HD.out).mono ?_; rintro e w' ⟨v1, rfl, hR1, hbel⟩; obtain ⟨A1, c1, hv1⟩ := Kd.R_slice hR1; subst hv1; have HC1 := Aside0.mk (Kd.R_reads' hR1).2; clear hR1)
      | (go_at_call 23; go_split_ands; refine (lookasideref02_Same.calls 9000 A1 c1 L Au cu L true _ HC1.out.2 HC1.out.1 (LK.c (Aside0.out (p := LK w _ base B bm vo L h r Au) (by assumption))) HCU.out (Same_f L (by omega))).mono ?_; rintro e w' ⟨rfl, hdr⟩; have hbel := hdr.below))
  all_goals
    rename_i hS
    have hbf := hS.1.out.bl
    clear hS
    (try simp only [Exit.inBlock, Exit.then])
    go_wp2
    go_ret
    exact ⟨rfl, hbf⟩

end Go.Proofs.Ytcbnmmkmgpbfiaa.PP

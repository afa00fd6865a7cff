import Derived.Test.YtalmemcidbmdgaaZMk5
/- The document's model of spaces (layer 16): access: the walk. -/
set_option linter.unusedVariables false
set_option linter.unusedSimpArgs false
namespace Go.Proofs.Ytalmemcidbmdgaa.PM
open Go.RowKit Go.Proofs.YtalmemcidbmdgaaW.PrintWords Go.Proofs.YtalmemcidbmdgaaW.PrintLast Go.Proofs.YtalmemcidbmdgaaW.PrintMore Go.Proofs.Ytalmemcidbmdgaa.PageG
attribute [local go_sem] max2_int min2_int max_two min_two max_three min_three max_four min_four   -- for this text's walks alone
theorem DocX.of {X : Nat → Prop} {w w' : World} {A1 A2 : Option Addr} {c1 c2 : Nat} {s : MS} (lt : ∀ k, X k → k < w.heap.size) (h : ∀ W, KeepsD X w w' W → DocM W A1 c1 A2 c2 s) (hb : Below w.heap.size w w') : DocX (fun k => X k ∨ (w.heap.size ≤ k ∧ k < w'.heap.size)) w' A1 c1 A2 c2 s :=
  ⟨fun k hk => by rcases hk with hk | hk; (· exact Nat.lt_of_lt_of_le (lt k hk) hb.size); (· exact hk.2), h w' (fun _ _ => rfl), fun W hW => h W (fun k hk => hW k hk)⟩
theorem DocX.sb {X : Nat → Prop} {w : World} {A1 A2 : Option Addr} {c1 c2 : Nat} {s : MS} {b : Nat} (h : DocX X w A1 c1 A2 c2 s) (hb : ¬ X b) (o : Obj) : DocX X (ChangeMaps.setBlock w b o) A1 c1 A2 c2 s := by
  have hs : ∀ k, X k → (ChangeMaps.setBlock w b o).heap[k]? = w.heap[k]? := fun k hk => sb_other _ (fun e => hb (e ▸ hk))
  exact ⟨fun k hk => by have := h.lt k hk; simpa [ChangeMaps.setBlock] using this, h.keep _ hs, fun W hW => h.keep W (fun k hk => (hW k hk).trans (hs k hk))⟩
theorem KeepsD.thru2 {X X' : Nat → Prop} {w w3 w4 wf W : World} (h : KeepsD X w wf W) (hX : ∀ k, X' k → X k ∨ (w.heap.size ≤ k ∧ k < wf.heap.size)) (hw : w.heap.size ≤ w3.heap.size) (hs : w4.heap.size ≤ wf.heap.size) (hne : ∀ k, X' k ∨ w3.heap.size ≤ k → wf.heap[k]? = w4.heap[k]?) : KeepsD X' w3 w4 W := by
  intro k hk
  refine (h k ?_).trans (hne k (hk.imp id (·.1)))
  rcases hk with hk | hk
  · exact hX k hk
  · exact .inr ⟨Nat.le_trans hw hk.1, Nat.lt_of_lt_of_le hk.2 hs⟩
theorem Bo.sb {w W : World} {D b : Nat} {box op res rep : Array Value} (h : Bo w W D box op res rep) (hb : D + 1 + 1 + 1 < b) (o : Obj) : Bo w (ChangeMaps.setBlock W b o) D box op res rep :=
  ⟨(sb_other _ (by omega)).trans h.box, (sb_other _ (by omega)).trans h.op, (sb_other _ (by omega)).trans h.res, (sb_other _ (by omega)).trans h.rep, below_sb h.lo (by rw [h.hD]; omega) _, h.hD⟩
theorem Bo.sbox {w W : World} {D : Nat} {box box' op res rep : Array Value} (h : Bo w W D box op res rep) : Bo w (ChangeMaps.setBlock W D (.cells box' 29 (0, 0))) D box' op res rep :=
  ⟨sb_same h.box _, (sb_other _ (by omega)).trans h.op, (sb_other _ (by omega)).trans h.res, (sb_other _ (by omega)).trans h.rep, below_sb h.lo (by rw [h.hD]; exact Nat.le_refl _) _, h.hD⟩
theorem setPg {W : World} {g : Nat} {a0 a1 a2 a3 a4 a5 a6 a7 a8 a9 a10 : Value} {t : TypeId} (h : W.heap[g]? = some (.cells #[a0, a1, a2, a3, a4, a5, a6, a7, a8, a9, a10] t (0, 0))) (b9 b10 : Value) :
    (W.setCell ⟨g, 9, none⟩ b9).setCell ⟨g, 10, none⟩ b10 = ChangeMaps.setBlock W g (.cells #[a0, a1, a2, a3, a4, a5, a6, a7, a8, b9, b10] t (0, 0)) := by
  have s0 := setCell_block (t := t) (i := 9) (cs' := #[a0, a1, a2, a3, a4, a5, a6, a7, a8, b9, a10]) h b9 rfl
  have s1 := sb_put (t := t) (i := 10) (cs := #[a0, a1, a2, a3, a4, a5, a6, a7, a8, b9, a10]) (cs' := #[a0, a1, a2, a3, a4, a5, a6, a7, a8, b9, b10]) h b10 rfl
  rw [s0, s1]
theorem djudge_f (a : Atr) (kind va : Int) (priv : Bool) : lookasideref09_Judge.f 10 a.f0 a.f1 a.f2 a.f3 a.f4 a.f5 kind priv va = some (judgeN a kind priv) := by
  obtain ⟨a0, a1, a2, a3, a4, a5⟩ := a
  unfold lookasideref09_Judge.f judgeN
  by_cases h1 : kind = 1
  · subst h1
    cases a0 <;> cases a1 <;> cases a2 <;> cases a5 <;> cases priv <;> rfl
  · by_cases h2 : kind = 2
    · subst h2
      cases a0 <;> cases a1 <;> cases a2 <;> cases a5 <;> cases priv <;> rfl
    · by_cases h3 : kind = 3
      · subst h3
        cases a0 <;> cases a1 <;> cases a2 <;> cases a5 <;> cases priv <;> rfl
      · have e1 : (kind == 1) = false := beq_eq_false_iff_ne.2 h1
        have e2 : (kind == 2) = false := beq_eq_false_iff_ne.2 h2
        have e3 : (kind == 3) = false := beq_eq_false_iff_ne.2 h3
        cases a0 <;> cases a1 <;> cases a2 <;> cases a5 <;> cases priv <;> simp [lookasideref09_Judge.j0, lookasideref09_Judge.j1, lookasideref09_Judge.j2, e1, e2, e3, h1, h2, h3]
theorem off_d {x : Ent} {va : Nat} (hx : OkE x) (hv : va < 2 ^ 64) : lookasideref02_Offset.f (va : Int) x.f1.f1 = some ((offN x va : Nat) : Int) := by
  have hz := hx.sz1
  have hs := hx.sz
  unfold lookasideref02_Offset.f offN
  rw [hs]
  generalize szN x = z at *
  have hc : z = 0 ∨ z = 1 ∨ z = 2 ∨ z = 3 := by omega
  rcases hc with rfl | rfl | rfl | rfl <;> rfl
theorem get_l0 (r o n m : Int) (l : List Ent) (bs : List Bt) (hl : bs.length ≤ 100000) : ∀ (d i : Nat), i + d = bs.length → lookasideref16_get.l0 (d + 1) r o (i : Int) n l bs m = some (getB (bs.drop i) r o)
  | 0, i, hi => by
    simp only [lookasideref16_get.l0]
    rw [if_neg (by omega), List.drop_eq_nil_of_le (by omega)]
    rfl
  | d + 1, i, hi => by
    have hlt : i < bs.length := by omega
    have hrd := rd_bt hlt
    have hw1 : wrap64 ((i : Int) + 1) = ((i + 1 : Nat) : Int) := by unfold wrap64; omega
    have hd : bs.drop i = bs[i] :: bs.drop (i + 1) := List.drop_eq_getElem_cons hlt
    have ih := get_l0 r o n m l bs hl d (i + 1) (by omega)
    rw [lookasideref16_get.l0, if_pos (by omega), if_pos (by omega), hrd, hw1, hd, ih]
    unfold getB
    rw [List.find?_cons]
    generalize bs[i] = b
    by_cases h1 : b.f0 = r
    · by_cases h2 : b.f1 = o
      · simp [h1, h2]
      · have e2 : (b.f1 == o) = false := beq_eq_false_iff_ne.2 h2
        simp [h1, h2, e2]
    · have e1 : (b.f0 == r) = false := beq_eq_false_iff_ne.2 h1
      simp [h1, e1]
theorem get_r {s' : MS} (hl : s'.by_.length ≤ 100000) (r o : Int) : lookasideref16_get.f (s'.by_.length + 1) s'.n s'.L s'.by_ s'.made r o = some (getB s'.by_ r o) := by
  have h := get_l0 r o s'.n s'.made s'.L s'.by_ hl s'.by_.length 0 (by omega)
  rw [List.drop_zero] at h
  exact h
def accD (s : MS) (o : OpS) (i : Nat) (x : Ent) (av : Nat) : (Int × Int × Int) × MS :=
  if judgeN x.f1.f3 o.ak o.ap = 0 then
    (if o.ak = 1 then ((0, 0, 0), { s with L := s.L.set i ⟨x.f0, accP x.f1 o.ak⟩, by_ := putB s.by_ x.f1.f2 ((offN x av : Nat) : Int) o.byte })
     else ((0, 0, getB s.by_ x.f1.f2 ((offN x av : Nat) : Int)), { s with L := s.L.set i ⟨x.f0, accP x.f1 o.ak⟩ }))
  else ((0, judgeN x.f1.f3 o.ak o.ap, 0), s)
theorem accessR_arg {s : MS} {o : OpS} (h : ¬ (isAll s.n [o.sp] = true ∧ (0 ≤ o.ak ∧ o.ak < 4))) : accessR s o = ((1, 0, 0), s) := by unfold accessR; rw [if_neg h]
theorem accessR_hole {s : MS} {o : OpS} (h : isAll s.n [o.sp] = true ∧ (0 ≤ o.ak ∧ o.ak < 4)) (hh : holeB o.av.toNat = true) : accessR s o = ((0, 1, 0), s) := by unfold accessR; rw [if_pos h, if_pos hh]
theorem accessR_none {s : MS} {o : OpS} (h : isAll s.n [o.sp] = true ∧ (0 ≤ o.ak ∧ o.ak < 4)) (hh : holeB o.av.toNat = false) (hf : find s.L o.sp o.av.toNat = none) : accessR s o = ((0, 2, 0), s) := by unfold accessR; rw [if_pos h, if_neg (by rw [hh]; simp), hf]
theorem accessR_some {s : MS} {o : OpS} {i : Nat} {x : Ent} (h : isAll s.n [o.sp] = true ∧ (0 ≤ o.ak ∧ o.ak < 4)) (hh : holeB o.av.toNat = false) (hf : find s.L o.sp o.av.toNat = some i) (hx : s.L[i]? = some x) : accessR s o = accD s o i x o.av.toNat := by
  unfold accessR accD
  rw [if_pos h, if_neg (by rw [hh]; simp), hf]
  simp only [hx]
section
variable {X : Nat → Prop} {w w' : World} {A1 A2 : Option Addr} {c1 c2 : Nat} {s : MS}
set_option maxHeartbeats 8000000 in
set_option maxRecDepth 100000 in
theorem daccess_calls (hh : DocX X w A1 c1 A2 c2 s) (hf : s.L.length ≤ 100000) (hfb : s.by_.length ≤ 100000) (hok : ∀ x ∈ s.L, OkE x) (o : OpS) (ho : OkO o) :
    Calls Try.prog 31 #[.agg #[.int .i64 s.n, .slice A1 s.L.length c1, .slice A2 s.by_.length c2, .int .i64 s.made], .agg #[.int .i64 o.kind, .int .i64 o.sp, .int .i64 o.ak, .bool o.ap, .int .u64 o.av, .int .u8 o.byte, .int .u64 o.va, .int .i64 o.size, .bool o.at_.f0, .bool o.at_.f1, .bool o.at_.f2, .bool o.at_.f3, .bool o.at_.f4, .bool o.at_.f5, .int .i64 o.other, .int .u64 o.too]] w (DocR X w (accessR s o)) := by
  have HM := Aside0.mk hh.m
  have HM0 := Aside0.mk hh
  have HOK := Aside0.mk hok
  obtain ⟨av, hvd⟩ : ∃ av : Nat, o.av.toNat = av := ⟨_, rfl⟩
  have hav : av < 2 ^ 64 := by have := ho.av; omega
  have HV := Aside0.mk (show o.av = (av : Int) by have := ho.av; omega)
  have HVD := Aside0.mk hvd
  have HIS := Aside0.mk (is_r s.n s.L s.by_ s.made o.sp)
  have HAT := Aside0.mk (at_r o.sp av hav s.n s.made s.L s.by_ hf hok)
  have HHO := Aside0.mk (hole_r av hav)
  clear hh hok ho hvd
  generalize hia : isAll s.n [o.sp] = ia at *
  have HIA := Aside0.mk hia
  clear hia
  obtain ⟨D, hD⟩ : ∃ D, w.heap.size = D := ⟨_, rfl⟩
  go_enter Try.func31, Try.ntmps31
  go_upto_region 1 with fail
  have hx := oboxes hD #[.int .i64 s.n, .slice A1 s.L.length c1, .slice A2 s.by_.length c2, .int .i64 s.made] #[.int .i64 o.kind, .int .i64 o.sp, .int .i64 o.ak, .bool o.ap, .int .u64 o.av, .int .u8 o.byte, .int .u64 o.va, .int .i64 o.size, .bool o.at_.f0, .bool o.at_.f1, .bool o.at_.f2, .bool o.at_.f3, .bool o.at_.f4, .bool o.at_.f5, .int .i64 o.other, .int .u64 o.too] #[.int .i64 0, .slice none 0 0, .slice none 0 0, .int .i64 0] #[.int .i64 0, .int .i64 0, .int .u8 0]
  have HX := Aside0.mk hx
  generalize (((w.alloc (.cells #[.int .i64 s.n, .slice A1 s.L.length c1, .slice A2 s.by_.length c2, .int .i64 s.made] 29)).alloc (.cells #[.int .i64 o.kind, .int .i64 o.sp, .int .i64 o.ak, .bool o.ap, .int .u64 o.av, .int .u8 o.byte, .int .u64 o.va, .int .i64 o.size, .bool o.at_.f0, .bool o.at_.f1, .bool o.at_.f2, .bool o.at_.f3, .bool o.at_.f4, .bool o.at_.f5, .int .i64 o.other, .int .u64 o.too] 36)).alloc (.cells #[.int .i64 0, .slice none 0 0, .slice none 0 0, .int .i64 0] 29)).alloc (.cells #[.int .i64 0, .int .i64 0, .int .u8 0] 42) = w1 at *
  clear hx hD
  obtain ⟨x0, x1, x2, x3⟩ := cells4 HX.out.box
  obtain ⟨-, o1, -⟩ := cells16 HX.out.op
  go_wp2_with fail
  refine (lookasideref16_is.calls s.n A1 c1 s.L A2 c2 s.by_ s.made o.sp ia w1 (HM.out.below HX.out.lo).l (HM.out.below HX.out.lo).lc (HM.out.below HX.out.lo).b (HM.out.below HX.out.lo).bc HIS.out).mono ?_
  rintro e w2 ⟨rfl, hb⟩
  have HX2 := Aside0.mk (HX.out.below hb)
  clear hb HX x0 x1 x2 x3 o1
  obtain ⟨-, -, o2, o3, o4, -⟩ := cells16 HX2.out.op
  go_upto_region 3 with fail
  have hal := (Below.refl _ w2).alloc (Nat.le_refl _) (.cells #[.int .i64 o.ak, .bool o.ap, .int .u64 o.av] 32)
  have hn := blk_new w2 (.cells #[.int .i64 o.ak, .bool o.ap, .int .u64 o.av] 32)
  have HX3 := Aside0.mk (HX2.out.below hal)
  have HA3 := Aside0.mk hn
  have HGD := Aside0.mk (show D + 1 + 1 + 1 < w2.heap.size from blk_lt HX2.out.rep)
  generalize w2.alloc (.cells #[.int .i64 o.ak, .bool o.ap, .int .u64 o.av] 32) = w3 at *
  generalize w2.heap.size = G at *
  clear hal hn HX2 o2 o3 o4
  obtain ⟨a0, a1, a2⟩ := cells3 HA3.out
  cases ia with
  | false =>
    have HR := Aside0.mk (accessR_arg (s := s) (o := o) (by rw [HIA.out]; simp))
    obtain ⟨x0, x1, x2, x3⟩ := cells4 HX3.out.box
    obtain ⟨z0, z1, z2, z3⟩ := cells4 HX3.out.res
    obtain ⟨r0, r1, r2⟩ := cells3 HX3.out.rep
    have g0 := blk_frozen HX3.out.res 0
    have g1 := blk_frozen HX3.out.res 1
    have g2 := blk_frozen HX3.out.res 2
    have g3 := blk_frozen HX3.out.res 3
    have y0 := blk_frozen HX3.out.rep 0
    have y1 := blk_frozen HX3.out.rep 1
    have y2 := blk_frozen HX3.out.rep 2
    go_wp2_with fail
    rw [set4 HX3.out.res, set3 HX3.out.sres.rep]
    have hx4 := (HX3.out.sres (res' := #[.int .i64 s.n, .slice A1 s.L.length c1, .slice A2 s.by_.length c2, .int .i64 s.made])).srep (rep' := #[.int .i64 1, .int .i64 0, .int .u8 0])
    refine bodyPost_ret (results_cc rfl _ _ (D + 1 + 1) (D + 1 + 1 + 1) 29 42 _ _ (0, 0) (0, 0) _ _ rfl hx4.res Try.underlying29 rfl (by kernel_rfl) rfl hx4.rep Try.underlying42 rfl (by kernel_rfl)) rfl ?_
    rw [HR.out]
    exact ⟨A1, c1, A2, c2, rfl, fun W hW => HM0.out.keep _ (hW.old HM0.out.lt hx4.lo), hx4.lo⟩
  | true =>
    by_cases hk0 : o.ak < 0
    · have HR := Aside0.mk (accessR_arg (s := s) (o := o) (by rintro ⟨-, h⟩; omega))
      have hd0 : decide (o.ak < 0) = true := decide_eq_true hk0
      clear hk0
      obtain ⟨x0, x1, x2, x3⟩ := cells4 HX3.out.box
      obtain ⟨z0, z1, z2, z3⟩ := cells4 HX3.out.res
      obtain ⟨r0, r1, r2⟩ := cells3 HX3.out.rep
      have g0 := blk_frozen HX3.out.res 0
      have g1 := blk_frozen HX3.out.res 1
      have g2 := blk_frozen HX3.out.res 2
      have g3 := blk_frozen HX3.out.res 3
      have y0 := blk_frozen HX3.out.rep 0
      have y1 := blk_frozen HX3.out.rep 1
      have y2 := blk_frozen HX3.out.rep 2
      go_wp2_with fail
      rw [set4 HX3.out.res, set3 HX3.out.sres.rep]
      have hx4 := (HX3.out.sres (res' := #[.int .i64 s.n, .slice A1 s.L.length c1, .slice A2 s.by_.length c2, .int .i64 s.made])).srep (rep' := #[.int .i64 1, .int .i64 0, .int .u8 0])
      refine bodyPost_ret (results_cc rfl _ _ (D + 1 + 1) (D + 1 + 1 + 1) 29 42 _ _ (0, 0) (0, 0) _ _ rfl hx4.res Try.underlying29 rfl (by kernel_rfl) rfl hx4.rep Try.underlying42 rfl (by kernel_rfl)) rfl ?_
      rw [HR.out]
      exact ⟨A1, c1, A2, c2, rfl, fun W hW => HM0.out.keep _ (hW.old HM0.out.lt hx4.lo), hx4.lo⟩
    · by_cases hk3 : 3 < o.ak
      · have HR := Aside0.mk (accessR_arg (s := s) (o := o) (by rintro ⟨-, h⟩; omega))
        have hd0 : decide (o.ak < 0) = false := decide_eq_false hk0
        have hd3 : decide (3 < o.ak) = true := decide_eq_true hk3
        clear hk0 hk3
        obtain ⟨x0, x1, x2, x3⟩ := cells4 HX3.out.box
        obtain ⟨z0, z1, z2, z3⟩ := cells4 HX3.out.res
        obtain ⟨r0, r1, r2⟩ := cells3 HX3.out.rep
        have g0 := blk_frozen HX3.out.res 0
        have g1 := blk_frozen HX3.out.res 1
        have g2 := blk_frozen HX3.out.res 2
        have g3 := blk_frozen HX3.out.res 3
        have y0 := blk_frozen HX3.out.rep 0
        have y1 := blk_frozen HX3.out.rep 1
        have y2 := blk_frozen HX3.out.rep 2
        go_wp2_with fail
        rw [set4 HX3.out.res, set3 HX3.out.sres.rep]
        have hx4 := (HX3.out.sres (res' := #[.int .i64 s.n, .slice A1 s.L.length c1, .slice A2 s.by_.length c2, .int .i64 s.made])).srep (rep' := #[.int .i64 1, .int .i64 0, .int .u8 0])
        refine bodyPost_ret (results_cc rfl _ _ (D + 1 + 1) (D + 1 + 1 + 1) 29 42 _ _ (0, 0) (0, 0) _ _ rfl hx4.res Try.underlying29 rfl (by kernel_rfl) rfl hx4.rep Try.underlying42 rfl (by kernel_rfl)) rfl ?_
        rw [HR.out]
        exact ⟨A1, c1, A2, c2, rfl, fun W hW => HM0.out.keep _ (hW.old HM0.out.lt hx4.lo), hx4.lo⟩
      · have HG := Aside0.mk (show isAll s.n [o.sp] = true ∧ (0 ≤ o.ak ∧ o.ak < 4) from ⟨HIA.out, by omega⟩)
        have hd0 : decide (o.ak < 0) = false := decide_eq_false hk0
        have hd3 : decide (3 < o.ak) = false := decide_eq_false hk3
        clear hk0 hk3
        rw [HV.out] at a2
        go_wp2_with fail
        refine (lookasideref02_Hole.calls 90 (av : Int) (holeB av) w3 HHO.out).mono ?_
        rintro e w4 ⟨rfl, hd⟩
        have HX4 := Aside0.mk (HX3.out.below hd.below)
        have HA4 := Aside0.mk (blk_below HA3.out hd.below)
        clear hd HX3 HA3 a0 a1 a2 hd0 hd3
        cases hhb : holeB av with
        | true =>
          have HR := Aside0.mk (accessR_hole (s := s) (o := o) HG.out (by rw [HVD.out]; exact hhb))
          clear hhb
          obtain ⟨x0, x1, x2, x3⟩ := cells4 HX4.out.box
          obtain ⟨z0, z1, z2, z3⟩ := cells4 HX4.out.res
          obtain ⟨r0, r1, r2⟩ := cells3 HX4.out.rep
          have g0 := blk_frozen HX4.out.res 0
          have g1 := blk_frozen HX4.out.res 1
          have g2 := blk_frozen HX4.out.res 2
          have g3 := blk_frozen HX4.out.res 3
          have y0 := blk_frozen HX4.out.rep 0
          have y1 := blk_frozen HX4.out.rep 1
          have y2 := blk_frozen HX4.out.rep 2
          go_wp2_with fail
          rw [set4 HX4.out.res, set3 HX4.out.sres.rep]
          have hx4 := (HX4.out.sres (res' := #[.int .i64 s.n, .slice A1 s.L.length c1, .slice A2 s.by_.length c2, .int .i64 s.made])).srep (rep' := #[.int .i64 0, .int .i64 1, .int .u8 0])
          refine bodyPost_ret (results_cc rfl _ _ (D + 1 + 1) (D + 1 + 1 + 1) 29 42 _ _ (0, 0) (0, 0) _ _ rfl hx4.res Try.underlying29 rfl (by kernel_rfl) rfl hx4.rep Try.underlying42 rfl (by kernel_rfl)) rfl ?_
          rw [HR.out]
          exact ⟨A1, c1, A2, c2, rfl, fun W hW => HM0.out.keep _ (hW.old HM0.out.lt hx4.lo), hx4.lo⟩
        | false =>
          have HHB := Aside0.mk (show holeB o.av.toNat = false by rw [HVD.out]; exact hhb)
          clear hhb
          obtain ⟨x0, x1, x2, x3⟩ := cells4 HX4.out.box
          obtain ⟨-, o1, -⟩ := cells16 HX4.out.op
          obtain ⟨-, -, a2⟩ := cells3 HA4.out
          rw [HV.out] at a2
          go_wp2_with fail
          refine (lookasideref16_At.calls (s.L.length + 1) s.n A1 c1 s.L A2 c2 s.by_ s.made o.sp (av : Int) (atI s.L o.sp av) w4 (HM.out.below HX4.out.lo).l (HM.out.below HX4.out.lo).lc (HM.out.below HX4.out.lo).b (HM.out.below HX4.out.lo).bc HAT.out).mono ?_
          rintro e w5 ⟨rfl, hb⟩
          have HX5 := Aside0.mk (HX4.out.below hb)
          have HA5 := Aside0.mk (blk_below HA4.out hb)
          clear hb HX4 HA4 x0 x1 x2 x3 o1 a2
          cases hfd : find s.L o.sp av with
          | none =>
            have hai : atI s.L o.sp av = -1 := by unfold atI; rw [hfd]
            rw [hai]
            have HR := Aside0.mk (accessR_none (s := s) (o := o) HG.out HHB.out (by rw [HVD.out]; exact hfd))
            clear hai hfd
            obtain ⟨x0, x1, x2, x3⟩ := cells4 HX5.out.box
            obtain ⟨z0, z1, z2, z3⟩ := cells4 HX5.out.res
            obtain ⟨r0, r1, r2⟩ := cells3 HX5.out.rep
            have g0 := blk_frozen HX5.out.res 0
            have g1 := blk_frozen HX5.out.res 1
            have g2 := blk_frozen HX5.out.res 2
            have g3 := blk_frozen HX5.out.res 3
            have y0 := blk_frozen HX5.out.rep 0
            have y1 := blk_frozen HX5.out.rep 1
            have y2 := blk_frozen HX5.out.rep 2
            go_wp2_with fail
            rw [set4 HX5.out.res, set3 HX5.out.sres.rep]
            have hx4 := (HX5.out.sres (res' := #[.int .i64 s.n, .slice A1 s.L.length c1, .slice A2 s.by_.length c2, .int .i64 s.made])).srep (rep' := #[.int .i64 0, .int .i64 2, .int .u8 0])
            refine bodyPost_ret (results_cc rfl _ _ (D + 1 + 1) (D + 1 + 1 + 1) 29 42 _ _ (0, 0) (0, 0) _ _ rfl hx4.res Try.underlying29 rfl (by kernel_rfl) rfl hx4.rep Try.underlying42 rfl (by kernel_rfl)) rfl ?_
            rw [HR.out]
            exact ⟨A1, c1, A2, c2, rfl, fun W hW => HM0.out.keep _ (hW.old HM0.out.lt hx4.lo), hx4.lo⟩
          | some i =>
            obtain ⟨x, hx, hh⟩ := find_some hfd
            have hil := find_lt hfd
            have hai : atI s.L o.sp av = (i : Int) := by unfold atI; rw [hfd]
            rw [hai]
            have hr2 := accessR_some (s := s) (o := o) HG.out HHB.out (by rw [HVD.out]; exact hfd) hx
            rw [HVD.out] at hr2
            have HR2 := Aside0.mk hr2
            have HXI := Aside0.mk hx
            have HXO := Aside0.mk (HOK.out x (List.mem_of_getElem? hx))
            have hi0 : ¬ ((i : Int) < 0) := by omega
            have hdi : decide ((i : Int) < 0) = false := decide_eq_false hi0
            clear hai hfd hx hh hr2
            have HRD := Aside0.mk (show rd_T105 s.L (i : Int) = x by have := HXI.out; simp [rd_T105, List.getD_eq_getElem?_getD, this])
            have hi1 : (i : Int) < (s.L.length : Int) := by omega
            have hi2 : (0 : Int) ≤ (i : Int) := by omega
            obtain ⟨ad, hA, q0, q1, q2, q3, q4, q5, q6, q7, q8, q9, q10, q11⟩ := at_T105 (HM.out.below HX5.out.lo).l (i : Int) hi2 hi1
            subst hA
            rw [HRD.out, Int.toNat_natCast] at q1 q2 q3 q4 q5 q6 q7 q8 q9 q10 q11
            clear q0
            obtain ⟨-, x1, -, -⟩ := cells4 HX5.out.box
            go_upto_region 12 with fail
            have hal := (Below.refl _ w5).alloc (Nat.le_refl _) (.cells #[.int .u64 x.f1.f0, .int .i64 x.f1.f1, .int .u64 x.f1.f2, .bool x.f1.f3.f0, .bool x.f1.f3.f1, .bool x.f1.f3.f2, .bool x.f1.f3.f3, .bool x.f1.f3.f4, .bool x.f1.f3.f5, .bool x.f1.f4, .bool x.f1.f5] 50)
            have hn := blk_new w5 (.cells #[.int .u64 x.f1.f0, .int .i64 x.f1.f1, .int .u64 x.f1.f2, .bool x.f1.f3.f0, .bool x.f1.f3.f1, .bool x.f1.f3.f2, .bool x.f1.f3.f3, .bool x.f1.f3.f4, .bool x.f1.f3.f5, .bool x.f1.f4, .bool x.f1.f5] 50)
            have HX6 := Aside0.mk (HX5.out.below hal)
            have HA6 := Aside0.mk (blk_below HA5.out hal)
            have HP6 := Aside0.mk hn
            have HG2 := Aside0.mk (show G < w5.heap.size from blk_lt HA5.out)
            generalize w5.alloc (.cells #[.int .u64 x.f1.f0, .int .i64 x.f1.f1, .int .u64 x.f1.f2, .bool x.f1.f3.f0, .bool x.f1.f3.f1, .bool x.f1.f3.f2, .bool x.f1.f3.f3, .bool x.f1.f3.f4, .bool x.f1.f3.f5, .bool x.f1.f4, .bool x.f1.f5] 50) = w6' at *
            generalize w5.heap.size = G2 at *
            clear hal hn HX5 HA5 x1 q1 q2 q3 q4 q5 q6 q7 q8 q9 q10 q11 hi0 hi1 hi2 hdi
            obtain ⟨-, -, -, p3, p4, p5, p6, p7, p8, -, -⟩ := cells11 HP6.out
            obtain ⟨a0, a1, a2⟩ := cells3 HA6.out
            rw [HV.out] at a2
            go_wp2_with fail
            refine (lookasideref09_Judge.calls 10 x.f1.f3.f0 x.f1.f3.f1 x.f1.f3.f2 x.f1.f3.f3 x.f1.f3.f4 x.f1.f3.f5 o.ak o.ap (av : Int) (judgeN x.f1.f3 o.ak o.ap) w6' (djudge_f x.f1.f3 o.ak (av : Int) o.ap)).mono ?_
            rintro e w6 ⟨rfl, hb⟩
            have HX6' := Aside0.mk (HX6.out.below hb)
            have HA6' := Aside0.mk (blk_below HA6.out hb)
            have HP6' := Aside0.mk (blk_below HP6.out hb)
            clear hb HX6 HA6 HP6 p3 p4 p5 p6 p7 p8 a0 a1 a2
            have HX6 := HX6'
            have HA6 := HA6'
            have HP6 := HP6'
            clear HX6' HA6' HP6'
            by_cases hj : judgeN x.f1.f3 o.ak o.ap = 0
            · have HJN := Aside0.mk hj
              rw [hj]
              clear hj
              by_cases hk1 : o.ak = 1
              · have HAK := Aside0.mk hk1
                clear hk1
                cases hf5 : x.f1.f5 with
                | true =>
                  have HF5 := Aside0.mk hf5
                  clear hf5
                  have HPE := Aside0.mk (show accP x.f1 o.ak = (⟨x.f1.f0, x.f1.f1, x.f1.f2, x.f1.f3, true, true⟩ : Pg) by unfold accP; rw [HF5.out, HAK.out]; rfl)
                  obtain ⟨-, -, -, -, -, -, -, -, -, p9, p10⟩ := cells11 HP6.out
                  have f9 := blk_frozen HP6.out 9
                  have f10 := blk_frozen HP6.out 10
                  obtain ⟨a0, -, -⟩ := cells3 HA6.out
                  rw [HAK.out] at a0
                  rw [HF5.out] at p10
                  have n1 : G + 1 ≤ G2 := blk_lt HA6.out |> fun _ => HG2.out
                  go_upto_region 17 with fail
                  rw [setPg HP6.out]
                  have HP8 := Aside0.mk (sb_same HP6.out (.cells #[.int .u64 x.f1.f0, .int .i64 x.f1.f1, .int .u64 x.f1.f2, .bool x.f1.f3.f0, .bool x.f1.f3.f1, .bool x.f1.f3.f2, .bool x.f1.f3.f3, .bool x.f1.f3.f4, .bool x.f1.f3.f5, .bool true, .bool true] 50 (0, 0)))
                  have HX8 := Aside0.mk (HX6.out.sb (b := G2) (by have := HGD.out; have := HG2.out; omega) (.cells #[.int .u64 x.f1.f0, .int .i64 x.f1.f1, .int .u64 x.f1.f2, .bool x.f1.f3.f0, .bool x.f1.f3.f1, .bool x.f1.f3.f2, .bool x.f1.f3.f3, .bool x.f1.f3.f4, .bool x.f1.f3.f5, .bool true, .bool true] 50 (0, 0)))
                  have HA8 := Aside0.mk ((sb_other (W := w6) (b := G2) (k := G) (.cells #[.int .u64 x.f1.f0, .int .i64 x.f1.f1, .int .u64 x.f1.f2, .bool x.f1.f3.f0, .bool x.f1.f3.f1, .bool x.f1.f3.f2, .bool x.f1.f3.f3, .bool x.f1.f3.f4, .bool x.f1.f3.f5, .bool true, .bool true] 50 (0, 0)) (by have := HG2.out; omega)).trans HA6.out)
                  generalize ChangeMaps.setBlock w6 G2 (.cells #[.int .u64 x.f1.f0, .int .i64 x.f1.f1, .int .u64 x.f1.f2, .bool x.f1.f3.f0, .bool x.f1.f3.f1, .bool x.f1.f3.f2, .bool x.f1.f3.f3, .bool x.f1.f3.f4, .bool x.f1.f3.f5, .bool true, .bool true] 50 (0, 0)) = w8 at *
                  clear p9 p10 f9 f10 a0 n1
                  obtain ⟨x0, x1, x2, x3⟩ := cells4 HX8.out.box
                  obtain ⟨p0, p1, p2, p3, p4, p5, p6, p7, p8, p9, p10⟩ := cells11 HP8.out
                  obtain ⟨s', hs'⟩ : ∃ s' : MS, s' = { s with L := s.L.set i ⟨x.f0, (⟨x.f1.f0, x.f1.f1, x.f1.f2, x.f1.f3, true, true⟩ : Pg)⟩ } := ⟨_, rfl⟩
                  have hcw := dwith_calls (HM0.out.below HX8.out.lo) hf HXI.out (⟨x.f1.f0, x.f1.f1, x.f1.f2, x.f1.f3, true, true⟩ : Pg)
                  rw [← hs'] at hcw
                  have HCW := Aside0.mk hcw
                  have HS := Aside0.mk hs'
                  clear hs' hcw
                  go_wp2_with fail
                  refine HCW.out.mono ?_
                  rintro e w9 ⟨A5, c5, A6, c6, rfl, hm9, hb⟩
                  have HX9 := Aside0.mk (HX8.out.below hb)
                  have HP9 := Aside0.mk (blk_below HP8.out hb)
                  have HA9 := Aside0.mk (blk_below HA8.out hb)
                  have hd9 := DocX.of (HM0.out.below HX8.out.lo).lt hm9 hb
                  have HSZ := Aside0.mk (show w.heap.size ≤ w8.heap.size from HX8.out.lo.size)
                  have HDL := Aside0.mk (blk_lt HX8.out.rep)
                  have HD9 := Aside0.mk hd9
                  clear hb hm9 hd9 HP8 HA8 HX8 HCW x0 x1 x2 x3 p0 p1 p2 p3 p4 p5 p6 p7 p8 p9 p10
                  have f0 := blk_frozen HX9.out.box 0
                  have f1 := blk_frozen HX9.out.box 1
                  have f2 := blk_frozen HX9.out.box 2
                  have f3 := blk_frozen HX9.out.box 3
                  obtain ⟨x0, x1, x2, x3⟩ := cells4 HX9.out.box
                  go_upto_region 18 with fail
                  rw [set4 HX9.out.box]
                  have hnD : ¬ (X D ∨ (w8.heap.size ≤ D ∧ D < w9.heap.size)) := by
                    have h1 := HM0.out.lt D
                    have h2 := HX9.out.hD
                    have h3 := HDL.out
                    rintro (h | h)
                    · have := h1 h; omega
                    · omega
                  have HD10 := Aside0.mk (HD9.out.sb hnD (.cells #[.int .i64 s'.n, .slice A5 s'.L.length c5, .slice A6 s'.by_.length c6, .int .i64 s'.made] 29 (0, 0)))
                  have HX10 := Aside0.mk (HX9.out.sbox (box' := #[.int .i64 s'.n, .slice A5 s'.L.length c5, .slice A6 s'.by_.length c6, .int .i64 s'.made]))
                  have HP10 := Aside0.mk ((sb_other (W := w9) (b := D) (k := G2) (.cells #[.int .i64 s'.n, .slice A5 s'.L.length c5, .slice A6 s'.by_.length c6, .int .i64 s'.made] 29 (0, 0)) (by have := HGD.out; have := HG2.out; omega)).trans HP9.out)
                  have HA10 := Aside0.mk ((sb_other (W := w9) (b := D) (k := G) (.cells #[.int .i64 s'.n, .slice A5 s'.L.length c5, .slice A6 s'.by_.length c6, .int .i64 s'.made] 29 (0, 0)) (by have := HGD.out; omega)).trans HA9.out)
                  have HZ9 := Aside0.mk (show w9.heap.size ≤ (ChangeMaps.setBlock w9 D (.cells #[.int .i64 s'.n, .slice A5 s'.L.length c5, .slice A6 s'.by_.length c6, .int .i64 s'.made] 29 (0, 0))).heap.size by simp [ChangeMaps.setBlock])
                  generalize ChangeMaps.setBlock w9 D (.cells #[.int .i64 s'.n, .slice A5 s'.L.length c5, .slice A6 s'.by_.length c6, .int .i64 s'.made] 29 (0, 0)) = w10 at *
                  clear hnD HD9 HX9 HP9 HA9 x0 x1 x2 x3 f0 f1 f2 f3
                  obtain ⟨-, -, a2⟩ := cells3 HA10.out
                  rw [HV.out] at a2
                  obtain ⟨-, p1, -⟩ := cells11 HP10.out
                  go_wp2_with fail
                  refine (lookasideref02_Offset.calls (av : Int) x.f1.f1 ((offN x av : Nat) : Int) w10 (off_d HXO.out hav)).mono ?_
                  rintro e w11 ⟨rfl, hd⟩
                  have hb := hd.below
                  have HX11 := Aside0.mk (HX10.out.below hb)
                  have HP11 := Aside0.mk (blk_below HP10.out hb)
                  have HA11 := Aside0.mk (blk_below HA10.out hb)
                  have HD11 := Aside0.mk (HD10.out.below hb)
                  have HZ11 := Aside0.mk (show w9.heap.size ≤ w11.heap.size from Nat.le_trans HZ9.out hb.size)
                  clear hd hb HX10 HP10 HA10 HD10 HZ9 a2 p1
                  obtain ⟨a0, -, -⟩ := cells3 HA11.out
                  rw [HAK.out] at a0
                  obtain ⟨x0, x1, x2, x3⟩ := cells4 HX11.out.box
                  obtain ⟨-, -, p2, -⟩ := cells11 HP11.out
                  obtain ⟨-, -, -, -, -, o5, -, -, -, -, -, -, -, -, -, -⟩ := cells16 HX11.out.op
                  have hbl : s'.by_.length ≤ 100000 := by rw [HS.out]; exact hfb
                  go_wp2_with fail
                  refine (dput_calls HD11.out hbl x.f1.f2 ((offN x av : Nat) : Int) o.byte).mono ?_
                  rintro e w12 ⟨A7, c7, A8, c8, rfl, hm12, hb⟩
                  have HX12 := Aside0.mk (HX11.out.below hb)
                  have HM12 := Aside0.mk hm12
                  have HZ12 := Aside0.mk (show w9.heap.size ≤ w12.heap.size from Nat.le_trans HZ11.out hb.size)
                  have HZ8 := Aside0.mk (show w.heap.size ≤ w11.heap.size from HX11.out.lo.size)
                  have HL11 := Aside0.mk (blk_lt HX11.out.rep)
                  clear hb hm12 hbl HX11 HP11 HA11 HD11 a0 x0 x1 x2 x3 p2 o5
                  obtain ⟨z0, z1, z2, z3⟩ := cells4 HX12.out.res
                  obtain ⟨r0, r1, r2⟩ := cells3 HX12.out.rep
                  have g0 := blk_frozen HX12.out.res 0
                  have g1 := blk_frozen HX12.out.res 1
                  have g2 := blk_frozen HX12.out.res 2
                  have g3 := blk_frozen HX12.out.res 3
                  have y0 := blk_frozen HX12.out.rep 0
                  have y1 := blk_frozen HX12.out.rep 1
                  have y2 := blk_frozen HX12.out.rep 2
                  go_wp2_with fail
                  rw [set4 HX12.out.res, set3 HX12.out.sres.rep]
                  have hx4 := (HX12.out.sres (res' := #[.int .i64 s'.n, .slice A7 s'.L.length c7, .slice A8 (putB s'.by_ x.f1.f2 ((offN x av : Nat) : Int) o.byte).length c8, .int .i64 s'.made])).srep (rep' := #[.int .i64 0, .int .i64 0, .int .u8 0])
                  refine bodyPost_ret (results_cc rfl _ _ (D + 1 + 1) (D + 1 + 1 + 1) 29 42 _ _ (0, 0) (0, 0) _ _ rfl hx4.res Try.underlying29 rfl (by kernel_rfl) rfl hx4.rep Try.underlying42 rfl (by kernel_rfl)) rfl ?_
                  have hr2 : accessR s o = ((0, 0, 0), { s' with by_ := putB s'.by_ x.f1.f2 ((offN x av : Nat) : Int) o.byte }) := by
                    rw [HR2.out, HS.out]
                    unfold accD
                    rw [if_pos HJN.out, if_pos HAK.out, HPE.out]
                  rw [hr2]
                  refine ⟨A7, c7, A8, c8, rfl, fun W hW => HM12.out W (hW.thru2 (fun k hk => ?_) HZ8.out (by simp [ChangeMaps.setBlock]) (fun k hk => ?_)), hx4.lo⟩
                  · rcases hk with hk | hk
                    · exact .inl hk
                    · exact .inr ⟨Nat.le_trans HSZ.out hk.1, by have h1 := HZ12.out; simp only [ChangeMaps.setBlock, Array.size_setIfInBounds]; omega⟩
                  · have h1 := HM0.out.lt k
                    have h2 := HX12.out.hD
                    have h3 := HDL.out
                    have h4 := HL11.out
                    exact (sb_other _ (by rcases hk with (hk | hk) | hk; (· have := h1 hk; omega); (· omega); (· omega))).trans (sb_other _ (by rcases hk with (hk | hk) | hk; (· have := h1 hk; omega); (· omega); (· omega)))
                | false =>
                  have HF5 := Aside0.mk hf5
                  clear hf5
                  have HPE := Aside0.mk (show accP x.f1 o.ak = (⟨x.f1.f0, x.f1.f1, x.f1.f2, x.f1.f3, true, true⟩ : Pg) by unfold accP; rw [HF5.out, HAK.out]; rfl)
                  obtain ⟨-, -, -, -, -, -, -, -, -, p9, p10⟩ := cells11 HP6.out
                  have f9 := blk_frozen HP6.out 9
                  have f10 := blk_frozen HP6.out 10
                  obtain ⟨a0, -, -⟩ := cells3 HA6.out
                  rw [HAK.out] at a0
                  rw [HF5.out] at p10
                  have n1 : G + 1 ≤ G2 := blk_lt HA6.out |> fun _ => HG2.out
                  go_upto_region 17 with fail
                  rw [setPg HP6.out]
                  have HP8 := Aside0.mk (sb_same HP6.out (.cells #[.int .u64 x.f1.f0, .int .i64 x.f1.f1, .int .u64 x.f1.f2, .bool x.f1.f3.f0, .bool x.f1.f3.f1, .bool x.f1.f3.f2, .bool x.f1.f3.f3, .bool x.f1.f3.f4, .bool x.f1.f3.f5, .bool true, .bool true] 50 (0, 0)))
                  have HX8 := Aside0.mk (HX6.out.sb (b := G2) (by have := HGD.out; have := HG2.out; omega) (.cells #[.int .u64 x.f1.f0, .int .i64 x.f1.f1, .int .u64 x.f1.f2, .bool x.f1.f3.f0, .bool x.f1.f3.f1, .bool x.f1.f3.f2, .bool x.f1.f3.f3, .bool x.f1.f3.f4, .bool x.f1.f3.f5, .bool true, .bool true] 50 (0, 0)))
                  have HA8 := Aside0.mk ((sb_other (W := w6) (b := G2) (k := G) (.cells #[.int .u64 x.f1.f0, .int .i64 x.f1.f1, .int .u64 x.f1.f2, .bool x.f1.f3.f0, .bool x.f1.f3.f1, .bool x.f1.f3.f2, .bool x.f1.f3.f3, .bool x.f1.f3.f4, .bool x.f1.f3.f5, .bool true, .bool true] 50 (0, 0)) (by have := HG2.out; omega)).trans HA6.out)
                  generalize ChangeMaps.setBlock w6 G2 (.cells #[.int .u64 x.f1.f0, .int .i64 x.f1.f1, .int .u64 x.f1.f2, .bool x.f1.f3.f0, .bool x.f1.f3.f1, .bool x.f1.f3.f2, .bool x.f1.f3.f3, .bool x.f1.f3.f4, .bool x.f1.f3.f5, .bool true, .bool true] 50 (0, 0)) = w8 at *
                  clear p9 p10 f9 f10 a0 n1
                  obtain ⟨x0, x1, x2, x3⟩ := cells4 HX8.out.box
                  obtain ⟨p0, p1, p2, p3, p4, p5, p6, p7, p8, p9, p10⟩ := cells11 HP8.out
                  obtain ⟨s', hs'⟩ : ∃ s' : MS, s' = { s with L := s.L.set i ⟨x.f0, (⟨x.f1.f0, x.f1.f1, x.f1.f2, x.f1.f3, true, true⟩ : Pg)⟩ } := ⟨_, rfl⟩
                  have hcw := dwith_calls (HM0.out.below HX8.out.lo) hf HXI.out (⟨x.f1.f0, x.f1.f1, x.f1.f2, x.f1.f3, true, true⟩ : Pg)
                  rw [← hs'] at hcw
                  have HCW := Aside0.mk hcw
                  have HS := Aside0.mk hs'
                  clear hs' hcw
                  go_wp2_with fail
                  refine HCW.out.mono ?_
                  rintro e w9 ⟨A5, c5, A6, c6, rfl, hm9, hb⟩
                  have HX9 := Aside0.mk (HX8.out.below hb)
                  have HP9 := Aside0.mk (blk_below HP8.out hb)
                  have HA9 := Aside0.mk (blk_below HA8.out hb)
                  have hd9 := DocX.of (HM0.out.below HX8.out.lo).lt hm9 hb
                  have HSZ := Aside0.mk (show w.heap.size ≤ w8.heap.size from HX8.out.lo.size)
                  have HDL := Aside0.mk (blk_lt HX8.out.rep)
                  have HD9 := Aside0.mk hd9
                  clear hb hm9 hd9 HP8 HA8 HX8 HCW x0 x1 x2 x3 p0 p1 p2 p3 p4 p5 p6 p7 p8 p9 p10
                  have f0 := blk_frozen HX9.out.box 0
                  have f1 := blk_frozen HX9.out.box 1
                  have f2 := blk_frozen HX9.out.box 2
                  have f3 := blk_frozen HX9.out.box 3
                  obtain ⟨x0, x1, x2, x3⟩ := cells4 HX9.out.box
                  go_upto_region 18 with fail
                  rw [set4 HX9.out.box]
                  have hnD : ¬ (X D ∨ (w8.heap.size ≤ D ∧ D < w9.heap.size)) := by
                    have h1 := HM0.out.lt D
                    have h2 := HX9.out.hD
                    have h3 := HDL.out
                    rintro (h | h)
                    · have := h1 h; omega
                    · omega
                  have HD10 := Aside0.mk (HD9.out.sb hnD (.cells #[.int .i64 s'.n, .slice A5 s'.L.length c5, .slice A6 s'.by_.length c6, .int .i64 s'.made] 29 (0, 0)))
                  have HX10 := Aside0.mk (HX9.out.sbox (box' := #[.int .i64 s'.n, .slice A5 s'.L.length c5, .slice A6 s'.by_.length c6, .int .i64 s'.made]))
                  have HP10 := Aside0.mk ((sb_other (W := w9) (b := D) (k := G2) (.cells #[.int .i64 s'.n, .slice A5 s'.L.length c5, .slice A6 s'.by_.length c6, .int .i64 s'.made] 29 (0, 0)) (by have := HGD.out; have := HG2.out; omega)).trans HP9.out)
                  have HA10 := Aside0.mk ((sb_other (W := w9) (b := D) (k := G) (.cells #[.int .i64 s'.n, .slice A5 s'.L.length c5, .slice A6 s'.by_.length c6, .int .i64 s'.made] 29 (0, 0)) (by have := HGD.out; omega)).trans HA9.out)
                  have HZ9 := Aside0.mk (show w9.heap.size ≤ (ChangeMaps.setBlock w9 D (.cells #[.int .i64 s'.n, .slice A5 s'.L.length c5, .slice A6 s'.by_.length c6, .int .i64 s'.made] 29 (0, 0))).heap.size by simp [ChangeMaps.setBlock])
                  generalize ChangeMaps.setBlock w9 D (.cells #[.int .i64 s'.n, .slice A5 s'.L.length c5, .slice A6 s'.by_.length c6, .int .i64 s'.made] 29 (0, 0)) = w10 at *
                  clear hnD HD9 HX9 HP9 HA9 x0 x1 x2 x3 f0 f1 f2 f3
                  obtain ⟨-, -, a2⟩ := cells3 HA10.out
                  rw [HV.out] at a2
                  obtain ⟨-, p1, -⟩ := cells11 HP10.out
                  go_wp2_with fail
                  refine (lookasideref02_Offset.calls (av : Int) x.f1.f1 ((offN x av : Nat) : Int) w10 (off_d HXO.out hav)).mono ?_
                  rintro e w11 ⟨rfl, hd⟩
                  have hb := hd.below
                  have HX11 := Aside0.mk (HX10.out.below hb)
                  have HP11 := Aside0.mk (blk_below HP10.out hb)
                  have HA11 := Aside0.mk (blk_below HA10.out hb)
                  have HD11 := Aside0.mk (HD10.out.below hb)
                  have HZ11 := Aside0.mk (show w9.heap.size ≤ w11.heap.size from Nat.le_trans HZ9.out hb.size)
                  clear hd hb HX10 HP10 HA10 HD10 HZ9 a2 p1
                  obtain ⟨a0, -, -⟩ := cells3 HA11.out
                  rw [HAK.out] at a0
                  obtain ⟨x0, x1, x2, x3⟩ := cells4 HX11.out.box
                  obtain ⟨-, -, p2, -⟩ := cells11 HP11.out
                  obtain ⟨-, -, -, -, -, o5, -, -, -, -, -, -, -, -, -, -⟩ := cells16 HX11.out.op
                  have hbl : s'.by_.length ≤ 100000 := by rw [HS.out]; exact hfb
                  go_wp2_with fail
                  refine (dput_calls HD11.out hbl x.f1.f2 ((offN x av : Nat) : Int) o.byte).mono ?_
                  rintro e w12 ⟨A7, c7, A8, c8, rfl, hm12, hb⟩
                  have HX12 := Aside0.mk (HX11.out.below hb)
                  have HM12 := Aside0.mk hm12
                  have HZ12 := Aside0.mk (show w9.heap.size ≤ w12.heap.size from Nat.le_trans HZ11.out hb.size)
                  have HZ8 := Aside0.mk (show w.heap.size ≤ w11.heap.size from HX11.out.lo.size)
                  have HL11 := Aside0.mk (blk_lt HX11.out.rep)
                  clear hb hm12 hbl HX11 HP11 HA11 HD11 a0 x0 x1 x2 x3 p2 o5
                  obtain ⟨z0, z1, z2, z3⟩ := cells4 HX12.out.res
                  obtain ⟨r0, r1, r2⟩ := cells3 HX12.out.rep
                  have g0 := blk_frozen HX12.out.res 0
                  have g1 := blk_frozen HX12.out.res 1
                  have g2 := blk_frozen HX12.out.res 2
                  have g3 := blk_frozen HX12.out.res 3
                  have y0 := blk_frozen HX12.out.rep 0
                  have y1 := blk_frozen HX12.out.rep 1
                  have y2 := blk_frozen HX12.out.rep 2
                  go_wp2_with fail
                  rw [set4 HX12.out.res, set3 HX12.out.sres.rep]
                  have hx4 := (HX12.out.sres (res' := #[.int .i64 s'.n, .slice A7 s'.L.length c7, .slice A8 (putB s'.by_ x.f1.f2 ((offN x av : Nat) : Int) o.byte).length c8, .int .i64 s'.made])).srep (rep' := #[.int .i64 0, .int .i64 0, .int .u8 0])
                  refine bodyPost_ret (results_cc rfl _ _ (D + 1 + 1) (D + 1 + 1 + 1) 29 42 _ _ (0, 0) (0, 0) _ _ rfl hx4.res Try.underlying29 rfl (by kernel_rfl) rfl hx4.rep Try.underlying42 rfl (by kernel_rfl)) rfl ?_
                  have hr2 : accessR s o = ((0, 0, 0), { s' with by_ := putB s'.by_ x.f1.f2 ((offN x av : Nat) : Int) o.byte }) := by
                    rw [HR2.out, HS.out]
                    unfold accD
                    rw [if_pos HJN.out, if_pos HAK.out, HPE.out]
                  rw [hr2]
                  refine ⟨A7, c7, A8, c8, rfl, fun W hW => HM12.out W (hW.thru2 (fun k hk => ?_) HZ8.out (by simp [ChangeMaps.setBlock]) (fun k hk => ?_)), hx4.lo⟩
                  · rcases hk with hk | hk
                    · exact .inl hk
                    · exact .inr ⟨Nat.le_trans HSZ.out hk.1, by have h1 := HZ12.out; simp only [ChangeMaps.setBlock, Array.size_setIfInBounds]; omega⟩
                  · have h1 := HM0.out.lt k
                    have h2 := HX12.out.hD
                    have h3 := HDL.out
                    have h4 := HL11.out
                    exact (sb_other _ (by rcases hk with (hk | hk) | hk; (· have := h1 hk; omega); (· omega); (· omega))).trans (sb_other _ (by rcases hk with (hk | hk) | hk; (· have := h1 hk; omega); (· omega); (· omega)))
              · have HAK := Aside0.mk (show (o.ak == 1) = false from beq_eq_false_iff_ne.2 hk1)
                clear hk1
                cases hf5 : x.f1.f5 with
                | true =>
                  have HF5 := Aside0.mk hf5
                  clear hf5
                  have HPE := Aside0.mk (show accP x.f1 o.ak = (⟨x.f1.f0, x.f1.f1, x.f1.f2, x.f1.f3, true, true⟩ : Pg) by unfold accP; rw [HF5.out, HAK.out]; rfl)
                  obtain ⟨-, -, -, -, -, -, -, -, -, p9, p10⟩ := cells11 HP6.out
                  have f9 := blk_frozen HP6.out 9
                  have f10 := blk_frozen HP6.out 10
                  obtain ⟨a0, -, -⟩ := cells3 HA6.out
                  have hk1 : (o.ak == 1) = false := HAK.out
                  rw [HF5.out] at p10
                  have n1 : G + 1 ≤ G2 := blk_lt HA6.out |> fun _ => HG2.out
                  go_upto_region 17 with fail
                  rw [setPg HP6.out]
                  have HP8 := Aside0.mk (sb_same HP6.out (.cells #[.int .u64 x.f1.f0, .int .i64 x.f1.f1, .int .u64 x.f1.f2, .bool x.f1.f3.f0, .bool x.f1.f3.f1, .bool x.f1.f3.f2, .bool x.f1.f3.f3, .bool x.f1.f3.f4, .bool x.f1.f3.f5, .bool true, .bool true] 50 (0, 0)))
                  have HX8 := Aside0.mk (HX6.out.sb (b := G2) (by have := HGD.out; have := HG2.out; omega) (.cells #[.int .u64 x.f1.f0, .int .i64 x.f1.f1, .int .u64 x.f1.f2, .bool x.f1.f3.f0, .bool x.f1.f3.f1, .bool x.f1.f3.f2, .bool x.f1.f3.f3, .bool x.f1.f3.f4, .bool x.f1.f3.f5, .bool true, .bool true] 50 (0, 0)))
                  have HA8 := Aside0.mk ((sb_other (W := w6) (b := G2) (k := G) (.cells #[.int .u64 x.f1.f0, .int .i64 x.f1.f1, .int .u64 x.f1.f2, .bool x.f1.f3.f0, .bool x.f1.f3.f1, .bool x.f1.f3.f2, .bool x.f1.f3.f3, .bool x.f1.f3.f4, .bool x.f1.f3.f5, .bool true, .bool true] 50 (0, 0)) (by have := HG2.out; omega)).trans HA6.out)
                  generalize ChangeMaps.setBlock w6 G2 (.cells #[.int .u64 x.f1.f0, .int .i64 x.f1.f1, .int .u64 x.f1.f2, .bool x.f1.f3.f0, .bool x.f1.f3.f1, .bool x.f1.f3.f2, .bool x.f1.f3.f3, .bool x.f1.f3.f4, .bool x.f1.f3.f5, .bool true, .bool true] 50 (0, 0)) = w8 at *
                  clear p9 p10 f9 f10 a0 n1 hk1
                  obtain ⟨x0, x1, x2, x3⟩ := cells4 HX8.out.box
                  obtain ⟨p0, p1, p2, p3, p4, p5, p6, p7, p8, p9, p10⟩ := cells11 HP8.out
                  obtain ⟨s', hs'⟩ : ∃ s' : MS, s' = { s with L := s.L.set i ⟨x.f0, (⟨x.f1.f0, x.f1.f1, x.f1.f2, x.f1.f3, true, true⟩ : Pg)⟩ } := ⟨_, rfl⟩
                  have hcw := dwith_calls (HM0.out.below HX8.out.lo) hf HXI.out (⟨x.f1.f0, x.f1.f1, x.f1.f2, x.f1.f3, true, true⟩ : Pg)
                  rw [← hs'] at hcw
                  have HCW := Aside0.mk hcw
                  have HS := Aside0.mk hs'
                  clear hs' hcw
                  go_wp2_with fail
                  refine HCW.out.mono ?_
                  rintro e w9 ⟨A5, c5, A6, c6, rfl, hm9, hb⟩
                  have HX9 := Aside0.mk (HX8.out.below hb)
                  have HP9 := Aside0.mk (blk_below HP8.out hb)
                  have HA9 := Aside0.mk (blk_below HA8.out hb)
                  have hd9 := DocX.of (HM0.out.below HX8.out.lo).lt hm9 hb
                  have HSZ := Aside0.mk (show w.heap.size ≤ w8.heap.size from HX8.out.lo.size)
                  have HDL := Aside0.mk (blk_lt HX8.out.rep)
                  have HD9 := Aside0.mk hd9
                  clear hb hm9 hd9 HP8 HA8 HX8 HCW x0 x1 x2 x3 p0 p1 p2 p3 p4 p5 p6 p7 p8 p9 p10
                  have f0 := blk_frozen HX9.out.box 0
                  have f1 := blk_frozen HX9.out.box 1
                  have f2 := blk_frozen HX9.out.box 2
                  have f3 := blk_frozen HX9.out.box 3
                  obtain ⟨x0, x1, x2, x3⟩ := cells4 HX9.out.box
                  go_upto_region 18 with fail
                  rw [set4 HX9.out.box]
                  have hnD : ¬ (X D ∨ (w8.heap.size ≤ D ∧ D < w9.heap.size)) := by
                    have h1 := HM0.out.lt D
                    have h2 := HX9.out.hD
                    have h3 := HDL.out
                    rintro (h | h)
                    · have := h1 h; omega
                    · omega
                  have HD10 := Aside0.mk (HD9.out.sb hnD (.cells #[.int .i64 s'.n, .slice A5 s'.L.length c5, .slice A6 s'.by_.length c6, .int .i64 s'.made] 29 (0, 0)))
                  have HX10 := Aside0.mk (HX9.out.sbox (box' := #[.int .i64 s'.n, .slice A5 s'.L.length c5, .slice A6 s'.by_.length c6, .int .i64 s'.made]))
                  have HP10 := Aside0.mk ((sb_other (W := w9) (b := D) (k := G2) (.cells #[.int .i64 s'.n, .slice A5 s'.L.length c5, .slice A6 s'.by_.length c6, .int .i64 s'.made] 29 (0, 0)) (by have := HGD.out; have := HG2.out; omega)).trans HP9.out)
                  have HA10 := Aside0.mk ((sb_other (W := w9) (b := D) (k := G) (.cells #[.int .i64 s'.n, .slice A5 s'.L.length c5, .slice A6 s'.by_.length c6, .int .i64 s'.made] 29 (0, 0)) (by have := HGD.out; omega)).trans HA9.out)
                  have HZ9 := Aside0.mk (show w9.heap.size ≤ (ChangeMaps.setBlock w9 D (.cells #[.int .i64 s'.n, .slice A5 s'.L.length c5, .slice A6 s'.by_.length c6, .int .i64 s'.made] 29 (0, 0))).heap.size by simp [ChangeMaps.setBlock])
                  generalize ChangeMaps.setBlock w9 D (.cells #[.int .i64 s'.n, .slice A5 s'.L.length c5, .slice A6 s'.by_.length c6, .int .i64 s'.made] 29 (0, 0)) = w10 at *
                  clear hnD HD9 HX9 HP9 HA9 x0 x1 x2 x3 f0 f1 f2 f3
                  obtain ⟨-, -, a2⟩ := cells3 HA10.out
                  rw [HV.out] at a2
                  obtain ⟨-, p1, -⟩ := cells11 HP10.out
                  go_wp2_with fail
                  refine (lookasideref02_Offset.calls (av : Int) x.f1.f1 ((offN x av : Nat) : Int) w10 (off_d HXO.out hav)).mono ?_
                  rintro e w11 ⟨rfl, hd⟩
                  have hb := hd.below
                  have HX11 := Aside0.mk (HX10.out.below hb)
                  have HP11 := Aside0.mk (blk_below HP10.out hb)
                  have HA11 := Aside0.mk (blk_below HA10.out hb)
                  have HD11 := Aside0.mk (HD10.out.below hb)
                  have HZ11 := Aside0.mk (show w9.heap.size ≤ w11.heap.size from Nat.le_trans HZ9.out hb.size)
                  clear hd hb HX10 HP10 HA10 HD10 HZ9 a2 p1
                  obtain ⟨a0, -, -⟩ := cells3 HA11.out
                  have hk1 : (o.ak == 1) = false := HAK.out
                  obtain ⟨x0, x1, x2, x3⟩ := cells4 HX11.out.box
                  obtain ⟨-, -, p2, -⟩ := cells11 HP11.out
                  have HGT := Aside0.mk (get_r (s' := s') (by rw [HS.out]; exact hfb) x.f1.f2 ((offN x av : Nat) : Int))
                  go_upto_region 21 with fail
                  clear a0 hk1
                  refine start_ (n := 9) (S := fun w' => w'.cell? ⟨D, 0, none⟩ = some (.int .i64 s'.n) ∧ w'.cell? ⟨D, 1, none⟩ = some (.slice A5 s'.L.length c5) ∧ w'.cell? ⟨D, 2, none⟩ = some (.slice A6 s'.by_.length c6) ∧ w'.cell? ⟨D, 3, none⟩ = some (.int .i64 s'.made) ∧ w'.cell? ⟨G2, 2, none⟩ = some (.int .u64 x.f1.f2)) (ds := [7, 8]) #[false, false, false, false, false, false, false, false, false] (by kernel_rfl) rfl rfl (by exact ⟨x0, x1, x2, x3, p2⟩) (fun hHeld => ?_)
                  refine pure_ (i := 2) (N := some 95) (v := ?_) (a' := ?_) #[false, false, true, false, false, false, false, false, false] rfl rfl (by kernel_rfl) (fun _ _ _ h => h) (Or.inl ⟨by rfl, ?_⟩) ?_ ?_
                  rotate_left
                  · intro w'
                    go_simp
                    with_reducible rfl
                  rotate_left
                  · simp only [Act.put, List.setIfInBounds_toArray, List.set_cons_zero, List.set_cons_succ, i64_w, i32_w]
                    rfl
                  refine pure_ (i := 4) (N := some 97) (v := ?_) (a' := ?_) #[false, false, true, false, true, false, false, false, false] rfl rfl (by kernel_rfl) (fun _ _ _ h => h) (Or.inl ⟨by rfl, ?_⟩) ?_ ?_
                  rotate_left
                  · intro w'
                    go_simp
                    with_reducible rfl
                  rotate_left
                  · simp only [Act.put, List.setIfInBounds_toArray, List.set_cons_zero, List.set_cons_succ, i64_w, i32_w]
                    rfl
                  refine take_ (i := 0) (N := some 93) (v := ?_) (a' := ?_) #[true, false, true, false, true, false, false, false, false] rfl rfl (by kernel_rfl) (fun _ _ _ h => h) (Or.inl ⟨by rfl, ?_⟩) hHeld ?_ ?_
                  rotate_left
                  · rintro w' ⟨s0, s1, s2, s3, s4⟩
                    go_simp
                    with_reducible rfl
                  rotate_left
                  · simp only [Act.put, List.setIfInBounds_toArray, List.set_cons_zero, List.set_cons_succ, i64_w, i32_w]
                    rfl
                  refine take_ (i := 1) (N := some 94) (v := ?_) (a' := ?_) #[true, true, true, false, true, false, false, false, false] rfl rfl (by kernel_rfl) (fun _ _ _ h => h) (Or.inl ⟨by rfl, ?_⟩) hHeld ?_ ?_
                  rotate_left
                  · rintro w' ⟨s0, s1, s2, s3, s4⟩
                    go_simp
                    with_reducible rfl
                  rotate_left
                  · simp only [Act.put, List.setIfInBounds_toArray, List.set_cons_zero, List.set_cons_succ, i64_w, i32_w]
                    rfl
                  refine take_ (i := 3) (N := some 96) (v := ?_) (a' := ?_) #[true, true, true, true, true, false, false, false, false] rfl rfl (by kernel_rfl) (fun _ _ _ h => h) (Or.inl ⟨by rfl, ?_⟩) hHeld ?_ ?_
                  rotate_left
                  · rintro w' ⟨s0, s1, s2, s3, s4⟩
                    go_simp
                    with_reducible rfl
                  rotate_left
                  · simp only [Act.put, List.setIfInBounds_toArray, List.set_cons_zero, List.set_cons_succ, i64_w, i32_w]
                    rfl
                  refine one_ (i := 5) (N := some 98) #[true, true, true, true, true, true, false, false, false] rfl rfl (by kernel_rfl) (by decide) (fun K hK => ?_)
                  refine goes_ Try.func61 (by kernel_rfl) rfl #[.agg #[.int .i64 s'.n, .slice A5 s'.L.length c5, .slice A6 s'.by_.length c6, .int .i64 s'.made], .int .u64 x.f1.f2, .int .u64 ((offN x av : Nat) : Int)] (by rfl) rfl rfl (by (try simp only [List.map_toArray, List.map_cons, List.map_nil]); first | done | rfl) ?_
                  refine (lookasideref16_get.calls (s'.by_.length + 1) s'.n A5 c5 s'.L A6 c6 s'.by_ s'.made x.f1.f2 ((offN x av : Nat) : Int) (getB s'.by_ x.f1.f2 ((offN x av : Nat) : Int)) _ (HD11.out.m.below (Below.refl _ w11).drew).l (HD11.out.m.below (Below.refl _ w11).drew).lc (HD11.out.m.below (Below.refl _ w11).drew).b (HD11.out.m.below (Below.refl _ w11).drew).bc HGT.out).mono ?_
                  rintro e w12 ⟨rfl, hbel⟩
                  refine ⟨_, rfl, ?_⟩
                  have hb := (Below.refl _ w11).drew.trans hbel
                  have HX12 := Aside0.mk (HX11.out.below hb)
                  have HP12 := Aside0.mk (blk_below HP11.out hb)
                  have HD12 := Aside0.mk (HD11.out.below hb)
                  have HZ12 := Aside0.mk (show w9.heap.size ≤ w12.heap.size from Nat.le_trans HZ11.out hb.size)
                  have HSX := Aside0.mk (show w12.cell? ⟨D, 0, none⟩ = some (.int .i64 s'.n) ∧ w12.cell? ⟨D, 1, none⟩ = some (.slice A5 s'.L.length c5) ∧ w12.cell? ⟨D, 2, none⟩ = some (.slice A6 s'.by_.length c6) ∧ w12.cell? ⟨D, 3, none⟩ = some (.int .i64 s'.made) ∧ w12.cell? ⟨G2, 2, none⟩ = some (.int .u64 x.f1.f2) from by
                    obtain ⟨x0, x1, x2, x3⟩ := cells4 HX12.out.box
                    obtain ⟨-, -, p2, -⟩ := cells11 HP12.out
                    exact ⟨x0, x1, x2, x3, p2⟩)
                  clear hbel hb
                  obtain ⟨z0, z1, z2, z3⟩ := cells4 HX12.out.res
                  obtain ⟨r0, r1, r2⟩ := cells3 HX12.out.rep
                  have g0 := blk_frozen HX12.out.res 0
                  have g1 := blk_frozen HX12.out.res 1
                  have g2 := blk_frozen HX12.out.res 2
                  have g3 := blk_frozen HX12.out.res 3
                  have y0 := blk_frozen HX12.out.rep 0
                  have y1 := blk_frozen HX12.out.rep 1
                  have y2 := blk_frozen HX12.out.rep 2
                  refine hK.out _ _ HSX.out (fun hHeld => ?_)
                  clear hK K
                  refine norm_ (a' := ?_) ?_ ?_
                  rotate_left
                  · show Act.put _ (some 98) _ = _
                    simp only [Act.put, List.setIfInBounds_toArray, List.set_cons_zero, List.set_cons_succ, i64_w, i32_w]
                    rfl
                  refine pure_ (i := 6) (N := some 99) (v := ?_) (a' := ?_) #[true, true, true, true, true, true, true, false, false] rfl rfl (by kernel_rfl) (fun _ _ _ h => h) (Or.inl ⟨by rfl, ?_⟩) ?_ ?_
                  rotate_left
                  · intro w'
                    go_simp
                    with_reducible rfl
                  rotate_left
                  · simp only [Act.put, List.setIfInBounds_toArray, List.set_cons_zero, List.set_cons_succ, i64_w, i32_w]
                    rfl
                  refine last_ (i := 7) (N := none) #[true, true, true, true, true, true, true, true, false] rfl rfl (by kernel_rfl) (by decide) (fun K hK => ?_)
                  refine skip_ (w1 := ?_) (by rfl) rfl ?_ ?_
                  rotate_left
                  · go_simp
                    with_reducible rfl
                  refine hK.out _ _ ?_
                  clear hK K
                  refine last_ (i := 8) (N := none) #[true, true, true, true, true, true, true, true, true] rfl rfl (by kernel_rfl) (by decide) (fun K hK => ?_)
                  refine skip_ (w1 := ?_) (by rfl) rfl ?_ ?_
                  rotate_left
                  · go_simp
                    with_reducible rfl
                  refine hK.out _ _ ?_
                  clear hK K
                  refine done_ (by kernel_rfl) ?_
                  (try simp only [Exit.inBlock, Exit.then])
                  rw [set4 HX12.out.res, set3 HX12.out.sres.rep]
                  go_wp2_with fail
                  have hx4 := (HX12.out.sres (res' := #[.int .i64 s'.n, .slice A5 s'.L.length c5, .slice A6 s'.by_.length c6, .int .i64 s'.made])).srep (rep' := #[.int .i64 0, .int .i64 0, .int .u8 (getB s'.by_ x.f1.f2 ((offN x av : Nat) : Int))])
                  refine bodyPost_ret (results_cc rfl _ _ (D + 1 + 1) (D + 1 + 1 + 1) 29 42 _ _ (0, 0) (0, 0) _ _ rfl hx4.res Try.underlying29 rfl (by kernel_rfl) rfl hx4.rep Try.underlying42 rfl (by kernel_rfl)) rfl ?_
                  have hr2 : accessR s o = ((0, 0, getB s'.by_ x.f1.f2 ((offN x av : Nat) : Int)), s') := by
                    rw [HR2.out, HS.out]
                    unfold accD
                    rw [if_pos HJN.out, if_neg (beq_eq_false_iff_ne.1 HAK.out), HPE.out]
                  rw [hr2]
                  refine ⟨A5, c5, A6, c6, rfl, fun W hW => HD12.out.keep W (fun k hk => ?_), hx4.lo⟩
                  have h1 := HM0.out.lt k
                  have h2 := HX12.out.hD
                  have h3 := HDL.out
                  have h4 : (ChangeMaps.setBlock (ChangeMaps.setBlock w12 (D + 1 + 1) (.cells #[.int .i64 s'.n, .slice A5 s'.L.length c5, .slice A6 s'.by_.length c6, .int .i64 s'.made] 29 (0, 0))) (D + 1 + 1 + 1) (.cells #[.int .i64 0, .int .i64 0, .int .u8 (getB s'.by_ x.f1.f2 ((offN x av : Nat) : Int))] 42 (0, 0))).heap.size = w12.heap.size := by simp [ChangeMaps.setBlock]
                  have h5 := HZ12.out
                  have h6 := HSZ.out
                  refine (hW k (by rw [h4]; rcases hk with hk | hk; (· exact .inl hk); (· exact .inr (by omega)))).trans ?_
                  exact (sb_other _ (by rcases hk with hk | hk; (· have := h1 hk; omega); (· omega))).trans (sb_other _ (by rcases hk with hk | hk; (· have := h1 hk; omega); (· omega)))
                | false =>
                  have HF5 := Aside0.mk hf5
                  clear hf5
                  have HPE := Aside0.mk (show accP x.f1 o.ak = (⟨x.f1.f0, x.f1.f1, x.f1.f2, x.f1.f3, true, false⟩ : Pg) by unfold accP; rw [HF5.out, HAK.out]; rfl)
                  obtain ⟨-, -, -, -, -, -, -, -, -, p9, p10⟩ := cells11 HP6.out
                  have f9 := blk_frozen HP6.out 9
                  have f10 := blk_frozen HP6.out 10
                  obtain ⟨a0, -, -⟩ := cells3 HA6.out
                  have hk1 : (o.ak == 1) = false := HAK.out
                  rw [HF5.out] at p10
                  have n1 : G + 1 ≤ G2 := blk_lt HA6.out |> fun _ => HG2.out
                  go_upto_region 17 with fail
                  rw [setPg HP6.out]
                  have HP8 := Aside0.mk (sb_same HP6.out (.cells #[.int .u64 x.f1.f0, .int .i64 x.f1.f1, .int .u64 x.f1.f2, .bool x.f1.f3.f0, .bool x.f1.f3.f1, .bool x.f1.f3.f2, .bool x.f1.f3.f3, .bool x.f1.f3.f4, .bool x.f1.f3.f5, .bool true, .bool false] 50 (0, 0)))
                  have HX8 := Aside0.mk (HX6.out.sb (b := G2) (by have := HGD.out; have := HG2.out; omega) (.cells #[.int .u64 x.f1.f0, .int .i64 x.f1.f1, .int .u64 x.f1.f2, .bool x.f1.f3.f0, .bool x.f1.f3.f1, .bool x.f1.f3.f2, .bool x.f1.f3.f3, .bool x.f1.f3.f4, .bool x.f1.f3.f5, .bool true, .bool false] 50 (0, 0)))
                  have HA8 := Aside0.mk ((sb_other (W := w6) (b := G2) (k := G) (.cells #[.int .u64 x.f1.f0, .int .i64 x.f1.f1, .int .u64 x.f1.f2, .bool x.f1.f3.f0, .bool x.f1.f3.f1, .bool x.f1.f3.f2, .bool x.f1.f3.f3, .bool x.f1.f3.f4, .bool x.f1.f3.f5, .bool true, .bool false] 50 (0, 0)) (by have := HG2.out; omega)).trans HA6.out)
                  generalize ChangeMaps.setBlock w6 G2 (.cells #[.int .u64 x.f1.f0, .int .i64 x.f1.f1, .int .u64 x.f1.f2, .bool x.f1.f3.f0, .bool x.f1.f3.f1, .bool x.f1.f3.f2, .bool x.f1.f3.f3, .bool x.f1.f3.f4, .bool x.f1.f3.f5, .bool true, .bool false] 50 (0, 0)) = w8 at *
                  clear p9 p10 f9 f10 a0 n1 hk1
                  obtain ⟨x0, x1, x2, x3⟩ := cells4 HX8.out.box
                  obtain ⟨p0, p1, p2, p3, p4, p5, p6, p7, p8, p9, p10⟩ := cells11 HP8.out
                  obtain ⟨s', hs'⟩ : ∃ s' : MS, s' = { s with L := s.L.set i ⟨x.f0, (⟨x.f1.f0, x.f1.f1, x.f1.f2, x.f1.f3, true, false⟩ : Pg)⟩ } := ⟨_, rfl⟩
                  have hcw := dwith_calls (HM0.out.below HX8.out.lo) hf HXI.out (⟨x.f1.f0, x.f1.f1, x.f1.f2, x.f1.f3, true, false⟩ : Pg)
                  rw [← hs'] at hcw
                  have HCW := Aside0.mk hcw
                  have HS := Aside0.mk hs'
                  clear hs' hcw
                  go_wp2_with fail
                  refine HCW.out.mono ?_
                  rintro e w9 ⟨A5, c5, A6, c6, rfl, hm9, hb⟩
                  have HX9 := Aside0.mk (HX8.out.below hb)
                  have HP9 := Aside0.mk (blk_below HP8.out hb)
                  have HA9 := Aside0.mk (blk_below HA8.out hb)
                  have hd9 := DocX.of (HM0.out.below HX8.out.lo).lt hm9 hb
                  have HSZ := Aside0.mk (show w.heap.size ≤ w8.heap.size from HX8.out.lo.size)
                  have HDL := Aside0.mk (blk_lt HX8.out.rep)
                  have HD9 := Aside0.mk hd9
                  clear hb hm9 hd9 HP8 HA8 HX8 HCW x0 x1 x2 x3 p0 p1 p2 p3 p4 p5 p6 p7 p8 p9 p10
                  have f0 := blk_frozen HX9.out.box 0
                  have f1 := blk_frozen HX9.out.box 1
                  have f2 := blk_frozen HX9.out.box 2
                  have f3 := blk_frozen HX9.out.box 3
                  obtain ⟨x0, x1, x2, x3⟩ := cells4 HX9.out.box
                  go_upto_region 18 with fail
                  rw [set4 HX9.out.box]
                  have hnD : ¬ (X D ∨ (w8.heap.size ≤ D ∧ D < w9.heap.size)) := by
                    have h1 := HM0.out.lt D
                    have h2 := HX9.out.hD
                    have h3 := HDL.out
                    rintro (h | h)
                    · have := h1 h; omega
                    · omega
                  have HD10 := Aside0.mk (HD9.out.sb hnD (.cells #[.int .i64 s'.n, .slice A5 s'.L.length c5, .slice A6 s'.by_.length c6, .int .i64 s'.made] 29 (0, 0)))
                  have HX10 := Aside0.mk (HX9.out.sbox (box' := #[.int .i64 s'.n, .slice A5 s'.L.length c5, .slice A6 s'.by_.length c6, .int .i64 s'.made]))
                  have HP10 := Aside0.mk ((sb_other (W := w9) (b := D) (k := G2) (.cells #[.int .i64 s'.n, .slice A5 s'.L.length c5, .slice A6 s'.by_.length c6, .int .i64 s'.made] 29 (0, 0)) (by have := HGD.out; have := HG2.out; omega)).trans HP9.out)
                  have HA10 := Aside0.mk ((sb_other (W := w9) (b := D) (k := G) (.cells #[.int .i64 s'.n, .slice A5 s'.L.length c5, .slice A6 s'.by_.length c6, .int .i64 s'.made] 29 (0, 0)) (by have := HGD.out; omega)).trans HA9.out)
                  have HZ9 := Aside0.mk (show w9.heap.size ≤ (ChangeMaps.setBlock w9 D (.cells #[.int .i64 s'.n, .slice A5 s'.L.length c5, .slice A6 s'.by_.length c6, .int .i64 s'.made] 29 (0, 0))).heap.size by simp [ChangeMaps.setBlock])
                  generalize ChangeMaps.setBlock w9 D (.cells #[.int .i64 s'.n, .slice A5 s'.L.length c5, .slice A6 s'.by_.length c6, .int .i64 s'.made] 29 (0, 0)) = w10 at *
                  clear hnD HD9 HX9 HP9 HA9 x0 x1 x2 x3 f0 f1 f2 f3
                  obtain ⟨-, -, a2⟩ := cells3 HA10.out
                  rw [HV.out] at a2
                  obtain ⟨-, p1, -⟩ := cells11 HP10.out
                  go_wp2_with fail
                  refine (lookasideref02_Offset.calls (av : Int) x.f1.f1 ((offN x av : Nat) : Int) w10 (off_d HXO.out hav)).mono ?_
                  rintro e w11 ⟨rfl, hd⟩
                  have hb := hd.below
                  have HX11 := Aside0.mk (HX10.out.below hb)
                  have HP11 := Aside0.mk (blk_below HP10.out hb)
                  have HA11 := Aside0.mk (blk_below HA10.out hb)
                  have HD11 := Aside0.mk (HD10.out.below hb)
                  have HZ11 := Aside0.mk (show w9.heap.size ≤ w11.heap.size from Nat.le_trans HZ9.out hb.size)
                  clear hd hb HX10 HP10 HA10 HD10 HZ9 a2 p1
                  obtain ⟨a0, -, -⟩ := cells3 HA11.out
                  have hk1 : (o.ak == 1) = false := HAK.out
                  obtain ⟨x0, x1, x2, x3⟩ := cells4 HX11.out.box
                  obtain ⟨-, -, p2, -⟩ := cells11 HP11.out
                  have HGT := Aside0.mk (get_r (s' := s') (by rw [HS.out]; exact hfb) x.f1.f2 ((offN x av : Nat) : Int))
                  go_upto_region 21 with fail
                  clear a0 hk1
                  refine start_ (n := 9) (S := fun w' => w'.cell? ⟨D, 0, none⟩ = some (.int .i64 s'.n) ∧ w'.cell? ⟨D, 1, none⟩ = some (.slice A5 s'.L.length c5) ∧ w'.cell? ⟨D, 2, none⟩ = some (.slice A6 s'.by_.length c6) ∧ w'.cell? ⟨D, 3, none⟩ = some (.int .i64 s'.made) ∧ w'.cell? ⟨G2, 2, none⟩ = some (.int .u64 x.f1.f2)) (ds := [7, 8]) #[false, false, false, false, false, false, false, false, false] (by kernel_rfl) rfl rfl (by exact ⟨x0, x1, x2, x3, p2⟩) (fun hHeld => ?_)
                  refine pure_ (i := 2) (N := some 95) (v := ?_) (a' := ?_) #[false, false, true, false, false, false, false, false, false] rfl rfl (by kernel_rfl) (fun _ _ _ h => h) (Or.inl ⟨by rfl, ?_⟩) ?_ ?_
                  rotate_left
                  · intro w'
                    go_simp
                    with_reducible rfl
                  rotate_left
                  · simp only [Act.put, List.setIfInBounds_toArray, List.set_cons_zero, List.set_cons_succ, i64_w, i32_w]
                    rfl
                  refine pure_ (i := 4) (N := some 97) (v := ?_) (a' := ?_) #[false, false, true, false, true, false, false, false, false] rfl rfl (by kernel_rfl) (fun _ _ _ h => h) (Or.inl ⟨by rfl, ?_⟩) ?_ ?_
                  rotate_left
                  · intro w'
                    go_simp
                    with_reducible rfl
                  rotate_left
                  · simp only [Act.put, List.setIfInBounds_toArray, List.set_cons_zero, List.set_cons_succ, i64_w, i32_w]
                    rfl
                  refine take_ (i := 0) (N := some 93) (v := ?_) (a' := ?_) #[true, false, true, false, true, false, false, false, false] rfl rfl (by kernel_rfl) (fun _ _ _ h => h) (Or.inl ⟨by rfl, ?_⟩) hHeld ?_ ?_
                  rotate_left
                  · rintro w' ⟨s0, s1, s2, s3, s4⟩
                    go_simp
                    with_reducible rfl
                  rotate_left
                  · simp only [Act.put, List.setIfInBounds_toArray, List.set_cons_zero, List.set_cons_succ, i64_w, i32_w]
                    rfl
                  refine take_ (i := 1) (N := some 94) (v := ?_) (a' := ?_) #[true, true, true, false, true, false, false, false, false] rfl rfl (by kernel_rfl) (fun _ _ _ h => h) (Or.inl ⟨by rfl, ?_⟩) hHeld ?_ ?_
                  rotate_left
                  · rintro w' ⟨s0, s1, s2, s3, s4⟩
                    go_simp
                    with_reducible rfl
                  rotate_left
                  · simp only [Act.put, List.setIfInBounds_toArray, List.set_cons_zero, List.set_cons_succ, i64_w, i32_w]
                    rfl
                  refine take_ (i := 3) (N := some 96) (v := ?_) (a' := ?_) #[true, true, true, true, true, false, false, false, false] rfl rfl (by kernel_rfl) (fun _ _ _ h => h) (Or.inl ⟨by rfl, ?_⟩) hHeld ?_ ?_
                  rotate_left
                  · rintro w' ⟨s0, s1, s2, s3, s4⟩
                    go_simp
                    with_reducible rfl
                  rotate_left
                  · simp only [Act.put, List.setIfInBounds_toArray, List.set_cons_zero, List.set_cons_succ, i64_w, i32_w]
                    rfl
                  refine one_ (i := 5) (N := some 98) #[true, true, true, true, true, true, false, false, false] rfl rfl (by kernel_rfl) (by decide) (fun K hK => ?_)
                  refine goes_ Try.func61 (by kernel_rfl) rfl #[.agg #[.int .i64 s'.n, .slice A5 s'.L.length c5, .slice A6 s'.by_.length c6, .int .i64 s'.made], .int .u64 x.f1.f2, .int .u64 ((offN x av : Nat) : Int)] (by rfl) rfl rfl (by (try simp only [List.map_toArray, List.map_cons, List.map_nil]); first | done | rfl) ?_
                  refine (lookasideref16_get.calls (s'.by_.length + 1) s'.n A5 c5 s'.L A6 c6 s'.by_ s'.made x.f1.f2 ((offN x av : Nat) : Int) (getB s'.by_ x.f1.f2 ((offN x av : Nat) : Int)) _ (HD11.out.m.below (Below.refl _ w11).drew).l (HD11.out.m.below (Below.refl _ w11).drew).lc (HD11.out.m.below (Below.refl _ w11).drew).b (HD11.out.m.below (Below.refl _ w11).drew).bc HGT.out).mono ?_
                  rintro e w12 ⟨rfl, hbel⟩
                  refine ⟨_, rfl, ?_⟩
                  have hb := (Below.refl _ w11).drew.trans hbel
                  have HX12 := Aside0.mk (HX11.out.below hb)
                  have HP12 := Aside0.mk (blk_below HP11.out hb)
                  have HD12 := Aside0.mk (HD11.out.below hb)
                  have HZ12 := Aside0.mk (show w9.heap.size ≤ w12.heap.size from Nat.le_trans HZ11.out hb.size)
                  have HSX := Aside0.mk (show w12.cell? ⟨D, 0, none⟩ = some (.int .i64 s'.n) ∧ w12.cell? ⟨D, 1, none⟩ = some (.slice A5 s'.L.length c5) ∧ w12.cell? ⟨D, 2, none⟩ = some (.slice A6 s'.by_.length c6) ∧ w12.cell? ⟨D, 3, none⟩ = some (.int .i64 s'.made) ∧ w12.cell? ⟨G2, 2, none⟩ = some (.int .u64 x.f1.f2) from by
                    obtain ⟨x0, x1, x2, x3⟩ := cells4 HX12.out.box
                    obtain ⟨-, -, p2, -⟩ := cells11 HP12.out
                    exact ⟨x0, x1, x2, x3, p2⟩)
                  clear hbel hb
                  obtain ⟨z0, z1, z2, z3⟩ := cells4 HX12.out.res
                  obtain ⟨r0, r1, r2⟩ := cells3 HX12.out.rep
                  have g0 := blk_frozen HX12.out.res 0
                  have g1 := blk_frozen HX12.out.res 1
                  have g2 := blk_frozen HX12.out.res 2
                  have g3 := blk_frozen HX12.out.res 3
                  have y0 := blk_frozen HX12.out.rep 0
                  have y1 := blk_frozen HX12.out.rep 1
                  have y2 := blk_frozen HX12.out.rep 2
                  refine hK.out _ _ HSX.out (fun hHeld => ?_)
                  clear hK K
                  refine norm_ (a' := ?_) ?_ ?_
                  rotate_left
                  · show Act.put _ (some 98) _ = _
                    simp only [Act.put, List.setIfInBounds_toArray, List.set_cons_zero, List.set_cons_succ, i64_w, i32_w]
                    rfl
                  refine pure_ (i := 6) (N := some 99) (v := ?_) (a' := ?_) #[true, true, true, true, true, true, true, false, false] rfl rfl (by kernel_rfl) (fun _ _ _ h => h) (Or.inl ⟨by rfl, ?_⟩) ?_ ?_
                  rotate_left
                  · intro w'
                    go_simp
                    with_reducible rfl
                  rotate_left
                  · simp only [Act.put, List.setIfInBounds_toArray, List.set_cons_zero, List.set_cons_succ, i64_w, i32_w]
                    rfl
                  refine last_ (i := 7) (N := none) #[true, true, true, true, true, true, true, true, false] rfl rfl (by kernel_rfl) (by decide) (fun K hK => ?_)
                  refine skip_ (w1 := ?_) (by rfl) rfl ?_ ?_
                  rotate_left
                  · go_simp
                    with_reducible rfl
                  refine hK.out _ _ ?_
                  clear hK K
                  refine last_ (i := 8) (N := none) #[true, true, true, true, true, true, true, true, true] rfl rfl (by kernel_rfl) (by decide) (fun K hK => ?_)
                  refine skip_ (w1 := ?_) (by rfl) rfl ?_ ?_
                  rotate_left
                  · go_simp
                    with_reducible rfl
                  refine hK.out _ _ ?_
                  clear hK K
                  refine done_ (by kernel_rfl) ?_
                  (try simp only [Exit.inBlock, Exit.then])
                  rw [set4 HX12.out.res, set3 HX12.out.sres.rep]
                  go_wp2_with fail
                  have hx4 := (HX12.out.sres (res' := #[.int .i64 s'.n, .slice A5 s'.L.length c5, .slice A6 s'.by_.length c6, .int .i64 s'.made])).srep (rep' := #[.int .i64 0, .int .i64 0, .int .u8 (getB s'.by_ x.f1.f2 ((offN x av : Nat) : Int))])
                  refine bodyPost_ret (results_cc rfl _ _ (D + 1 + 1) (D + 1 + 1 + 1) 29 42 _ _ (0, 0) (0, 0) _ _ rfl hx4.res Try.underlying29 rfl (by kernel_rfl) rfl hx4.rep Try.underlying42 rfl (by kernel_rfl)) rfl ?_
                  have hr2 : accessR s o = ((0, 0, getB s'.by_ x.f1.f2 ((offN x av : Nat) : Int)), s') := by
                    rw [HR2.out, HS.out]
                    unfold accD
                    rw [if_pos HJN.out, if_neg (beq_eq_false_iff_ne.1 HAK.out), HPE.out]
                  rw [hr2]
                  refine ⟨A5, c5, A6, c6, rfl, fun W hW => HD12.out.keep W (fun k hk => ?_), hx4.lo⟩
                  have h1 := HM0.out.lt k
                  have h2 := HX12.out.hD
                  have h3 := HDL.out
                  have h4 : (ChangeMaps.setBlock (ChangeMaps.setBlock w12 (D + 1 + 1) (.cells #[.int .i64 s'.n, .slice A5 s'.L.length c5, .slice A6 s'.by_.length c6, .int .i64 s'.made] 29 (0, 0))) (D + 1 + 1 + 1) (.cells #[.int .i64 0, .int .i64 0, .int .u8 (getB s'.by_ x.f1.f2 ((offN x av : Nat) : Int))] 42 (0, 0))).heap.size = w12.heap.size := by simp [ChangeMaps.setBlock]
                  have h5 := HZ12.out
                  have h6 := HSZ.out
                  refine (hW k (by rw [h4]; rcases hk with hk | hk; (· exact .inl hk); (· exact .inr (by omega)))).trans ?_
                  exact (sb_other _ (by rcases hk with hk | hk; (· have := h1 hk; omega); (· omega))).trans (sb_other _ (by rcases hk with hk | hk; (· have := h1 hk; omega); (· omega)))
            · obtain ⟨jn, hjn⟩ : ∃ jn, judgeN x.f1.f3 o.ak o.ap = jn := ⟨_, rfl⟩
              have HR := Aside0.mk (show accessR s o = ((0, jn, 0), s) by rw [HR2.out]; unfold accD; rw [if_neg hj, hjn])
              rw [hjn] at hj ⊢
              have hjb : (jn != 0) = true := by simp [hj]
              clear hj HR2 hjn
              obtain ⟨x0, x1, x2, x3⟩ := cells4 HX6.out.box
              obtain ⟨z0, z1, z2, z3⟩ := cells4 HX6.out.res
              obtain ⟨r0, r1, r2⟩ := cells3 HX6.out.rep
              have g0 := blk_frozen HX6.out.res 0
              have g1 := blk_frozen HX6.out.res 1
              have g2 := blk_frozen HX6.out.res 2
              have g3 := blk_frozen HX6.out.res 3
              have y0 := blk_frozen HX6.out.rep 0
              have y1 := blk_frozen HX6.out.rep 1
              have y2 := blk_frozen HX6.out.rep 2
              go_wp2_with fail
              rw [set4 HX6.out.res, set3 HX6.out.sres.rep]
              have hx4 := (HX6.out.sres (res' := #[.int .i64 s.n, .slice (some ad) s.L.length c1, .slice A2 s.by_.length c2, .int .i64 s.made])).srep (rep' := #[.int .i64 0, .int .i64 jn, .int .u8 0])
              refine bodyPost_ret (results_cc rfl _ _ (D + 1 + 1) (D + 1 + 1 + 1) 29 42 _ _ (0, 0) (0, 0) _ _ rfl hx4.res Try.underlying29 rfl (by kernel_rfl) rfl hx4.rep Try.underlying42 rfl (by kernel_rfl)) rfl ?_
              rw [HR.out]
              exact ⟨(some ad), c1, A2, c2, rfl, fun W hW => HM0.out.keep _ (hW.old HM0.out.lt hx4.lo), hx4.lo⟩
end
end Go.Proofs.Ytalmemcidbmdgaa.PM



/- The document's model of spaces (layer 16): news: the walk. -/
set_option linter.unusedVariables false
set_option linter.unusedSimpArgs false
namespace Go.Proofs.Ytalmemcidbmdgaa.PM
open Go.RowKit Go.Proofs.YtalmemcidbmdgaaW.PrintWords Go.Proofs.YtalmemcidbmdgaaW.PrintLast Go.Proofs.YtalmemcidbmdgaaW.PrintMore Go.Proofs.Ytalmemcidbmdgaa.PageG
attribute [local go_sem] max2_int min2_int max_two min_two max_three min_three max_four min_four   -- for this text's walks alone
theorem dmay_f (sz : Int) : lookasideref02_May.f sz = some (decide (0 ≤ sz ∧ sz < 4)) := by
  unfold lookasideref02_May.f
  by_cases h : sz ≥ 0
  · rw [if_pos h]
    congr 1
    exact decide_eq_decide.mpr (by omega)
  · rw [if_neg h]
    congr 1
    exact (decide_eq_false (by omega)).symm
/-- news, as the document tells it. -/
def newsD (s : MS) (o : OpS) : (Int × Int × Int) × MS := if o.kind = 1 then rep3 (mappedR s o) else rep3 (shareR s o)
theorem isAll2 (n a b : Int) : isAll n [a, b] = (isAll n [a] && isAll n [b]) := by simp [isAll]
theorem newsD_arg {s : MS} {o : OpS} (h : ¬ (isAll s.n [o.sp] = true ∧ o.at_.f4 = false)) : newsD s o = ((1, 0, 0), s) := by
  unfold newsD mappedR shareR
  split
  · rw [if_neg (fun hc => h ⟨hc.1, hc.2.2⟩)]; rfl
  · rw [if_neg (fun hc => h ⟨by have := hc.1; rw [isAll2, Bool.and_eq_true] at this; exact this.1, hc.2⟩)]; rfl
theorem newsD_size {s : MS} {o : OpS} (hk : o.kind = 1) (h : ¬ (0 ≤ o.size ∧ o.size < 4)) : newsD s o = ((1, 0, 0), s) := by
  unfold newsD mappedR
  rw [if_pos hk, if_neg (fun hc => h hc.2.1)]; rfl
theorem newsD_map {s s1 : MS} {o : OpS} {e1 : Int} (hk : o.kind = 1) (h : isAll s.n [o.sp] = true ∧ o.at_.f4 = false) (hz : 0 ≤ o.size ∧ o.size < 4) (hp : putS s o.sp (mapP s o) = (e1, s1)) :
    newsD s o = if e1 = 0 then ((0, 0, 0), { s1 with made := s1.made + 1 }) else ((e1, 0, 0), s1) := by
  unfold newsD mappedR
  have hm := (putS_made s o.sp (mapP s o)).1
  rw [hp] at hm
  rw [if_pos hk, if_pos ⟨h.1, hz, h.2⟩, hp]
  show rep3 (if e1 = 0 then (0, { s1 with made := s.made + 1 }) else (e1, s1)) = _
  rw [show s.made = s1.made from hm.symm]
  split <;> rfl
theorem newsD_other {s : MS} {o : OpS} (hk : o.kind ≠ 1) (h : isAll s.n [o.other] = false) : newsD s o = ((1, 0, 0), s) := by
  unfold newsD shareR
  rw [if_neg hk, if_neg (fun hc => by have := hc.1; rw [isAll2, h] at this; simp at this)]; rfl
theorem newsD_none {s : MS} {o : OpS} (hk : o.kind ≠ 1) (h : isAll s.n [o.sp] = true ∧ o.at_.f4 = false) (h2 : isAll s.n [o.other] = true) (hf : find s.L o.sp o.va.toNat = none) : newsD s o = ((10, 0, 0), s) := by
  unfold newsD shareR
  rw [if_neg hk, if_pos ⟨by rw [isAll2, h.1, h2]; rfl, h.2⟩, hf]; rfl
theorem newsD_share {s s1 : MS} {o : OpS} {e1 : Int} {i : Nat} {x : Ent} (hk : o.kind ≠ 1) (h : isAll s.n [o.sp] = true ∧ o.at_.f4 = false) (h2 : isAll s.n [o.other] = true) (hf : find s.L o.sp o.va.toNat = some i) (hx : s.L[i]? = some x) (hp : putS s o.other (shaP o x) = (e1, s1)) :
    newsD s o = ((e1, 0, 0), s1) := by
  unfold newsD shareR
  rw [if_neg hk, if_pos ⟨by rw [isAll2, h.1, h2]; rfl, h.2⟩, hf]
  simp only [hx]
  rw [hp]; rfl
section
variable {X : Nat → Prop} {w w' : World} {A1 A2 : Option Addr} {c1 c2 : Nat} {s : MS}
set_option maxHeartbeats 8000000 in
set_option maxRecDepth 100000 in
theorem dnews_calls (hh : DocX X w A1 c1 A2 c2 s) (hf : s.L.length ≤ 100000) (hok : ∀ x ∈ s.L, OkE x) (hmd : 0 ≤ s.made ∧ s.made < 1000000) (o : OpS) (ho : OkO o) :
    Calls Try.prog 32 #[.agg #[.int .i64 s.n, .slice A1 s.L.length c1, .slice A2 s.by_.length c2, .int .i64 s.made], .agg #[.int .i64 o.kind, .int .i64 o.sp, .int .i64 o.ak, .bool o.ap, .int .u64 o.av, .int .u8 o.byte, .int .u64 o.va, .int .i64 o.size, .bool o.at_.f0, .bool o.at_.f1, .bool o.at_.f2, .bool o.at_.f3, .bool o.at_.f4, .bool o.at_.f5, .int .i64 o.other, .int .u64 o.too]] w (DocR X w (newsD s o)) := by
  have HM := Aside0.mk hh.m
  have HM0 := Aside0.mk hh
  have HOK := Aside0.mk hok
  have HMD := Aside0.mk hmd
  obtain ⟨va, hvd⟩ : ∃ va : Nat, o.va.toNat = va := ⟨_, rfl⟩
  have hva : va < 2 ^ 64 := by have := ho.va; omega
  have HV := Aside0.mk (show o.va = (va : Int) by have := ho.va; omega)
  obtain ⟨ta, htd⟩ : ∃ ta : Nat, o.too = (ta : Int) := ⟨o.too.toNat, by have := ho.to1; omega⟩
  have HTD := Aside0.mk htd
  have HTA := Aside0.mk (show ta < 2 ^ 64 by have := ho.to1; omega)
  have HVD := Aside0.mk hvd
  have HIS := Aside0.mk (is_r s.n s.L s.by_ s.made o.sp)
  have HIS2 := Aside0.mk (is_r s.n s.L s.by_ s.made o.other)
  have HAT := Aside0.mk (at_r o.sp va hva s.n s.made s.L s.by_ hf hok)
  clear hh hok ho hvd htd hmd
  generalize hia : isAll s.n [o.sp] = ia at *
  have HIA := Aside0.mk hia
  generalize hib : isAll s.n [o.other] = ib at *
  have HIB := Aside0.mk hib
  clear hia hib
  obtain ⟨D, hD⟩ : ∃ D, w.heap.size = D := ⟨_, rfl⟩
  go_enter Try.func32, Try.ntmps32
  go_upto_region 1 with fail
  have hx := oboxes hD #[.int .i64 s.n, .slice A1 s.L.length c1, .slice A2 s.by_.length c2, .int .i64 s.made] #[.int .i64 o.kind, .int .i64 o.sp, .int .i64 o.ak, .bool o.ap, .int .u64 o.av, .int .u8 o.byte, .int .u64 o.va, .int .i64 o.size, .bool o.at_.f0, .bool o.at_.f1, .bool o.at_.f2, .bool o.at_.f3, .bool o.at_.f4, .bool o.at_.f5, .int .i64 o.other, .int .u64 o.too] #[.int .i64 0, .slice none 0 0, .slice none 0 0, .int .i64 0] #[.int .i64 0, .int .i64 0, .int .u8 0]
  have HX := Aside0.mk hx
  generalize (((w.alloc (.cells #[.int .i64 s.n, .slice A1 s.L.length c1, .slice A2 s.by_.length c2, .int .i64 s.made] 29)).alloc (.cells #[.int .i64 o.kind, .int .i64 o.sp, .int .i64 o.ak, .bool o.ap, .int .u64 o.av, .int .u8 o.byte, .int .u64 o.va, .int .i64 o.size, .bool o.at_.f0, .bool o.at_.f1, .bool o.at_.f2, .bool o.at_.f3, .bool o.at_.f4, .bool o.at_.f5, .int .i64 o.other, .int .u64 o.too] 36)).alloc (.cells #[.int .i64 0, .slice none 0 0, .slice none 0 0, .int .i64 0] 29)).alloc (.cells #[.int .i64 0, .int .i64 0, .int .u8 0] 42) = w1 at *
  clear hx hD
  obtain ⟨x0, x1, x2, x3⟩ := cells4 HX.out.box
  obtain ⟨-, o1, -⟩ := cells16 HX.out.op
  go_wp2_with fail
  refine (lookasideref16_is.calls s.n A1 c1 s.L A2 c2 s.by_ s.made o.sp ia w1 (HM.out.below HX.out.lo).l (HM.out.below HX.out.lo).lc (HM.out.below HX.out.lo).b (HM.out.below HX.out.lo).bc HIS.out).mono ?_
  rintro e w2 ⟨rfl, hb⟩
  have HX2 := Aside0.mk (HX.out.below hb)
  clear hb HX x0 x1 x2 x3 o1
  obtain ⟨o0, o1, -, -, -, -, o6, o7, -, -, -, -, o12, -, -, -⟩ := cells16 HX2.out.op
  cases ia with
  | false =>
    have HR := Aside0.mk (newsD_arg (s := s) (o := o) (by rw [HIA.out]; simp))
    obtain ⟨x0, x1, x2, x3⟩ := cells4 HX2.out.box
    obtain ⟨z0, z1, z2, z3⟩ := cells4 HX2.out.res
    obtain ⟨r0, r1, r2⟩ := cells3 HX2.out.rep
    have g0 := blk_frozen HX2.out.res 0
    have g1 := blk_frozen HX2.out.res 1
    have g2 := blk_frozen HX2.out.res 2
    have g3 := blk_frozen HX2.out.res 3
    have y0 := blk_frozen HX2.out.rep 0
    have y1 := blk_frozen HX2.out.rep 1
    have y2 := blk_frozen HX2.out.rep 2
    go_wp2_with fail
    rw [set4 HX2.out.res, set3 HX2.out.sres.rep]
    have hx4 := (HX2.out.sres (res' := #[.int .i64 s.n, .slice A1 s.L.length c1, .slice A2 s.by_.length c2, .int .i64 s.made])).srep (rep' := #[.int .i64 1, .int .i64 0, .int .u8 0])
    refine bodyPost_ret (results_cc rfl _ _ (D + 1 + 1) (D + 1 + 1 + 1) 29 42 _ _ (0, 0) (0, 0) _ _ rfl hx4.res Try.underlying29 rfl (by kernel_rfl) rfl hx4.rep Try.underlying42 rfl (by kernel_rfl)) rfl ?_
    rw [HR.out]
    exact ⟨A1, c1, A2, c2, rfl, fun W hW => HM0.out.keep _ (hW.old HM0.out.lt hx4.lo), hx4.lo⟩
  | true =>
    cases hf4 : o.at_.f4 with
    | true =>
      have HR := Aside0.mk (newsD_arg (s := s) (o := o) (by rw [hf4]; simp))
      rw [hf4] at o12
      clear hf4
      obtain ⟨x0, x1, x2, x3⟩ := cells4 HX2.out.box
      obtain ⟨z0, z1, z2, z3⟩ := cells4 HX2.out.res
      obtain ⟨r0, r1, r2⟩ := cells3 HX2.out.rep
      have g0 := blk_frozen HX2.out.res 0
      have g1 := blk_frozen HX2.out.res 1
      have g2 := blk_frozen HX2.out.res 2
      have g3 := blk_frozen HX2.out.res 3
      have y0 := blk_frozen HX2.out.rep 0
      have y1 := blk_frozen HX2.out.rep 1
      have y2 := blk_frozen HX2.out.rep 2
      go_wp2_with fail
      rw [set4 HX2.out.res, set3 HX2.out.sres.rep]
      have hx4 := (HX2.out.sres (res' := #[.int .i64 s.n, .slice A1 s.L.length c1, .slice A2 s.by_.length c2, .int .i64 s.made])).srep (rep' := #[.int .i64 1, .int .i64 0, .int .u8 0])
      refine bodyPost_ret (results_cc rfl _ _ (D + 1 + 1) (D + 1 + 1 + 1) 29 42 _ _ (0, 0) (0, 0) _ _ rfl hx4.res Try.underlying29 rfl (by kernel_rfl) rfl hx4.rep Try.underlying42 rfl (by kernel_rfl)) rfl ?_
      rw [HR.out]
      exact ⟨A1, c1, A2, c2, rfl, fun W hW => HM0.out.keep _ (hW.old HM0.out.lt hx4.lo), hx4.lo⟩
    | false =>
      have HG := Aside0.mk (show isAll s.n [o.sp] = true ∧ o.at_.f4 = false from ⟨HIA.out, hf4⟩)
      rw [hf4] at o12
      clear hf4
      by_cases hk : o.kind = 1
      · have HK := Aside0.mk hk
        rw [hk] at o0
        clear hk
        by_cases hz : 0 ≤ o.size ∧ o.size < 4
        · have HZ := Aside0.mk hz
          have hmf := dmay_f o.size
          rw [decide_eq_true hz] at hmf
          obtain ⟨sz, hsz⟩ : ∃ sz : Nat, o.size = (sz : Int) := ⟨o.size.toNat, by omega⟩
          have HSN := Aside0.mk hsz
          have hsz4 : sz < 4 := by omega
          clear hz hsz
          go_wp2_with fail
          refine (lookasideref02_May.calls o.size true w2 hmf).mono ?_
          rintro e w5 ⟨rfl, hd⟩
          have HX5 := Aside0.mk (HX2.out.below hd.below)
          clear hd HX2 o0 o1 o6 o7 o12 hmf
          obtain ⟨x0, x1, x2, x3⟩ := cells4 HX5.out.box
          obtain ⟨-, o1, -, -, -, -, o6, o7, o8, o9, o10, o11, o12, o13, -, -⟩ := cells16 HX5.out.op
          obtain ⟨⟨e1, s1⟩, hps⟩ : ∃ r, putS s o.sp (mapP s o) = r := ⟨_, rfl⟩
          have HNR := Aside0.mk (newsD_map HK.out HG.out HZ.out hps)
          have hcp := dplace_calls (HM0.out.below HX5.out.lo) hf HOK.out o.sp (mapP s o) va sz HV.out hva HSN.out hsz4
          rw [hps] at hcp
          have HCP := Aside0.mk hcp
          have hmd0 := HMD.out.1
          have hmd1 := HMD.out.2
          have HS1 := Aside0.mk (show s1.made = s.made from by have := (putS_made s o.sp (mapP s o)).1; rw [hps] at this; exact this)
          clear hps hcp
          go_wp2_with fail
          refine HCP.out.mono ?_
          rintro e w6' ⟨A5, c5, A6, c6, rfl, hm6, hb⟩
          have HX6' := Aside0.mk (HX5.out.below hb)
          have HM6 := Aside0.mk hm6
          have HZ6 := Aside0.mk (show w6'.heap.size = w6'.heap.size from rfl)
          have HLE := Aside0.mk (show w.heap.size ≤ w5.heap.size from HX5.out.lo.size)
          have HLT := Aside0.mk (blk_lt HX5.out.rep)
          clear hb hm6 HX5 x0 x1 x2 x3 o1 o6 o7 o8 o9 o10 o11 o12 o13 HCP hmd0 hmd1
          go_upto_region 9 with fail
          have hal := (Below.refl _ w6').alloc (Nat.le_refl _) (.cells #[.int .i64 s1.n, .slice A5 s1.L.length c5, .slice A6 s1.by_.length c6, .int .i64 s1.made] 29)
          have hn := blk_new w6' (.cells #[.int .i64 s1.n, .slice A5 s1.L.length c5, .slice A6 s1.by_.length c6, .int .i64 s1.made] 29)
          have HX6 := Aside0.mk (HX6'.out.below hal)
          have HB6 := Aside0.mk hal
          have HG := Aside0.mk (show D + 1 + 1 + 1 < w6'.heap.size from blk_lt HX6'.out.rep)
          have HM7 := Aside0.mk (show ∀ W, KeepsD X w5 w6' W → DocM W A5 c5 A6 c6 s1 from HM6.out)
          have HN6 := Aside0.mk hn
          obtain ⟨G, hG⟩ : ∃ G, w6'.heap.size = G := ⟨_, rfl⟩
          have HSG := Aside0.mk hG
          rw [hG] at HN6 HG
          rw [hG]
          generalize w6'.alloc (.cells #[.int .i64 s1.n, .slice A5 s1.L.length c5, .slice A6 s1.by_.length c6, .int .i64 s1.made] 29) = w6 at *
          clear hal hn hG HX6' HM6
          by_cases he : e1 = 0
          · subst he
            rw [if_pos rfl] at HNR
            obtain ⟨b0, b1, b2, b3⟩ := cells4 HN6.out
            have q3 := blk_frozen HN6.out 3
            have hw1 : wrap64 (s1.made + 1) = s1.made + 1 := by have := HMD.out; have := HS1.out; unfold wrap64; omega
            go_upto_region 11 with fail
            clear hw1
            rw [setCell_block (t := 29) (i := 3) (cs' := #[.int .i64 s1.n, .slice A5 s1.L.length c5, .slice A6 s1.by_.length c6, .int .i64 (s1.made + 1)]) HN6.out (.int .i64 (s1.made + 1)) rfl]
            have HX7 := Aside0.mk (HX6.out.sb (b := G) HG.out (.cells #[.int .i64 s1.n, .slice A5 s1.L.length c5, .slice A6 s1.by_.length c6, .int .i64 (s1.made + 1)] 29 (0, 0)))
            have HN7 := Aside0.mk (sb_same HN6.out (.cells #[.int .i64 s1.n, .slice A5 s1.L.length c5, .slice A6 s1.by_.length c6, .int .i64 (s1.made + 1)] 29 (0, 0)))
            have HSZ := Aside0.mk (show w6'.heap.size ≤ (ChangeMaps.setBlock w6 G (.cells #[.int .i64 s1.n, .slice A5 s1.L.length c5, .slice A6 s1.by_.length c6, .int .i64 (s1.made + 1)] 29 (0, 0))).heap.size by have := HB6.out.size; simpa [ChangeMaps.setBlock] using this)
            have HNE := Aside0.mk (show ∀ k, k < w6'.heap.size → (ChangeMaps.setBlock w6 G (.cells #[.int .i64 s1.n, .slice A5 s1.L.length c5, .slice A6 s1.by_.length c6, .int .i64 (s1.made + 1)] 29 (0, 0))).heap[k]? = w6'.heap[k]? from fun k hk => (sb_other _ (by have := HSG.out; omega)).trans (HB6.out.block k hk))
            generalize ChangeMaps.setBlock w6 G (.cells #[.int .i64 s1.n, .slice A5 s1.L.length c5, .slice A6 s1.by_.length c6, .int .i64 (s1.made + 1)] 29 (0, 0)) = w7 at *
            clear b0 b1 b2 b3 q3 HX6 HN6
            obtain ⟨b0, b1, b2, b3⟩ := cells4 HN7.out
            obtain ⟨z0, z1, z2, z3⟩ := cells4 HX7.out.res
            obtain ⟨r0, r1, r2⟩ := cells3 HX7.out.rep
            have g0 := blk_frozen HX7.out.res 0
            have g1 := blk_frozen HX7.out.res 1
            have g2 := blk_frozen HX7.out.res 2
            have g3 := blk_frozen HX7.out.res 3
            have y0 := blk_frozen HX7.out.rep 0
            have y1 := blk_frozen HX7.out.rep 1
            have y2 := blk_frozen HX7.out.rep 2
            go_wp2_with fail
            rw [set4 HX7.out.res, set3 HX7.out.sres.rep]
            have hx4 := (HX7.out.sres (res' := #[.int .i64 s1.n, .slice A5 s1.L.length c5, .slice A6 s1.by_.length c6, .int .i64 (s1.made + 1)])).srep (rep' := #[.int .i64 0, .int .i64 0, .int .u8 0])
            refine bodyPost_ret (results_cc rfl _ _ (D + 1 + 1) (D + 1 + 1 + 1) 29 42 _ _ (0, 0) (0, 0) _ _ rfl hx4.res Try.underlying29 rfl (by kernel_rfl) rfl hx4.rep Try.underlying42 rfl (by kernel_rfl)) rfl ?_
            rw [HNR.out]
            refine ⟨A5, c5, A6, c6, rfl, fun W hW => ?_, hx4.lo⟩
            have hm : DocM W A5 c5 A6 c6 s1 := HM7.out W (fun k hk => ?_)
            · exact ⟨hm.l, hm.lc, hm.b, hm.bc⟩
            have hl := HLT.out
            have hd := HX7.out.hD
            have hs := HM0.out.lt k
            have h2 := HSZ.out
            have h3 := HG.out
            have h4 := HSG.out
            have hkk : k < w6'.heap.size ∧ k ≠ D + 1 + 1 ∧ k ≠ D + 1 + 1 + 1 := by
              rcases hk with hk | hk
              · have := hs hk; omega
              · omega
            refine (hW k (hk.imp id (fun hk => ⟨Nat.le_trans HLE.out hk.1, by simp only [ChangeMaps.setBlock, Array.size_setIfInBounds]; omega⟩))).trans ?_
            exact ((sb_other _ hkk.2.2).trans (sb_other _ hkk.2.1)).trans (HNE.out k hkk.1)
          · rw [if_neg he] at HNR
            have hb1 : (e1 == 0) = false := beq_eq_false_iff_ne.2 he
            clear he
            have HSZ := Aside0.mk HB6.out.size
            have HNE := Aside0.mk HB6.out.block
            obtain ⟨b0, b1, b2, b3⟩ := cells4 HN6.out
            obtain ⟨z0, z1, z2, z3⟩ := cells4 HX6.out.res
            obtain ⟨r0, r1, r2⟩ := cells3 HX6.out.rep
            have g0 := blk_frozen HX6.out.res 0
            have g1 := blk_frozen HX6.out.res 1
            have g2 := blk_frozen HX6.out.res 2
            have g3 := blk_frozen HX6.out.res 3
            have y0 := blk_frozen HX6.out.rep 0
            have y1 := blk_frozen HX6.out.rep 1
            have y2 := blk_frozen HX6.out.rep 2
            go_wp2_with fail
            rw [set4 HX6.out.res, set3 HX6.out.sres.rep]
            have hx4 := (HX6.out.sres (res' := #[.int .i64 s1.n, .slice A5 s1.L.length c5, .slice A6 s1.by_.length c6, .int .i64 s1.made])).srep (rep' := #[.int .i64 e1, .int .i64 0, .int .u8 0])
            refine bodyPost_ret (results_cc rfl _ _ (D + 1 + 1) (D + 1 + 1 + 1) 29 42 _ _ (0, 0) (0, 0) _ _ rfl hx4.res Try.underlying29 rfl (by kernel_rfl) rfl hx4.rep Try.underlying42 rfl (by kernel_rfl)) rfl ?_
            rw [HNR.out]
            refine ⟨A5, c5, A6, c6, rfl, fun W hW => HM7.out W (fun k hk => ?_), hx4.lo⟩
            have hl := HLT.out
            have hd := HX6.out.hD
            have hs := HM0.out.lt k
            have h2 := HSZ.out
            have h3 := HG.out
            have h4 := HSG.out
            have hkk : k < w6'.heap.size ∧ k ≠ D + 1 + 1 ∧ k ≠ D + 1 + 1 + 1 := by
              rcases hk with hk | hk
              · have := hs hk; omega
              · omega
            refine (hW k (hk.imp id (fun hk => ⟨Nat.le_trans HLE.out hk.1, by simp only [ChangeMaps.setBlock, Array.size_setIfInBounds]; omega⟩))).trans ?_
            exact ((sb_other _ hkk.2.2).trans (sb_other _ hkk.2.1)).trans (HNE.out k hkk.1)
        · have HR := Aside0.mk (newsD_size (s := s) HK.out hz)
          have hmf := dmay_f o.size
          rw [decide_eq_false hz] at hmf
          clear hz
          go_wp2_with fail
          refine (lookasideref02_May.calls o.size false w2 hmf).mono ?_
          rintro e w5 ⟨rfl, hd⟩
          have HX5 := Aside0.mk (HX2.out.below hd.below)
          clear hd HX2 o0 o1 o6 o7 o12 hmf
          obtain ⟨x0, x1, x2, x3⟩ := cells4 HX5.out.box
          obtain ⟨z0, z1, z2, z3⟩ := cells4 HX5.out.res
          obtain ⟨r0, r1, r2⟩ := cells3 HX5.out.rep
          have g0 := blk_frozen HX5.out.res 0
          have g1 := blk_frozen HX5.out.res 1
          have g2 := blk_frozen HX5.out.res 2
          have g3 := blk_frozen HX5.out.res 3
          have y0 := blk_frozen HX5.out.rep 0
          have y1 := blk_frozen HX5.out.rep 1
          have y2 := blk_frozen HX5.out.rep 2
          go_wp2_with fail
          rw [set4 HX5.out.res, set3 HX5.out.sres.rep]
          have hx4 := (HX5.out.sres (res' := #[.int .i64 s.n, .slice A1 s.L.length c1, .slice A2 s.by_.length c2, .int .i64 s.made])).srep (rep' := #[.int .i64 1, .int .i64 0, .int .u8 0])
          refine bodyPost_ret (results_cc rfl _ _ (D + 1 + 1) (D + 1 + 1 + 1) 29 42 _ _ (0, 0) (0, 0) _ _ rfl hx4.res Try.underlying29 rfl (by kernel_rfl) rfl hx4.rep Try.underlying42 rfl (by kernel_rfl)) rfl ?_
          rw [HR.out]
          exact ⟨A1, c1, A2, c2, rfl, fun W hW => HM0.out.keep _ (hW.old HM0.out.lt hx4.lo), hx4.lo⟩
      · have HK := Aside0.mk hk
        have hb1 : (o.kind == 1) = false := beq_eq_false_iff_ne.2 hk
        clear hk
        obtain ⟨x0, x1, x2, x3⟩ := cells4 HX2.out.box
        obtain ⟨-, -, -, -, -, -, -, -, -, -, -, -, -, -, o14, -⟩ := cells16 HX2.out.op
        go_wp2_with fail
        refine (lookasideref16_is.calls s.n A1 c1 s.L A2 c2 s.by_ s.made o.other ib w2 (HM.out.below HX2.out.lo).l (HM.out.below HX2.out.lo).lc (HM.out.below HX2.out.lo).b (HM.out.below HX2.out.lo).bc HIS2.out).mono ?_
        rintro e w3 ⟨rfl, hb⟩
        have HX3 := Aside0.mk (HX2.out.below hb)
        clear hb HX2 x0 x1 x2 x3 o0 o1 o6 o7 o12 o14 hb1
        cases ib with
        | false =>
          have HR := Aside0.mk (newsD_other (s := s) HK.out HIB.out)
          obtain ⟨x0, x1, x2, x3⟩ := cells4 HX3.out.box
          obtain ⟨z0, z1, z2, z3⟩ := cells4 HX3.out.res
          obtain ⟨r0, r1, r2⟩ := cells3 HX3.out.rep
          have g0 := blk_frozen HX3.out.res 0
          have g1 := blk_frozen HX3.out.res 1
          have g2 := blk_frozen HX3.out.res 2
          have g3 := blk_frozen HX3.out.res 3
          have y0 := blk_frozen HX3.out.rep 0
          have y1 := blk_frozen HX3.out.rep 1
          have y2 := blk_frozen HX3.out.rep 2
          go_wp2_with fail
          rw [set4 HX3.out.res, set3 HX3.out.sres.rep]
          have hx4 := (HX3.out.sres (res' := #[.int .i64 s.n, .slice A1 s.L.length c1, .slice A2 s.by_.length c2, .int .i64 s.made])).srep (rep' := #[.int .i64 1, .int .i64 0, .int .u8 0])
          refine bodyPost_ret (results_cc rfl _ _ (D + 1 + 1) (D + 1 + 1 + 1) 29 42 _ _ (0, 0) (0, 0) _ _ rfl hx4.res Try.underlying29 rfl (by kernel_rfl) rfl hx4.rep Try.underlying42 rfl (by kernel_rfl)) rfl ?_
          rw [HR.out]
          exact ⟨A1, c1, A2, c2, rfl, fun W hW => HM0.out.keep _ (hW.old HM0.out.lt hx4.lo), hx4.lo⟩
        | true =>
          obtain ⟨x0, x1, x2, x3⟩ := cells4 HX3.out.box
          obtain ⟨-, o1, -, -, -, -, o6, -⟩ := cells16 HX3.out.op
          rw [HV.out] at o6
          go_wp2_with fail
          refine (lookasideref16_At.calls (s.L.length + 1) s.n A1 c1 s.L A2 c2 s.by_ s.made o.sp (va : Int) (atI s.L o.sp va) w3 (HM.out.below HX3.out.lo).l (HM.out.below HX3.out.lo).lc (HM.out.below HX3.out.lo).b (HM.out.below HX3.out.lo).bc HAT.out).mono ?_
          rintro e w4 ⟨rfl, hb⟩
          have HX4 := Aside0.mk (HX3.out.below hb)
          clear hb HX3 x0 x1 x2 x3 o1 o6
          cases hfd : find s.L o.sp va with
          | none =>
            have hai : atI s.L o.sp va = -1 := by unfold atI; rw [hfd]
            rw [hai]
            have HR := Aside0.mk (newsD_none (s := s) HK.out HG.out HIB.out (by rw [HVD.out]; exact hfd))
            clear hai hfd
            obtain ⟨x0, x1, x2, x3⟩ := cells4 HX4.out.box
            obtain ⟨z0, z1, z2, z3⟩ := cells4 HX4.out.res
            obtain ⟨r0, r1, r2⟩ := cells3 HX4.out.rep
            have g0 := blk_frozen HX4.out.res 0
            have g1 := blk_frozen HX4.out.res 1
            have g2 := blk_frozen HX4.out.res 2
            have g3 := blk_frozen HX4.out.res 3
            have y0 := blk_frozen HX4.out.rep 0
            have y1 := blk_frozen HX4.out.rep 1
            have y2 := blk_frozen HX4.out.rep 2
            go_wp2_with fail
            rw [set4 HX4.out.res, set3 HX4.out.sres.rep]
            have hx4 := (HX4.out.sres (res' := #[.int .i64 s.n, .slice A1 s.L.length c1, .slice A2 s.by_.length c2, .int .i64 s.made])).srep (rep' := #[.int .i64 10, .int .i64 0, .int .u8 0])
            refine bodyPost_ret (results_cc rfl _ _ (D + 1 + 1) (D + 1 + 1 + 1) 29 42 _ _ (0, 0) (0, 0) _ _ rfl hx4.res Try.underlying29 rfl (by kernel_rfl) rfl hx4.rep Try.underlying42 rfl (by kernel_rfl)) rfl ?_
            rw [HR.out]
            exact ⟨A1, c1, A2, c2, rfl, fun W hW => HM0.out.keep _ (hW.old HM0.out.lt hx4.lo), hx4.lo⟩
          | some i =>
            obtain ⟨x, hx, hh⟩ := find_some hfd
            have hil := find_lt hfd
            have hai : atI s.L o.sp va = (i : Int) := by unfold atI; rw [hfd]
            rw [hai]
            have HXI := Aside0.mk hx
            have HXO := Aside0.mk (HOK.out x (List.mem_of_getElem? hx))
            have HFD := Aside0.mk hfd
            have hi0 : ¬ ((i : Int) < 0) := by omega
            have hdi : decide ((i : Int) < 0) = false := decide_eq_false hi0
            clear hai hfd hx hh
            have HRD := Aside0.mk (show rd_T105 s.L (i : Int) = x by have := HXI.out; simp [rd_T105, List.getD_eq_getElem?_getD, this])
            have hi1 : (i : Int) < (s.L.length : Int) := by omega
            have hi2 : (0 : Int) ≤ (i : Int) := by omega
            obtain ⟨ad, hA, q0, q1, q2, q3, q4, q5, q6, q7, q8, q9, q10, q11⟩ := at_T105 (HM.out.below HX4.out.lo).l (i : Int) hi2 hi1
            subst hA
            rw [HRD.out, Int.toNat_natCast] at q1 q2 q3 q4 q5 q6 q7 q8 q9 q10 q11
            clear q0
            obtain ⟨-, x1, -, -⟩ := cells4 HX4.out.box
            go_upto_region 19 with fail
            have hal := (Below.refl _ w4).alloc (Nat.le_refl _) (.cells #[.int .u64 x.f1.f0, .int .i64 x.f1.f1, .int .u64 x.f1.f2, .bool x.f1.f3.f0, .bool x.f1.f3.f1, .bool x.f1.f3.f2, .bool x.f1.f3.f3, .bool x.f1.f3.f4, .bool x.f1.f3.f5, .bool x.f1.f4, .bool x.f1.f5] 50)
            have hn := blk_new w4 (.cells #[.int .u64 x.f1.f0, .int .i64 x.f1.f1, .int .u64 x.f1.f2, .bool x.f1.f3.f0, .bool x.f1.f3.f1, .bool x.f1.f3.f2, .bool x.f1.f3.f3, .bool x.f1.f3.f4, .bool x.f1.f3.f5, .bool x.f1.f4, .bool x.f1.f5] 50)
            have HX5 := Aside0.mk (HX4.out.below hal)
            have HP5 := Aside0.mk hn
            generalize w4.alloc (.cells #[.int .u64 x.f1.f0, .int .i64 x.f1.f1, .int .u64 x.f1.f2, .bool x.f1.f3.f0, .bool x.f1.f3.f1, .bool x.f1.f3.f2, .bool x.f1.f3.f3, .bool x.f1.f3.f4, .bool x.f1.f3.f5, .bool x.f1.f4, .bool x.f1.f5] 50) = w5 at *
            generalize w4.heap.size = G2 at *
            clear hal hn HX4 x1 q1 q2 q3 q4 q5 q6 q7 q8 q9 q10 q11 hi0 hi1 hi2 hdi
            obtain ⟨x0, x1, x2, x3⟩ := cells4 HX5.out.box
            obtain ⟨-, p1, p2, -⟩ := cells11 HP5.out
            obtain ⟨-, -, -, -, -, -, -, -, o8, o9, o10, o11, o12, o13, o14, o15⟩ := cells16 HX5.out.op
            obtain ⟨⟨e1, s1⟩, hps⟩ : ∃ r, putS s o.other (shaP o x) = r := ⟨_, rfl⟩
            have HNR := Aside0.mk (newsD_share HK.out HG.out HIB.out (by rw [HVD.out]; exact HFD.out) HXI.out hps)
            have hcp := dplace_calls (HM0.out.below HX5.out.lo) hf HOK.out o.other (shaP o x) ta (szN x) HTD.out HTA.out HXO.out.sz HXO.out.sz1
            rw [hps] at hcp
            have HCP := Aside0.mk hcp
            clear hps hcp
            go_wp2_with fail
            refine HCP.out.mono ?_
            rintro e w6' ⟨A5, c5, A6, c6, rfl, hm6, hb⟩
            have HX6' := Aside0.mk (HX5.out.below hb)
            have HM6 := Aside0.mk hm6
            have HZ6 := Aside0.mk (show w6'.heap.size = w6'.heap.size from rfl)
            have HLE := Aside0.mk (show w.heap.size ≤ w5.heap.size from HX5.out.lo.size)
            have HLT := Aside0.mk (blk_lt HX5.out.rep)
            clear hb hm6 HX5 x0 x1 x2 x3 p1 p2 o8 o9 o10 o11 o12 o13 o14 o15 HCP HP5
            go_upto_region 20 with fail
            have hal := (Below.refl _ w6').alloc (Nat.le_refl _) (.cells #[.int .i64 s1.n, .slice A5 s1.L.length c5, .slice A6 s1.by_.length c6, .int .i64 s1.made] 29)
            have hn := blk_new w6' (.cells #[.int .i64 s1.n, .slice A5 s1.L.length c5, .slice A6 s1.by_.length c6, .int .i64 s1.made] 29)
            have HX6 := Aside0.mk (HX6'.out.below hal)
            have HB6 := Aside0.mk hal
            have HG := Aside0.mk (show D + 1 + 1 + 1 < w6'.heap.size from blk_lt HX6'.out.rep)
            have HM7 := Aside0.mk (show ∀ W, KeepsD X w5 w6' W → DocM W A5 c5 A6 c6 s1 from HM6.out)
            have HN6 := Aside0.mk hn
            obtain ⟨G, hG⟩ : ∃ G, w6'.heap.size = G := ⟨_, rfl⟩
            have HSG := Aside0.mk hG
            rw [hG] at HN6 HG
            rw [hG]
            generalize w6'.alloc (.cells #[.int .i64 s1.n, .slice A5 s1.L.length c5, .slice A6 s1.by_.length c6, .int .i64 s1.made] 29) = w6 at *
            clear hal hn hG HX6' HM6
            have HSZ := Aside0.mk HB6.out.size
            have HNE := Aside0.mk HB6.out.block
            obtain ⟨b0, b1, b2, b3⟩ := cells4 HN6.out
            obtain ⟨z0, z1, z2, z3⟩ := cells4 HX6.out.res
            obtain ⟨r0, r1, r2⟩ := cells3 HX6.out.rep
            have g0 := blk_frozen HX6.out.res 0
            have g1 := blk_frozen HX6.out.res 1
            have g2 := blk_frozen HX6.out.res 2
            have g3 := blk_frozen HX6.out.res 3
            have y0 := blk_frozen HX6.out.rep 0
            have y1 := blk_frozen HX6.out.rep 1
            have y2 := blk_frozen HX6.out.rep 2
            go_wp2_with fail
            rw [set4 HX6.out.res, set3 HX6.out.sres.rep]
            have hx4 := (HX6.out.sres (res' := #[.int .i64 s1.n, .slice A5 s1.L.length c5, .slice A6 s1.by_.length c6, .int .i64 s1.made])).srep (rep' := #[.int .i64 e1, .int .i64 0, .int .u8 0])
            refine bodyPost_ret (results_cc rfl _ _ (D + 1 + 1) (D + 1 + 1 + 1) 29 42 _ _ (0, 0) (0, 0) _ _ rfl hx4.res Try.underlying29 rfl (by kernel_rfl) rfl hx4.rep Try.underlying42 rfl (by kernel_rfl)) rfl ?_
            rw [HNR.out]
            refine ⟨A5, c5, A6, c6, rfl, fun W hW => HM7.out W (fun k hk => ?_), hx4.lo⟩
            have hl := HLT.out
            have hd := HX6.out.hD
            have hs := HM0.out.lt k
            have h2 := HSZ.out
            have h3 := HG.out
            have h4 := HSG.out
            have hkk : k < w6'.heap.size ∧ k ≠ D + 1 + 1 ∧ k ≠ D + 1 + 1 + 1 := by
              rcases hk with hk | hk
              · have := hs hk; omega
              · omega
            refine (hW k (hk.imp id (fun hk => ⟨Nat.le_trans HLE.out hk.1, by simp only [ChangeMaps.setBlock, Array.size_setIfInBounds]; omega⟩))).trans ?_
            exact ((sb_other _ hkk.2.2).trans (sb_other _ hkk.2.1)).trans (HNE.out k hkk.1)
end
end Go.Proofs.Ytalmemcidbmdgaa.PM



/- The document's model of spaces (layer 16), plain: its pages of a space; Do as told by its kinds. -/
set_option linter.unusedVariables false
set_option linter.unusedSimpArgs false
namespace Go.Proofs.Ytalmemcidbmdgaa.PM
open Go.RowKit Go.Proofs.YtalmemcidbmdgaaW.PrintWords Go.Proofs.YtalmemcidbmdgaaW.PrintLast Go.Proofs.YtalmemcidbmdgaaW.PrintMore Go.Proofs.Ytalmemcidbmdgaa.PageG
attribute [local go_sem] max2_int min2_int max_two min_two max_three min_three max_four min_four   -- for this text's walks alone
theorem pages_uniq {L : List Ent} (hw : WfL L) {sp : Int} {l m : List Pg} (hl : l.Perm (sel sp L)) (hm : m.Perm (sel sp L)) (h1 : l.Pairwise (fun p q => p.f0 ≤ q.f0)) (h2 : m.Pairwise (fun p q => p.f0 ≤ q.f0)) : l = m := by
  refine List.Perm.eq_of_pairwise (le := fun (p q : Pg) => p.f0 ≤ q.f0) (fun a b ha hb hab hba => ?_) h1 h2 (hl.trans hm.symm)
  have ha' := hl.mem_iff.1 ha
  have hb' := hm.mem_iff.1 hb
  unfold sel at ha' hb'
  obtain ⟨x, hx, rfl⟩ := List.mem_map.1 ha'
  obtain ⟨y, hy, rfl⟩ := List.mem_map.1 hb'
  obtain ⟨hx1, hx2⟩ := List.mem_filter.1 hx
  obtain ⟨hy1, hy2⟩ := List.mem_filter.1 hy
  obtain ⟨i, hi, hix⟩ := List.mem_iff_getElem.1 hx1
  obtain ⟨j, hj, hjy⟩ := List.mem_iff_getElem.1 hy1
  have hxi : L[i]? = some x := by rw [List.getElem?_eq_getElem hi, hix]
  have hyj : L[j]? = some y := by rw [List.getElem?_eq_getElem hj, hjy]
  have hv : vaN x = vaN y := by unfold vaN; rw [Int.le_antisymm hab hba]
  have e := hw.one hxi hyj (hit_meets (sp := sp) (va := vaN x) (hit_iff.2 ⟨by simpa using hx2, (hw.ok x hx1).st⟩) (hit_iff.2 ⟨by simpa using hy2, by rw [hv]; exact (hw.ok y hy1).st⟩))
  rw [e, hyj] at hxi
  cases hxi
  rfl
theorem pagesS_sorted (s : MS) (sp : Int) : (pagesS s sp).Pairwise (fun p q => p.f0 ≤ q.f0) := by
  have h := List.pairwise_mergeSort (le := fun (p q : Pg) => decide (p.f0 ≤ q.f0)) (fun a b c h1 h2 => decide_eq_true (Int.le_trans (of_decide_eq_true h1) (of_decide_eq_true h2))) (fun a b => by
    rcases Int.le_total a.f0 b.f0 with h | h
    · simp [h]
    · simp [h]) (sel sp s.L)
  exact h.imp (fun h => of_decide_eq_true h)
theorem pagesS_eq {s : MS} (hw : WfL s.L) {sp : Int} {l : List Pg} (hl : l.Perm (sel sp s.L)) (h1 : l.Pairwise (fun p q => p.f0 ≤ q.f0)) : l = pagesS s sp := pages_uniq hw hl (pagesS_perm s sp) h1 (pagesS_sorted s sp)
/-- Put where it belongs, looked for from the end. -/
def insQ (out : List Pg) (p : Pg) : Nat → List Pg
  | 0 => p :: out
  | q + 1 => if p.f0 < (out.getD q z50).f0 then insQ out p q else out.take (q + 1) ++ p :: out.drop (q + 1)
theorem insQ_perm (out : List Pg) (p : Pg) : ∀ q, (insQ out p q).Perm (p :: out)
  | 0 => List.Perm.refl _
  | q + 1 => by
    unfold insQ
    split
    · exact insQ_perm out p q
    · have := List.perm_middle (a := p) (l₁ := out.take (q + 1)) (l₂ := out.drop (q + 1))
      rwa [List.take_append_drop] at this
theorem insQ_sorted (out : List Pg) (p : Pg) (hs : out.Pairwise (fun p q => p.f0 ≤ q.f0)) : ∀ q, q ≤ out.length → (∀ j (h : j < out.length), q ≤ j → p.f0 < out[j].f0) → (insQ out p q).Pairwise (fun p q => p.f0 ≤ q.f0)
  | 0, _, h => by
    unfold insQ
    refine List.pairwise_cons.2 ⟨fun y hy => ?_, hs⟩
    obtain ⟨j, hj, e⟩ := List.mem_iff_getElem.1 hy
    have := h j hj (Nat.zero_le _)
    rw [e] at this
    omega
  | q + 1, hq, h => by
    unfold insQ
    have hlt : q < out.length := by omega
    have hg : out.getD q z50 = out[q] := by simp [List.getD_eq_getElem?_getD, hlt]
    rw [hg]
    split
    · rename_i hc
      refine insQ_sorted out p hs q (by omega) (fun j hj hqj => ?_)
      by_cases e : j = q
      · subst e; exact hc
      · exact h j hj (by omega)
    · rename_i hc
      have hsp := hs
      rw [← List.take_append_drop (q + 1) out, List.pairwise_append] at hsp
      refine List.pairwise_append.2 ⟨hsp.1, List.pairwise_cons.2 ⟨fun y hy => ?_, hsp.2.1⟩, fun a ha b hb => ?_⟩
      · obtain ⟨j, hj, e⟩ := List.mem_iff_getElem.1 hy
        rw [List.getElem_drop] at e
        rw [List.length_drop] at hj
        have := h (q + 1 + j) (by omega) (by omega)
        rw [e] at this
        omega
      · rcases List.mem_cons.1 hb with rfl | hb
        · obtain ⟨j, hj, e⟩ := List.mem_iff_getElem.1 ha
          rw [List.getElem_take] at e
          rw [List.length_take] at hj
          have hjq : a.f0 ≤ out[q].f0 := by
            by_cases hje : j = q
            · subst hje; rw [e]; exact Int.le_refl _
            · have := List.pairwise_iff_getElem.1 hs j q (by omega) hlt (by omega)
              rw [e] at this
              exact this
          omega
        · exact hsp.2.2 a ha b hb
def insP (out : List Pg) (p : Pg) : List Pg := insQ out p out.length
theorem insP_len (out : List Pg) (p : Pg) : (insP out p).length = out.length + 1 := (insQ_perm out p _).length_eq
def insAll (sp : Int) (out : List Pg) (l : List Ent) : List Pg := l.foldl (fun o x => if x.f0 = sp then insP o x.f1 else o) out
theorem insAll_perm (sp : Int) : ∀ (l : List Ent) (out : List Pg), (insAll sp out l).Perm (out ++ sel sp l)
  | [], out => by unfold insAll sel; simp
  | x :: l, out => by
    unfold insAll
    rw [List.foldl_cons]
    have ih := insAll_perm sp l (if x.f0 = sp then insP out x.f1 else out)
    refine ih.trans ?_
    unfold sel
    rw [List.filter_cons]
    by_cases h : x.f0 = sp
    · rw [if_pos h, if_pos (by simp [h]), List.map_cons]
      exact ((insQ_perm out x.f1 _).append_right _).trans List.perm_middle.symm
    · rw [if_neg h, if_neg (by simp [h])]
theorem insAll_sorted (sp : Int) : ∀ (l : List Ent) (out : List Pg), out.Pairwise (fun p q => p.f0 ≤ q.f0) → (insAll sp out l).Pairwise (fun p q => p.f0 ≤ q.f0)
  | [], out, h => h
  | x :: l, out, h => by
    unfold insAll
    rw [List.foldl_cons]
    refine insAll_sorted sp l _ ?_
    split
    · exact insQ_sorted out x.f1 h out.length (Nat.le_refl _) (fun j hj hq => by omega)
    · exact h
theorem pages_l1 (sp n m : Int) (l : List Ent) (tb : List (List S196)) (hl : l.length ≤ 100000) (out : List Pg) (i : Nat) (x : Ent) (hx : l[i]? = some x) (ho : out.length ≤ i) (R : Nat) : ∀ (q fuel : Nat), q ≤ out.length → q + 1 + R ≤ fuel → ∃ fuel', R ≤ fuel' ∧ lookasideref12_Pages.l1 fuel sp out (i : Int) (q : Int) n l m tb = lookasideref12_Pages.l0 fuel' sp (insQ out x.f1 q) ((i + 1 : Nat) : Int) n l m tb
  | 0, fuel, hq, hf => by
    obtain ⟨fuel, rfl⟩ : ∃ f, fuel = f + 1 := ⟨fuel - 1, by omega⟩
    have hlt : i < l.length := (List.getElem?_eq_some_iff.1 hx).1
    have hrd : rd_T105 l (i : Int) = x := by simp [rd_T105, List.getD_eq_getElem?_getD, hx]
    have hw : wrap64 ((i : Int) + 1) = ((i + 1 : Nat) : Int) := by unfold wrap64; omega
    refine ⟨fuel, by omega, ?_⟩
    simp only [lookasideref12_Pages.l1]
    rw [if_neg (by omega), if_pos (by omega), if_pos (by omega), Option.bind_some, if_pos (by first | omega | (simp; omega) | simp), Option.bind_some, if_pos (by omega), if_pos (by omega), if_pos (by first | omega | (simp; omega) | simp), Option.bind_some, Option.bind_some, if_pos (by first | omega | (simp; omega) | simp), hrd, hw]
    rfl
  | q + 1, fuel, hq, hf => by
    obtain ⟨fuel, rfl⟩ : ∃ f, fuel = f + 1 := ⟨fuel - 1, by omega⟩
    have hlt : i < l.length := (List.getElem?_eq_some_iff.1 hx).1
    have hrd : rd_T105 l (i : Int) = x := by simp [rd_T105, List.getD_eq_getElem?_getD, hx]
    have hw : wrap64 ((i : Int) + 1) = ((i + 1 : Nat) : Int) := by unfold wrap64; omega
    have hw2 : wrap64 (((q + 1 : Nat) : Int) - 1) = (q : Int) := by unfold wrap64; omega
    have hrp : rd_T50 out (q : Int) = out.getD q z50 := by simp [rd_T50]
    unfold insQ
    by_cases hc : x.f1.f0 < (out.getD q z50).f0
    · obtain ⟨f', hf', ih⟩ := pages_l1 sp n m l tb hl out i x hx ho R q fuel (by omega) (by omega)
      refine ⟨f', hf', ?_⟩
      rw [if_pos hc, ← ih]
      simp only [lookasideref12_Pages.l1]
      rw [if_pos (by omega), if_pos (by omega), if_pos (by omega), hw2, if_pos (by omega), if_pos (by omega), hrd, hrp, if_pos hc]
    · refine ⟨fuel, by omega, ?_⟩
      rw [if_neg hc]
      simp only [lookasideref12_Pages.l1]
      have h1 : (out.take (q + 1)).length = q + 1 := by rw [List.length_take]; omega
      rw [if_pos (by omega), if_pos (by omega), if_pos (by omega), hw2, if_pos (by omega), if_pos (by omega), hrd, hrp, if_neg hc, if_pos (by omega), if_pos (by omega), Option.bind_some, Int.toNat_natCast, if_pos (by first | omega | (simp; omega) | simp), Option.bind_some, if_pos (by first | omega | (simp; omega) | simp), Option.bind_some, Option.bind_some, if_pos (by first | omega | (simp; omega) | simp), hw]
      simp
theorem pages_l0 (sp n m : Int) (l : List Ent) (tb : List (List S196)) (hl : l.length ≤ 100000) : ∀ (d i : Nat) (out : List Pg) (fuel : Nat), i + d = l.length → out.length ≤ i → d * (l.length + 2) + 1 ≤ fuel → lookasideref12_Pages.l0 fuel sp out (i : Int) n l m tb = some (insAll sp out (l.drop i))
  | 0, i, out, fuel, hi, ho, hf => by
    obtain ⟨fuel, rfl⟩ : ∃ f, fuel = f + 1 := ⟨fuel - 1, by omega⟩
    simp only [lookasideref12_Pages.l0]
    rw [if_neg (by omega), List.drop_eq_nil_of_le (by omega)]
    rfl
  | d + 1, i, out, fuel, hi, ho, hf => by
    obtain ⟨fuel, rfl⟩ : ∃ f, fuel = f + 1 := ⟨fuel - 1, by omega⟩
    have hlt : i < l.length := by omega
    have hrd : rd_T105 l (i : Int) = l[i] := by simp [rd_T105, List.getD_eq_getElem?_getD, hlt]
    have hw : wrap64 ((i : Int) + 1) = ((i + 1 : Nat) : Int) := by unfold wrap64; omega
    have hd : l.drop i = l[i] :: l.drop (i + 1) := List.drop_eq_getElem_cons hlt
    have hmul : (d + 1) * (l.length + 2) = d * (l.length + 2) + (l.length + 2) := Nat.succ_mul _ _
    simp only [lookasideref12_Pages.l0]
    rw [if_pos (by omega), if_pos (by omega), hrd, hw, hd]
    unfold insAll
    rw [List.foldl_cons]
    by_cases h : l[i].f0 = sp
    · rw [if_pos h, if_pos h]
      obtain ⟨f', hf', e⟩ := pages_l1 sp n m l tb hl out i l[i] (List.getElem?_eq_getElem hlt) ho (d * (l.length + 2) + 1) out.length fuel (Nat.le_refl _) (by omega)
      rw [e]
      exact pages_l0 sp n m l tb hl d (i + 1) (insP out l[i].f1) f' (by omega) (by rw [insP_len]; omega) hf'
    · rw [if_neg h, if_neg h]
      exact pages_l0 sp n m l tb hl d (i + 1) out fuel (by omega) (by omega) (by omega)
theorem pages_r {s : MS} (hw : WfL s.L) (hl : s.L.length ≤ 100000) (sp : Int) : lookasideref16_Pages.f (s.L.length * (s.L.length + 2) + 1) s.n s.L s.by_ s.made sp = some (pagesS s sp) := by
  have h := pages_l0 sp 0 0 s.L ([] : List (List S196)) hl s.L.length 0 [] (s.L.length * (s.L.length + 2) + 1) (by omega) (Nat.le_refl _) (Nat.le_refl _)
  unfold lookasideref16_Pages.f lookasideref12_Pages.f
  rw [show (0 : Int) = ((0 : Nat) : Int) from rfl] at h ⊢
  rw [h, List.drop_zero, Option.bind_some]
  congr 1
  exact pagesS_eq hw (by have := insAll_perm sp s.L []; rwa [List.nil_append] at this) (insAll_sorted sp s.L [] List.Pairwise.nil)
theorem pagesS_len (s : MS) (sp : Int) : (pagesS s sp).length ≤ s.L.length := by rw [(pagesS_perm s sp).length_eq]; exact sel_len sp s.L
theorem doR_2 (s : MS) (o : OpS) (h : o.kind = 2) : doR s o = rep3 (changeR s o (unmapS s)) := by
  unfold doR
  rw [if_neg (by omega), if_neg (by omega), if_pos h]
theorem doR_3 (s : MS) (o : OpS) (h : o.kind = 3) : doR s o = rep3 (protectR s o) := by
  unfold doR
  rw [if_neg (by omega), if_neg (by omega), if_neg (by omega), if_pos h]
theorem doR_4 (s : MS) (o : OpS) (h : o.kind = 4) : doR s o = rep3 (changeR s o (clearS s)) := by
  unfold doR
  rw [if_neg (by omega), if_neg (by omega), if_neg (by omega), if_neg (by omega), if_pos h]
theorem changeD_of (s : MS) (o : OpS) (f : Nat → MS) (hn : ¬ (o.kind = 3 ∧ o.at_.f4 = true)) (hf : ∀ i, (if o.kind = 2 then unmapS s i else if o.kind = 3 then protS s o.at_ i else clearS s i) = f i) : changeD s o = rep3 (changeR s o f) := by
  unfold changeD changeR
  by_cases hi : isAll s.n [o.sp] = true
  · rw [if_pos hi, if_pos ⟨hi, hn⟩]
    cases find s.L o.sp o.va.toNat with
    | none => rfl
    | some i => show ((0, 0, 0), _) = ((0, 0, 0), f i); rw [hf]
  · rw [if_neg hi, if_neg (fun hc => hi hc.1)]
    rfl
theorem changeD_eq (s : MS) (o : OpS) (h : o.kind = 2 ∨ o.kind = 3 ∨ o.kind = 4) : changeD s o = doR s o := by
  rcases h with h | h | h
  · rw [doR_2 s o h]
    exact changeD_of s o _ (by omega) (fun i => by rw [if_pos h])
  · rw [doR_3 s o h]
    unfold protectR
    by_cases h4 : o.at_.f4 = true
    · rw [if_pos h4]
      unfold changeD
      rw [if_neg (fun hc => hc.2 ⟨h, h4⟩)]
      rfl
    · rw [if_neg h4]
      exact changeD_of s o _ (fun hc => h4 hc.2) (fun i => by rw [if_neg (by omega), if_pos h])
  · rw [doR_4 s o h]
    exact changeD_of s o _ (by omega) (fun i => by rw [if_neg (by omega), if_neg (by omega)])
theorem newsD_eq (s : MS) (o : OpS) (h : o.kind = 1 ∨ o.kind = 5) : newsD s o = doR s o := by
  unfold newsD doR
  rcases h with h | h
  · rw [if_pos h, if_neg (by omega), if_pos h]
  · rw [if_neg (by omega), if_neg (by omega), if_neg (by omega), if_neg (by omega), if_neg (by omega), if_neg (by omega), if_pos h]
theorem doR_0 (s : MS) (o : OpS) (h : o.kind = 0) : doR s o = accessR s o := by unfold doR; rw [if_pos h]
theorem doR_6 (s : MS) (o : OpS) (h : o.kind = 6) : doR s o = rep3 (growE s o, s) := by
  unfold doR
  rw [if_neg (by omega), if_neg (by omega), if_neg (by omega), if_neg (by omega), if_neg (by omega), if_neg (by omega), if_pos h]
theorem doR_7 (s : MS) (o : OpS) (h : o.kind = 7) : doR s o = rep3 (destroyR s o) := by
  unfold doR
  rw [if_neg (by omega), if_neg (by omega), if_neg (by omega), if_neg (by omega), if_neg (by omega), if_neg (by omega), if_neg (by omega), if_pos h]
theorem doR_bad (s : MS) (o : OpS) (h : ¬ (0 ≤ o.kind ∧ o.kind < 8)) : doR s o = ((1, 0, 0), s) := by
  unfold doR
  rw [if_neg (by omega), if_neg (by omega), if_neg (by omega), if_neg (by omega), if_neg (by omega), if_neg (by omega), if_neg (by omega), if_neg (by omega)]
  rfl
end Go.Proofs.Ytalmemcidbmdgaa.PM


/- The document's model of spaces (layer 16): Do: the walk. -/
set_option linter.unusedVariables false
set_option linter.unusedSimpArgs false
namespace Go.Proofs.Ytalmemcidbmdgaa.PM
open Go.RowKit Go.Proofs.YtalmemcidbmdgaaW.PrintWords Go.Proofs.YtalmemcidbmdgaaW.PrintLast Go.Proofs.YtalmemcidbmdgaaW.PrintMore Go.Proofs.Ytalmemcidbmdgaa.PageG
attribute [local go_sem] max2_int min2_int max_two min_two max_three min_three max_four min_four   -- for this text's walks alone
def dropN (s : MS) (sp : Int) (j : Nat) : MS := ((pagesS s sp).take j).foldl (dropAt sp) s
theorem WfK.dropN {k : Nat} {s : MS} (h : WfK k s) (sp : Int) (j : Nat) : WfK k (PM.dropN s sp j) := by
  unfold PM.dropN
  generalize (pagesS s sp).take j = l
  induction l generalizing s with
  | nil => exact h
  | cons p l ih => exact ih (h.dropAt sp p)
theorem dropN_next {k : Nat} {s : MS} (h : WfK k s) (sp : Int) {j : Nat} (hj : j < (pagesS s sp).length) :
    ∃ (i : Nat) (x : Ent) (va : Nat), (PM.dropN s sp j).L[i]? = some x ∧ (pagesS s sp)[j].f0 = (va : Int) ∧ va < 2 ^ 64 ∧ atI (PM.dropN s sp j).L sp va = (i : Int) ∧ dropS (PM.dropN s sp j) i x = PM.dropN s sp (j + 1) ∧ (0 ≤ x.f1.f2 ∧ x.f1.f2 < 1000000) := by
  have ih := DS.fold h.wl (pagesS_perm s sp) j (by omega)
  obtain ⟨i, x, hi, hx, hxp, hd⟩ := ih.next (List.getElem?_eq_getElem hj)
  have hok := ih.wf.ok x (List.mem_of_getElem? hi)
  have hf : find (PM.dropN s sp j).L sp ((pagesS s sp)[j]).f0.toNat = some i := find_of ih.wf hi (by rw [← hxp]; exact hit_iff.2 ⟨hx, hok.st⟩)
  refine ⟨i, x, ((pagesS s sp)[j]).f0.toNat, hi, ?_, ?_, ?_, ?_, hok.pa0, hok.pa1⟩
  · rw [← hxp]; exact hok.va
  · rw [← hxp]; exact hok.va1
  · unfold atI; rw [hf]
  · have e : PM.dropN s sp (j + 1) = dropAt sp (PM.dropN s sp j) ((pagesS s sp)[j]) := by
      unfold PM.dropN
      rw [List.take_succ_eq_append_getElem hj, List.foldl_append]
      rfl
    rw [e]
    unfold dropAt
    rw [hf]
    show _ = unmapS (PM.dropN s sp j) i
    unfold unmapS
    rw [show (PM.dropN s sp j).L[i]? = some x from hi]
theorem dropN_all (s : MS) (sp : Int) : PM.dropN s sp (pagesS s sp).length = destS s sp := by
  unfold PM.dropN destS
  rw [List.take_length]
theorem DocX.grow {X X' : Nat → Prop} {w : World} {A1 A2 : Option Addr} {c1 c2 : Nat} {s : MS} (h : DocX X w A1 c1 A2 c2 s) (hX : ∀ k, X k → X' k) (hl : ∀ k, X' k → k < w.heap.size) : DocX X' w A1 c1 A2 c2 s :=
  ⟨hl, h.m, fun W hW => h.keep W (fun k hk => hW k (hX k hk))⟩
section
variable {X : Nat → Prop} {w w' : World} {A1 A2 : Option Addr} {c1 c2 : Nat} {s : MS}
set_option maxHeartbeats 8000000 in
set_option maxRecDepth 100000 in
theorem ddo_calls (hh : DocX X w A1 c1 A2 c2 s) {k : Nat} (hw : WfK k s) (hk : k < 1000) (o : OpS) (ho : OkO o) :
    Calls Try.prog 13 #[.agg #[.int .i64 s.n, .slice A1 s.L.length c1, .slice A2 s.by_.length c2, .int .i64 s.made], .agg #[.int .i64 o.kind, .int .i64 o.sp, .int .i64 o.ak, .bool o.ap, .int .u64 o.av, .int .u8 o.byte, .int .u64 o.va, .int .i64 o.size, .bool o.at_.f0, .bool o.at_.f1, .bool o.at_.f2, .bool o.at_.f3, .bool o.at_.f4, .bool o.at_.f5, .int .i64 o.other, .int .u64 o.too]] w (DocR X w (doR s o)) := by
  have HM := Aside0.mk hh.m
  have HM0 := Aside0.mk hh
  have HW := Aside0.mk hw
  have HO := Aside0.mk ho
  have hf : s.L.length ≤ 100000 := by have := hw.few; omega
  have hfb : s.by_.length ≤ 100000 := by have := hw.blen; omega
  have HKL := Aside0.mk hk
  have HMD := Aside0.mk (show 0 ≤ s.made ∧ s.made < 1000000 from ⟨hw.made0, by have := hw.made1; omega⟩)
  have HIS := Aside0.mk (is_r s.n s.L s.by_ s.made o.sp)
  have HPG := Aside0.mk (pages_r hw.wl hf o.sp)
  clear hh ho hw hk
  obtain ⟨D, hD⟩ : ∃ D, w.heap.size = D := ⟨_, rfl⟩
  go_enter Try.func13, Try.ntmps13
  go_upto_region 1 with fail
  have hx := oboxes hD #[.int .i64 s.n, .slice A1 s.L.length c1, .slice A2 s.by_.length c2, .int .i64 s.made] #[.int .i64 o.kind, .int .i64 o.sp, .int .i64 o.ak, .bool o.ap, .int .u64 o.av, .int .u8 o.byte, .int .u64 o.va, .int .i64 o.size, .bool o.at_.f0, .bool o.at_.f1, .bool o.at_.f2, .bool o.at_.f3, .bool o.at_.f4, .bool o.at_.f5, .int .i64 o.other, .int .u64 o.too] #[.int .i64 0, .slice none 0 0, .slice none 0 0, .int .i64 0] #[.int .i64 0, .int .i64 0, .int .u8 0]
  have HX := Aside0.mk hx
  generalize (((w.alloc (.cells #[.int .i64 s.n, .slice A1 s.L.length c1, .slice A2 s.by_.length c2, .int .i64 s.made] 29)).alloc (.cells #[.int .i64 o.kind, .int .i64 o.sp, .int .i64 o.ak, .bool o.ap, .int .u64 o.av, .int .u8 o.byte, .int .u64 o.va, .int .i64 o.size, .bool o.at_.f0, .bool o.at_.f1, .bool o.at_.f2, .bool o.at_.f3, .bool o.at_.f4, .bool o.at_.f5, .int .i64 o.other, .int .u64 o.too] 36)).alloc (.cells #[.int .i64 0, .slice none 0 0, .slice none 0 0, .int .i64 0] 29)).alloc (.cells #[.int .i64 0, .int .i64 0, .int .u8 0] 42) = w1 at *
  clear hx hD
  have hc : o.kind = 0 ∨ o.kind = 1 ∨ o.kind = 2 ∨ o.kind = 3 ∨ o.kind = 4 ∨ o.kind = 5 ∨ o.kind = 6 ∨ o.kind = 7 ∨ ¬ (0 ≤ o.kind ∧ o.kind < 8) := by omega
  rcases hc with hk | hk | hk | hk | hk | hk | hk | hk | hk
  ·
    have b0 : (o.kind == 0) = true := beq_iff_eq.2 hk
    have HCP := Aside0.mk (by have h := daccess_calls (HM0.out.below HX.out.lo) hf hfb HW.out.wl.ok o HO.out; rw [← doR_0 s o hk] at h; exact h)
    clear hk
    obtain ⟨x0, x1, x2, x3⟩ := cells4 HX.out.box
    obtain ⟨o0, o1, o2, o3, o4, o5, o6, o7, o8, o9, o10, o11, o12, o13, o14, o15⟩ := cells16 HX.out.op
    go_wp2_with fail
    refine HCP.out.mono ?_
    rintro e w3 ⟨A5, c5, A6, c6, rfl, hm, hb⟩
    have HX3 := Aside0.mk (HX.out.below hb)
    have HM3 := Aside0.mk hm
    have HLE := Aside0.mk (show w.heap.size ≤ w1.heap.size from HX.out.lo.size)
    have HLT := Aside0.mk (blk_lt HX.out.rep)
    clear hm hb HX HCP x0 x1 x2 x3 o0 o1 o2 o3 o4 o5 o6 o7 o8 o9 o10 o11 o12 o13 o14 o15
    obtain ⟨z0, z1, z2, z3⟩ := cells4 HX3.out.res
    obtain ⟨r0, r1, r2⟩ := cells3 HX3.out.rep
    have g0 := blk_frozen HX3.out.res 0
    have g1 := blk_frozen HX3.out.res 1
    have g2 := blk_frozen HX3.out.res 2
    have g3 := blk_frozen HX3.out.res 3
    have y0 := blk_frozen HX3.out.rep 0
    have y1 := blk_frozen HX3.out.rep 1
    have y2 := blk_frozen HX3.out.rep 2
    go_wp2_with fail
    rw [set4 HX3.out.res, set3 HX3.out.sres.rep]
    have hx4 := (HX3.out.sres (res' := #[.int .i64 (doR s o).2.n, .slice A5 (doR s o).2.L.length c5, .slice A6 (doR s o).2.by_.length c6, .int .i64 (doR s o).2.made])).srep (rep' := #[.int .i64 (doR s o).1.1, .int .i64 (doR s o).1.2.1, .int .u8 (doR s o).1.2.2])
    refine bodyPost_ret (results_cc rfl _ _ (D + 1 + 1) (D + 1 + 1 + 1) 29 42 _ _ (0, 0) (0, 0) _ _ rfl hx4.res Try.underlying29 rfl (by kernel_rfl) rfl hx4.rep Try.underlying42 rfl (by kernel_rfl)) rfl ?_
    refine ⟨A5, c5, A6, c6, rfl, fun W hW => HM3.out W (hW.thru HLE.out (by simp [ChangeMaps.setBlock]) (fun k hk => ?_)), hx4.lo⟩
    have hl := HLT.out
    have hs := HM0.out.lt k
    have hd := HX3.out.hD
    exact (sb_other _ (by rcases hk with hk | hk; (· have := hs hk; omega); (· omega))).trans (sb_other _ (by rcases hk with hk | hk; (· have := hs hk; omega); (· omega)))
  ·
    have b0 : (o.kind == 0) = false := beq_eq_false_iff_ne.2 (by omega)
    have b1 : (o.kind == 1) = true := beq_iff_eq.2 hk
    have HCP := Aside0.mk (by have h := dnews_calls (HM0.out.below HX.out.lo) hf HW.out.wl.ok HMD.out o HO.out; rw [newsD_eq s o (.inl hk)] at h; exact h)
    clear hk
    obtain ⟨x0, x1, x2, x3⟩ := cells4 HX.out.box
    obtain ⟨o0, o1, o2, o3, o4, o5, o6, o7, o8, o9, o10, o11, o12, o13, o14, o15⟩ := cells16 HX.out.op
    go_wp2_with fail
    refine HCP.out.mono ?_
    rintro e w3 ⟨A5, c5, A6, c6, rfl, hm, hb⟩
    have HX3 := Aside0.mk (HX.out.below hb)
    have HM3 := Aside0.mk hm
    have HLE := Aside0.mk (show w.heap.size ≤ w1.heap.size from HX.out.lo.size)
    have HLT := Aside0.mk (blk_lt HX.out.rep)
    clear hm hb HX HCP x0 x1 x2 x3 o0 o1 o2 o3 o4 o5 o6 o7 o8 o9 o10 o11 o12 o13 o14 o15
    obtain ⟨z0, z1, z2, z3⟩ := cells4 HX3.out.res
    obtain ⟨r0, r1, r2⟩ := cells3 HX3.out.rep
    have g0 := blk_frozen HX3.out.res 0
    have g1 := blk_frozen HX3.out.res 1
    have g2 := blk_frozen HX3.out.res 2
    have g3 := blk_frozen HX3.out.res 3
    have y0 := blk_frozen HX3.out.rep 0
    have y1 := blk_frozen HX3.out.rep 1
    have y2 := blk_frozen HX3.out.rep 2
    go_wp2_with fail
    rw [set4 HX3.out.res, set3 HX3.out.sres.rep]
    have hx4 := (HX3.out.sres (res' := #[.int .i64 (doR s o).2.n, .slice A5 (doR s o).2.L.length c5, .slice A6 (doR s o).2.by_.length c6, .int .i64 (doR s o).2.made])).srep (rep' := #[.int .i64 (doR s o).1.1, .int .i64 (doR s o).1.2.1, .int .u8 (doR s o).1.2.2])
    refine bodyPost_ret (results_cc rfl _ _ (D + 1 + 1) (D + 1 + 1 + 1) 29 42 _ _ (0, 0) (0, 0) _ _ rfl hx4.res Try.underlying29 rfl (by kernel_rfl) rfl hx4.rep Try.underlying42 rfl (by kernel_rfl)) rfl ?_
    refine ⟨A5, c5, A6, c6, rfl, fun W hW => HM3.out W (hW.thru HLE.out (by simp [ChangeMaps.setBlock]) (fun k hk => ?_)), hx4.lo⟩
    have hl := HLT.out
    have hs := HM0.out.lt k
    have hd := HX3.out.hD
    exact (sb_other _ (by rcases hk with hk | hk; (· have := hs hk; omega); (· omega))).trans (sb_other _ (by rcases hk with hk | hk; (· have := hs hk; omega); (· omega)))
  ·
    have b0 : (o.kind == 0) = false := beq_eq_false_iff_ne.2 (by omega)
    have b1 : (o.kind == 1) = false := beq_eq_false_iff_ne.2 (by omega)
    have b5 : (o.kind == 5) = false := beq_eq_false_iff_ne.2 (by omega)
    have b2 : (o.kind == 2) = true := beq_iff_eq.2 hk
    have HCP := Aside0.mk (by have h := dchanges_calls (HM0.out.below HX.out.lo) hf hfb HW.out.wl.ok o HO.out; rw [changeD_eq s o (.inl hk)] at h; exact h)
    clear hk
    obtain ⟨x0, x1, x2, x3⟩ := cells4 HX.out.box
    obtain ⟨o0, o1, o2, o3, o4, o5, o6, o7, o8, o9, o10, o11, o12, o13, o14, o15⟩ := cells16 HX.out.op
    go_wp2_with fail
    refine HCP.out.mono ?_
    rintro e w3 ⟨A5, c5, A6, c6, rfl, hm, hb⟩
    have HX3 := Aside0.mk (HX.out.below hb)
    have HM3 := Aside0.mk hm
    have HLE := Aside0.mk (show w.heap.size ≤ w1.heap.size from HX.out.lo.size)
    have HLT := Aside0.mk (blk_lt HX.out.rep)
    clear hm hb HX HCP x0 x1 x2 x3 o0 o1 o2 o3 o4 o5 o6 o7 o8 o9 o10 o11 o12 o13 o14 o15
    obtain ⟨z0, z1, z2, z3⟩ := cells4 HX3.out.res
    obtain ⟨r0, r1, r2⟩ := cells3 HX3.out.rep
    have g0 := blk_frozen HX3.out.res 0
    have g1 := blk_frozen HX3.out.res 1
    have g2 := blk_frozen HX3.out.res 2
    have g3 := blk_frozen HX3.out.res 3
    have y0 := blk_frozen HX3.out.rep 0
    have y1 := blk_frozen HX3.out.rep 1
    have y2 := blk_frozen HX3.out.rep 2
    go_wp2_with fail
    rw [set4 HX3.out.res, set3 HX3.out.sres.rep]
    have hx4 := (HX3.out.sres (res' := #[.int .i64 (doR s o).2.n, .slice A5 (doR s o).2.L.length c5, .slice A6 (doR s o).2.by_.length c6, .int .i64 (doR s o).2.made])).srep (rep' := #[.int .i64 (doR s o).1.1, .int .i64 (doR s o).1.2.1, .int .u8 (doR s o).1.2.2])
    refine bodyPost_ret (results_cc rfl _ _ (D + 1 + 1) (D + 1 + 1 + 1) 29 42 _ _ (0, 0) (0, 0) _ _ rfl hx4.res Try.underlying29 rfl (by kernel_rfl) rfl hx4.rep Try.underlying42 rfl (by kernel_rfl)) rfl ?_
    refine ⟨A5, c5, A6, c6, rfl, fun W hW => HM3.out W (hW.thru HLE.out (by simp [ChangeMaps.setBlock]) (fun k hk => ?_)), hx4.lo⟩
    have hl := HLT.out
    have hs := HM0.out.lt k
    have hd := HX3.out.hD
    exact (sb_other _ (by rcases hk with hk | hk; (· have := hs hk; omega); (· omega))).trans (sb_other _ (by rcases hk with hk | hk; (· have := hs hk; omega); (· omega)))
  ·
    have b0 : (o.kind == 0) = false := beq_eq_false_iff_ne.2 (by omega)
    have b1 : (o.kind == 1) = false := beq_eq_false_iff_ne.2 (by omega)
    have b5 : (o.kind == 5) = false := beq_eq_false_iff_ne.2 (by omega)
    have b2 : (o.kind == 2) = false := beq_eq_false_iff_ne.2 (by omega)
    have b3 : (o.kind == 3) = true := beq_iff_eq.2 hk
    have HCP := Aside0.mk (by have h := dchanges_calls (HM0.out.below HX.out.lo) hf hfb HW.out.wl.ok o HO.out; rw [changeD_eq s o (.inr (.inl hk))] at h; exact h)
    clear hk
    obtain ⟨x0, x1, x2, x3⟩ := cells4 HX.out.box
    obtain ⟨o0, o1, o2, o3, o4, o5, o6, o7, o8, o9, o10, o11, o12, o13, o14, o15⟩ := cells16 HX.out.op
    go_wp2_with fail
    refine HCP.out.mono ?_
    rintro e w3 ⟨A5, c5, A6, c6, rfl, hm, hb⟩
    have HX3 := Aside0.mk (HX.out.below hb)
    have HM3 := Aside0.mk hm
    have HLE := Aside0.mk (show w.heap.size ≤ w1.heap.size from HX.out.lo.size)
    have HLT := Aside0.mk (blk_lt HX.out.rep)
    clear hm hb HX HCP x0 x1 x2 x3 o0 o1 o2 o3 o4 o5 o6 o7 o8 o9 o10 o11 o12 o13 o14 o15
    obtain ⟨z0, z1, z2, z3⟩ := cells4 HX3.out.res
    obtain ⟨r0, r1, r2⟩ := cells3 HX3.out.rep
    have g0 := blk_frozen HX3.out.res 0
    have g1 := blk_frozen HX3.out.res 1
    have g2 := blk_frozen HX3.out.res 2
    have g3 := blk_frozen HX3.out.res 3
    have y0 := blk_frozen HX3.out.rep 0
    have y1 := blk_frozen HX3.out.rep 1
    have y2 := blk_frozen HX3.out.rep 2
    go_wp2_with fail
    rw [set4 HX3.out.res, set3 HX3.out.sres.rep]
    have hx4 := (HX3.out.sres (res' := #[.int .i64 (doR s o).2.n, .slice A5 (doR s o).2.L.length c5, .slice A6 (doR s o).2.by_.length c6, .int .i64 (doR s o).2.made])).srep (rep' := #[.int .i64 (doR s o).1.1, .int .i64 (doR s o).1.2.1, .int .u8 (doR s o).1.2.2])
    refine bodyPost_ret (results_cc rfl _ _ (D + 1 + 1) (D + 1 + 1 + 1) 29 42 _ _ (0, 0) (0, 0) _ _ rfl hx4.res Try.underlying29 rfl (by kernel_rfl) rfl hx4.rep Try.underlying42 rfl (by kernel_rfl)) rfl ?_
    refine ⟨A5, c5, A6, c6, rfl, fun W hW => HM3.out W (hW.thru HLE.out (by simp [ChangeMaps.setBlock]) (fun k hk => ?_)), hx4.lo⟩
    have hl := HLT.out
    have hs := HM0.out.lt k
    have hd := HX3.out.hD
    exact (sb_other _ (by rcases hk with hk | hk; (· have := hs hk; omega); (· omega))).trans (sb_other _ (by rcases hk with hk | hk; (· have := hs hk; omega); (· omega)))
  ·
    have b0 : (o.kind == 0) = false := beq_eq_false_iff_ne.2 (by omega)
    have b1 : (o.kind == 1) = false := beq_eq_false_iff_ne.2 (by omega)
    have b5 : (o.kind == 5) = false := beq_eq_false_iff_ne.2 (by omega)
    have b2 : (o.kind == 2) = false := beq_eq_false_iff_ne.2 (by omega)
    have b3 : (o.kind == 3) = false := beq_eq_false_iff_ne.2 (by omega)
    have b4 : (o.kind == 4) = true := beq_iff_eq.2 hk
    have HCP := Aside0.mk (by have h := dchanges_calls (HM0.out.below HX.out.lo) hf hfb HW.out.wl.ok o HO.out; rw [changeD_eq s o (.inr (.inr hk))] at h; exact h)
    clear hk
    obtain ⟨x0, x1, x2, x3⟩ := cells4 HX.out.box
    obtain ⟨o0, o1, o2, o3, o4, o5, o6, o7, o8, o9, o10, o11, o12, o13, o14, o15⟩ := cells16 HX.out.op
    go_wp2_with fail
    refine HCP.out.mono ?_
    rintro e w3 ⟨A5, c5, A6, c6, rfl, hm, hb⟩
    have HX3 := Aside0.mk (HX.out.below hb)
    have HM3 := Aside0.mk hm
    have HLE := Aside0.mk (show w.heap.size ≤ w1.heap.size from HX.out.lo.size)
    have HLT := Aside0.mk (blk_lt HX.out.rep)
    clear hm hb HX HCP x0 x1 x2 x3 o0 o1 o2 o3 o4 o5 o6 o7 o8 o9 o10 o11 o12 o13 o14 o15
    obtain ⟨z0, z1, z2, z3⟩ := cells4 HX3.out.res
    obtain ⟨r0, r1, r2⟩ := cells3 HX3.out.rep
    have g0 := blk_frozen HX3.out.res 0
    have g1 := blk_frozen HX3.out.res 1
    have g2 := blk_frozen HX3.out.res 2
    have g3 := blk_frozen HX3.out.res 3
    have y0 := blk_frozen HX3.out.rep 0
    have y1 := blk_frozen HX3.out.rep 1
    have y2 := blk_frozen HX3.out.rep 2
    go_wp2_with fail
    rw [set4 HX3.out.res, set3 HX3.out.sres.rep]
    have hx4 := (HX3.out.sres (res' := #[.int .i64 (doR s o).2.n, .slice A5 (doR s o).2.L.length c5, .slice A6 (doR s o).2.by_.length c6, .int .i64 (doR s o).2.made])).srep (rep' := #[.int .i64 (doR s o).1.1, .int .i64 (doR s o).1.2.1, .int .u8 (doR s o).1.2.2])
    refine bodyPost_ret (results_cc rfl _ _ (D + 1 + 1) (D + 1 + 1 + 1) 29 42 _ _ (0, 0) (0, 0) _ _ rfl hx4.res Try.underlying29 rfl (by kernel_rfl) rfl hx4.rep Try.underlying42 rfl (by kernel_rfl)) rfl ?_
    refine ⟨A5, c5, A6, c6, rfl, fun W hW => HM3.out W (hW.thru HLE.out (by simp [ChangeMaps.setBlock]) (fun k hk => ?_)), hx4.lo⟩
    have hl := HLT.out
    have hs := HM0.out.lt k
    have hd := HX3.out.hD
    exact (sb_other _ (by rcases hk with hk | hk; (· have := hs hk; omega); (· omega))).trans (sb_other _ (by rcases hk with hk | hk; (· have := hs hk; omega); (· omega)))
  ·
    have b0 : (o.kind == 0) = false := beq_eq_false_iff_ne.2 (by omega)
    have b1 : (o.kind == 1) = false := beq_eq_false_iff_ne.2 (by omega)
    have b5 : (o.kind == 5) = true := beq_iff_eq.2 hk
    have HCP := Aside0.mk (by have h := dnews_calls (HM0.out.below HX.out.lo) hf HW.out.wl.ok HMD.out o HO.out; rw [newsD_eq s o (.inr hk)] at h; exact h)
    clear hk
    obtain ⟨x0, x1, x2, x3⟩ := cells4 HX.out.box
    obtain ⟨o0, o1, o2, o3, o4, o5, o6, o7, o8, o9, o10, o11, o12, o13, o14, o15⟩ := cells16 HX.out.op
    go_wp2_with fail
    refine HCP.out.mono ?_
    rintro e w3 ⟨A5, c5, A6, c6, rfl, hm, hb⟩
    have HX3 := Aside0.mk (HX.out.below hb)
    have HM3 := Aside0.mk hm
    have HLE := Aside0.mk (show w.heap.size ≤ w1.heap.size from HX.out.lo.size)
    have HLT := Aside0.mk (blk_lt HX.out.rep)
    clear hm hb HX HCP x0 x1 x2 x3 o0 o1 o2 o3 o4 o5 o6 o7 o8 o9 o10 o11 o12 o13 o14 o15
    obtain ⟨z0, z1, z2, z3⟩ := cells4 HX3.out.res
    obtain ⟨r0, r1, r2⟩ := cells3 HX3.out.rep
    have g0 := blk_frozen HX3.out.res 0
    have g1 := blk_frozen HX3.out.res 1
    have g2 := blk_frozen HX3.out.res 2
    have g3 := blk_frozen HX3.out.res 3
    have y0 := blk_frozen HX3.out.rep 0
    have y1 := blk_frozen HX3.out.rep 1
    have y2 := blk_frozen HX3.out.rep 2
    go_wp2_with fail
    rw [set4 HX3.out.res, set3 HX3.out.sres.rep]
    have hx4 := (HX3.out.sres (res' := #[.int .i64 (doR s o).2.n, .slice A5 (doR s o).2.L.length c5, .slice A6 (doR s o).2.by_.length c6, .int .i64 (doR s o).2.made])).srep (rep' := #[.int .i64 (doR s o).1.1, .int .i64 (doR s o).1.2.1, .int .u8 (doR s o).1.2.2])
    refine bodyPost_ret (results_cc rfl _ _ (D + 1 + 1) (D + 1 + 1 + 1) 29 42 _ _ (0, 0) (0, 0) _ _ rfl hx4.res Try.underlying29 rfl (by kernel_rfl) rfl hx4.rep Try.underlying42 rfl (by kernel_rfl)) rfl ?_
    refine ⟨A5, c5, A6, c6, rfl, fun W hW => HM3.out W (hW.thru HLE.out (by simp [ChangeMaps.setBlock]) (fun k hk => ?_)), hx4.lo⟩
    have hl := HLT.out
    have hs := HM0.out.lt k
    have hd := HX3.out.hD
    exact (sb_other _ (by rcases hk with hk | hk; (· have := hs hk; omega); (· omega))).trans (sb_other _ (by rcases hk with hk | hk; (· have := hs hk; omega); (· omega)))
  ·
    have b0 : (o.kind == 0) = false := beq_eq_false_iff_ne.2 (by omega)
    have b1 : (o.kind == 1) = false := beq_eq_false_iff_ne.2 (by omega)
    have b5 : (o.kind == 5) = false := beq_eq_false_iff_ne.2 (by omega)
    have b2 : (o.kind == 2) = false := beq_eq_false_iff_ne.2 (by omega)
    have b3 : (o.kind == 3) = false := beq_eq_false_iff_ne.2 (by omega)
    have b4 : (o.kind == 4) = false := beq_eq_false_iff_ne.2 (by omega)
    have b6 : (o.kind == 6) = true := beq_iff_eq.2 hk
    have HR0 := Aside0.mk (doR_6 s o hk)
    have b7 : (o.kind == 7) = false := beq_eq_false_iff_ne.2 (by omega)
    clear hk
    obtain ⟨x0, x1, x2, x3⟩ := cells4 HX.out.box
    obtain ⟨o0, o1, -⟩ := cells16 HX.out.op
    go_wp2_with fail
    refine (lookasideref16_is.calls s.n A1 c1 s.L A2 c2 s.by_ s.made o.sp (isAll s.n [o.sp]) w1 (HM.out.below HX.out.lo).l (HM.out.below HX.out.lo).lc (HM.out.below HX.out.lo).b (HM.out.below HX.out.lo).bc HIS.out).mono ?_
    rintro e w2 ⟨rfl, hb⟩
    have HX2 := Aside0.mk (HX.out.below hb)
    clear hb HX x0 x1 x2 x3 o0 o1
    obtain ⟨o0, o1, -, -, -, -, -, o7, -⟩ := cells16 HX2.out.op
    cases hia : isAll s.n [o.sp] with
    | false =>
      have HR := Aside0.mk (show doR s o = ((1, 0, 0), s) by rw [HR0.out]; unfold growE; rw [if_neg (by rw [hia]; simp)]; rfl)
      clear hia
      obtain ⟨x0, x1, x2, x3⟩ := cells4 HX2.out.box
      obtain ⟨z0, z1, z2, z3⟩ := cells4 HX2.out.res
      obtain ⟨r0, r1, r2⟩ := cells3 HX2.out.rep
      have g0 := blk_frozen HX2.out.res 0
      have g1 := blk_frozen HX2.out.res 1
      have g2 := blk_frozen HX2.out.res 2
      have g3 := blk_frozen HX2.out.res 3
      have y0 := blk_frozen HX2.out.rep 0
      have y1 := blk_frozen HX2.out.rep 1
      have y2 := blk_frozen HX2.out.rep 2
      go_wp2_with fail
      rw [set4 HX2.out.res, set3 HX2.out.sres.rep]
      have hx4 := (HX2.out.sres (res' := #[.int .i64 s.n, .slice A1 s.L.length c1, .slice A2 s.by_.length c2, .int .i64 s.made])).srep (rep' := #[.int .i64 1, .int .i64 0, .int .u8 0])
      refine bodyPost_ret (results_cc rfl _ _ (D + 1 + 1) (D + 1 + 1 + 1) 29 42 _ _ (0, 0) (0, 0) _ _ rfl hx4.res Try.underlying29 rfl (by kernel_rfl) rfl hx4.rep Try.underlying42 rfl (by kernel_rfl)) rfl ?_
      rw [HR.out]
      exact ⟨A1, c1, A2, c2, rfl, fun W hW => HM0.out.keep _ (hW.old HM0.out.lt hx4.lo), hx4.lo⟩
    | true =>
      by_cases hz0 : o.size < 0
      · have HR := Aside0.mk (show doR s o = ((1, 0, 0), s) by rw [HR0.out]; unfold growE; rw [if_neg (by omega)]; rfl)
        have d0 : decide (o.size < 0) = true := decide_eq_true hz0
        clear hia hz0
        obtain ⟨x0, x1, x2, x3⟩ := cells4 HX2.out.box
        obtain ⟨z0, z1, z2, z3⟩ := cells4 HX2.out.res
        obtain ⟨r0, r1, r2⟩ := cells3 HX2.out.rep
        have g0 := blk_frozen HX2.out.res 0
        have g1 := blk_frozen HX2.out.res 1
        have g2 := blk_frozen HX2.out.res 2
        have g3 := blk_frozen HX2.out.res 3
        have y0 := blk_frozen HX2.out.rep 0
        have y1 := blk_frozen HX2.out.rep 1
        have y2 := blk_frozen HX2.out.rep 2
        go_wp2_with fail
        rw [set4 HX2.out.res, set3 HX2.out.sres.rep]
        have hx4 := (HX2.out.sres (res' := #[.int .i64 s.n, .slice A1 s.L.length c1, .slice A2 s.by_.length c2, .int .i64 s.made])).srep (rep' := #[.int .i64 1, .int .i64 0, .int .u8 0])
        refine bodyPost_ret (results_cc rfl _ _ (D + 1 + 1) (D + 1 + 1 + 1) 29 42 _ _ (0, 0) (0, 0) _ _ rfl hx4.res Try.underlying29 rfl (by kernel_rfl) rfl hx4.rep Try.underlying42 rfl (by kernel_rfl)) rfl ?_
        rw [HR.out]
        exact ⟨A1, c1, A2, c2, rfl, fun W hW => HM0.out.keep _ (hW.old HM0.out.lt hx4.lo), hx4.lo⟩
      · by_cases hz3 : 3 < o.size
        · have HR := Aside0.mk (show doR s o = ((1, 0, 0), s) by rw [HR0.out]; unfold growE; rw [if_neg (by omega)]; rfl)
          have d0 : decide (o.size < 0) = false := decide_eq_false hz0
          have d3 : decide (3 < o.size) = true := decide_eq_true hz3
          clear hia hz0 hz3
          obtain ⟨x0, x1, x2, x3⟩ := cells4 HX2.out.box
          obtain ⟨z0, z1, z2, z3⟩ := cells4 HX2.out.res
          obtain ⟨r0, r1, r2⟩ := cells3 HX2.out.rep
          have g0 := blk_frozen HX2.out.res 0
          have g1 := blk_frozen HX2.out.res 1
          have g2 := blk_frozen HX2.out.res 2
          have g3 := blk_frozen HX2.out.res 3
          have y0 := blk_frozen HX2.out.rep 0
          have y1 := blk_frozen HX2.out.rep 1
          have y2 := blk_frozen HX2.out.rep 2
          go_wp2_with fail
          rw [set4 HX2.out.res, set3 HX2.out.sres.rep]
          have hx4 := (HX2.out.sres (res' := #[.int .i64 s.n, .slice A1 s.L.length c1, .slice A2 s.by_.length c2, .int .i64 s.made])).srep (rep' := #[.int .i64 1, .int .i64 0, .int .u8 0])
          refine bodyPost_ret (results_cc rfl _ _ (D + 1 + 1) (D + 1 + 1 + 1) 29 42 _ _ (0, 0) (0, 0) _ _ rfl hx4.res Try.underlying29 rfl (by kernel_rfl) rfl hx4.rep Try.underlying42 rfl (by kernel_rfl)) rfl ?_
          rw [HR.out]
          exact ⟨A1, c1, A2, c2, rfl, fun W hW => HM0.out.keep _ (hW.old HM0.out.lt hx4.lo), hx4.lo⟩
        · have HR := Aside0.mk (show doR s o = ((0, 0, 0), s) by rw [HR0.out]; unfold growE; rw [if_pos ⟨hia, by omega, by omega⟩]; rfl)
          have d0 : decide (o.size < 0) = false := decide_eq_false hz0
          have d3 : decide (3 < o.size) = false := decide_eq_false hz3
          clear hia hz0 hz3
          obtain ⟨x0, x1, x2, x3⟩ := cells4 HX2.out.box
          go_wp2_with fail
          refine (lookasideref16_Pages.calls _ s.n A1 c1 s.L A2 c2 s.by_ s.made o.sp (pagesS s o.sp) w2 (HM.out.below HX2.out.lo).l (HM.out.below HX2.out.lo).lc (HM.out.below HX2.out.lo).b (HM.out.below HX2.out.lo).bc HPG.out).mono ?_
          rintro e w3 ⟨v0, rfl, hr, hb⟩
          obtain ⟨Ap, cp, rfl⟩ := Kd.R_slice hr
          have HX3 := Aside0.mk (HX2.out.below hb)
          clear hb hr HX2 x0 x1 x2 x3 o0 o1 o7 d0 d3
          obtain ⟨x0, x1, x2, x3⟩ := cells4 HX3.out.box
          obtain ⟨o0, -⟩ := cells16 HX3.out.op
          obtain ⟨z0, z1, z2, z3⟩ := cells4 HX3.out.res
          obtain ⟨r0, r1, r2⟩ := cells3 HX3.out.rep
          have g0 := blk_frozen HX3.out.res 0
          have g1 := blk_frozen HX3.out.res 1
          have g2 := blk_frozen HX3.out.res 2
          have g3 := blk_frozen HX3.out.res 3
          have y0 := blk_frozen HX3.out.rep 0
          have y1 := blk_frozen HX3.out.rep 1
          have y2 := blk_frozen HX3.out.rep 2
          go_wp2_with fail
          refine wp_loop_rounds 1 ?_
          rw [rounds_succ]
          obtain ⟨z0, z1, z2, z3⟩ := cells4 HX3.out.res
          obtain ⟨r0, r1, r2⟩ := cells3 HX3.out.rep
          have g0 := blk_frozen HX3.out.res 0
          have g1 := blk_frozen HX3.out.res 1
          have g2 := blk_frozen HX3.out.res 2
          have g3 := blk_frozen HX3.out.res 3
          have y0 := blk_frozen HX3.out.rep 0
          have y1 := blk_frozen HX3.out.rep 1
          have y2 := blk_frozen HX3.out.rep 2
          go_wp2_with fail
          rw [set4 HX3.out.res, set3 HX3.out.sres.rep]
          have hx4 := (HX3.out.sres (res' := #[.int .i64 s.n, .slice A1 s.L.length c1, .slice A2 s.by_.length c2, .int .i64 s.made])).srep (rep' := #[.int .i64 0, .int .i64 0, .int .u8 0])
          refine bodyPost_ret (results_cc rfl _ _ (D + 1 + 1) (D + 1 + 1 + 1) 29 42 _ _ (0, 0) (0, 0) _ _ rfl hx4.res Try.underlying29 rfl (by kernel_rfl) rfl hx4.rep Try.underlying42 rfl (by kernel_rfl)) rfl ?_
          rw [HR.out]
          exact ⟨A1, c1, A2, c2, rfl, fun W hW => HM0.out.keep _ (hW.old HM0.out.lt hx4.lo), hx4.lo⟩
  ·
    have b0 : (o.kind == 0) = false := beq_eq_false_iff_ne.2 (by omega)
    have b1 : (o.kind == 1) = false := beq_eq_false_iff_ne.2 (by omega)
    have b5 : (o.kind == 5) = false := beq_eq_false_iff_ne.2 (by omega)
    have b2 : (o.kind == 2) = false := beq_eq_false_iff_ne.2 (by omega)
    have b3 : (o.kind == 3) = false := beq_eq_false_iff_ne.2 (by omega)
    have b4 : (o.kind == 4) = false := beq_eq_false_iff_ne.2 (by omega)
    have b6 : (o.kind == 6) = false := beq_eq_false_iff_ne.2 (by omega)
    have b7 : (o.kind == 7) = true := beq_iff_eq.2 hk
    have HR0 := Aside0.mk (doR_7 s o hk)
    clear hk
    obtain ⟨x0, x1, x2, x3⟩ := cells4 HX.out.box
    obtain ⟨o0, o1, -⟩ := cells16 HX.out.op
    go_wp2_with fail
    refine (lookasideref16_is.calls s.n A1 c1 s.L A2 c2 s.by_ s.made o.sp (isAll s.n [o.sp]) w1 (HM.out.below HX.out.lo).l (HM.out.below HX.out.lo).lc (HM.out.below HX.out.lo).b (HM.out.below HX.out.lo).bc HIS.out).mono ?_
    rintro e w2 ⟨rfl, hb⟩
    have HX2 := Aside0.mk (HX.out.below hb)
    clear hb HX x0 x1 x2 x3 o0 o1
    obtain ⟨o0, o1, -⟩ := cells16 HX2.out.op
    cases hia : isAll s.n [o.sp] with
    | false =>
      have HR := Aside0.mk (show doR s o = ((1, 0, 0), s) by rw [HR0.out]; unfold destroyR; rw [if_neg (by rw [hia]; simp)]; rfl)
      clear hia
      obtain ⟨x0, x1, x2, x3⟩ := cells4 HX2.out.box
      obtain ⟨z0, z1, z2, z3⟩ := cells4 HX2.out.res
      obtain ⟨r0, r1, r2⟩ := cells3 HX2.out.rep
      have g0 := blk_frozen HX2.out.res 0
      have g1 := blk_frozen HX2.out.res 1
      have g2 := blk_frozen HX2.out.res 2
      have g3 := blk_frozen HX2.out.res 3
      have y0 := blk_frozen HX2.out.rep 0
      have y1 := blk_frozen HX2.out.rep 1
      have y2 := blk_frozen HX2.out.rep 2
      go_wp2_with fail
      rw [set4 HX2.out.res, set3 HX2.out.sres.rep]
      have hx4 := (HX2.out.sres (res' := #[.int .i64 s.n, .slice A1 s.L.length c1, .slice A2 s.by_.length c2, .int .i64 s.made])).srep (rep' := #[.int .i64 1, .int .i64 0, .int .u8 0])
      refine bodyPost_ret (results_cc rfl _ _ (D + 1 + 1) (D + 1 + 1 + 1) 29 42 _ _ (0, 0) (0, 0) _ _ rfl hx4.res Try.underlying29 rfl (by kernel_rfl) rfl hx4.rep Try.underlying42 rfl (by kernel_rfl)) rfl ?_
      rw [HR.out]
      exact ⟨A1, c1, A2, c2, rfl, fun W hW => HM0.out.keep _ (hW.old HM0.out.lt hx4.lo), hx4.lo⟩
    | true =>
      have HR := Aside0.mk (show doR s o = ((0, 0, 0), destS s o.sp) by rw [HR0.out]; unfold destroyR; rw [if_pos hia]; rfl)
      clear hia
      obtain ⟨x0, x1, x2, x3⟩ := cells4 HX2.out.box
      go_wp2_with fail
      refine (lookasideref16_Pages.calls _ s.n A1 c1 s.L A2 c2 s.by_ s.made o.sp (pagesS s o.sp) w2 (HM.out.below HX2.out.lo).l (HM.out.below HX2.out.lo).lc (HM.out.below HX2.out.lo).b (HM.out.below HX2.out.lo).bc HPG.out).mono ?_
      rintro e w3 ⟨v0, rfl, hr, hb⟩
      obtain ⟨Ap, cp, rfl⟩ := Kd.R_slice hr
      have HX3 := Aside0.mk (HX2.out.below hb)
      have HP3 := Aside0.mk hr
      have HSZ := Aside0.mk hb.size
      have HD3 := Aside0.mk (DocX.grow (X' := fun k => X k ∨ (w2.heap.size ≤ k ∧ k < w3.heap.size)) (HM0.out.below HX3.out.lo) (fun k hk => .inl hk) (fun k hk => by rcases hk with hk | hk; (· exact Nat.lt_of_lt_of_le (HM0.out.lt k hk) HX3.out.lo.size); (· exact hk.2)))
      have HDL := Aside0.mk (show D < w2.heap.size from blk_lt HX2.out.box)
      have HDL2 := Aside0.mk (show D + 1 + 1 + 1 < w2.heap.size from blk_lt HX2.out.rep)
      have hpl : (pagesS s o.sp).length ≤ 100000 := Nat.le_trans (pagesS_len s o.sp) hf
      clear hb hr HX2 x0 x1 x2 x3 o0 o1 b0 b1 b5 b2 b3 b4 b6
      obtain ⟨pl, hpe⟩ : ∃ n, (pagesS s o.sp).length = n := ⟨_, rfl⟩
      have HPE := Aside0.mk hpe
      rw [hpe] at hpl ⊢
      rw [hpe] at HP3
      clear hpe
      go_wp2_with fail
      go_loopg [8] pl (fun kq iv W => ∃ (j : Nat) (t : MS) (A3 : Option Addr) (c3 : Nat) (A4 : Option Addr) (c4 : Nat), iv = .int .i64 (j : Int) ∧ j + kq = pl ∧ Aside0 (t = dropN s o.sp j) ∧ Aside0 (DocX (fun k => X k ∨ (w2.heap.size ≤ k ∧ k < W.heap.size)) W A3 c3 A4 c4 t) ∧ Aside0 (Bo w W D #[.int .i64 t.n, .slice A3 t.L.length c3, .slice A4 t.by_.length c4, .int .i64 t.made] #[.int .i64 o.kind, .int .i64 o.sp, .int .i64 o.ak, .bool o.ap, .int .u64 o.av, .int .u8 o.byte, .int .u64 o.va, .int .i64 o.size, .bool o.at_.f0, .bool o.at_.f1, .bool o.at_.f2, .bool o.at_.f3, .bool o.at_.f4, .bool o.at_.f5, .int .i64 o.other, .int .u64 o.too] #[.int .i64 0, .slice none 0 0, .slice none 0 0, .int .i64 0] #[.int .i64 0, .int .i64 0, .int .u8 0]) ∧ Aside0 (Kd.R k50 50 W w2.heap.size (fun _ => True) (.slice Ap pl cp) (pagesS s o.sp)) ∧ Aside0 (w2.heap.size ≤ W.heap.size))
      case atStart => exact ⟨0, s, A1, c1, A2, c2, rfl, by omega, ⟨rfl⟩, HD3, HX3, HP3, HSZ⟩
      case round =>
        clear HD3 HX3 HP3 HSZ
        obtain ⟨j, t, A3, c3, A4, c4, rfl, hjk, HT, HDX, HX, HP, HSZ⟩ := hrel
        obtain ⟨x0, x1, x2, x3⟩ := cells4 HX.out.box
        obtain ⟨o0, o1, -⟩ := cells16 HX.out.op
        by_cases hlt : j < pl
        · have hk0 : (0 : Int) ≤ (j : Int) := by omega
          have hk1 : (j : Int) < (pl : Int) := by omega
          obtain ⟨i, x, va, hti, hpv, hva, hat, hdn, hpa⟩ := dropN_next HW.out o.sp (j := j) (by rw [HPE.out]; exact hlt)
          rw [← HT.out] at hti hat hdn
          have hrd : rd_T50 (pagesS s o.sp) (j : Int) = (pagesS s o.sp)[j]'(by rw [HPE.out]; exact hlt) := by simp [rd_T50, List.getD_eq_getElem?_getD, show j < (pagesS s o.sp).length by rw [HPE.out]; exact hlt]
          have hpc := (Kd.R_reads' HP.out)
          rw [HPE.out] at hpc
          obtain ⟨ad, hA, q0, -⟩ := at_T50 hpc.2.2 (j : Int) hk0 hk1
          subst hA
          rw [hrd, hpv, Int.toNat_natCast] at q0
          have HTI := Aside0.mk hti
          have HPA := Aside0.mk hpa
          have HKT := Aside0.mk (show WfK k t by rw [HT.out]; exact HW.out.dropN o.sp j)
          have HTL := Aside0.mk (show t.L.length ≤ 100000 by have := HKT.out.few; have := HKL.out; omega)
          have HTB := Aside0.mk (show t.by_.length ≤ 100000 by have := HKT.out.blen; have := HKL.out; omega)
          have har := at_r o.sp va hva t.n t.made t.L t.by_ HTL.out HKT.out.wl.ok
          rw [hat] at har
          have HAT := Aside0.mk har
          obtain ⟨u, hu⟩ : ∃ u, dropS t i x = u := ⟨_, rfl⟩
          have HTU := Aside0.mk hu
          rw [hu] at hdn
          have HUN := Aside0.mk hdn
          have HQ := Aside0.mk q0
          clear hrd hpv hva hat hdn hpa hti har hu hpc
          go_upto_region 20 with fail
          have HH := Aside0.mk (show ∀ W, Below wr.heap.size wr W → (W.cell? ⟨D, 0, none⟩ = some (.int .i64 t.n) ∧ W.cell? ⟨D, 1, none⟩ = some (.slice A3 t.L.length c3) ∧ W.cell? ⟨D, 2, none⟩ = some (.slice A4 t.by_.length c4) ∧ W.cell? ⟨D, 3, none⟩ = some (.int .i64 t.made) ∧ W.cell? ⟨D + 1, 1, none⟩ = some (.int .i64 o.sp) ∧ W.cell? (ad.add (j * 11)) = some (.int .u64 (va : Int))) from fun W hb => by
            obtain ⟨x0, x1, x2, x3⟩ := cells4 (HX.out.below hb).box
            obtain ⟨-, o1, -⟩ := cells16 (HX.out.below hb).op
            exact ⟨x0, x1, x2, x3, o1, (hb.cell (World.block_lt_of_cell? _ _ HQ.out)).trans HQ.out⟩)
          clear o0 b7
          refine start_ (n := 12) (S := fun w' => w'.cell? ⟨D, 0, none⟩ = some (.int .i64 t.n) ∧ w'.cell? ⟨D, 1, none⟩ = some (.slice A3 t.L.length c3) ∧ w'.cell? ⟨D, 2, none⟩ = some (.slice A4 t.by_.length c4) ∧ w'.cell? ⟨D, 3, none⟩ = some (.int .i64 t.made) ∧ w'.cell? ⟨D + 1, 1, none⟩ = some (.int .i64 o.sp) ∧ w'.cell? (ad.add (j * 11)) = some (.int .u64 (va : Int))) (ds := [11]) #[false, false, false, false, false, false, false, false, false, false, false, false] (by kernel_rfl) rfl rfl (by exact ⟨x0, x1, x2, x3, o1, q0⟩) (fun hHeld => ?_)
          refine pure_ (i := 2) (N := some 78) (v := ?_) (a' := ?_) #[false, false, true, false, false, false, false, false, false, false, false, false] rfl rfl (by kernel_rfl) (fun _ _ _ h => h) (Or.inl ⟨by rfl, ?_⟩) ?_ ?_
          rotate_left
          · intro w'
            go_simp
            with_reducible rfl
          rotate_left
          · simp only [Act.put, List.setIfInBounds_toArray, List.set_cons_zero, List.set_cons_succ, i64_w, i32_w]
            rfl
          refine pure_ (i := 4) (N := some 80) (v := ?_) (a' := ?_) #[false, false, true, false, true, false, false, false, false, false, false, false] rfl rfl (by kernel_rfl) (fun _ _ _ h => h) (Or.inl ⟨by rfl, ?_⟩) ?_ ?_
          rotate_left
          · intro w'
            go_simp
            with_reducible rfl
          rotate_left
          · simp only [Act.put, List.setIfInBounds_toArray, List.set_cons_zero, List.set_cons_succ, i64_w, i32_w]
            rfl
          refine pure_ (i := 5) (N := some 81) (v := ?_) (a' := ?_) #[false, false, true, false, true, true, false, false, false, false, false, false] rfl rfl (by kernel_rfl) (fun _ _ _ h => h) (Or.inl ⟨by rfl, ?_⟩) ?_ ?_
          rotate_left
          · intro w'
            go_simp
            with_reducible rfl
          rotate_left
          · simp only [Act.put, List.setIfInBounds_toArray, List.set_cons_zero, List.set_cons_succ, i64_w, i32_w]
            rfl
          refine pure_ (i := 6) (N := some 82) (v := ?_) (a' := ?_) #[false, false, true, false, true, true, true, false, false, false, false, false] rfl rfl (by kernel_rfl) (fun _ _ _ h => h) (Or.inl ⟨by rfl, ?_⟩) ?_ ?_
          rotate_left
          · intro w'
            go_simp
            with_reducible rfl
          rotate_left
          · simp only [Act.put, List.setIfInBounds_toArray, List.set_cons_zero, List.set_cons_succ, i64_w, i32_w]
            rfl
          refine pure_ (i := 7) (N := some 83) (v := ?_) (a' := ?_) #[false, false, true, false, true, true, true, true, false, false, false, false] rfl rfl (by kernel_rfl) (fun _ _ _ h => h) (Or.inl ⟨by rfl, ?_⟩) ?_ ?_
          rotate_left
          · intro w'
            go_simp
            with_reducible rfl
          rotate_left
          · simp only [Act.put, List.setIfInBounds_toArray, List.set_cons_zero, List.set_cons_succ, i64_w, i32_w]
            rfl
          refine take_ (i := 0) (N := some 76) (v := ?_) (a' := ?_) #[true, false, true, false, true, true, true, true, false, false, false, false] rfl rfl (by kernel_rfl) (fun _ _ _ h => h) (Or.inl ⟨by rfl, ?_⟩) hHeld ?_ ?_
          rotate_left
          · rintro w' ⟨s0, s1, s2, s3, s4, s5⟩
            go_simp
            with_reducible rfl
          rotate_left
          · simp only [Act.put, List.setIfInBounds_toArray, List.set_cons_zero, List.set_cons_succ, i64_w, i32_w]
            rfl
          refine take_ (i := 1) (N := some 77) (v := ?_) (a' := ?_) #[true, true, true, false, true, true, true, true, false, false, false, false] rfl rfl (by kernel_rfl) (fun _ _ _ h => h) (Or.inl ⟨by rfl, ?_⟩) hHeld ?_ ?_
          rotate_left
          · rintro w' ⟨s0, s1, s2, s3, s4, s5⟩
            go_simp
            with_reducible rfl
          rotate_left
          · simp only [Act.put, List.setIfInBounds_toArray, List.set_cons_zero, List.set_cons_succ, i64_w, i32_w]
            rfl
          refine take_ (i := 3) (N := some 79) (v := ?_) (a' := ?_) #[true, true, true, true, true, true, true, true, false, false, false, false] rfl rfl (by kernel_rfl) (fun _ _ _ h => h) (Or.inl ⟨by rfl, ?_⟩) hHeld ?_ ?_
          rotate_left
          · rintro w' ⟨s0, s1, s2, s3, s4, s5⟩
            go_simp
            with_reducible rfl
          rotate_left
          · simp only [Act.put, List.setIfInBounds_toArray, List.set_cons_zero, List.set_cons_succ, i64_w, i32_w]
            rfl
          refine take_ (i := 8) (N := some 84) (v := ?_) (a' := ?_) #[true, true, true, true, true, true, true, true, true, false, false, false] rfl rfl (by kernel_rfl) (fun _ _ _ h => h) (Or.inl ⟨by rfl, ?_⟩) hHeld ?_ ?_
          rotate_left
          · rintro w' ⟨s0, s1, s2, s3, s4, s5⟩
            go_simp
            with_reducible rfl
          rotate_left
          · simp only [Act.put, List.setIfInBounds_toArray, List.set_cons_zero, List.set_cons_succ, i64_w, i32_w]
            rfl
          refine one_ (i := 9) (N := some 85) #[true, true, true, true, true, true, true, true, true, true, false, false] rfl rfl (by kernel_rfl) (by decide) (fun K hK => ?_)
          refine goes_ Try.func36 (by kernel_rfl) rfl #[.agg #[.int .i64 t.n, .slice A3 t.L.length c3, .slice A4 t.by_.length c4, .int .i64 t.made], .int .i64 o.sp, .int .u64 (va : Int)] (by rfl) rfl rfl (by (try simp only [List.map_toArray, List.map_cons, List.map_nil]); first | done | rfl) ?_
          refine (lookasideref16_At.calls (t.L.length + 1) t.n A3 c3 t.L A4 c4 t.by_ t.made o.sp (va : Int) (i : Int) _ (HDX.out.m.below (Below.refl _ wr).drew).l (HDX.out.m.below (Below.refl _ wr).drew).lc (HDX.out.m.below (Below.refl _ wr).drew).b (HDX.out.m.below (Below.refl _ wr).drew).bc HAT.out).mono ?_
          rintro e w5 ⟨rfl, hbel⟩
          refine ⟨_, rfl, ?_⟩
          have hb5 := (Below.refl _ wr).drew.trans hbel
          have HB5 := Aside0.mk hb5
          clear hbel hb5
          refine hK.out _ _ (HH.out _ HB5.out) (fun hHeld => ?_)
          clear hK K
          refine norm_ (a' := ?_) ?_ ?_
          rotate_left
          · show Act.put _ (some 85) _ = _
            simp only [Act.put, List.setIfInBounds_toArray, List.set_cons_zero, List.set_cons_succ, i64_w, i32_w]
            rfl
          refine one_ (i := 10) (N := some 86) #[true, true, true, true, true, true, true, true, true, true, true, false] rfl rfl (by kernel_rfl) (by decide) (fun K hK => ?_)
          refine goes_ Try.func35 (by kernel_rfl) rfl #[.agg #[.int .i64 t.n, .slice A3 t.L.length c3, .slice A4 t.by_.length c4, .int .i64 t.made], .int .i64 (i : Int)] (by rfl) rfl rfl (by (try simp only [List.map_toArray, List.map_cons, List.map_nil]); first | done | rfl) ?_
          refine (ddrop_calls (HDX.out.below HB5.out) HTL.out HTB.out HTI.out HPA.out).mono ?_
          rintro e w6 ⟨A5, c5, A6, c6, rfl, hm6, hbel⟩
          rw [HTU.out] at hm6 ⊢
          refine ⟨_, rfl, ?_⟩
          have hb6 := HB5.out.trans (hbel.mono HB5.out.size)
          have HB6 := Aside0.mk hb6
          have HM6 := Aside0.mk (DocX.of (HDX.out.below HB5.out).lt hm6 hbel)
          have HBL := Aside0.mk hbel
          clear hbel hb6 hm6
          have HX6 := Aside0.mk (HX.out.below HB6.out)
          obtain ⟨z0, z1, z2, z3⟩ := cells4 HX6.out.box
          have g0 := blk_frozen HX6.out.box 0
          have g1 := blk_frozen HX6.out.box 1
          have g2 := blk_frozen HX6.out.box 2
          have g3 := blk_frozen HX6.out.box 3
          refine hK.out _ _ (HH.out _ HB6.out) (fun hHeld => ?_)
          clear hK K
          refine norm_ (a' := ?_) ?_ ?_
          rotate_left
          · show Act.put _ (some 86) _ = _
            simp only [Act.put, List.setIfInBounds_toArray, List.set_cons_zero, List.set_cons_succ, i64_w, i32_w]
            rfl
          refine last_ (i := 11) (N := none) #[true, true, true, true, true, true, true, true, true, true, true, true] rfl rfl (by kernel_rfl) (by decide) (fun K hK => ?_)
          refine skip_ (w1 := ?_) (by rfl) rfl ?_ ?_
          rotate_left
          · go_simp
            with_reducible rfl
          refine hK.out _ _ ?_
          clear hK K
          refine done_ (by kernel_rfl) ?_
          (try simp only [Exit.inBlock, Exit.then])
          rw [set4 HX6.out.box]
          have hDX : ¬ (X D ∨ (w2.heap.size ≤ D ∧ D < w6.heap.size)) := by
            have h1 := HM0.out.lt D
            have h2 := HX6.out.hD
            have h3 := HDL.out
            rintro (h | h)
            · have := h1 h; omega
            · omega
          have hsz6 : wr.heap.size ≤ w6.heap.size := HB6.out.size
          have hd7 := (DocX.grow (X' := fun k => X k ∨ (w2.heap.size ≤ k ∧ k < w6.heap.size)) HM6.out (fun k hk => by
            have h1 := HB5.out.size
            have h2 := HSZ.out
            have h3 := HBL.out.size
            rcases hk with (hk | hk) | hk
            · exact .inl hk
            · exact .inr ⟨hk.1, by omega⟩
            · exact .inr ⟨by omega, hk.2⟩) (fun k hk => by rcases hk with hk | hk; (· have := HM0.out.lt k hk; have := HX6.out.lo.size; omega); (· exact hk.2))).sb hDX (.cells #[.int .i64 u.n, .slice A5 u.L.length c5, .slice A6 u.by_.length c6, .int .i64 u.made] 29 (0, 0))
          have HD7 := Aside0.mk hd7
          have HX7 := Aside0.mk (HX6.out.sbox (box' := #[.int .i64 u.n, .slice A5 u.L.length c5, .slice A6 u.by_.length c6, .int .i64 u.made]))
          have HP7 := Aside0.mk (Kd.R_mono (Kd.R_move (Kd.R_bound (Kd.R_below HP.out HB6.out)) (fun k hk => sb_other (W := w6) (b := D) (k := k) (.cells #[.int .i64 u.n, .slice A5 u.L.length c5, .slice A6 u.by_.length c6, .int .i64 u.made] 29 (0, 0)) (by have := HDL.out; have := hk.2.1; omega))) (fun _ _ => trivial))
          have HS7 := Aside0.mk (show (ChangeMaps.setBlock w6 D (.cells #[.int .i64 u.n, .slice A5 u.L.length c5, .slice A6 u.by_.length c6, .int .i64 u.made] 29 (0, 0))).heap.size = w6.heap.size by simp [ChangeMaps.setBlock])
          have HZ7 := Aside0.mk (show w2.heap.size ≤ (ChangeMaps.setBlock w6 D (.cells #[.int .i64 u.n, .slice A5 u.L.length c5, .slice A6 u.by_.length c6, .int .i64 u.made] 29 (0, 0))).heap.size by rw [HS7.out]; exact Nat.le_trans HSZ.out hsz6)
          rw [← HS7.out] at HD7
          generalize ChangeMaps.setBlock w6 D (.cells #[.int .i64 u.n, .slice A5 u.L.length c5, .slice A6 u.by_.length c6, .int .i64 u.made] 29 (0, 0)) = w7 at *
          clear hd7 hDX hsz6 z0 z1 z2 z3 g0 g1 g2 g3 x0 x1 x2 x3 o1 q0 hHeld
          go_wp2_with fail
          go_roundg (gk - 1)
          case measure => omega
          case rel => exact ⟨j + 1, u, A5, c5, A6, c6, by go_num, by omega, HUN, HD7, HX7, HP7, HZ7⟩
        · have hk1 : ¬ (j : Int) < (pl : Int) := by omega
          have hd : decide ((j : Int) < (pl : Int)) = false := decide_eq_false hk1
          have HTE := Aside0.mk (show doR s o = ((0, 0, 0), t) by rw [HR.out, HT.out, show j = (pagesS s o.sp).length by rw [HPE.out]; omega, dropN_all])
          obtain ⟨z0, z1, z2, z3⟩ := cells4 HX.out.res
          obtain ⟨r0, r1, r2⟩ := cells3 HX.out.rep
          have g0 := blk_frozen HX.out.res 0
          have g1 := blk_frozen HX.out.res 1
          have g2 := blk_frozen HX.out.res 2
          have g3 := blk_frozen HX.out.res 3
          have y0 := blk_frozen HX.out.rep 0
          have y1 := blk_frozen HX.out.rep 1
          have y2 := blk_frozen HX.out.rep 2
          go_wp2_with fail
          rw [set4 HX.out.res, set3 HX.out.sres.rep]
          have hx4 := (HX.out.sres (res' := #[.int .i64 t.n, .slice A3 t.L.length c3, .slice A4 t.by_.length c4, .int .i64 t.made])).srep (rep' := #[.int .i64 0, .int .i64 0, .int .u8 0])
          refine bodyPost_ret (results_cc rfl _ _ (D + 1 + 1) (D + 1 + 1 + 1) 29 42 _ _ (0, 0) (0, 0) _ _ rfl hx4.res Try.underlying29 rfl (by kernel_rfl) rfl hx4.rep Try.underlying42 rfl (by kernel_rfl)) rfl ?_
          rw [HTE.out]
          refine ⟨A3, c3, A4, c4, rfl, fun W hW => HDX.out.keep W (fun k hk => ?_), hx4.lo⟩
          have h1 := HM0.out.lt k
          have h2 := HX.out.hD
          have h3 := HDL.out
          have h6 := HX.out.lo.size
          have h7 := blk_lt HX.out.rep
          have hsz : (ChangeMaps.setBlock (ChangeMaps.setBlock wr (D + 1 + 1) (.cells #[.int .i64 t.n, .slice A3 t.L.length c3, .slice A4 t.by_.length c4, .int .i64 t.made] 29 (0, 0))) (D + 1 + 1 + 1) (.cells #[.int .i64 0, .int .i64 0, .int .u8 0] 42 (0, 0))).heap.size = wr.heap.size := by simp [ChangeMaps.setBlock]
          have h8 := HDL2.out
          refine (hW k (by rw [hsz]; rcases hk with hk | hk; (· exact .inl hk); (· exact .inr (by omega)))).trans ?_
          exact (sb_other _ (by rcases hk with hk | hk; (· have := h1 hk; omega); (· omega))).trans (sb_other _ (by rcases hk with hk | hk; (· have := h1 hk; omega); (· omega)))
  · have HR := Aside0.mk (doR_bad s o hk)
    have b0 : (o.kind == 0) = false := beq_eq_false_iff_ne.2 (by omega)
    have b1 : (o.kind == 1) = false := beq_eq_false_iff_ne.2 (by omega)
    have b2 : (o.kind == 2) = false := beq_eq_false_iff_ne.2 (by omega)
    have b3 : (o.kind == 3) = false := beq_eq_false_iff_ne.2 (by omega)
    have b4 : (o.kind == 4) = false := beq_eq_false_iff_ne.2 (by omega)
    have b5 : (o.kind == 5) = false := beq_eq_false_iff_ne.2 (by omega)
    have b6 : (o.kind == 6) = false := beq_eq_false_iff_ne.2 (by omega)
    have b7 : (o.kind == 7) = false := beq_eq_false_iff_ne.2 (by omega)
    clear hk
    obtain ⟨o0, -⟩ := cells16 HX.out.op
    obtain ⟨x0, x1, x2, x3⟩ := cells4 HX.out.box
    obtain ⟨z0, z1, z2, z3⟩ := cells4 HX.out.res
    obtain ⟨r0, r1, r2⟩ := cells3 HX.out.rep
    have g0 := blk_frozen HX.out.res 0
    have g1 := blk_frozen HX.out.res 1
    have g2 := blk_frozen HX.out.res 2
    have g3 := blk_frozen HX.out.res 3
    have y0 := blk_frozen HX.out.rep 0
    have y1 := blk_frozen HX.out.rep 1
    have y2 := blk_frozen HX.out.rep 2
    go_wp2_with fail
    rw [set4 HX.out.res, set3 HX.out.sres.rep]
    have hx4 := (HX.out.sres (res' := #[.int .i64 s.n, .slice A1 s.L.length c1, .slice A2 s.by_.length c2, .int .i64 s.made])).srep (rep' := #[.int .i64 1, .int .i64 0, .int .u8 0])
    refine bodyPost_ret (results_cc rfl _ _ (D + 1 + 1) (D + 1 + 1 + 1) 29 42 _ _ (0, 0) (0, 0) _ _ rfl hx4.res Try.underlying29 rfl (by kernel_rfl) rfl hx4.rep Try.underlying42 rfl (by kernel_rfl)) rfl ?_
    rw [HR.out]
    exact ⟨A1, c1, A2, c2, rfl, fun W hW => HM0.out.keep _ (hW.old HM0.out.lt hx4.lo), hx4.lo⟩
end
end Go.Proofs.Ytalmemcidbmdgaa.PM




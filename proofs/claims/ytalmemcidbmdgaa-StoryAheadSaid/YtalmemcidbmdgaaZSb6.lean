import Derived.Test.YtalmemcidbmdgaaZSb5
/- A model (layer 16): destroy: the walk. -/
set_option linter.unusedVariables false
set_option linter.unusedSimpArgs false
namespace Go.Proofs.Ytalmemcidbmdgaa.PM
open Go.RowKit Go.Proofs.YtalmemcidbmdgaaW.PrintWords Go.Proofs.YtalmemcidbmdgaaW.PrintLast Go.Proofs.YtalmemcidbmdgaaW.PrintMore Go.Proofs.Ytalmemcidbmdgaa.PageG
attribute [local go_sem] max2_int min2_int max_two min_two max_three min_three max_four min_four   -- for this text's walks alone
section
variable {w w' : World} {B pm bm : Nat} {s : MS}
def DestP (w : World) (B pm bm : Nat) (s : MS) (o : OpS) (e : Ending) (w' : World) : Prop :=
  ∃ (n : Int) (t : MS), e = .returned (.agg #[.int .i64 n, .int .i64 0, .int .u8 0]) ∧ ((isAll s.n [o.sp] = false ∧ n = 1 ∧ t = s) ∨ (isAll s.n [o.sp] = true ∧ n = 0 ∧ Gone s o.sp t)) ∧ Mo w' B pm bm t ∧ Mv [B, pm, bm] w w'
theorem add_block (ad : Addr) (n : Nat) : (ad.add n).block = ad.block := by
  unfold Addr.add
  (repeat' split) <;> rfl
theorem C_mv {α : Type} {d : Kd α} {A : Option Addr} {l : List α} {S : List Nat} (hd : ∀ w1 w2 x cs, d.K w1 x cs → d.K w2 x cs) (h : Kd.C d w A l.length l) (hm : Mv S w w') (hA : ∀ ad, A = some ad → ad.block ∉ S) : Kd.C d w' A l.length l := by
  refine ⟨h.1, h.2.1, fun hn => ?_⟩
  obtain ⟨ad, e, hc⟩ := h.2.2 hn
  refine ⟨ad, e, fun j p hj => ?_⟩
  obtain ⟨c, hs, hr, hcell⟩ := hc j p hj
  exact ⟨c, hs, hd _ _ _ _ hr, fun i u hu => hm.cell (hcell i u hu) ((add_block ad _).symm ▸ hA ad e)⟩
theorem kP_any (w1 w2 : World) (x : Pg) (cs : List Value) (h : k50.K w1 x cs) : k50.K w2 x cs := by
  rw [k50_open h]
  exact k50_mk w2 x
/-- destroy's loop. -/
structure DW (w W : World) (B pm bm : Nat) (s : MS) (o : OpS) (D : Nat) (A : Option Addr) (l : List Pg) (j : Nat) (t : MS) : Prop where
  ds : DS s o.sp l j t
  mo : Mo W B pm bm t
  mv : Mv [B, pm, bm] w W
  o1 : W.cell? ⟨D, 1, none⟩ = some (.int .i64 o.sp)
  hz : W.heap[D + 1]? = some (.cells #[.int .i64 0, .int .i64 0, .int .u8 0] 42 (0, 0))
  hC : Kd.C k50 W A l.length l
  lt : ∀ k ∈ [B, pm, bm], k < w.heap.size
  hA : ∀ ad, A = some ad → w.heap.size ≤ ad.block
  hD : w.heap.size = D
theorem DW.below {W W' : World} {o : OpS} {D j : Nat} {A : Option Addr} {l : List Pg} {t : MS} (h : DW w W B pm bm s o D A l j t) (hb : Below W.heap.size W W') : DW w W' B pm bm s o D A l j t :=
  ⟨h.ds, h.mo.below hb, h.mv.trans (S' := []) (Mv.of_below hb) (fun _ hk => by simp at hk), cell_up hb h.o1, blk_below h.hz hb, Kd.C_below h.hC hb, h.lt, h.hA, h.hD⟩
theorem DW.step {W W' : World} {o : OpS} {D j j' : Nat} {A : Option Addr} {l : List Pg} {t t' : MS} (h : DW w W B pm bm s o D A l j t) (hd : DS s o.sp l j' t') (hm : Mo W' B pm bm t') (hv : Mv [B, pm, bm] W W') : DW w W' B pm bm s o D A l j' t' := by
  have hn : ∀ k, w.heap.size ≤ k → k ∉ [B, pm, bm] := fun k hk hm => by have := h.lt k hm; omega
  have hD := h.hD
  exact ⟨hd, hm, h.mv.then hv, hv.cell h.o1 (hn D (by omega)), (hv.block _ (blk_lt h.hz) (hn _ (by omega))).trans h.hz, C_mv kP_any h.hC hv (fun ad e => hn _ (h.hA ad e)), h.lt, h.hA, h.hD⟩
set_option maxHeartbeats 8000000 in
set_option maxRecDepth 100000 in
theorem destroy_calls (h : Mo w B pm bm s) (hw : WfL s.L) (hf : s.L.length ≤ 100000) (o : OpS) :
    Calls Try.prog 45 #[.pointer (some ⟨B, 0, none⟩), Value.agg #[.int .i64 o.kind, .int .i64 o.sp, .int .i64 o.ak, .bool o.ap, .int .u64 o.av, .int .u8 o.byte, .int .u64 o.va, .int .i64 o.size, .bool o.at_.f0, .bool o.at_.f1, .bool o.at_.f2, .bool o.at_.f3, .bool o.at_.f4, .bool o.at_.f5, .int .i64 o.other, .int .u64 o.too]] w (DestP w B pm bm s o) := by
  have HM := Aside0.mk h
  have HLT := Aside0.mk h.lt
  have HW := Aside0.mk hw
  clear h hw
  obtain ⟨D, hD⟩ : ∃ D, w.heap.size = D := ⟨_, rfl⟩
  go_enter Try.func45, Try.ntmps45
  go_wp2_with fail
  have hk := blk_alloc (blk_alloc (blk_new w (.cells #[.int .i64 o.kind, .int .i64 o.sp, .int .i64 o.ak, .bool o.ap, .int .u64 o.av, .int .u8 o.byte, .int .u64 o.va, .int .i64 o.size, .bool o.at_.f0, .bool o.at_.f1, .bool o.at_.f2, .bool o.at_.f3, .bool o.at_.f4, .bool o.at_.f5, .int .i64 o.other, .int .u64 o.too] 36)) (.cells #[.int .i64 0, .int .i64 0, .int .u8 0] 42)) (.cells #[.int .i64 o.sp] 3)
  have hz := blk_alloc (blk_new (w.alloc (.cells #[.int .i64 o.kind, .int .i64 o.sp, .int .i64 o.ak, .bool o.ap, .int .u64 o.av, .int .u8 o.byte, .int .u64 o.va, .int .i64 o.size, .bool o.at_.f0, .bool o.at_.f1, .bool o.at_.f2, .bool o.at_.f3, .bool o.at_.f4, .bool o.at_.f5, .int .i64 o.other, .int .u64 o.too] 36)) (.cells #[.int .i64 0, .int .i64 0, .int .u8 0] 42)) (.cells #[.int .i64 o.sp] 3)
  have hl := blk_new ((w.alloc (.cells #[.int .i64 o.kind, .int .i64 o.sp, .int .i64 o.ak, .bool o.ap, .int .u64 o.av, .int .u8 o.byte, .int .u64 o.va, .int .i64 o.size, .bool o.at_.f0, .bool o.at_.f1, .bool o.at_.f2, .bool o.at_.f3, .bool o.at_.f4, .bool o.at_.f5, .int .i64 o.other, .int .u64 o.too] 36)).alloc (.cells #[.int .i64 0, .int .i64 0, .int .u8 0] 42)) (.cells #[.int .i64 o.sp] 3)
  have hb : Below w.heap.size w (((w.alloc (.cells #[.int .i64 o.kind, .int .i64 o.sp, .int .i64 o.ak, .bool o.ap, .int .u64 o.av, .int .u8 o.byte, .int .u64 o.va, .int .i64 o.size, .bool o.at_.f0, .bool o.at_.f1, .bool o.at_.f2, .bool o.at_.f3, .bool o.at_.f4, .bool o.at_.f5, .int .i64 o.other, .int .u64 o.too] 36)).alloc (.cells #[.int .i64 0, .int .i64 0, .int .u8 0] 42)).alloc (.cells #[.int .i64 o.sp] 3)) := (((Below.refl _ w).alloc (Nat.le_refl _) _).alloc (by simp) _).alloc (by simp; omega) _
  have hs1 : (w.alloc (.cells #[.int .i64 o.kind, .int .i64 o.sp, .int .i64 o.ak, .bool o.ap, .int .u64 o.av, .int .u8 o.byte, .int .u64 o.va, .int .i64 o.size, .bool o.at_.f0, .bool o.at_.f1, .bool o.at_.f2, .bool o.at_.f3, .bool o.at_.f4, .bool o.at_.f5, .int .i64 o.other, .int .u64 o.too] 36)).heap.size = D + 1 := by simp [hD]
  have hs2 : ((w.alloc (.cells #[.int .i64 o.kind, .int .i64 o.sp, .int .i64 o.ak, .bool o.ap, .int .u64 o.av, .int .u8 o.byte, .int .u64 o.va, .int .i64 o.size, .bool o.at_.f0, .bool o.at_.f1, .bool o.at_.f2, .bool o.at_.f3, .bool o.at_.f4, .bool o.at_.f5, .int .i64 o.other, .int .u64 o.too] 36)).alloc (.cells #[.int .i64 0, .int .i64 0, .int .u8 0] 42)).heap.size = D + 1 + 1 := by simp [hD]
  rw [hD] at hk
  rw [hs1] at hz
  rw [hs2] at hl
  generalize ((w.alloc (.cells #[.int .i64 o.kind, .int .i64 o.sp, .int .i64 o.ak, .bool o.ap, .int .u64 o.av, .int .u8 o.byte, .int .u64 o.va, .int .i64 o.size, .bool o.at_.f0, .bool o.at_.f1, .bool o.at_.f2, .bool o.at_.f3, .bool o.at_.f4, .bool o.at_.f5, .int .i64 o.other, .int .u64 o.too] 36)).alloc (.cells #[.int .i64 0, .int .i64 0, .int .u8 0] 42)).alloc (.cells #[.int .i64 o.sp] 3) = w1 at *
  clear hs1 hs2
  refine (is_calls (HM.out.below hb) [o.sp] (some ⟨D + 1 + 1, 0, none⟩) 1 (c_lit (xs := [o.sp]) hl (by simp)) (by simp)).mono ?_
  rintro e w2 ⟨rfl, rfl⟩
  obtain ⟨-, o1, -⟩ := cells16 hk
  have HZ := Aside0.mk hz
  have HB := Aside0.mk hb
  have HO1 := Aside0.mk o1
  clear hk hz hl hb
  generalize hia : isAll s.n [o.sp] = ia at *
  cases ia with
  | false =>
    go_wp2_with fail
    refine (model_told.calls 1 _ _ _ w1 rfl).mono ?_
    rintro e w2z ⟨rfl, hb2⟩
    have hz2 := blk_below HZ.out hb2
    have HB2 := Aside0.mk (below_step HB.out hb2)
    obtain ⟨z0, z1, z2⟩ := cells3 hz2
    have y0 := blk_frozen hz2 0
    have y1 := blk_frozen hz2 1
    have y2 := blk_frozen hz2 2
    clear hb2
    go_wp2_with fail
    rw [set3 hz2]
    refine bodyPost_ret (results_cell_row rfl _ _ (D + 1) 42 _ (0, 0) _ rfl (sb_same hz2 _) Try.underlying42 rfl (by kernel_rfl)) rfl ?_
    have hbf := below_sb HB2.out (by omega : w.heap.size ≤ D + 1) (.cells #[.int .i64 1, .int .i64 0, .int .u8 0] 42 (0, 0))
    exact ⟨1, s, rfl, .inl ⟨hia, rfl, rfl⟩, HM.out.below hbf, Mv.of_below hbf⟩
  | true =>
    have HIA := Aside0.mk hia
    clear hia
    go_wp2_with fail
    refine (pages_calls (HM.out.below HB.out) hf o.sp).mono ?_
    rintro e w2 ⟨A, c, l, rfl, -, hperm, -, hC, hb2, hA⟩
    have hll : l.length ≤ 100000 := by
      have h1 := hperm.length_eq
      have h2 := sel_len o.sp s.L
      omega
    have hbs := HB.out.size
    have HDW := Aside0.mk (show DW w w2 B pm bm s o D A l 0 s from ⟨DS.start HW.out hperm, (HM.out.below HB.out).below hb2, Mv.of_below (below_step HB.out hb2), cell_up hb2 HO1.out, blk_below HZ.out hb2, hC, HLT.out, fun ad e => Nat.le_trans hbs (hA ad e), hD⟩)
    clear hperm hC hb2 hA o1 HO1 HZ HB hbs
    go_wp2_with fail
    go_loopg [19] l.length (fun k jv wr => ∃ (j : Nat) (t : MS), jv = .int .i64 (j : Int) ∧ j + k = l.length ∧ Aside0 (DW w wr B pm bm s o D A l j t))
    case atStart => exact ⟨0, s, rfl, by omega, HDW⟩
    case round =>
      clear HDW
      obtain ⟨j, t, rfl, hjk, HDW⟩ := hrel
      by_cases hj : j < l.length
      · have hi0 : (0 : Int) ≤ (j : Int) := by omega
        have hi1 : (j : Int) < (l.length : Int) := by omega
        have hAE := HDW.out.hA
        obtain ⟨ad, hA, y0, y1, y2, y3, y4, y5, y6, y7, y8, y9, y10⟩ := at_T50 HDW.out.hC (j : Int) hi0 hi1
        subst hA
        have hq : rd_T50 l (j : Int) = l[j] := by simp [rd_T50, List.getD_eq_getElem?_getD, hj]
        rw [hq, Int.toNat_natCast] at y0 y1 y2 y3 y4 y5 y6 y7 y8 y9 y10
        obtain ⟨i, x, hti, hxs, hxp, hds⟩ := HDW.out.ds.next (List.getElem?_eq_getElem hj)
        rw [← hxp] at y0 y1 y2 y3 y4 y5 y6 y7 y8 y9 y10
        have HTI := Aside0.mk hti
        have HXS := Aside0.mk hxs
        have HDS := Aside0.mk hds
        have o1 := HDW.out.o1
        rw [← hxs] at o1
        have ho1 : D < wr.heap.size := World.block_lt_of_cell? _ _ o1
        have hon := Nat.ne_of_lt ho1
        have HJK := Aside0.mk hjk
        clear hq hti hxs hxp hds hAE hjk
        have htl : t.L.length ≤ 100000 := Nat.le_trans HDW.out.ds.sub.length_le hf
        go_wp2_with fail
        have HDA := Aside0.mk (HDW.out.below ((Below.refl _ wr).alloc (Nat.le_refl _) (.cells #[.int .u64 x.f1.f0, .int .i64 x.f1.f1, .int .u64 x.f1.f2, .bool x.f1.f3.f0, .bool x.f1.f3.f1, .bool x.f1.f3.f2, .bool x.f1.f3.f3, .bool x.f1.f3.f4, .bool x.f1.f3.f5, .bool x.f1.f4, .bool x.f1.f5] 50)))
        refine (drop_calls HDA.out.mo HDA.out.ds.wf htl HTI.out).mono ?_
        rintro e w4 ⟨rfl, hm4, hv4⟩
        have HD4 := Aside0.mk (HDA.out.step HDS.out hm4 hv4)
        have hwj : wrap64 ((j : Int) + 1) = (j : Int) + 1 := by unfold wrap64; omega
        clear hm4 hv4 y0 y1 y2 y3 y4 y5 y6 y7 y8 y9 y10 o1 ho1 hon htl
        go_wp2_with fail
        clear hwj
        have hjk := HJK.out
        go_roundg (gk - 1)
        case measure => omega
        case rel => exact ⟨j + 1, _, by push_cast; rfl, by omega, HD4⟩
      · have hi1 : ¬ (j : Int) < (l.length : Int) := by omega
        have hd : decide ((j : Int) < (l.length : Int)) = false := decide_eq_false hi1
        have hje : j = l.length := by omega
        have HG := Aside0.mk (show Gone s o.sp t by have := HDW.out.ds; rw [hje] at this; exact this.end)
        have hz2 := HDW.out.hz
        obtain ⟨z0, z1, z2⟩ := cells3 hz2
        have y0 := blk_frozen hz2 0
        have y1 := blk_frozen hz2 1
        have y2 := blk_frozen hz2 2
        clear hje hjk
        go_wp2_with fail
        rw [set3 hz2]
        refine bodyPost_ret (results_cell_row rfl _ _ (D + 1) 42 _ (0, 0) _ rfl (sb_same hz2 _) Try.underlying42 rfl (by kernel_rfl)) rfl ?_
        have hn : D + 1 ∉ [B, pm, bm] := fun hm => by have := HLT.out _ hm; omega
        exact ⟨0, t, rfl, .inr ⟨HIA.out, rfl, HG.out⟩, HDW.out.mo.move (fun k hk => sb_other _ (fun e => hn (e ▸ hk))), HDW.out.mv.setBlock (.inr (by omega)) _⟩
end
end Go.Proofs.Ytalmemcidbmdgaa.PM


/- A model (layer 16): change in one; unmap, protect, clear: the walks. -/
set_option linter.unusedVariables false
set_option linter.unusedSimpArgs false
namespace Go.Proofs.Ytalmemcidbmdgaa.PM
open Go.RowKit Go.Proofs.YtalmemcidbmdgaaW.PrintWords Go.Proofs.YtalmemcidbmdgaaW.PrintLast Go.Proofs.YtalmemcidbmdgaaW.PrintMore Go.Proofs.Ytalmemcidbmdgaa.PageG
attribute [local go_sem] max2_int min2_int max_two min_two max_three min_three max_four min_four   -- for this text's walks alone
/-- What an operation is told, and the model behind it. -/
def Rep (w : World) (B pm bm : Nat) (r : Int × MS) (e : Ending) (w' : World) : Prop := e = .returned (.agg #[.int .i64 r.1, .int .i64 0, .int .u8 0]) ∧ Mo w' B pm bm r.2 ∧ Mv [B, pm, bm] w w'
structure OkO (o : OpS) : Prop where
  sp : W64 o.sp
  va : 0 ≤ o.va ∧ o.va < 2 ^ 64
  to1 : 0 ≤ o.too ∧ o.too < 2 ^ 64
  av : 0 ≤ o.av ∧ o.av < 2 ^ 64
  ot : W64 o.other
  sz : W64 o.size
  by_ : 0 ≤ o.byte ∧ o.byte < 256
def changeR (s : MS) (o : OpS) (f : Nat → MS) : Int × MS := if isAll s.n [o.sp] = true then (match find s.L o.sp o.va.toNat with | none => (10, s) | some i => (0, f i)) else (1, s)
theorem noAt_of {s : MS} (hw : WfL s.L) {sp : Int} {va : Nat} (h : find s.L sp va = none) (i : Nat) : NoAt s sp va i := by
  intro x hx ⟨h1, h2, h3⟩
  have hn := find_none h x hx
  have hs : szN x = i := by unfold szN; omega
  have hv : bs va i = vaN x := by unfold vaN; omega
  rw [hit_iff.2 ⟨h1, by rw [hs]; exact hv⟩] at hn
  cases hn
section
variable {w w' : World} {B pm bm : Nat} {s : MS}
theorem change_calls (h : Mo w B pm bm s) (hw : WfL s.L) (o : OpS) (ho : OkO o) (fv : FuncId) (caps : Array Value) (f : Nat → MS)
    (hd : ∀ i x, s.L[i]? = some x → hit o.sp o.va.toNat x = true → Does w B pm bm s (f i) fv caps x) (hcf : ∀ (args : Array Value) (W : World), (callFunc fv args).run Try.prog W = .ok (.enter fv args) W) :
    Calls Try.prog 71 #[.pointer (some ⟨B, 0, none⟩), Value.agg #[.int .i64 o.kind, .int .i64 o.sp, .int .i64 o.ak, .bool o.ap, .int .u64 o.av, .int .u8 o.byte, .int .u64 o.va, .int .i64 o.size, .bool o.at_.f0, .bool o.at_.f1, .bool o.at_.f2, .bool o.at_.f3, .bool o.at_.f4, .bool o.at_.f5, .int .i64 o.other, .int .u64 o.too], .func (.func fv) #[] caps] w (Rep w B pm bm (changeR s o f)) := by
  have hv := ho.va
  have hva : o.va.toNat < 2 ^ 64 := by omega
  have hov : o.va = (o.va.toNat : Int) := by omega
  cases hi : isAll s.n [o.sp] with
  | false =>
    refine (change_no h o fv caps hi).mono ?_
    rintro e w2 ⟨rfl, hb⟩
    unfold changeR
    rw [hi]
    exact ⟨rfl, h.below hb, Mv.of_below hb⟩
  | true =>
    cases hf : find s.L o.sp o.va.toNat with
    | none =>
      refine (change_none h o fv caps hi ho.sp _ hva hov (fun i _ => noAt_of hw hf i)).mono ?_
      rintro e w2 ⟨rfl, hb⟩
      unfold changeR
      rw [hi, hf]
      exact ⟨rfl, h.below hb, Mv.of_below hb⟩
    | some i =>
      obtain ⟨x, hx, hh⟩ := find_some hf
      refine (change_yes h hw o fv caps hi ho.sp _ hva hov x (List.mem_of_getElem? hx) hh (hd i x hx hh) hcf).mono ?_
      rintro e w2 ⟨rfl, hm, hv⟩
      unfold changeR
      rw [hi, hf]
      exact ⟨rfl, hm, hv⟩
def unmapS (s : MS) (i : Nat) : MS := match s.L[i]? with | some x => dropS s i x | none => s
def protS (s : MS) (a : Atr) (i : Nat) : MS := match s.L[i]? with | some x => { s with L := s.L.set i ⟨x.f0, { x.f1 with f3 := a }⟩ } | none => s
def clearS (s : MS) (i : Nat) : MS := match s.L[i]? with | some x => { s with L := s.L.set i ⟨x.f0, { x.f1 with f4 := false, f5 := false }⟩ } | none => s
set_option maxHeartbeats 8000000 in
set_option maxRecDepth 100000 in
theorem unm1_calls (h : Mo w B pm bm s) (hw : WfL s.L) (hf : s.L.length ≤ 100000) {i : Nat} {x : Ent} (hi : s.L[i]? = some x) (g : Nat) (hg : w.cell? ⟨g, 0, none⟩ = some (.pointer (some ⟨B, 0, none⟩))) :
    Calls Try.prog 72 #[.agg #[.int .i64 x.f0, .int .u64 x.f1.f0, .int .i64 x.f1.f1], .agg #[.int .u64 x.f1.f0, .int .i64 x.f1.f1, .int .u64 x.f1.f2, .bool x.f1.f3.f0, .bool x.f1.f3.f1, .bool x.f1.f3.f2, .bool x.f1.f3.f3, .bool x.f1.f3.f4, .bool x.f1.f3.f5, .bool x.f1.f4, .bool x.f1.f5], .pointer (some ⟨g, 0, none⟩)] w (fun e w' => e = .returned (.tuple #[]) ∧ Mo w' B pm bm (dropS s i x) ∧ Mv [B, pm, bm] w w') := by
  have HM := Aside0.mk h
  have HW := Aside0.mk hw
  have HI := Aside0.mk hi
  have hgl : g < w.heap.size := World.block_lt_of_cell? _ _ hg
  have hgn := Nat.ne_of_lt hgl
  have hgn2 : g ≠ w.heap.size + 1 := by omega
  clear h hw hi
  have hb : Below w.heap.size w ((w.alloc (.cells #[.int .i64 x.f0, .int .u64 x.f1.f0, .int .i64 x.f1.f1] 84)).alloc (.cells #[.int .u64 x.f1.f0, .int .i64 x.f1.f1, .int .u64 x.f1.f2, .bool x.f1.f3.f0, .bool x.f1.f3.f1, .bool x.f1.f3.f2, .bool x.f1.f3.f3, .bool x.f1.f3.f4, .bool x.f1.f3.f5, .bool x.f1.f4, .bool x.f1.f5] 50)) := ((Below.refl _ w).alloc (Nat.le_refl _) _).alloc (by simp) _
  have HB := Aside0.mk hb
  clear hb
  go_enter Try.func72, Try.ntmps72
  go_wp2_with fail
  refine (drop_calls (HM.out.below HB.out) HW.out hf HI.out).mono ?_
  rintro e w2 ⟨rfl, hm, hv⟩
  have HM2 := Aside0.mk hm
  have HV2 := Aside0.mk ((Mv.of_below HB.out).then hv)
  clear hm hv
  go_wp2_with fail
  go_end0
  exact ⟨rfl, HM2.out, HV2.out⟩
set_option maxHeartbeats 8000000 in
set_option maxRecDepth 100000 in
theorem unmap_calls (h : Mo w B pm bm s) (hw : WfL s.L) (hf : s.L.length ≤ 100000) (o : OpS) (ho : OkO o) :
    Calls Try.prog 40 #[.pointer (some ⟨B, 0, none⟩), Value.agg #[.int .i64 o.kind, .int .i64 o.sp, .int .i64 o.ak, .bool o.ap, .int .u64 o.av, .int .u8 o.byte, .int .u64 o.va, .int .i64 o.size, .bool o.at_.f0, .bool o.at_.f1, .bool o.at_.f2, .bool o.at_.f3, .bool o.at_.f4, .bool o.at_.f5, .int .i64 o.other, .int .u64 o.too]] w (Rep w B pm bm (changeR s o (unmapS s))) := by
  have HM := Aside0.mk h
  have HLT := Aside0.mk h.lt
  have HW := Aside0.mk hw
  have HO := Aside0.mk ho
  clear h hw ho
  obtain ⟨D, hD⟩ : ∃ D, w.heap.size = D := ⟨_, rfl⟩
  go_enter Try.func40, Try.ntmps40
  go_upto_region 1 with fail
  have hk := blk_alloc (blk_alloc (blk_new w (.cells #[.pointer (some ⟨B, 0, none⟩)] 24)) (.cells #[.int .i64 o.kind, .int .i64 o.sp, .int .i64 o.ak, .bool o.ap, .int .u64 o.av, .int .u8 o.byte, .int .u64 o.va, .int .i64 o.size, .bool o.at_.f0, .bool o.at_.f1, .bool o.at_.f2, .bool o.at_.f3, .bool o.at_.f4, .bool o.at_.f5, .int .i64 o.other, .int .u64 o.too] 36)) (.cells #[.int .i64 0, .int .i64 0, .int .u8 0] 42)
  have hz := blk_alloc (blk_new (w.alloc (.cells #[.pointer (some ⟨B, 0, none⟩)] 24)) (.cells #[.int .i64 o.kind, .int .i64 o.sp, .int .i64 o.ak, .bool o.ap, .int .u64 o.av, .int .u8 o.byte, .int .u64 o.va, .int .i64 o.size, .bool o.at_.f0, .bool o.at_.f1, .bool o.at_.f2, .bool o.at_.f3, .bool o.at_.f4, .bool o.at_.f5, .int .i64 o.other, .int .u64 o.too] 36)) (.cells #[.int .i64 0, .int .i64 0, .int .u8 0] 42)
  have hl := blk_new ((w.alloc (.cells #[.pointer (some ⟨B, 0, none⟩)] 24)).alloc (.cells #[.int .i64 o.kind, .int .i64 o.sp, .int .i64 o.ak, .bool o.ap, .int .u64 o.av, .int .u8 o.byte, .int .u64 o.va, .int .i64 o.size, .bool o.at_.f0, .bool o.at_.f1, .bool o.at_.f2, .bool o.at_.f3, .bool o.at_.f4, .bool o.at_.f5, .int .i64 o.other, .int .u64 o.too] 36)) (.cells #[.int .i64 0, .int .i64 0, .int .u8 0] 42)
  have hb : Below w.heap.size w (((w.alloc (.cells #[.pointer (some ⟨B, 0, none⟩)] 24)).alloc (.cells #[.int .i64 o.kind, .int .i64 o.sp, .int .i64 o.ak, .bool o.ap, .int .u64 o.av, .int .u8 o.byte, .int .u64 o.va, .int .i64 o.size, .bool o.at_.f0, .bool o.at_.f1, .bool o.at_.f2, .bool o.at_.f3, .bool o.at_.f4, .bool o.at_.f5, .int .i64 o.other, .int .u64 o.too] 36)).alloc (.cells #[.int .i64 0, .int .i64 0, .int .u8 0] 42)) := (((Below.refl _ w).alloc (Nat.le_refl _) _).alloc (by simp) _).alloc (by simp; omega) _
  have hs1 : (w.alloc (.cells #[.pointer (some ⟨B, 0, none⟩)] 24)).heap.size = D + 1 := by simp [hD]
  have hs2 : ((w.alloc (.cells #[.pointer (some ⟨B, 0, none⟩)] 24)).alloc (.cells #[.int .i64 o.kind, .int .i64 o.sp, .int .i64 o.ak, .bool o.ap, .int .u64 o.av, .int .u8 o.byte, .int .u64 o.va, .int .i64 o.size, .bool o.at_.f0, .bool o.at_.f1, .bool o.at_.f2, .bool o.at_.f3, .bool o.at_.f4, .bool o.at_.f5, .int .i64 o.other, .int .u64 o.too] 36)).heap.size = D + 1 + 1 := by simp [hD]
  rw [hD] at hk
  rw [hs1] at hz
  rw [hs2] at hl
  generalize ((w.alloc (.cells #[.pointer (some ⟨B, 0, none⟩)] 24)).alloc (.cells #[.int .i64 o.kind, .int .i64 o.sp, .int .i64 o.ak, .bool o.ap, .int .u64 o.av, .int .u8 o.byte, .int .u64 o.va, .int .i64 o.size, .bool o.at_.f0, .bool o.at_.f1, .bool o.at_.f2, .bool o.at_.f3, .bool o.at_.f4, .bool o.at_.f5, .int .i64 o.other, .int .u64 o.too] 36)).alloc (.cells #[.int .i64 0, .int .i64 0, .int .u8 0] 42) = w1 at *
  clear hs1 hs2
  have m0 : w1.cell? ⟨D, 0, none⟩ = some (Value.pointer (some ⟨B, 0, none⟩)) := (blk_cell hk 0).trans rfl
  obtain ⟨o0, o1, o2, o3, o4, o5, o6, o7, o8, o9, o10, o11, o12, o13, o14, o15⟩ := cells16 hz
  have HB := Aside0.mk hb
  have HK := Aside0.mk hk
  have HOB := Aside0.mk hz
  have HL := Aside0.mk hl
  clear hb hk hz hl
  have HCH := Aside0.mk (change_calls (HM.out.below HB.out) HW.out o HO.out 72 #[.pointer (some ⟨D, 0, none⟩)] (unmapS s)
    (fun i x hi hh W hbW hmW => by
      have hk2 := blk_below HK.out hbW
      have hg2 : W.cell? ⟨D, 0, none⟩ = some (Value.pointer (some ⟨B, 0, none⟩)) := (blk_cell hk2 0).trans rfl
      have he : unmapS s i = dropS s i x := by unfold unmapS; rw [hi]
      rw [he]
      exact unm1_calls hmW HW.out hf hi D hg2)
    (enters_ Try.func72 (by rfl) (by kernel_rfl)))
  go_wp2_with fail
  refine HCH.out.mono ?_
  rintro e w2 ⟨rfl, hm2, hv2⟩
  have hne : D + 1 + 1 ∉ [B, pm, bm] := fun hm => by have := HLT.out _ hm; omega
  have hl2 := (hv2.block _ (blk_lt HL.out) hne).trans HL.out
  obtain ⟨z0, z1, z2⟩ := cells3 hl2
  have y0 := blk_frozen hl2 0
  have y1 := blk_frozen hl2 1
  have y2 := blk_frozen hl2 2
  have HM2 := Aside0.mk hm2
  have HV2 := Aside0.mk hv2
  have HNE := Aside0.mk hne
  clear hm2 hv2 hne m0 o0 o1 o2 o3 o4 o5 o6 o7 o8 o9 o10 o11 o12 o13 o14 o15
  go_wp2_with fail
  rw [set3 hl2]
  refine bodyPost_ret (results_cell_row rfl _ _ (D + 1 + 1) 42 _ (0, 0) _ rfl (sb_same hl2 _) Try.underlying42 rfl (by kernel_rfl)) rfl ?_
  exact ⟨rfl, HM2.out.move (fun k hk => sb_other _ (fun e => HNE.out (e ▸ hk))), ((Mv.of_below HB.out).then HV2.out).setBlock (.inr (by omega)) _⟩
end
end Go.Proofs.Ytalmemcidbmdgaa.PM


/- A model (layer 16): share: the walk. -/
set_option linter.unusedVariables false
set_option linter.unusedSimpArgs false
namespace Go.Proofs.Ytalmemcidbmdgaa.PM
open Go.RowKit Go.Proofs.YtalmemcidbmdgaaW.PrintWords Go.Proofs.YtalmemcidbmdgaaW.PrintLast Go.Proofs.YtalmemcidbmdgaaW.PrintMore Go.Proofs.Ytalmemcidbmdgaa.PageG
attribute [local go_sem] max2_int min2_int max_two min_two max_three min_three max_four min_four   -- for this text's walks alone
def shaP (o : OpS) (x : Ent) : Pg := ⟨o.too, x.f1.f1, x.f1.f2, o.at_, false, false⟩
def shareR (s : MS) (o : OpS) : Int × MS :=
  if isAll s.n [o.sp, o.other] = true ∧ o.at_.f4 = false then
    (match find s.L o.sp o.va.toNat with
     | none => (10, s)
     | some i => (match s.L[i]? with | some x => putS s o.other (shaP o x) | none => (10, s)))
  else (1, s)
section
variable {w w' : World} {B pm bm : Nat} {s : MS}
set_option maxHeartbeats 8000000 in
set_option maxRecDepth 100000 in
theorem share_calls (h : Mo w B pm bm s) (hw : WfL s.L) (hf : s.L.length ≤ 100000) (o : OpS) (ho : OkO o) (hn : s.n ≤ 64) :
    Calls Try.prog 43 #[.pointer (some ⟨B, 0, none⟩), Value.agg #[.int .i64 o.kind, .int .i64 o.sp, .int .i64 o.ak, .bool o.ap, .int .u64 o.av, .int .u8 o.byte, .int .u64 o.va, .int .i64 o.size, .bool o.at_.f0, .bool o.at_.f1, .bool o.at_.f2, .bool o.at_.f3, .bool o.at_.f4, .bool o.at_.f5, .int .i64 o.other, .int .u64 o.too]] w (Rep2 w B pm bm (shareR s o)) := by
  have HM := Aside0.mk h
  have HLT := Aside0.mk h.lt
  have HW := Aside0.mk hw
  have HO := Aside0.mk ho
  have HR := Aside0.mk (show shareR s o = if isAll s.n [o.sp, o.other] = true ∧ o.at_.f4 = false then
    (match find s.L o.sp o.va.toNat with
     | none => (10, s)
     | some i => (match s.L[i]? with | some x => putS s o.other (shaP o x) | none => (10, s)))
  else (1, s) from rfl)
  generalize shareR s o = res at *
  clear h hw ho
  obtain ⟨D, hD⟩ : ∃ D, w.heap.size = D := ⟨_, rfl⟩
  go_enter Try.func43, Try.ntmps43
  go_wp2_with fail
  have hk := blk_alloc (blk_alloc (blk_new w (.cells #[.int .i64 o.kind, .int .i64 o.sp, .int .i64 o.ak, .bool o.ap, .int .u64 o.av, .int .u8 o.byte, .int .u64 o.va, .int .i64 o.size, .bool o.at_.f0, .bool o.at_.f1, .bool o.at_.f2, .bool o.at_.f3, .bool o.at_.f4, .bool o.at_.f5, .int .i64 o.other, .int .u64 o.too] 36)) (.cells #[.int .i64 0, .int .i64 0, .int .u8 0] 42)) (.cells #[.int .i64 o.sp, .int .i64 o.other] 3)
  have hz := blk_alloc (blk_new (w.alloc (.cells #[.int .i64 o.kind, .int .i64 o.sp, .int .i64 o.ak, .bool o.ap, .int .u64 o.av, .int .u8 o.byte, .int .u64 o.va, .int .i64 o.size, .bool o.at_.f0, .bool o.at_.f1, .bool o.at_.f2, .bool o.at_.f3, .bool o.at_.f4, .bool o.at_.f5, .int .i64 o.other, .int .u64 o.too] 36)) (.cells #[.int .i64 0, .int .i64 0, .int .u8 0] 42)) (.cells #[.int .i64 o.sp, .int .i64 o.other] 3)
  have hl := blk_new ((w.alloc (.cells #[.int .i64 o.kind, .int .i64 o.sp, .int .i64 o.ak, .bool o.ap, .int .u64 o.av, .int .u8 o.byte, .int .u64 o.va, .int .i64 o.size, .bool o.at_.f0, .bool o.at_.f1, .bool o.at_.f2, .bool o.at_.f3, .bool o.at_.f4, .bool o.at_.f5, .int .i64 o.other, .int .u64 o.too] 36)).alloc (.cells #[.int .i64 0, .int .i64 0, .int .u8 0] 42)) (.cells #[.int .i64 o.sp, .int .i64 o.other] 3)
  have hb : Below w.heap.size w (((w.alloc (.cells #[.int .i64 o.kind, .int .i64 o.sp, .int .i64 o.ak, .bool o.ap, .int .u64 o.av, .int .u8 o.byte, .int .u64 o.va, .int .i64 o.size, .bool o.at_.f0, .bool o.at_.f1, .bool o.at_.f2, .bool o.at_.f3, .bool o.at_.f4, .bool o.at_.f5, .int .i64 o.other, .int .u64 o.too] 36)).alloc (.cells #[.int .i64 0, .int .i64 0, .int .u8 0] 42)).alloc (.cells #[.int .i64 o.sp, .int .i64 o.other] 3)) := (((Below.refl _ w).alloc (Nat.le_refl _) _).alloc (by simp) _).alloc (by simp; omega) _
  have hs1 : (w.alloc (.cells #[.int .i64 o.kind, .int .i64 o.sp, .int .i64 o.ak, .bool o.ap, .int .u64 o.av, .int .u8 o.byte, .int .u64 o.va, .int .i64 o.size, .bool o.at_.f0, .bool o.at_.f1, .bool o.at_.f2, .bool o.at_.f3, .bool o.at_.f4, .bool o.at_.f5, .int .i64 o.other, .int .u64 o.too] 36)).heap.size = D + 1 := by simp [hD]
  have hs2 : ((w.alloc (.cells #[.int .i64 o.kind, .int .i64 o.sp, .int .i64 o.ak, .bool o.ap, .int .u64 o.av, .int .u8 o.byte, .int .u64 o.va, .int .i64 o.size, .bool o.at_.f0, .bool o.at_.f1, .bool o.at_.f2, .bool o.at_.f3, .bool o.at_.f4, .bool o.at_.f5, .int .i64 o.other, .int .u64 o.too] 36)).alloc (.cells #[.int .i64 0, .int .i64 0, .int .u8 0] 42)).heap.size = D + 1 + 1 := by simp [hD]
  rw [hD] at hk
  rw [hs1] at hz
  rw [hs2] at hl
  generalize ((w.alloc (.cells #[.int .i64 o.kind, .int .i64 o.sp, .int .i64 o.ak, .bool o.ap, .int .u64 o.av, .int .u8 o.byte, .int .u64 o.va, .int .i64 o.size, .bool o.at_.f0, .bool o.at_.f1, .bool o.at_.f2, .bool o.at_.f3, .bool o.at_.f4, .bool o.at_.f5, .int .i64 o.other, .int .u64 o.too] 36)).alloc (.cells #[.int .i64 0, .int .i64 0, .int .u8 0] 42)).alloc (.cells #[.int .i64 o.sp, .int .i64 o.other] 3) = w1 at *
  clear hs1 hs2
  refine (is_calls (HM.out.below hb) [o.sp, o.other] (some ⟨D + 1 + 1, 0, none⟩) 2 (c_lit (xs := [o.sp, o.other]) hl (by simp)) (by simp)).mono ?_
  rintro e w2 ⟨rfl, rfl⟩
  obtain ⟨-, o1, -, -, -, -, o6, -, o8, o9, o10, o11, o12, o13, o14, o15⟩ := cells16 hk
  have HZ := Aside0.mk hz
  have HB := Aside0.mk hb
  have HK := Aside0.mk hk
  clear hk hz hl hb
  generalize hia : isAll s.n [o.sp, o.other] = ia at *
  cases ia with
  | false =>
    rw [if_neg (by simp)] at HR
    go_wp2_with fail
    refine (model_told.calls 1 _ _ _ w1 rfl).mono ?_
    rintro e w2z ⟨rfl, hb2⟩
    have hz2 := blk_below HZ.out hb2
    have HB2 := Aside0.mk (below_step HB.out hb2)
    obtain ⟨z0, z1, z2⟩ := cells3 hz2
    have y0 := blk_frozen hz2 0
    have y1 := blk_frozen hz2 1
    have y2 := blk_frozen hz2 2
    clear hb2
    go_wp2_with fail
    rw [set3 hz2]
    refine bodyPost_ret (results_cell_row rfl _ _ (D + 1) 42 _ (0, 0) _ rfl (sb_same hz2 _) Try.underlying42 rfl (by kernel_rfl)) rfl ?_
    exact Rep2.same HM.out (below_sb HB2.out (by omega) _) HR.out
  | true =>
    have HIA := Aside0.mk hia
    clear hia
    rcases Bool.eq_false_or_eq_true o.at_.f4 with hag | hag
    · rw [if_neg (by rw [hag]; simp)] at HR
      go_wp2_with fail
      refine (model_told.calls 1 _ _ _ w1 rfl).mono ?_
      rintro e w2z ⟨rfl, hb2⟩
      have hz2 := blk_below HZ.out hb2
      have HB2 := Aside0.mk (below_step HB.out hb2)
      obtain ⟨z0, z1, z2⟩ := cells3 hz2
      have y0 := blk_frozen hz2 0
      have y1 := blk_frozen hz2 1
      have y2 := blk_frozen hz2 2
      clear hb2
      go_wp2_with fail
      rw [set3 hz2]
      refine bodyPost_ret (results_cell_row rfl _ _ (D + 1) 42 _ (0, 0) _ rfl (sb_same hz2 _) Try.underlying42 rfl (by kernel_rfl)) rfl ?_
      exact Rep2.same HM.out (below_sb HB2.out (by omega) _) HR.out
    · rw [if_pos ⟨by trivial, hag⟩] at HR
      go_upto_region 3 with fail
      clear hag
      obtain ⟨va, hvd⟩ : ∃ va : Nat, o.va.toNat = va := ⟨_, rfl⟩
      rw [hvd] at HR
      have hva : va < 2 ^ 64 := by have := HO.out.va; omega
      have hov : o.va = (va : Int) := by have := HO.out.va; omega
      rw [hov] at o6
      clear hov hvd
      cases hfd : find s.L o.sp va with
      | none =>
        rw [hfd] at HR
        go_wp2_with fail
        refine (at_no (HM.out.below HB.out) o.sp HO.out.sp _ hva (fun i _ => noAt_of HW.out hfd i)).mono ?_
        rintro e w2 ⟨rfl, hb2⟩
        have hz2 := blk_below HZ.out hb2
        have HB2 := Aside0.mk (below_step HB.out hb2)
        have hz3 := blk_alloc (blk_alloc hz2 (.cells #[.int .u64 0, .int .i64 0, .int .u64 0, .bool false, .bool false, .bool false, .bool false, .bool false, .bool false, .bool false, .bool false] 50)) (.cells #[.int .i64 0, .int .u64 0, .int .i64 0] 84)
        have hb3 := below_step HB2.out (((Below.refl _ w2).alloc (Nat.le_refl _) (.cells #[.int .u64 0, .int .i64 0, .int .u64 0, .bool false, .bool false, .bool false, .bool false, .bool false, .bool false, .bool false, .bool false] 50)).alloc (by simp) (.cells #[.int .i64 0, .int .u64 0, .int .i64 0] 84))
        unfold pgv kyv z0
        clear hb2 hz2 HB HZ HK o1 o6 o8 o9 o10 o11 o12 o13 o14 o15 hfd
        have HZ := Aside0.mk hz3
        have HB := Aside0.mk hb3
        clear hz3 hb3
        go_wp2_with fail
        generalize (w2.alloc (.cells #[.int .u64 0, .int .i64 0, .int .u64 0, .bool false, .bool false, .bool false, .bool false, .bool false, .bool false, .bool false, .bool false] 50)).alloc (.cells #[.int .i64 0, .int .u64 0, .int .i64 0] 84) = w3 at *
        refine (model_told.calls 10 _ _ _ w3 rfl).mono ?_
        rintro e w2z ⟨rfl, hb2⟩
        have hz2 := blk_below HZ.out hb2
        have HB2 := Aside0.mk (below_step HB.out hb2)
        obtain ⟨z0, z1, z2⟩ := cells3 hz2
        have y0 := blk_frozen hz2 0
        have y1 := blk_frozen hz2 1
        have y2 := blk_frozen hz2 2
        clear hb2
        go_wp2_with fail
        rw [set3 hz2]
        refine bodyPost_ret (results_cell_row rfl _ _ (D + 1) 42 _ (0, 0) _ rfl (sb_same hz2 _) Try.underlying42 rfl (by kernel_rfl)) rfl ?_
        exact Rep2.same HM.out (below_sb HB2.out (by omega) _) HR.out
      | some i =>
        obtain ⟨x, hx, hh⟩ := find_some hfd
        rw [hfd] at HR
        simp only [hx] at HR
        have HX := Aside0.mk hx
        have HH := Aside0.mk hh
        clear hfd hx hh
        go_wp2_with fail
        refine (at_yes (HM.out.below HB.out) HW.out o.sp HO.out.sp _ hva x (List.mem_of_getElem? HX.out) HH.out).mono ?_
        rintro e w2 ⟨rfl, hb2⟩
        have hz2 := blk_below HZ.out hb2
        have hk2 := blk_below HK.out hb2
        have HB2 := Aside0.mk (below_step HB.out hb2)
        have hw2s : D + 1 < w2.heap.size := blk_lt hz2
        have hz3 := blk_alloc (blk_alloc hz2 (.cells #[.int .u64 x.f1.f0, .int .i64 x.f1.f1, .int .u64 x.f1.f2, .bool x.f1.f3.f0, .bool x.f1.f3.f1, .bool x.f1.f3.f2, .bool x.f1.f3.f3, .bool x.f1.f3.f4, .bool x.f1.f3.f5, .bool x.f1.f4, .bool x.f1.f5] 50)) (.cells #[.int .i64 x.f0, .int .u64 x.f1.f0, .int .i64 x.f1.f1] 84)
        have hk3 := blk_alloc (blk_alloc hk2 (.cells #[.int .u64 x.f1.f0, .int .i64 x.f1.f1, .int .u64 x.f1.f2, .bool x.f1.f3.f0, .bool x.f1.f3.f1, .bool x.f1.f3.f2, .bool x.f1.f3.f3, .bool x.f1.f3.f4, .bool x.f1.f3.f5, .bool x.f1.f4, .bool x.f1.f5] 50)) (.cells #[.int .i64 x.f0, .int .u64 x.f1.f0, .int .i64 x.f1.f1] 84)
        have hb3 := below_step HB2.out (((Below.refl _ w2).alloc (Nat.le_refl _) (.cells #[.int .u64 x.f1.f0, .int .i64 x.f1.f1, .int .u64 x.f1.f2, .bool x.f1.f3.f0, .bool x.f1.f3.f1, .bool x.f1.f3.f2, .bool x.f1.f3.f3, .bool x.f1.f3.f4, .bool x.f1.f3.f5, .bool x.f1.f4, .bool x.f1.f5] 50)).alloc (by simp) (.cells #[.int .i64 x.f0, .int .u64 x.f1.f0, .int .i64 x.f1.f1] 84))
        have hp3 := blk_alloc (blk_new w2 (.cells #[.int .u64 x.f1.f0, .int .i64 x.f1.f1, .int .u64 x.f1.f2, .bool x.f1.f3.f0, .bool x.f1.f3.f1, .bool x.f1.f3.f2, .bool x.f1.f3.f3, .bool x.f1.f3.f4, .bool x.f1.f3.f5, .bool x.f1.f4, .bool x.f1.f5] 50)) (.cells #[.int .i64 x.f0, .int .u64 x.f1.f0, .int .i64 x.f1.f1] 84)
        unfold pgv kyv
        clear hb2 hz2 hk2 HB HZ HK o1 o6 o8 o9 o10 o11 o12 o13 o14 o15
        have HZ := Aside0.mk hz3
        have HB := Aside0.mk hb3
        have HP3 := Aside0.mk hp3
        have HK3 := Aside0.mk hk3
        clear hz3 hb3 hp3 hk3
        go_upto_region 6 with fail
        generalize (w2.alloc (.cells #[.int .u64 x.f1.f0, .int .i64 x.f1.f1, .int .u64 x.f1.f2, .bool x.f1.f3.f0, .bool x.f1.f3.f1, .bool x.f1.f3.f2, .bool x.f1.f3.f3, .bool x.f1.f3.f4, .bool x.f1.f3.f5, .bool x.f1.f4, .bool x.f1.f5] 50)).alloc (.cells #[.int .i64 x.f0, .int .u64 x.f1.f0, .int .i64 x.f1.f1] 84) = w3 at *
        obtain ⟨-, p1, p2, -⟩ := cells11 HP3.out
        obtain ⟨-, -, -, -, -, -, -, -, o8, o9, o10, o11, o12, o13, o14, o15⟩ := cells16 HK3.out
        have hoq : OkQ o.other (shaP o x) := by
          have h1 : ∀ z ∈ [o.sp, o.other], 0 ≤ z ∧ z < s.n := by
            have := HIA.out
            unfold isAll at this
            rw [List.all_eq_true] at this
            exact fun z hz => by simpa using this z hz
          have h2 := h1 o.other (by simp)
          have h3 := HO.out.to1
          have h4 := HW.out.ok x (List.mem_of_getElem? HX.out)
          exact ⟨h2.1, by omega, by show o.too = ((o.too.toNat : Nat) : Int); omega, by show o.too.toNat < 2 ^ 64; omega, h4.pa0, h4.pa1⟩
        have HP := Aside0.mk (put_calls (HM.out.below HB.out) HW.out hf o.other (shaP o x) hoq)
        clear hoq
        generalize putS s o.other (shaP o x) = r2 at *
        go_wp2_with fail
        refine HP.out.mono ?_
        rintro e w4 ⟨rfl, hm4, hv4⟩
        have hnZ : D + 1 ∉ [B, pm, bm] := fun hm => by have := HLT.out _ hm; omega
        have hz4 : w4.heap[D + 1]? = some (.cells #[.int .i64 0, .int .i64 0, .int .u8 0] 42 (0, 0)) := (hv4.block _ (blk_lt HZ.out) hnZ).trans HZ.out
        have HM4 := Aside0.mk hm4
        have HVV := Aside0.mk ((Mv.of_below HB.out).then hv4)
        have HNZ := Aside0.mk hnZ
        have HZ4 := Aside0.mk hz4
        clear hz4 hnZ hm4 hv4 HP p1 p2 o8 o9 o10 o11 o12 o13 o14 o15
        go_wp2_with fail
        refine (model_told.calls r2.1 _ _ _ w4 rfl).mono ?_
        rintro e w6 ⟨rfl, hb6⟩
        have hz6 := blk_below HZ4.out hb6
        have HM6 := Aside0.mk (HM4.out.below hb6)
        have HV6 := Aside0.mk (HVV.out.trans (S' := []) (Mv.of_below hb6) (fun _ hk => by simp at hk))
        obtain ⟨z0, z1, z2⟩ := cells3 hz6
        have y0 := blk_frozen hz6 0
        have y1 := blk_frozen hz6 1
        have y2 := blk_frozen hz6 2
        clear hb6
        go_wp2_with fail
        rw [set3 hz6]
        refine bodyPost_ret (results_cell_row rfl _ _ (D + 1) 42 _ (0, 0) _ rfl (sb_same hz6 _) Try.underlying42 rfl (by kernel_rfl)) rfl ?_
        rw [HR.out]
        exact ⟨rfl, HM6.out.move (fun k hk => sb_other _ (fun e => HNZ.out (e ▸ hk))), HV6.out.setBlock (.inr (by omega)) _⟩
end
end Go.Proofs.Ytalmemcidbmdgaa.PM


/- A model (layer 16): access: plain. -/
set_option linter.unusedVariables false
set_option linter.unusedSimpArgs false
namespace Go.Proofs.Ytalmemcidbmdgaa.PM
open Go.RowKit Go.Proofs.YtalmemcidbmdgaaW.PrintWords Go.Proofs.YtalmemcidbmdgaaW.PrintLast Go.Proofs.YtalmemcidbmdgaaW.PrintMore Go.Proofs.Ytalmemcidbmdgaa.PageG
attribute [local go_sem] max2_int min2_int max_two min_two max_three min_three max_four min_four   -- for this text's walks alone
/-- What attributes say of an access. -/
def judgeN (a : Atr) (kind : Int) (priv : Bool) : Int := if (a.f1 && !priv) = true then 3 else if (a.f5 && !(kind == 3)) = true then 4 else if (kind == 1 && !a.f0) = true then 5 else if (kind == 2 && !a.f2) = true then 6 else 0
theorem judge_f (a : Atr) (kind va : Int) (priv : Bool) : fault_Judge.f 10 a.f0 a.f1 a.f2 a.f3 a.f4 a.f5 kind priv va = some (judgeN a kind priv) := by
  obtain ⟨a0, a1, a2, a3, a4, a5⟩ := a
  unfold fault_Judge.f judgeN
  by_cases h1 : kind = 1
  · subst h1
    cases a0 <;> cases a1 <;> cases a2 <;> cases a5 <;> cases priv <;> rfl
  · by_cases h2 : kind = 2
    · subst h2
      cases a0 <;> cases a1 <;> cases a2 <;> cases a5 <;> cases priv <;> rfl
    · by_cases h3 : kind = 3
      · subst h3
        cases a0 <;> cases a1 <;> cases a2 <;> cases a5 <;> cases priv <;> rfl
      · have e1 : (kind == 1) = false := beq_eq_false_iff_ne.2 h1
        have e2 : (kind == 2) = false := beq_eq_false_iff_ne.2 h2
        have e3 : (kind == 3) = false := beq_eq_false_iff_ne.2 h3
        cases a0 <;> cases a1 <;> cases a2 <;> cases a5 <;> cases priv <;> simp [fault_Judge.j0, fault_Judge.j1, fault_Judge.j2, e1, e2, e3, h1, h2, h3]
theorem fmay_f (kind va : Int) (priv : Bool) : fault_May.f kind priv va = some (decide (0 ≤ kind ∧ kind < 4)) := by
  unfold fault_May.f
  by_cases h : 0 ≤ kind
  · rw [if_pos h]; simp [h]
  · rw [if_neg h]; simp [h]
/-- access: errno, fault and byte; the model behind it. -/
def accP (p : Pg) (kind : Int) : Pg := { p with f4 := true, f5 := p.f5 || (kind == 1) }
def accessR (s : MS) (o : OpS) : (Int × Int × Int) × MS :=
  if isAll s.n [o.sp] = true ∧ (0 ≤ o.ak ∧ o.ak < 4) then
    (if holeB o.av.toNat = true then ((0, 1, 0), s)
     else match find s.L o.sp o.av.toNat with
      | none => ((0, 2, 0), s)
      | some i => (match s.L[i]? with
        | none => ((0, 2, 0), s)
        | some x => if judgeN x.f1.f3 o.ak o.ap = 0 then
            (if o.ak = 1 then ((0, 0, 0), { s with L := s.L.set i ⟨x.f0, accP x.f1 o.ak⟩, by_ := putB s.by_ x.f1.f2 ((offN x o.av.toNat : Nat) : Int) o.byte })
             else ((0, 0, getB s.by_ x.f1.f2 ((offN x o.av.toNat : Nat) : Int)), { s with L := s.L.set i ⟨x.f0, accP x.f1 o.ak⟩ }))
          else ((0, judgeN x.f1.f3 o.ak o.ap, 0), s)))
  else ((1, 0, 0), s)
end Go.Proofs.Ytalmemcidbmdgaa.PM


/- A model (layer 16): access where no page is there: the walk. -/
set_option linter.unusedVariables false
set_option linter.unusedSimpArgs false
namespace Go.Proofs.Ytalmemcidbmdgaa.PM
open Go.RowKit Go.Proofs.YtalmemcidbmdgaaW.PrintWords Go.Proofs.YtalmemcidbmdgaaW.PrintLast Go.Proofs.YtalmemcidbmdgaaW.PrintMore Go.Proofs.Ytalmemcidbmdgaa.PageG
attribute [local go_sem] max2_int min2_int max_two min_two max_three min_three max_four min_four   -- for this text's walks alone
/-- What an access is told, and the model behind it. -/
def Rep3 (w : World) (B pm bm : Nat) (r : (Int × Int × Int) × MS) (e : Ending) (w' : World) : Prop := e = .returned (.agg #[.int .i64 r.1.1, .int .i64 r.1.2.1, .int .u8 r.1.2.2]) ∧ Mo w' B pm bm r.2 ∧ Mv [B, pm, bm] w w'
section
variable {w w' : World} {B pm bm : Nat} {s : MS}
theorem Rep3.same {r : (Int × Int × Int) × MS} {a b c : Int} (h : Mo w B pm bm s) (hb : Below w.heap.size w w') (hr : r = ((a, b, c), s)) : Rep3 w B pm bm r (.returned (.agg #[.int .i64 a, .int .i64 b, .int .u8 c])) w' := by
  subst hr
  exact ⟨rfl, h.below hb, Mv.of_below hb⟩
set_option maxHeartbeats 8000000 in
set_option maxRecDepth 100000 in
theorem access_none (h : Mo w B pm bm s) (hw : WfL s.L) (o : OpS) (ho : OkO o) (hfd : find s.L o.sp o.av.toNat = none) :
    Calls Try.prog 38 #[.pointer (some ⟨B, 0, none⟩), Value.agg #[.int .i64 o.kind, .int .i64 o.sp, .int .i64 o.ak, .bool o.ap, .int .u64 o.av, .int .u8 o.byte, .int .u64 o.va, .int .i64 o.size, .bool o.at_.f0, .bool o.at_.f1, .bool o.at_.f2, .bool o.at_.f3, .bool o.at_.f4, .bool o.at_.f5, .int .i64 o.other, .int .u64 o.too]] w (Rep3 w B pm bm (accessR s o)) := by
  have HM := Aside0.mk h
  have HR := Aside0.mk (show accessR s o = if isAll s.n [o.sp] = true ∧ (0 ≤ o.ak ∧ o.ak < 4) then (if holeB o.av.toNat = true then ((0, 1, 0), s) else ((0, 2, 0), s)) else ((1, 0, 0), s) by unfold accessR; rw [hfd])
  obtain ⟨res, hres⟩ : ∃ res, accessR s o = res := ⟨_, rfl⟩
  rw [hres] at HR ⊢
  clear hres
  obtain ⟨av, hvd⟩ : ∃ av : Nat, o.av.toNat = av := ⟨_, rfl⟩
  rw [hvd] at HR hfd
  have hva : av < 2 ^ 64 := by have := ho.av; omega
  have HOV := Aside0.mk (show o.av = (av : Int) by have := ho.av; omega)
  have HN := Aside0.mk (show ∀ i, i < 4 → NoAt s o.sp av i from fun i _ => noAt_of hw hfd i)
  have hsp := Aside0.mk ho.sp
  have HJ := Aside0.mk (judge_f ⟨false, false, false, false, false, false⟩ o.ak (av : Int) o.ap)
  have HMY := Aside0.mk (fmay_f o.ak (av : Int) o.ap)
  have HHO := Aside0.mk (hole_f av hva)
  generalize judgeN ⟨false, false, false, false, false, false⟩ o.ak o.ap = jn at *
  generalize hmy : decide (0 ≤ o.ak ∧ o.ak < 4) = my at *
  have HMYD := Aside0.mk hmy
  generalize hho : holeB av = hob at *
  clear h hw ho hvd hfd hmy hho
  obtain ⟨D, hD⟩ : ∃ D, w.heap.size = D := ⟨_, rfl⟩
  go_enter Try.func38, Try.ntmps38
  go_upto_region 2 with fail
  have hk := blk_alloc (blk_alloc (blk_new w (.cells #[.int .i64 o.kind, .int .i64 o.sp, .int .i64 o.ak, .bool o.ap, .int .u64 o.av, .int .u8 o.byte, .int .u64 o.va, .int .i64 o.size, .bool o.at_.f0, .bool o.at_.f1, .bool o.at_.f2, .bool o.at_.f3, .bool o.at_.f4, .bool o.at_.f5, .int .i64 o.other, .int .u64 o.too] 36)) (.cells #[.int .i64 0, .int .i64 0, .int .u8 0] 42)) (.cells #[.int .i64 o.ak, .bool o.ap, .int .u64 o.av] 32)
  have hz := blk_alloc (blk_new (w.alloc (.cells #[.int .i64 o.kind, .int .i64 o.sp, .int .i64 o.ak, .bool o.ap, .int .u64 o.av, .int .u8 o.byte, .int .u64 o.va, .int .i64 o.size, .bool o.at_.f0, .bool o.at_.f1, .bool o.at_.f2, .bool o.at_.f3, .bool o.at_.f4, .bool o.at_.f5, .int .i64 o.other, .int .u64 o.too] 36)) (.cells #[.int .i64 0, .int .i64 0, .int .u8 0] 42)) (.cells #[.int .i64 o.ak, .bool o.ap, .int .u64 o.av] 32)
  have hl := blk_new ((w.alloc (.cells #[.int .i64 o.kind, .int .i64 o.sp, .int .i64 o.ak, .bool o.ap, .int .u64 o.av, .int .u8 o.byte, .int .u64 o.va, .int .i64 o.size, .bool o.at_.f0, .bool o.at_.f1, .bool o.at_.f2, .bool o.at_.f3, .bool o.at_.f4, .bool o.at_.f5, .int .i64 o.other, .int .u64 o.too] 36)).alloc (.cells #[.int .i64 0, .int .i64 0, .int .u8 0] 42)) (.cells #[.int .i64 o.ak, .bool o.ap, .int .u64 o.av] 32)
  have hb : Below w.heap.size w (((w.alloc (.cells #[.int .i64 o.kind, .int .i64 o.sp, .int .i64 o.ak, .bool o.ap, .int .u64 o.av, .int .u8 o.byte, .int .u64 o.va, .int .i64 o.size, .bool o.at_.f0, .bool o.at_.f1, .bool o.at_.f2, .bool o.at_.f3, .bool o.at_.f4, .bool o.at_.f5, .int .i64 o.other, .int .u64 o.too] 36)).alloc (.cells #[.int .i64 0, .int .i64 0, .int .u8 0] 42)).alloc (.cells #[.int .i64 o.ak, .bool o.ap, .int .u64 o.av] 32)) := (((Below.refl _ w).alloc (Nat.le_refl _) _).alloc (by simp) _).alloc (by simp; omega) _
  have hs1 : (w.alloc (.cells #[.int .i64 o.kind, .int .i64 o.sp, .int .i64 o.ak, .bool o.ap, .int .u64 o.av, .int .u8 o.byte, .int .u64 o.va, .int .i64 o.size, .bool o.at_.f0, .bool o.at_.f1, .bool o.at_.f2, .bool o.at_.f3, .bool o.at_.f4, .bool o.at_.f5, .int .i64 o.other, .int .u64 o.too] 36)).heap.size = D + 1 := by simp [hD]
  have hs2 : ((w.alloc (.cells #[.int .i64 o.kind, .int .i64 o.sp, .int .i64 o.ak, .bool o.ap, .int .u64 o.av, .int .u8 o.byte, .int .u64 o.va, .int .i64 o.size, .bool o.at_.f0, .bool o.at_.f1, .bool o.at_.f2, .bool o.at_.f3, .bool o.at_.f4, .bool o.at_.f5, .int .i64 o.other, .int .u64 o.too] 36)).alloc (.cells #[.int .i64 0, .int .i64 0, .int .u8 0] 42)).heap.size = D + 1 + 1 := by simp [hD]
  rw [hD] at hk
  rw [hs1] at hz
  rw [hs2] at hl
  generalize ((w.alloc (.cells #[.int .i64 o.kind, .int .i64 o.sp, .int .i64 o.ak, .bool o.ap, .int .u64 o.av, .int .u8 o.byte, .int .u64 o.va, .int .i64 o.size, .bool o.at_.f0, .bool o.at_.f1, .bool o.at_.f2, .bool o.at_.f3, .bool o.at_.f4, .bool o.at_.f5, .int .i64 o.other, .int .u64 o.too] 36)).alloc (.cells #[.int .i64 0, .int .i64 0, .int .u8 0] 42)).alloc (.cells #[.int .i64 o.ak, .bool o.ap, .int .u64 o.av] 32) = w1 at *
  clear hs1 hs2
  obtain ⟨-, o1, -⟩ := cells16 hk
  obtain ⟨c0, c1, c2⟩ := cells3 hl
  rw [HOV.out] at c2
  have HZ := Aside0.mk hz
  have HB := Aside0.mk hb
  have HK := Aside0.mk hk
  have HL := Aside0.mk hl
  clear hz hb hk hl
  go_wp2_with fail
  refine (at_no (HM.out.below HB.out) o.sp hsp.out av hva HN.out).mono ?_
  rintro e w2 ⟨rfl, hb2⟩
  have hp3 := blk_alloc (blk_new w2 (.cells #[.int .u64 0, .int .i64 0, .int .u64 0, .bool false, .bool false, .bool false, .bool false, .bool false, .bool false, .bool false, .bool false] 50)) (.cells #[.int .i64 0, .int .u64 0, .int .i64 0] 84)
  have hb3 := hb2.trans ((((Below.refl _ w2).alloc (Nat.le_refl _) (.cells #[.int .u64 0, .int .i64 0, .int .u64 0, .bool false, .bool false, .bool false, .bool false, .bool false, .bool false, .bool false, .bool false] 50)).alloc (by simp) (.cells #[.int .i64 0, .int .u64 0, .int .i64 0] 84)).mono hb2.size)
  unfold pgv kyv z0
  have HZ3 := Aside0.mk (blk_below HZ.out hb3)
  have HK3 := Aside0.mk (blk_below HK.out hb3)
  have HL3 := Aside0.mk (blk_below HL.out hb3)
  have HB3 := Aside0.mk (below_step HB.out hb3)
  have HP3 := Aside0.mk hp3
  clear hb2 hb3 hp3 o1 c0 c1 c2 HZ HK HL HB
  go_upto_region 3 with fail
  generalize (w2.alloc (.cells #[.int .u64 0, .int .i64 0, .int .u64 0, .bool false, .bool false, .bool false, .bool false, .bool false, .bool false, .bool false, .bool false] 50)).alloc (.cells #[.int .i64 0, .int .u64 0, .int .i64 0] 84) = w3 at *
  generalize w2.heap.size = G at *
  obtain ⟨-, -, -, p3, p4, p5, p6, p7, p8, -, -⟩ := cells11 HP3.out
  obtain ⟨c0, c1, c2⟩ := cells3 HL3.out
  rw [HOV.out] at c2
  go_wp2_with fail
  refine (fault_Judge.calls 10 false false false false false false o.ak o.ap (av : Int) jn w3 HJ.out).mono ?_
  rintro e w4 ⟨rfl, hb4⟩
  have HZ4 := Aside0.mk (blk_below HZ3.out hb4)
  have HK4 := Aside0.mk (blk_below HK3.out hb4)
  have HL4 := Aside0.mk (blk_below HL3.out hb4)
  have HB4 := Aside0.mk (below_step HB3.out hb4)
  clear hb4 p3 p4 p5 p6 p7 p8 c0 c1 c2 HP3 HZ3 HK3 HL3 HB3
  obtain ⟨-, o1, -⟩ := cells16 HK4.out
  go_wp2_with fail
  have hbn := (Below.refl _ w4).alloc (Nat.le_refl _) (.cells #[.int .i64 o.sp] 3)
  have hl5 := blk_new w4 (.cells #[.int .i64 o.sp] 3)
  have HZ := Aside0.mk (blk_below HZ4.out hbn)
  have HL := Aside0.mk (blk_below HL4.out hbn)
  have HB := Aside0.mk (below_step HB4.out hbn)
  clear hbn o1 HZ4 HK4 HL4 HB4
  generalize w4.alloc (.cells #[.int .i64 o.sp] 3) = w5 at *
  generalize w4.heap.size = G2 at *
  refine (is_calls (HM.out.below HB.out) [o.sp] (some ⟨G2, 0, none⟩) 1 (c_lit (xs := [o.sp]) hl5 (by simp)) (by simp)).mono ?_
  rintro e w6 ⟨rfl, rfl⟩
  clear hl5
  generalize hia : isAll s.n [o.sp] = ia at *
  cases ia with
  | false =>
    rw [if_neg (by simp)] at HR
    go_wp2_with fail
    refine (model_told.calls 1 _ _ _ w5 rfl).mono ?_
    rintro e w2z ⟨rfl, hb2⟩
    have hz2 := blk_below HZ.out hb2
    have HB2 := Aside0.mk (below_step HB.out hb2)
    obtain ⟨z0, z1, z2⟩ := cells3 hz2
    have y0 := blk_frozen hz2 0
    have y1 := blk_frozen hz2 1
    have y2 := blk_frozen hz2 2
    clear hb2
    go_wp2_with fail
    rw [set3 hz2]
    refine bodyPost_ret (results_cell_row rfl _ _ (D + 1) 42 _ (0, 0) _ rfl (sb_same hz2 _) Try.underlying42 rfl (by kernel_rfl)) rfl ?_
    exact Rep3.same HM.out (below_sb HB2.out (by omega) _) HR.out
  | true =>
    clear hia
    obtain ⟨c0, c1, c2⟩ := cells3 HL.out
    rw [HOV.out] at c2
    go_wp2_with fail
    refine (fault_May.calls o.ak o.ap (av : Int) my w5 HMY.out).mono ?_
    rintro e w6 ⟨rfl, hb6⟩
    have HZ6 := Aside0.mk (blk_below HZ.out hb6)
    have HL6 := Aside0.mk (blk_below HL.out hb6)
    have HB6 := Aside0.mk (below_step HB.out hb6)
    clear hb6 c0 c1 c2 HZ HL HB
    have HZ := HZ6
    have HB := HB6
    clear HZ6 HB6
    cases my with
    | false =>
      rw [if_neg (by have := of_decide_eq_false HMYD.out; intro h; exact this h.2)] at HR
      go_wp2_with fail
      refine (model_told.calls 1 _ _ _ w6 rfl).mono ?_
      rintro e w2z ⟨rfl, hb2⟩
      have hz2 := blk_below HZ.out hb2
      have HB2 := Aside0.mk (below_step HB.out hb2)
      obtain ⟨z0, z1, z2⟩ := cells3 hz2
      have y0 := blk_frozen hz2 0
      have y1 := blk_frozen hz2 1
      have y2 := blk_frozen hz2 2
      clear hb2
      go_wp2_with fail
      rw [set3 hz2]
      refine bodyPost_ret (results_cell_row rfl _ _ (D + 1) 42 _ (0, 0) _ rfl (sb_same hz2 _) Try.underlying42 rfl (by kernel_rfl)) rfl ?_
      exact Rep3.same HM.out (below_sb HB2.out (by omega) _) HR.out
    | true =>
      rw [if_pos ⟨by trivial, of_decide_eq_true HMYD.out⟩] at HR
      obtain ⟨c0, c1, c2⟩ := cells3 HL6.out
      rw [HOV.out] at c2
      go_wp2_with fail
      refine (page_Hole.calls (av : Int) hob w6 HHO.out).mono ?_
      rintro e w7 ⟨rfl, hd⟩
      have HZ7 := Aside0.mk (blk_below HZ.out hd.below)
      have HB7 := Aside0.mk (below_step HB.out hd.below)
      clear hd c0 c1 c2 HZ HB HL6
      have HZ := HZ7
      have HB := HB7
      clear HZ7 HB7
      cases hob with
      | true =>
        rw [if_pos rfl] at HR
        obtain ⟨z0, z1, z2⟩ := cells3 HZ.out
        have y0 := blk_frozen HZ.out 0
        have y1 := blk_frozen HZ.out 1
        have y2 := blk_frozen HZ.out 2
        go_wp2_with fail
        rw [set3 HZ.out]
        refine bodyPost_ret (results_cell_row rfl _ _ (D + 1) 42 _ (0, 0) _ rfl (sb_same HZ.out _) Try.underlying42 rfl (by kernel_rfl)) rfl ?_
        exact Rep3.same HM.out (below_sb HB.out (by omega) _) HR.out
      | false =>
        rw [if_neg (by simp)] at HR
        obtain ⟨z0, z1, z2⟩ := cells3 HZ.out
        have y0 := blk_frozen HZ.out 0
        have y1 := blk_frozen HZ.out 1
        have y2 := blk_frozen HZ.out 2
        go_wp2_with fail
        rw [set3 HZ.out]
        refine bodyPost_ret (results_cell_row rfl _ _ (D + 1) 42 _ (0, 0) _ rfl (sb_same HZ.out _) Try.underlying42 rfl (by kernel_rfl)) rfl ?_
        exact Rep3.same HM.out (below_sb HB.out (by omega) _) HR.out
end
end Go.Proofs.Ytalmemcidbmdgaa.PM


/- A model (layer 16): access where a page is there, and a fault: the walk. -/
set_option linter.unusedVariables false
set_option linter.unusedSimpArgs false
namespace Go.Proofs.Ytalmemcidbmdgaa.PM
open Go.RowKit Go.Proofs.YtalmemcidbmdgaaW.PrintWords Go.Proofs.YtalmemcidbmdgaaW.PrintLast Go.Proofs.YtalmemcidbmdgaaW.PrintMore Go.Proofs.Ytalmemcidbmdgaa.PageG
attribute [local go_sem] max2_int min2_int max_two min_two max_three min_three max_four min_four   -- for this text's walks alone
section
variable {w w' : World} {B pm bm : Nat} {s : MS}
set_option maxHeartbeats 8000000 in
set_option maxRecDepth 100000 in
theorem access_fault (h : Mo w B pm bm s) (hw : WfL s.L) (o : OpS) (ho : OkO o) {i : Nat} {x : Ent} (hfd : find s.L o.sp o.av.toNat = some i) (hx : s.L[i]? = some x) (hbad : ¬ (isAll s.n [o.sp] = true ∧ (0 ≤ o.ak ∧ o.ak < 4) ∧ holeB o.av.toNat = false ∧ judgeN x.f1.f3 o.ak o.ap = 0)) :
    Calls Try.prog 38 #[.pointer (some ⟨B, 0, none⟩), Value.agg #[.int .i64 o.kind, .int .i64 o.sp, .int .i64 o.ak, .bool o.ap, .int .u64 o.av, .int .u8 o.byte, .int .u64 o.va, .int .i64 o.size, .bool o.at_.f0, .bool o.at_.f1, .bool o.at_.f2, .bool o.at_.f3, .bool o.at_.f4, .bool o.at_.f5, .int .i64 o.other, .int .u64 o.too]] w (Rep3 w B pm bm (accessR s o)) := by
  have HM := Aside0.mk h
  have HR := Aside0.mk (show accessR s o = if isAll s.n [o.sp] = true ∧ (0 ≤ o.ak ∧ o.ak < 4) then (if holeB o.av.toNat = true then ((0, 1, 0), s) else ((0, judgeN x.f1.f3 o.ak o.ap, 0), s)) else ((1, 0, 0), s) by
    unfold accessR
    rw [hfd]
    simp only [hx]
    by_cases h1 : isAll s.n [o.sp] = true ∧ (0 ≤ o.ak ∧ o.ak < 4)
    · rw [if_pos h1, if_pos h1]
      cases hh : holeB o.av.toNat with
      | true => rfl
      | false =>
        have hj0 : ¬ judgeN x.f1.f3 o.ak o.ap = 0 := fun hj => hbad ⟨h1.1, h1.2, hh, hj⟩
        simp [hj0]
    · rw [if_neg h1, if_neg h1])
  obtain ⟨res, hres⟩ : ∃ res, accessR s o = res := ⟨_, rfl⟩
  rw [hres] at HR ⊢
  clear hres
  obtain ⟨av, hvd⟩ : ∃ av : Nat, o.av.toNat = av := ⟨_, rfl⟩
  have hh0 : hit o.sp o.av.toNat x = true := by
    obtain ⟨y, hy, hh⟩ := find_some hfd
    rw [hx] at hy
    cases hy
    exact hh
  rw [hvd] at HR hh0 hbad
  have hva : av < 2 ^ 64 := by have := ho.av; omega
  have HOV := Aside0.mk (show o.av = (av : Int) by have := ho.av; omega)
  have HW := Aside0.mk hw
  have HX := Aside0.mk (List.mem_of_getElem? hx)
  have HH := Aside0.mk hh0
  have hsp := Aside0.mk ho.sp
  have HJ := Aside0.mk (judge_f x.f1.f3 o.ak (av : Int) o.ap)
  have HMY := Aside0.mk (fmay_f o.ak (av : Int) o.ap)
  have HHO := Aside0.mk (hole_f av hva)
  generalize judgeN x.f1.f3 o.ak o.ap = jn at *
  generalize hmy : decide (0 ≤ o.ak ∧ o.ak < 4) = my at *
  have HMYD := Aside0.mk hmy
  generalize hho : holeB av = hob at *
  have HBAD := Aside0.mk hbad
  clear h hw ho hvd hfd hmy hho hx hh0 hbad
  obtain ⟨D, hD⟩ : ∃ D, w.heap.size = D := ⟨_, rfl⟩
  go_enter Try.func38, Try.ntmps38
  go_upto_region 2 with fail
  have hk := blk_alloc (blk_alloc (blk_new w (.cells #[.int .i64 o.kind, .int .i64 o.sp, .int .i64 o.ak, .bool o.ap, .int .u64 o.av, .int .u8 o.byte, .int .u64 o.va, .int .i64 o.size, .bool o.at_.f0, .bool o.at_.f1, .bool o.at_.f2, .bool o.at_.f3, .bool o.at_.f4, .bool o.at_.f5, .int .i64 o.other, .int .u64 o.too] 36)) (.cells #[.int .i64 0, .int .i64 0, .int .u8 0] 42)) (.cells #[.int .i64 o.ak, .bool o.ap, .int .u64 o.av] 32)
  have hz := blk_alloc (blk_new (w.alloc (.cells #[.int .i64 o.kind, .int .i64 o.sp, .int .i64 o.ak, .bool o.ap, .int .u64 o.av, .int .u8 o.byte, .int .u64 o.va, .int .i64 o.size, .bool o.at_.f0, .bool o.at_.f1, .bool o.at_.f2, .bool o.at_.f3, .bool o.at_.f4, .bool o.at_.f5, .int .i64 o.other, .int .u64 o.too] 36)) (.cells #[.int .i64 0, .int .i64 0, .int .u8 0] 42)) (.cells #[.int .i64 o.ak, .bool o.ap, .int .u64 o.av] 32)
  have hl := blk_new ((w.alloc (.cells #[.int .i64 o.kind, .int .i64 o.sp, .int .i64 o.ak, .bool o.ap, .int .u64 o.av, .int .u8 o.byte, .int .u64 o.va, .int .i64 o.size, .bool o.at_.f0, .bool o.at_.f1, .bool o.at_.f2, .bool o.at_.f3, .bool o.at_.f4, .bool o.at_.f5, .int .i64 o.other, .int .u64 o.too] 36)).alloc (.cells #[.int .i64 0, .int .i64 0, .int .u8 0] 42)) (.cells #[.int .i64 o.ak, .bool o.ap, .int .u64 o.av] 32)
  have hb : Below w.heap.size w (((w.alloc (.cells #[.int .i64 o.kind, .int .i64 o.sp, .int .i64 o.ak, .bool o.ap, .int .u64 o.av, .int .u8 o.byte, .int .u64 o.va, .int .i64 o.size, .bool o.at_.f0, .bool o.at_.f1, .bool o.at_.f2, .bool o.at_.f3, .bool o.at_.f4, .bool o.at_.f5, .int .i64 o.other, .int .u64 o.too] 36)).alloc (.cells #[.int .i64 0, .int .i64 0, .int .u8 0] 42)).alloc (.cells #[.int .i64 o.ak, .bool o.ap, .int .u64 o.av] 32)) := (((Below.refl _ w).alloc (Nat.le_refl _) _).alloc (by simp) _).alloc (by simp; omega) _
  have hs1 : (w.alloc (.cells #[.int .i64 o.kind, .int .i64 o.sp, .int .i64 o.ak, .bool o.ap, .int .u64 o.av, .int .u8 o.byte, .int .u64 o.va, .int .i64 o.size, .bool o.at_.f0, .bool o.at_.f1, .bool o.at_.f2, .bool o.at_.f3, .bool o.at_.f4, .bool o.at_.f5, .int .i64 o.other, .int .u64 o.too] 36)).heap.size = D + 1 := by simp [hD]
  have hs2 : ((w.alloc (.cells #[.int .i64 o.kind, .int .i64 o.sp, .int .i64 o.ak, .bool o.ap, .int .u64 o.av, .int .u8 o.byte, .int .u64 o.va, .int .i64 o.size, .bool o.at_.f0, .bool o.at_.f1, .bool o.at_.f2, .bool o.at_.f3, .bool o.at_.f4, .bool o.at_.f5, .int .i64 o.other, .int .u64 o.too] 36)).alloc (.cells #[.int .i64 0, .int .i64 0, .int .u8 0] 42)).heap.size = D + 1 + 1 := by simp [hD]
  rw [hD] at hk
  rw [hs1] at hz
  rw [hs2] at hl
  generalize ((w.alloc (.cells #[.int .i64 o.kind, .int .i64 o.sp, .int .i64 o.ak, .bool o.ap, .int .u64 o.av, .int .u8 o.byte, .int .u64 o.va, .int .i64 o.size, .bool o.at_.f0, .bool o.at_.f1, .bool o.at_.f2, .bool o.at_.f3, .bool o.at_.f4, .bool o.at_.f5, .int .i64 o.other, .int .u64 o.too] 36)).alloc (.cells #[.int .i64 0, .int .i64 0, .int .u8 0] 42)).alloc (.cells #[.int .i64 o.ak, .bool o.ap, .int .u64 o.av] 32) = w1 at *
  clear hs1 hs2
  obtain ⟨-, o1, -⟩ := cells16 hk
  obtain ⟨c0, c1, c2⟩ := cells3 hl
  rw [HOV.out] at c2
  have HZ := Aside0.mk hz
  have HB := Aside0.mk hb
  have HK := Aside0.mk hk
  have HL := Aside0.mk hl
  clear hz hb hk hl
  go_wp2_with fail
  refine (at_yes (HM.out.below HB.out) HW.out o.sp hsp.out av hva x HX.out HH.out).mono ?_
  rintro e w2 ⟨rfl, hb2⟩
  have hp3 := blk_alloc (blk_new w2 (.cells #[.int .u64 x.f1.f0, .int .i64 x.f1.f1, .int .u64 x.f1.f2, .bool x.f1.f3.f0, .bool x.f1.f3.f1, .bool x.f1.f3.f2, .bool x.f1.f3.f3, .bool x.f1.f3.f4, .bool x.f1.f3.f5, .bool x.f1.f4, .bool x.f1.f5] 50)) (.cells #[.int .i64 x.f0, .int .u64 x.f1.f0, .int .i64 x.f1.f1] 84)
  have hb3 := hb2.trans ((((Below.refl _ w2).alloc (Nat.le_refl _) (.cells #[.int .u64 x.f1.f0, .int .i64 x.f1.f1, .int .u64 x.f1.f2, .bool x.f1.f3.f0, .bool x.f1.f3.f1, .bool x.f1.f3.f2, .bool x.f1.f3.f3, .bool x.f1.f3.f4, .bool x.f1.f3.f5, .bool x.f1.f4, .bool x.f1.f5] 50)).alloc (by simp) (.cells #[.int .i64 x.f0, .int .u64 x.f1.f0, .int .i64 x.f1.f1] 84)).mono hb2.size)
  unfold pgv kyv
  have HZ3 := Aside0.mk (blk_below HZ.out hb3)
  have HK3 := Aside0.mk (blk_below HK.out hb3)
  have HL3 := Aside0.mk (blk_below HL.out hb3)
  have HB3 := Aside0.mk (below_step HB.out hb3)
  have HP3 := Aside0.mk hp3
  clear hb2 hb3 hp3 o1 c0 c1 c2 HZ HK HL HB
  go_upto_region 3 with fail
  generalize (w2.alloc (.cells #[.int .u64 x.f1.f0, .int .i64 x.f1.f1, .int .u64 x.f1.f2, .bool x.f1.f3.f0, .bool x.f1.f3.f1, .bool x.f1.f3.f2, .bool x.f1.f3.f3, .bool x.f1.f3.f4, .bool x.f1.f3.f5, .bool x.f1.f4, .bool x.f1.f5] 50)).alloc (.cells #[.int .i64 x.f0, .int .u64 x.f1.f0, .int .i64 x.f1.f1] 84) = w3 at *
  generalize w2.heap.size = G at *
  obtain ⟨-, -, -, p3, p4, p5, p6, p7, p8, -, -⟩ := cells11 HP3.out
  obtain ⟨c0, c1, c2⟩ := cells3 HL3.out
  rw [HOV.out] at c2
  go_wp2_with fail
  refine (fault_Judge.calls 10 x.f1.f3.f0 x.f1.f3.f1 x.f1.f3.f2 x.f1.f3.f3 x.f1.f3.f4 x.f1.f3.f5 o.ak o.ap (av : Int) jn w3 HJ.out).mono ?_
  rintro e w4 ⟨rfl, hb4⟩
  have HZ4 := Aside0.mk (blk_below HZ3.out hb4)
  have HK4 := Aside0.mk (blk_below HK3.out hb4)
  have HL4 := Aside0.mk (blk_below HL3.out hb4)
  have HB4 := Aside0.mk (below_step HB3.out hb4)
  clear hb4 p3 p4 p5 p6 p7 p8 c0 c1 c2 HP3 HZ3 HK3 HL3 HB3
  obtain ⟨-, o1, -⟩ := cells16 HK4.out
  go_wp2_with fail
  have hbn := (Below.refl _ w4).alloc (Nat.le_refl _) (.cells #[.int .i64 o.sp] 3)
  have hl5 := blk_new w4 (.cells #[.int .i64 o.sp] 3)
  have HZ := Aside0.mk (blk_below HZ4.out hbn)
  have HL := Aside0.mk (blk_below HL4.out hbn)
  have HB := Aside0.mk (below_step HB4.out hbn)
  clear hbn o1 HZ4 HK4 HL4 HB4
  generalize w4.alloc (.cells #[.int .i64 o.sp] 3) = w5 at *
  generalize w4.heap.size = G2 at *
  refine (is_calls (HM.out.below HB.out) [o.sp] (some ⟨G2, 0, none⟩) 1 (c_lit (xs := [o.sp]) hl5 (by simp)) (by simp)).mono ?_
  rintro e w6 ⟨rfl, rfl⟩
  clear hl5
  generalize hia : isAll s.n [o.sp] = ia at *
  cases ia with
  | false =>
    rw [if_neg (by simp)] at HR
    go_wp2_with fail
    refine (model_told.calls 1 _ _ _ w5 rfl).mono ?_
    rintro e w2z ⟨rfl, hb2⟩
    have hz2 := blk_below HZ.out hb2
    have HB2 := Aside0.mk (below_step HB.out hb2)
    obtain ⟨z0, z1, z2⟩ := cells3 hz2
    have y0 := blk_frozen hz2 0
    have y1 := blk_frozen hz2 1
    have y2 := blk_frozen hz2 2
    clear hb2
    go_wp2_with fail
    rw [set3 hz2]
    refine bodyPost_ret (results_cell_row rfl _ _ (D + 1) 42 _ (0, 0) _ rfl (sb_same hz2 _) Try.underlying42 rfl (by kernel_rfl)) rfl ?_
    exact Rep3.same HM.out (below_sb HB2.out (by omega) _) HR.out
  | true =>
    have HIA := Aside0.mk (show true = true from rfl)
    clear hia
    obtain ⟨c0, c1, c2⟩ := cells3 HL.out
    rw [HOV.out] at c2
    go_wp2_with fail
    refine (fault_May.calls o.ak o.ap (av : Int) my w5 HMY.out).mono ?_
    rintro e w6 ⟨rfl, hb6⟩
    have HZ6 := Aside0.mk (blk_below HZ.out hb6)
    have HL6 := Aside0.mk (blk_below HL.out hb6)
    have HB6 := Aside0.mk (below_step HB.out hb6)
    clear hb6 c0 c1 c2 HZ HL HB
    have HZ := HZ6
    have HB := HB6
    clear HZ6 HB6
    cases my with
    | false =>
      rw [if_neg (by have := of_decide_eq_false HMYD.out; intro h; exact this h.2)] at HR
      go_wp2_with fail
      refine (model_told.calls 1 _ _ _ w6 rfl).mono ?_
      rintro e w2z ⟨rfl, hb2⟩
      have hz2 := blk_below HZ.out hb2
      have HB2 := Aside0.mk (below_step HB.out hb2)
      obtain ⟨z0, z1, z2⟩ := cells3 hz2
      have y0 := blk_frozen hz2 0
      have y1 := blk_frozen hz2 1
      have y2 := blk_frozen hz2 2
      clear hb2
      go_wp2_with fail
      rw [set3 hz2]
      refine bodyPost_ret (results_cell_row rfl _ _ (D + 1) 42 _ (0, 0) _ rfl (sb_same hz2 _) Try.underlying42 rfl (by kernel_rfl)) rfl ?_
      exact Rep3.same HM.out (below_sb HB2.out (by omega) _) HR.out
    | true =>
      rw [if_pos ⟨by trivial, of_decide_eq_true HMYD.out⟩] at HR
      obtain ⟨c0, c1, c2⟩ := cells3 HL6.out
      rw [HOV.out] at c2
      go_wp2_with fail
      refine (page_Hole.calls (av : Int) hob w6 HHO.out).mono ?_
      rintro e w7 ⟨rfl, hd⟩
      have HZ7 := Aside0.mk (blk_below HZ.out hd.below)
      have HB7 := Aside0.mk (below_step HB.out hd.below)
      clear hd c0 c1 c2 HZ HB HL6
      have HZ := HZ7
      have HB := HB7
      clear HZ7 HB7
      cases hob with
      | true =>
        rw [if_pos rfl] at HR
        obtain ⟨z0, z1, z2⟩ := cells3 HZ.out
        have y0 := blk_frozen HZ.out 0
        have y1 := blk_frozen HZ.out 1
        have y2 := blk_frozen HZ.out 2
        go_wp2_with fail
        rw [set3 HZ.out]
        refine bodyPost_ret (results_cell_row rfl _ _ (D + 1) 42 _ (0, 0) _ rfl (sb_same HZ.out _) Try.underlying42 rfl (by kernel_rfl)) rfl ?_
        exact Rep3.same HM.out (below_sb HB.out (by omega) _) HR.out
      | false =>
        rw [if_neg (by simp)] at HR
        have hjn : jn ≠ 0 := fun hj => HBAD.out ⟨HIA.out, of_decide_eq_true HMYD.out, rfl, hj⟩
        have hjb : (jn != 0) = true := by simp [hjn]
        obtain ⟨z0, z1, z2⟩ := cells3 HZ.out
        have y0 := blk_frozen HZ.out 0
        have y1 := blk_frozen HZ.out 1
        have y2 := blk_frozen HZ.out 2
        go_wp2_with fail
        rw [set3 HZ.out]
        refine bodyPost_ret (results_cell_row rfl _ _ (D + 1) 42 _ (0, 0) _ rfl (sb_same HZ.out _) Try.underlying42 rfl (by kernel_rfl)) rfl ?_
        exact Rep3.same HM.out (below_sb HB.out (by omega) _) HR.out
end
end Go.Proofs.Ytalmemcidbmdgaa.PM



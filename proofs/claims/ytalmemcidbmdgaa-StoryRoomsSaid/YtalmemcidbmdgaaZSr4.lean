import Derived.Test.YtalmemcidbmdgaaZSr3
import Derived.Laws.EntriesVeiled
import Derived.Deep.WholeRow
/- A model (layer 16): access where a page is there, and no fault: the walk (under way). -/
set_option linter.unusedVariables false
set_option linter.unusedSimpArgs false
namespace Go.Proofs.Ytalmemcidbmdgaa.PM
open Go.RowKit Go.Proofs.YtalmemcidbmdgaaW.PrintWords Go.Proofs.YtalmemcidbmdgaaW.PrintLast Go.Proofs.YtalmemcidbmdgaaW.PrintMore Go.Proofs.Ytalmemcidbmdgaa.PageG
attribute [local go_sem] max2_int min2_int max_two min_two max_three min_three max_four min_four   -- for this text's walks alone
section
variable {w w' : World} {B pm bm : Nat} {s : MS}
set_option maxHeartbeats 8000000 in
set_option maxRecDepth 100000 in
theorem access_ok (h : Mo w B pm bm s) (hw : WfL s.L) (o : OpS) (ho : OkO o) {i : Nat} {x : Ent} (hfd : find s.L o.sp o.av.toNat = some i) (hx : s.L[i]? = some x) (hia : isAll s.n [o.sp] = true) (hak : 0 ≤ o.ak ∧ o.ak < 4) (hho0 : holeB o.av.toNat = false) (hjn : judgeN x.f1.f3 o.ak o.ap = 0) :
    Calls Try.prog 38 #[.pointer (some ⟨B, 0, none⟩), Value.agg #[.int .i64 o.kind, .int .i64 o.sp, .int .i64 o.ak, .bool o.ap, .int .u64 o.av, .int .u8 o.byte, .int .u64 o.va, .int .i64 o.size, .bool o.at_.f0, .bool o.at_.f1, .bool o.at_.f2, .bool o.at_.f3, .bool o.at_.f4, .bool o.at_.f5, .int .i64 o.other, .int .u64 o.too]] w (Rep3 w B pm bm (accessR s o)) := by
  have HM := Aside0.mk h
  have hr : accessR s o = (if o.ak = 1 then ((0, 0, 0), { s with L := s.L.set i ⟨x.f0, accP x.f1 o.ak⟩, by_ := putB s.by_ x.f1.f2 ((offN x o.av.toNat : Nat) : Int) o.byte }) else ((0, 0, getB s.by_ x.f1.f2 ((offN x o.av.toNat : Nat) : Int)), { s with L := s.L.set i ⟨x.f0, accP x.f1 o.ak⟩ })) := by
    unfold accessR
    rw [if_pos ⟨hia, hak⟩, if_neg (by rw [hho0]; simp), hfd]
    simp only [hx]
    rw [if_pos hjn]
  obtain ⟨res, hres⟩ : ∃ res, accessR s o = res := ⟨_, rfl⟩
  rw [hres] at hr ⊢
  clear hres
  obtain ⟨av, hvd⟩ : ∃ av : Nat, o.av.toNat = av := ⟨_, rfl⟩
  rw [hvd] at hr
  have HR := Aside0.mk hr
  clear hr
  have hh0 : hit o.sp o.av.toNat x = true := by
    obtain ⟨y, hy, hh⟩ := find_some hfd
    rw [hx] at hy
    cases hy
    exact hh
  rw [hvd] at hh0 hho0
  have hva : av < 2 ^ 64 := by have := ho.av; omega
  have HOV := Aside0.mk (show o.av = (av : Int) by have := ho.av; omega)
  have HW := Aside0.mk hw
  have HX := Aside0.mk (List.mem_of_getElem? hx)
  have HXI := Aside0.mk hx
  have HBY := Aside0.mk ho.by_
  have HFD := Aside0.mk hfd
  have HH := Aside0.mk hh0
  have hsp := Aside0.mk ho.sp
  have HJ := Aside0.mk (judge_f x.f1.f3 o.ak (av : Int) o.ap)
  have HMY := Aside0.mk (fmay_f o.ak (av : Int) o.ap)
  have HHO := Aside0.mk (hole_f av hva)
  rw [hjn] at HJ
  clear hjn
  rw [decide_eq_true hak] at HMY
  rw [hho0] at HHO
  have HIA := Aside0.mk hia
  have HLT := Aside0.mk h.lt
  have HVD := Aside0.mk hvd
  have HAK := Aside0.mk hak
  clear h hw ho hfd hho0 hx hh0 hia hvd hak
  obtain ⟨D, hD⟩ : ∃ D, w.heap.size = D := ⟨_, rfl⟩
  go_enter Try.func38, Try.ntmps38
  go_upto_region 2 with fail
  have hk := blk_alloc (blk_alloc (blk_new w (.cells #[.int .i64 o.kind, .int .i64 o.sp, .int .i64 o.ak, .bool o.ap, .int .u64 o.av, .int .u8 o.byte, .int .u64 o.va, .int .i64 o.size, .bool o.at_.f0, .bool o.at_.f1, .bool o.at_.f2, .bool o.at_.f3, .bool o.at_.f4, .bool o.at_.f5, .int .i64 o.other, .int .u64 o.too] 36)) (.cells #[.int .i64 0, .int .i64 0, .int .u8 0] 42)) (.cells #[.int .i64 o.ak, .bool o.ap, .int .u64 o.av] 32)
  have hz := blk_alloc (blk_new (w.alloc (.cells #[.int .i64 o.kind, .int .i64 o.sp, .int .i64 o.ak, .bool o.ap, .int .u64 o.av, .int .u8 o.byte, .int .u64 o.va, .int .i64 o.size, .bool o.at_.f0, .bool o.at_.f1, .bool o.at_.f2, .bool o.at_.f3, .bool o.at_.f4, .bool o.at_.f5, .int .i64 o.other, .int .u64 o.too] 36)) (.cells #[.int .i64 0, .int .i64 0, .int .u8 0] 42)) (.cells #[.int .i64 o.ak, .bool o.ap, .int .u64 o.av] 32)
  have hl := blk_new ((w.alloc (.cells #[.int .i64 o.kind, .int .i64 o.sp, .int .i64 o.ak, .bool o.ap, .int .u64 o.av, .int .u8 o.byte, .int .u64 o.va, .int .i64 o.size, .bool o.at_.f0, .bool o.at_.f1, .bool o.at_.f2, .bool o.at_.f3, .bool o.at_.f4, .bool o.at_.f5, .int .i64 o.other, .int .u64 o.too] 36)).alloc (.cells #[.int .i64 0, .int .i64 0, .int .u8 0] 42)) (.cells #[.int .i64 o.ak, .bool o.ap, .int .u64 o.av] 32)
  have hb : Below w.heap.size w (((w.alloc (.cells #[.int .i64 o.kind, .int .i64 o.sp, .int .i64 o.ak, .bool o.ap, .int .u64 o.av, .int .u8 o.byte, .int .u64 o.va, .int .i64 o.size, .bool o.at_.f0, .bool o.at_.f1, .bool o.at_.f2, .bool o.at_.f3, .bool o.at_.f4, .bool o.at_.f5, .int .i64 o.other, .int .u64 o.too] 36)).alloc (.cells #[.int .i64 0, .int .i64 0, .int .u8 0] 42)).alloc (.cells #[.int .i64 o.ak, .bool o.ap, .int .u64 o.av] 32)) := (((Below.refl _ w).alloc (Nat.le_refl _) _).alloc (by simp) _).alloc (by simp; omega) _
  have hs1 : (w.alloc (.cells #[.int .i64 o.kind, .int .i64 o.sp, .int .i64 o.ak, .bool o.ap, .int .u64 o.av, .int .u8 o.byte, .int .u64 o.va, .int .i64 o.size, .bool o.at_.f0, .bool o.at_.f1, .bool o.at_.f2, .bool o.at_.f3, .bool o.at_.f4, .bool o.at_.f5, .int .i64 o.other, .int .u64 o.too] 36)).heap.size = D + 1 := by simp [hD]
  have hs2 : ((w.alloc (.cells #[.int .i64 o.kind, .int .i64 o.sp, .int .i64 o.ak, .bool o.ap, .int .u64 o.av, .int .u8 o.byte, .int .u64 o.va, .int .i64 o.size, .bool o.at_.f0, .bool o.at_.f1, .bool o.at_.f2, .bool o.at_.f3, .bool o.at_.f4, .bool o.at_.f5, .int .i64 o.other, .int .u64 o.too] 36)).alloc (.cells #[.int .i64 0, .int .i64 0, .int .u8 0] 42)).heap.size = D + 1 + 1 := by simp [hD]
  rw [hD] at hk
  rw [hs1] at hz
  rw [hs2] at hl
  generalize ((w.alloc (.cells #[.int .i64 o.kind, .int .i64 o.sp, .int .i64 o.ak, .bool o.ap, .int .u64 o.av, .int .u8 o.byte, .int .u64 o.va, .int .i64 o.size, .bool o.at_.f0, .bool o.at_.f1, .bool o.at_.f2, .bool o.at_.f3, .bool o.at_.f4, .bool o.at_.f5, .int .i64 o.other, .int .u64 o.too] 36)).alloc (.cells #[.int .i64 0, .int .i64 0, .int .u8 0] 42)).alloc (.cells #[.int .i64 o.ak, .bool o.ap, .int .u64 o.av] 32) = w1 at *
  clear hs1 hs2
  obtain ⟨-, o1, -⟩ := cells16 hk
  obtain ⟨c0, c1, c2⟩ := cells3 hl
  rw [HOV.out] at c2
  have HZ := Aside0.mk hz
  have HB := Aside0.mk hb
  have HK := Aside0.mk hk
  have HL := Aside0.mk hl
  clear hz hb hk hl
  go_wp2_with fail
  refine (at_yes (HM.out.below HB.out) HW.out o.sp hsp.out av hva x HX.out HH.out).mono ?_
  rintro e w2 ⟨rfl, hb2⟩
  have hp3 := blk_alloc (blk_new w2 (.cells #[.int .u64 x.f1.f0, .int .i64 x.f1.f1, .int .u64 x.f1.f2, .bool x.f1.f3.f0, .bool x.f1.f3.f1, .bool x.f1.f3.f2, .bool x.f1.f3.f3, .bool x.f1.f3.f4, .bool x.f1.f3.f5, .bool x.f1.f4, .bool x.f1.f5] 50)) (.cells #[.int .i64 x.f0, .int .u64 x.f1.f0, .int .i64 x.f1.f1] 84)
  have hb3 := hb2.trans ((((Below.refl _ w2).alloc (Nat.le_refl _) (.cells #[.int .u64 x.f1.f0, .int .i64 x.f1.f1, .int .u64 x.f1.f2, .bool x.f1.f3.f0, .bool x.f1.f3.f1, .bool x.f1.f3.f2, .bool x.f1.f3.f3, .bool x.f1.f3.f4, .bool x.f1.f3.f5, .bool x.f1.f4, .bool x.f1.f5] 50)).alloc (by simp) (.cells #[.int .i64 x.f0, .int .u64 x.f1.f0, .int .i64 x.f1.f1] 84)).mono hb2.size)
  unfold pgv kyv
  have HZ3 := Aside0.mk (blk_below HZ.out hb3)
  have HK3 := Aside0.mk (blk_below HK.out hb3)
  have HL3 := Aside0.mk (blk_below HL.out hb3)
  have HB3 := Aside0.mk (below_step HB.out hb3)
  have HP3 := Aside0.mk hp3
  have hy3 := blk_new (w2.alloc (.cells #[.int .u64 x.f1.f0, .int .i64 x.f1.f1, .int .u64 x.f1.f2, .bool x.f1.f3.f0, .bool x.f1.f3.f1, .bool x.f1.f3.f2, .bool x.f1.f3.f3, .bool x.f1.f3.f4, .bool x.f1.f3.f5, .bool x.f1.f4, .bool x.f1.f5] 50)) (.cells #[.int .i64 x.f0, .int .u64 x.f1.f0, .int .i64 x.f1.f1] 84)
  rw [World.size_alloc] at hy3
  have HY3 := Aside0.mk hy3
  clear hy3
  have HGD := Aside0.mk (show D + 1 + 1 < w2.heap.size from Nat.lt_of_lt_of_le (blk_lt HL.out) hb2.size)
  clear hb2 hb3 hp3 o1 c0 c1 c2 HZ HK HL HB
  go_upto_region 3 with fail
  generalize (w2.alloc (.cells #[.int .u64 x.f1.f0, .int .i64 x.f1.f1, .int .u64 x.f1.f2, .bool x.f1.f3.f0, .bool x.f1.f3.f1, .bool x.f1.f3.f2, .bool x.f1.f3.f3, .bool x.f1.f3.f4, .bool x.f1.f3.f5, .bool x.f1.f4, .bool x.f1.f5] 50)).alloc (.cells #[.int .i64 x.f0, .int .u64 x.f1.f0, .int .i64 x.f1.f1] 84) = w3 at *
  generalize w2.heap.size = G at *
  obtain ⟨-, -, -, p3, p4, p5, p6, p7, p8, -, -⟩ := cells11 HP3.out
  obtain ⟨c0, c1, c2⟩ := cells3 HL3.out
  rw [HOV.out] at c2
  go_wp2_with fail
  refine (fault_Judge.calls 10 x.f1.f3.f0 x.f1.f3.f1 x.f1.f3.f2 x.f1.f3.f3 x.f1.f3.f4 x.f1.f3.f5 o.ak o.ap (av : Int) 0 w3 HJ.out).mono ?_
  rintro e w4 ⟨rfl, hb4⟩
  have HZ4 := Aside0.mk (blk_below HZ3.out hb4)
  have HK4 := Aside0.mk (blk_below HK3.out hb4)
  have HL4 := Aside0.mk (blk_below HL3.out hb4)
  have HP4 := Aside0.mk (blk_below HP3.out hb4)
  have HY4 := Aside0.mk (blk_below HY3.out hb4)
  have HB4 := Aside0.mk (below_step HB3.out hb4)
  clear hb4 p3 p4 p5 p6 p7 p8 c0 c1 c2 HP3 HY3 HZ3 HK3 HL3 HB3
  obtain ⟨-, o1, -⟩ := cells16 HK4.out
  go_wp2_with fail
  have hbn := (Below.refl _ w4).alloc (Nat.le_refl _) (.cells #[.int .i64 o.sp] 3)
  have hl5 := blk_new w4 (.cells #[.int .i64 o.sp] 3)
  have HZ := Aside0.mk (blk_below HZ4.out hbn)
  have HL := Aside0.mk (blk_below HL4.out hbn)
  have HP := Aside0.mk (blk_below HP4.out hbn)
  have HY := Aside0.mk (blk_below HY4.out hbn)
  have HK := Aside0.mk (blk_below HK4.out hbn)
  have HB := Aside0.mk (below_step HB4.out hbn)
  clear hbn o1 HZ4 HK4 HL4 HB4 HP4 HY4
  generalize w4.alloc (.cells #[.int .i64 o.sp] 3) = w5 at *
  generalize w4.heap.size = G2 at *
  refine (is_calls (HM.out.below HB.out) [o.sp] (some ⟨G2, 0, none⟩) 1 (c_lit (xs := [o.sp]) hl5 (by simp)) (by simp)).mono ?_
  rintro e w6 ⟨rfl, rfl⟩
  clear hl5
  rw [HIA.out]
  obtain ⟨c0, c1, c2⟩ := cells3 HL.out
  rw [HOV.out] at c2
  go_wp2_with fail
  refine (fault_May.calls o.ak o.ap (av : Int) true w5 HMY.out).mono ?_
  rintro e w6 ⟨rfl, hb6⟩
  have HL6 := Aside0.mk (blk_below HL.out hb6)
  have HP6 := Aside0.mk (blk_below HP.out hb6)
  have HY6 := Aside0.mk (blk_below HY.out hb6)
  have HK6 := Aside0.mk (blk_below HK.out hb6)
  have HB6 := Aside0.mk (below_step HB.out hb6)
  have HZ6 := Aside0.mk (blk_below HZ.out hb6)
  clear hb6 c0 c1 c2 HL HB HZ HP HY HK
  obtain ⟨c0, c1, c2⟩ := cells3 HL6.out
  rw [HOV.out] at c2
  go_wp2_with fail
  refine (page_Hole.calls (av : Int) false w6 HHO.out).mono ?_
  rintro e w7 ⟨rfl, hd⟩
  have HZ7 := Aside0.mk (blk_below HZ6.out hd.below)
  have HL7 := Aside0.mk (blk_below HL6.out hd.below)
  have HP7 := Aside0.mk (blk_below HP6.out hd.below)
  have HY7 := Aside0.mk (blk_below HY6.out hd.below)
  have HK7 := Aside0.mk (blk_below HK6.out hd.below)
  have HB7 := Aside0.mk (below_step HB6.out hd.below)
  clear hd c0 c1 c2 HZ6 HL6 HB6 HP6 HY6 HK6
  go_upto_region 12 with fail
  obtain ⟨-, -, -, -, -, -, -, -, -, p4, p5⟩ := cells11 HP7.out
  have f4 := blk_frozen HP7.out 9
  have f5 := blk_frozen HP7.out 10
  obtain ⟨c0, -, -⟩ := cells3 HL7.out
  have hgd : D + 1 + 1 ≠ G := by have := HGD.out; omega
  rcases Bool.eq_false_or_eq_true x.f1.f5 with hf5 | hf5
  · rw [hf5] at p5
    refine start_ (n := 11) (S := fun w' => w'.cell? ⟨G, 10, none⟩ = some (.bool true) ∧ w'.cell? ⟨D + 1 + 1, 0, none⟩ = some (.int .i64 o.ak)) (ds := [10]) #[false, false, false, false, false, false, false, false, false, false, false] (by kernel_rfl) rfl rfl ⟨p5, c0⟩ (fun hHeld => ?_)
    refine pure_ (i := 0) (N := some 50) (v := ?_) (a' := ?_) #[true, false, false, false, false, false, false, false, false, false, false] rfl rfl (by kernel_rfl) (fun _ _ _ h => h) (Or.inl ⟨by rfl, ?_⟩) ?_ ?_
    rotate_left
    · intro w'
      go_simp
      with_reducible rfl
    rotate_left
    · simp only [Act.put, List.setIfInBounds_toArray, List.set_cons_zero, List.set_cons_succ, i64_w, i32_w]
      rfl
    refine take_ (i := 1) (N := some 51) (v := ?_) (a' := ?_) #[true, true, false, false, false, false, false, false, false, false, false] rfl rfl (by kernel_rfl) (fun _ _ _ h => h) (Or.inl ⟨by rfl, ?_⟩) hHeld ?_ ?_
    rotate_left
    · rintro w' ⟨s0, s1⟩
      go_simp
      with_reducible rfl
    rotate_left
    · simp only [Act.put, List.setIfInBounds_toArray, List.set_cons_zero, List.set_cons_succ, i64_w, i32_w]
      rfl
    refine pure_ (i := 2) (N := some 52) (v := ?_) (a' := ?_) #[true, true, true, false, false, false, false, false, false, false, false] rfl rfl (by kernel_rfl) (fun _ _ _ h => h) (Or.inl ⟨by rfl, ?_⟩) ?_ ?_
    rotate_left
    · intro w'
      go_simp
      with_reducible rfl
    rotate_left
    · simp only [Act.put, List.setIfInBounds_toArray, List.set_cons_zero, List.set_cons_succ, i64_w, i32_w]
      rfl
    refine pure_ (i := 3) (N := some 53) (v := undef) (a' := ?_) #[true, true, true, true, false, false, false, false, false, false, false] rfl rfl (by kernel_rfl) (fun _ _ _ h => h) (Or.inr ⟨by rfl, rfl⟩) ?_ ?_
    rotate_left
    · simp only [Act.put, List.setIfInBounds_toArray, List.set_cons_zero, List.set_cons_succ, i64_w, i32_w]
      rfl
    refine pure_ (i := 4) (N := some 54) (v := undef) (a' := ?_) #[true, true, true, true, true, false, false, false, false, false, false] rfl rfl (by kernel_rfl) (fun _ _ _ h => h) (Or.inr ⟨by rfl, rfl⟩) ?_ ?_
    rotate_left
    · simp only [Act.put, List.setIfInBounds_toArray, List.set_cons_zero, List.set_cons_succ, i64_w, i32_w]
      rfl
    refine pure_ (i := 5) (N := some 55) (v := undef) (a' := ?_) #[true, true, true, true, true, true, false, false, false, false, false] rfl rfl (by kernel_rfl) (fun _ _ _ h => h) (Or.inr ⟨by rfl, rfl⟩) ?_ ?_
    rotate_left
    · simp only [Act.put, List.setIfInBounds_toArray, List.set_cons_zero, List.set_cons_succ, i64_w, i32_w]
      rfl
    refine pure_ (i := 6) (N := some 56) (v := ?_) (a' := ?_) #[true, true, true, true, true, true, true, false, false, false, false] rfl rfl (by kernel_rfl) (fun _ _ _ h => h) (Or.inl ⟨by rfl, ?_⟩) ?_ ?_
    rotate_left
    · intro w'
      go_simp
      with_reducible rfl
    rotate_left
    · simp only [Act.put, List.setIfInBounds_toArray, List.set_cons_zero, List.set_cons_succ, i64_w, i32_w]
      rfl
    refine pure_ (i := 7) (N := some 57) (v := ?_) (a' := ?_) #[true, true, true, true, true, true, true, true, false, false, false] rfl rfl (by kernel_rfl) (fun _ _ _ h => h) (Or.inl ⟨by rfl, ?_⟩) ?_ ?_
    rotate_left
    · intro w'
      go_simp
      with_reducible rfl
    rotate_left
    · simp only [Act.put, List.setIfInBounds_toArray, List.set_cons_zero, List.set_cons_succ, i64_w, i32_w]
      rfl
    refine one_ (i := 8) (N := none) #[true, true, true, true, true, true, true, true, true, false, false] rfl rfl (by kernel_rfl) (by decide) (fun K hK => ?_)
    refine skip_ (w1 := ?_) (by rfl) rfl ?_ ?_
    rotate_left
    · go_simp
      with_reducible rfl
    refine hK.out _ _ (by obtain ⟨s0, s1⟩ := hHeld; constructor <;> go_simp) (fun hHeld => ?_)
    clear hK K
    refine pure_ (i := 9) (N := some 58) (v := ?_) (a' := ?_) #[true, true, true, true, true, true, true, true, true, true, false] rfl rfl (by kernel_rfl) (fun _ _ _ h => h) (Or.inl ⟨by rfl, ?_⟩) ?_ ?_
    rotate_left
    · intro w'
      go_simp
      with_reducible rfl
    rotate_left
    · simp only [Act.put, List.setIfInBounds_toArray, List.set_cons_zero, List.set_cons_succ, i64_w, i32_w]
      rfl
    refine last_ (i := 10) (N := none) #[true, true, true, true, true, true, true, true, true, true, true] rfl rfl (by kernel_rfl) (by decide) (fun K hK => ?_)
    refine skip_ (w1 := ?_) (by rfl) rfl ?_ ?_
    rotate_left
    · go_simp
      with_reducible rfl
    refine hK.out _ _ ?_
    clear hK K
    refine done_ (by kernel_rfl) ?_
    (try simp only [Exit.inBlock, Exit.then])
    have s9 := setCell_block (t := 50) (i := 9) (cs' := #[.int .u64 x.f1.f0, .int .i64 x.f1.f1, .int .u64 x.f1.f2, .bool x.f1.f3.f0, .bool x.f1.f3.f1, .bool x.f1.f3.f2, .bool x.f1.f3.f3, .bool x.f1.f3.f4, .bool x.f1.f3.f5, .bool true, Value.bool true]) HP7.out (.bool true) (by rw [hf5]; rfl)
    have s10 := sb_put (t := 50) (i := 10) (cs := #[.int .u64 x.f1.f0, .int .i64 x.f1.f1, .int .u64 x.f1.f2, .bool x.f1.f3.f0, .bool x.f1.f3.f1, .bool x.f1.f3.f2, .bool x.f1.f3.f3, .bool x.f1.f3.f4, .bool x.f1.f3.f5, .bool true, Value.bool true]) (cs' := #[.int .u64 x.f1.f0, .int .i64 x.f1.f1, .int .u64 x.f1.f2, .bool x.f1.f3.f0, .bool x.f1.f3.f1, .bool x.f1.f3.f2, .bool x.f1.f3.f3, .bool x.f1.f3.f4, .bool x.f1.f3.f5, .bool true, .bool (x.f1.f5 || (o.ak == 1))]) HP7.out (.bool true) (by rw [hf5]; rfl)
    rw [s9, s10]
    clear s9 s10
    have h8b := sb_same HP7.out (.cells #[.int .u64 x.f1.f0, .int .i64 x.f1.f1, .int .u64 x.f1.f2, .bool x.f1.f3.f0, .bool x.f1.f3.f1, .bool x.f1.f3.f2, .bool x.f1.f3.f3, .bool x.f1.f3.f4, .bool x.f1.f3.f5, .bool true, .bool (x.f1.f5 || (o.ak == 1))] 50 (0, 0))
    have h8y := (sb_other (W := w7) (b := G) (k := G + 1) (.cells #[.int .u64 x.f1.f0, .int .i64 x.f1.f1, .int .u64 x.f1.f2, .bool x.f1.f3.f0, .bool x.f1.f3.f1, .bool x.f1.f3.f2, .bool x.f1.f3.f3, .bool x.f1.f3.f4, .bool x.f1.f3.f5, .bool true, .bool (x.f1.f5 || (o.ak == 1))] 50 (0, 0)) (by omega)).trans HY7.out
    have h8l := (sb_other (W := w7) (b := G) (k := D + 1 + 1) (.cells #[.int .u64 x.f1.f0, .int .i64 x.f1.f1, .int .u64 x.f1.f2, .bool x.f1.f3.f0, .bool x.f1.f3.f1, .bool x.f1.f3.f2, .bool x.f1.f3.f3, .bool x.f1.f3.f4, .bool x.f1.f3.f5, .bool true, .bool (x.f1.f5 || (o.ak == 1))] 50 (0, 0)) hgd).trans HL7.out
    have h8z := (sb_other (W := w7) (b := G) (k := D + 1) (.cells #[.int .u64 x.f1.f0, .int .i64 x.f1.f1, .int .u64 x.f1.f2, .bool x.f1.f3.f0, .bool x.f1.f3.f1, .bool x.f1.f3.f2, .bool x.f1.f3.f3, .bool x.f1.f3.f4, .bool x.f1.f3.f5, .bool true, .bool (x.f1.f5 || (o.ak == 1))] 50 (0, 0)) (by have := HGD.out; omega)).trans HZ7.out
    have h8k := (sb_other (W := w7) (b := G) (k := D) (.cells #[.int .u64 x.f1.f0, .int .i64 x.f1.f1, .int .u64 x.f1.f2, .bool x.f1.f3.f0, .bool x.f1.f3.f1, .bool x.f1.f3.f2, .bool x.f1.f3.f3, .bool x.f1.f3.f4, .bool x.f1.f3.f5, .bool true, .bool (x.f1.f5 || (o.ak == 1))] 50 (0, 0)) (by have := HGD.out; omega)).trans HK7.out
    have h8w := below_sb HB7.out (g := G) (by have := HGD.out; omega) (.cells #[.int .u64 x.f1.f0, .int .i64 x.f1.f1, .int .u64 x.f1.f2, .bool x.f1.f3.f0, .bool x.f1.f3.f1, .bool x.f1.f3.f2, .bool x.f1.f3.f3, .bool x.f1.f3.f4, .bool x.f1.f3.f5, .bool true, .bool (x.f1.f5 || (o.ak == 1))] 50 (0, 0))
    generalize ChangeMaps.setBlock w7 G (.cells #[.int .u64 x.f1.f0, .int .i64 x.f1.f1, .int .u64 x.f1.f2, .bool x.f1.f3.f0, .bool x.f1.f3.f1, .bool x.f1.f3.f2, .bool x.f1.f3.f3, .bool x.f1.f3.f4, .bool x.f1.f3.f5, .bool true, .bool (x.f1.f5 || (o.ak == 1))] 50 (0, 0)) = w8 at *
    obtain ⟨p, hp⟩ : ∃ p : Pg, accP x.f1 o.ak = p := ⟨_, rfl⟩
    have HP := Aside0.mk hp
    have h8p : (w8.drew).heap[G]? = some (.cells #[.int .u64 p.f0, .int .i64 p.f1, .int .u64 p.f2, .bool p.f3.f0, .bool p.f3.f1, .bool p.f3.f2, .bool p.f3.f3, .bool p.f3.f4, .bool p.f3.f5, .bool p.f4, .bool p.f5] 50 (0, 0)) := by subst hp; exact h8b
    clear h8b hp p4 p5 f4 f5 c0 hHeld HP7
    have HP8 := Aside0.mk h8p
    have HY8 := Aside0.mk (show (w8.drew).heap[G + 1]? = _ from h8y)
    have HL8 := Aside0.mk (show (w8.drew).heap[D + 1 + 1]? = _ from h8l)
    have HZ8 := Aside0.mk (show (w8.drew).heap[D + 1]? = _ from h8z)
    have HK8 := Aside0.mk (show (w8.drew).heap[D]? = _ from h8k)
    have HB8 := Aside0.mk h8w.drew
    clear h8p h8y h8l h8z h8k h8w HY7 HL7 HZ7 HK7 HB7
    generalize w8.drew = w9 at *
    go_upto_region 13 with fail
    have hm9 := HM.out.below HB8.out
    obtain ⟨-, m1, -, -⟩ := hm9.cells
    obtain ⟨k0, k1, k2⟩ := cells3 HY8.out
    obtain ⟨p0, p1, p2, p3, p4, p5, p6, p7, p8, p9, p10⟩ := cells11 HP8.out
    obtain ⟨ob, hrun, hmo⟩ := (hm9.below (Below.refl _ w9).drew).set_page HW.out HXI.out p (by rw [← HP.out]; rfl) (by rw [← HP.out]; rfl)
    have HMO := Aside0.mk hmo
    unfold kyv pgv at hrun
    clear hm9 hmo
    refine start_ (n := 7) (S := fun w' => w'.cell? ⟨B, 1, none⟩ = some (.map (some pm)) ∧ w'.cell? ⟨G + 1, 0, none⟩ = some (.int .i64 x.f0) ∧ w'.cell? ⟨G + 1, 1, none⟩ = some (.int .u64 x.f1.f0) ∧ w'.cell? ⟨G + 1, 2, none⟩ = some (.int .i64 x.f1.f1) ∧ w'.cell? ⟨G, 0, none⟩ = some (.int .u64 p.f0) ∧ w'.cell? ⟨G, 1, none⟩ = some (.int .i64 p.f1) ∧ w'.cell? ⟨G, 2, none⟩ = some (.int .u64 p.f2) ∧ w'.cell? ⟨G, 3, none⟩ = some (.bool p.f3.f0) ∧ w'.cell? ⟨G, 4, none⟩ = some (.bool p.f3.f1) ∧ w'.cell? ⟨G, 5, none⟩ = some (.bool p.f3.f2) ∧ w'.cell? ⟨G, 6, none⟩ = some (.bool p.f3.f3) ∧ w'.cell? ⟨G, 7, none⟩ = some (.bool p.f3.f4) ∧ w'.cell? ⟨G, 8, none⟩ = some (.bool p.f3.f5) ∧ w'.cell? ⟨G, 9, none⟩ = some (.bool p.f4) ∧ w'.cell? ⟨G, 10, none⟩ = some (.bool p.f5)) (ds := [6]) #[false, false, false, false, false, false, false] (by kernel_rfl) rfl rfl ⟨m1, k0, k1, k2, p0, p1, p2, p3, p4, p5, p6, p7, p8, p9, p10⟩ (fun hHeld => ?_)
    refine pure_ (i := 0) (N := some 59) (v := ?_) (a' := ?_) #[true, false, false, false, false, false, false] rfl rfl (by kernel_rfl) (fun _ _ _ h => h) (Or.inl ⟨by rfl, ?_⟩) ?_ ?_
    rotate_left
    · intro w'
      go_simp
      with_reducible rfl
    rotate_left
    · simp only [Act.put, List.setIfInBounds_toArray, List.set_cons_zero, List.set_cons_succ, i64_w, i32_w]
      rfl
    refine pure_ (i := 1) (N := some 60) (v := ?_) (a' := ?_) #[true, true, false, false, false, false, false] rfl rfl (by kernel_rfl) (fun _ _ _ h => h) (Or.inl ⟨by rfl, ?_⟩) ?_ ?_
    rotate_left
    · intro w'
      go_simp
      with_reducible rfl
    rotate_left
    · simp only [Act.put, List.setIfInBounds_toArray, List.set_cons_zero, List.set_cons_succ, i64_w, i32_w]
      rfl
    refine pure_ (i := 2) (N := some 61) (v := ?_) (a' := ?_) #[true, true, true, false, false, false, false] rfl rfl (by kernel_rfl) (fun _ _ _ h => h) (Or.inl ⟨by rfl, ?_⟩) ?_ ?_
    rotate_left
    · intro w'
      go_simp
      with_reducible rfl
    rotate_left
    · simp only [Act.put, List.setIfInBounds_toArray, List.set_cons_zero, List.set_cons_succ, i64_w, i32_w]
      rfl
    refine take_ (i := 3) (N := some 62) (v := ?_) (a' := ?_) #[true, true, true, true, false, false, false] rfl rfl (by kernel_rfl) (fun _ _ _ h => h) (Or.inl ⟨by rfl, ?_⟩) hHeld ?_ ?_
    rotate_left
    · rintro w' ⟨s0, s1, s2, s3, s4, s5, s6, s7, s8, s9, s10, s11, s12, s13, s14⟩
      go_simp
      with_reducible rfl
    rotate_left
    · simp only [Act.put, List.setIfInBounds_toArray, List.set_cons_zero, List.set_cons_succ, i64_w, i32_w]
      rfl
    refine take_ (i := 4) (N := some 63) (v := ?_) (a' := ?_) #[true, true, true, true, true, false, false] rfl rfl (by kernel_rfl) (fun _ _ _ h => h) (Or.inl ⟨by rfl, ?_⟩) hHeld ?_ ?_
    rotate_left
    · rintro w' ⟨s0, s1, s2, s3, s4, s5, s6, s7, s8, s9, s10, s11, s12, s13, s14⟩
      go_simp
      with_reducible rfl
    rotate_left
    · simp only [Act.put, List.setIfInBounds_toArray, List.set_cons_zero, List.set_cons_succ, i64_w, i32_w]
      rfl
    refine take_ (i := 5) (N := some 64) (v := ?_) (a' := ?_) #[true, true, true, true, true, true, false] rfl rfl (by kernel_rfl) (fun _ _ _ h => h) (Or.inl ⟨by rfl, ?_⟩) hHeld ?_ ?_
    rotate_left
    · rintro w' ⟨s0, s1, s2, s3, s4, s5, s6, s7, s8, s9, s10, s11, s12, s13, s14⟩
      go_simp
      with_reducible rfl
    rotate_left
    · simp only [Act.put, List.setIfInBounds_toArray, List.set_cons_zero, List.set_cons_succ, i64_w, i32_w]
      rfl
    refine last_ (i := 6) (N := none) #[true, true, true, true, true, true, true] rfl rfl (by kernel_rfl) (by decide) (fun K hK => ?_)
    refine skip_ (w1 := _) (by rfl) rfl (run_mapUpdate rfl rfl rfl rfl hrun) ?_
    refine hK.out _ _ ?_
    clear hK K
    refine done_ (by kernel_rfl) ?_
    (try simp only [Exit.inBlock, Exit.then])
    clear m1 k0 k1 k2 p0 p1 p2 p3 p4 p5 p6 p7 p8 p9 p10 hHeld hrun
    have hpm : pm < D := by have := HLT.out pm (by simp); omega
    have h10p := (sb_other (W := w9.drew) (b := pm) (k := G) ob (by have := HGD.out; omega)).trans (show (w9.drew).heap[G]? = _ from HP8.out)
    have h10l := (sb_other (W := w9.drew) (b := pm) (k := D + 1 + 1) ob (by omega)).trans (show (w9.drew).heap[D + 1 + 1]? = _ from HL8.out)
    have h10z := (sb_other (W := w9.drew) (b := pm) (k := D + 1) ob (by omega)).trans (show (w9.drew).heap[D + 1]? = _ from HZ8.out)
    have h10k := (sb_other (W := w9.drew) (b := pm) (k := D) ob (by omega)).trans (show (w9.drew).heap[D]? = _ from HK8.out)
    have HV := Aside0.mk ((Mv.of_below HB8.out.drew : Mv [B, pm, bm] w _).setBlock (b := pm) (.inl (by simp)) ob)
    generalize ChangeMaps.setBlock w9.drew pm ob = w10 at *
    have HP10 := Aside0.mk h10p
    have HL10 := Aside0.mk h10l
    have HZ10 := Aside0.mk h10z
    have HK10 := Aside0.mk h10k
    obtain ⟨c0, -, -⟩ := cells3 h10l
    clear h10p h10l h10z h10k HP8 HY8 HL8 HZ8 HK8 HB8
    have hok := HW.out.ok x HX.out
    have hsf : model_spotOf.f p.f0 p.f1 p.f2 p.f3.f0 p.f3.f1 p.f3.f2 p.f3.f3 p.f3.f4 p.f3.f5 p.f4 p.f5 (av : Int) = some (x.f1.f2, ((offN x av : Nat) : Int)) := by rw [← HP.out]; exact spot_f (p := accP x.f1 o.ak) hok.pa0 hok.pa1 (off_f hok hva)
    have HSF := Aside0.mk hsf
    have h1 : W64 x.f1.f2 := ⟨by have := hok.pa0; omega, by have := hok.pa1; omega⟩
    have h2 : U64 ((offN x av : Nat) : Int) := ⟨by omega, by have := offN_lt (x := x) hva; omega⟩
    have HRG := Aside0.mk h1
    have HOF := Aside0.mk h2
    clear hsf hok h1 h2
    by_cases hak1 : o.ak = 1
    · have hr := HR.out
      rw [if_pos hak1] at hr
      have HR1 := Aside0.mk hr
      clear hr
      have hb1 : (o.ak == 1) = true := beq_iff_eq.2 hak1
      have hb2 : (o.ak != 1) = false := by simp [hak1]
      have HAK1 := Aside0.mk hak1
      clear hak1
      go_upto_region 16 with fail
      clear hb1 hb2 c0
      have HH := Aside0.mk (show ∀ W, Below w10.heap.size w10 W → (W.cell? ⟨B, 2, none⟩ = some (.map (some bm)) ∧ W.cell? ⟨D + 1 + 1, 2, none⟩ = some (.int .u64 (av : Int)) ∧ W.cell? ⟨D, 5, none⟩ = some (.int .u8 o.byte) ∧ W.cell? ⟨G, 0, none⟩ = some (.int .u64 p.f0) ∧ W.cell? ⟨G, 1, none⟩ = some (.int .i64 p.f1) ∧ W.cell? ⟨G, 2, none⟩ = some (.int .u64 p.f2) ∧ W.cell? ⟨G, 3, none⟩ = some (.bool p.f3.f0) ∧ W.cell? ⟨G, 4, none⟩ = some (.bool p.f3.f1) ∧ W.cell? ⟨G, 5, none⟩ = some (.bool p.f3.f2) ∧ W.cell? ⟨G, 6, none⟩ = some (.bool p.f3.f3) ∧ W.cell? ⟨G, 7, none⟩ = some (.bool p.f3.f4) ∧ W.cell? ⟨G, 8, none⟩ = some (.bool p.f3.f5) ∧ W.cell? ⟨G, 9, none⟩ = some (.bool p.f4) ∧ W.cell? ⟨G, 10, none⟩ = some (.bool p.f5)) from fun W hb => by
        obtain ⟨-, -, m2, -⟩ := (HMO.out.below hb).cells
        obtain ⟨-, -, c2⟩ := cells3 (blk_below HL10.out hb)
        rw [HOV.out] at c2
        obtain ⟨-, -, -, -, -, o5, -, -, -, -, -, -, -, -, -, -⟩ := cells16 (blk_below HK10.out hb)
        obtain ⟨p0, p1, p2, p3, p4, p5, p6, p7, p8, p9, p10⟩ := cells11 (blk_below HP10.out hb)
        exact ⟨m2, c2, o5, p0, p1, p2, p3, p4, p5, p6, p7, p8, p9, p10⟩)
      refine start_ (n := 11) (S := fun w' => w'.cell? ⟨B, 2, none⟩ = some (.map (some bm)) ∧ w'.cell? ⟨D + 1 + 1, 2, none⟩ = some (.int .u64 (av : Int)) ∧ w'.cell? ⟨D, 5, none⟩ = some (.int .u8 o.byte) ∧ w'.cell? ⟨G, 0, none⟩ = some (.int .u64 p.f0) ∧ w'.cell? ⟨G, 1, none⟩ = some (.int .i64 p.f1) ∧ w'.cell? ⟨G, 2, none⟩ = some (.int .u64 p.f2) ∧ w'.cell? ⟨G, 3, none⟩ = some (.bool p.f3.f0) ∧ w'.cell? ⟨G, 4, none⟩ = some (.bool p.f3.f1) ∧ w'.cell? ⟨G, 5, none⟩ = some (.bool p.f3.f2) ∧ w'.cell? ⟨G, 6, none⟩ = some (.bool p.f3.f3) ∧ w'.cell? ⟨G, 7, none⟩ = some (.bool p.f3.f4) ∧ w'.cell? ⟨G, 8, none⟩ = some (.bool p.f3.f5) ∧ w'.cell? ⟨G, 9, none⟩ = some (.bool p.f4) ∧ w'.cell? ⟨G, 10, none⟩ = some (.bool p.f5)) (ds := [10]) #[false, false, false, false, false, false, false, false, false, false, false] (by kernel_rfl) rfl rfl (by first | exact HH.out _ (Below.refl _ _) | exact HH.out _ (Below.refl _ _).drew) (fun hHeld => ?_)
      refine pure_ (i := 0) (N := some 78) (v := ?_) (a' := ?_) #[true, false, false, false, false, false, false, false, false, false, false] rfl rfl (by kernel_rfl) (fun _ _ _ h => h) (Or.inl ⟨by rfl, ?_⟩) ?_ ?_
      rotate_left
      · intro w'
        go_simp
        with_reducible rfl
      rotate_left
      · simp only [Act.put, List.setIfInBounds_toArray, List.set_cons_zero, List.set_cons_succ, i64_w, i32_w]
        rfl
      refine pure_ (i := 1) (N := some 79) (v := ?_) (a' := ?_) #[true, true, false, false, false, false, false, false, false, false, false] rfl rfl (by kernel_rfl) (fun _ _ _ h => h) (Or.inl ⟨by rfl, ?_⟩) ?_ ?_
      rotate_left
      · intro w'
        go_simp
        with_reducible rfl
      rotate_left
      · simp only [Act.put, List.setIfInBounds_toArray, List.set_cons_zero, List.set_cons_succ, i64_w, i32_w]
        rfl
      refine pure_ (i := 2) (N := some 80) (v := ?_) (a' := ?_) #[true, true, true, false, false, false, false, false, false, false, false] rfl rfl (by kernel_rfl) (fun _ _ _ h => h) (Or.inl ⟨by rfl, ?_⟩) ?_ ?_
      rotate_left
      · intro w'
        go_simp
        with_reducible rfl
      rotate_left
      · simp only [Act.put, List.setIfInBounds_toArray, List.set_cons_zero, List.set_cons_succ, i64_w, i32_w]
        rfl
      refine pure_ (i := 5) (N := some 83) (v := ?_) (a' := ?_) #[true, true, true, false, false, true, false, false, false, false, false] rfl rfl (by kernel_rfl) (fun _ _ _ h => h) (Or.inl ⟨by rfl, ?_⟩) ?_ ?_
      rotate_left
      · intro w'
        go_simp
        with_reducible rfl
      rotate_left
      · simp only [Act.put, List.setIfInBounds_toArray, List.set_cons_zero, List.set_cons_succ, i64_w, i32_w]
        rfl
      refine pure_ (i := 8) (N := some 86) (v := ?_) (a' := ?_) #[true, true, true, false, false, true, false, false, true, false, false] rfl rfl (by kernel_rfl) (fun _ _ _ h => h) (Or.inl ⟨by rfl, ?_⟩) ?_ ?_
      rotate_left
      · intro w'
        go_simp
        with_reducible rfl
      rotate_left
      · simp only [Act.put, List.setIfInBounds_toArray, List.set_cons_zero, List.set_cons_succ, i64_w, i32_w]
        rfl
      refine take_ (i := 3) (N := some 81) (v := ?_) (a' := ?_) #[true, true, true, true, false, true, false, false, true, false, false] rfl rfl (by kernel_rfl) (fun _ _ _ h => h) (Or.inl ⟨by rfl, ?_⟩) hHeld ?_ ?_
      rotate_left
      · rintro w' ⟨s0, s1, s2, s3, s4, s5, s6, s7, s8, s9, s10, s11, s12, s13⟩
        go_simp
        with_reducible rfl
      rotate_left
      · simp only [Act.put, List.setIfInBounds_toArray, List.set_cons_zero, List.set_cons_succ, i64_w, i32_w]
        rfl
      refine take_ (i := 4) (N := some 82) (v := ?_) (a' := ?_) #[true, true, true, true, true, true, false, false, true, false, false] rfl rfl (by kernel_rfl) (fun _ _ _ h => h) (Or.inl ⟨by rfl, ?_⟩) hHeld ?_ ?_
      rotate_left
      · rintro w' ⟨s0, s1, s2, s3, s4, s5, s6, s7, s8, s9, s10, s11, s12, s13⟩
        go_simp
        with_reducible rfl
      rotate_left
      · simp only [Act.put, List.setIfInBounds_toArray, List.set_cons_zero, List.set_cons_succ, i64_w, i32_w]
        rfl
      refine take_ (i := 6) (N := some 84) (v := ?_) (a' := ?_) #[true, true, true, true, true, true, true, false, true, false, false] rfl rfl (by kernel_rfl) (fun _ _ _ h => h) (Or.inl ⟨by rfl, ?_⟩) hHeld ?_ ?_
      rotate_left
      · rintro w' ⟨s0, s1, s2, s3, s4, s5, s6, s7, s8, s9, s10, s11, s12, s13⟩
        go_simp
        with_reducible rfl
      rotate_left
      · simp only [Act.put, List.setIfInBounds_toArray, List.set_cons_zero, List.set_cons_succ, i64_w, i32_w]
        rfl
      refine take_ (i := 9) (N := some 87) (v := ?_) (a' := ?_) #[true, true, true, true, true, true, true, false, true, true, false] rfl rfl (by kernel_rfl) (fun _ _ _ h => h) (Or.inl ⟨by rfl, ?_⟩) hHeld ?_ ?_
      rotate_left
      · rintro w' ⟨s0, s1, s2, s3, s4, s5, s6, s7, s8, s9, s10, s11, s12, s13⟩
        go_simp
        with_reducible rfl
      rotate_left
      · simp only [Act.put, List.setIfInBounds_toArray, List.set_cons_zero, List.set_cons_succ, i64_w, i32_w]
        rfl
      refine one_ (i := 7) (N := some 85) #[true, true, true, true, true, true, true, true, true, true, false] rfl rfl (by kernel_rfl) (by decide) (fun K hK => ?_)
      refine goes_ Try.func52 (by kernel_rfl) rfl #[.agg #[.int .u64 p.f0, .int .i64 p.f1, .int .u64 p.f2, .bool p.f3.f0, .bool p.f3.f1, .bool p.f3.f2, .bool p.f3.f3, .bool p.f3.f4, .bool p.f3.f5, .bool p.f4, .bool p.f5], .int .u64 (av : Int)] (by rfl) rfl rfl (by (try simp only [List.map_toArray, List.map_cons, List.map_nil]); first | done | rfl) ?_
      refine (model_spotOf.calls p.f0 p.f1 p.f2 p.f3.f0 p.f3.f1 p.f3.f2 p.f3.f3 p.f3.f4 p.f3.f5 p.f4 p.f5 (av : Int) _ _ _ HSF.out).mono ?_
      rintro e w11 ⟨rfl, hbel⟩
      refine ⟨_, rfl, ?_⟩
      have hb11 := (Below.refl _ w10).drew.trans hbel
      have HB11 := Aside0.mk hb11
      obtain ⟨ob2, hrun2, hmo2⟩ := (HMO.out.below hb11).set_byte HRG.out HOF.out HBY.out.1 HBY.out.2
      unfold spv at hrun2
      have HMO2 := Aside0.mk hmo2
      clear hbel hb11 hmo2
      refine hK.out _ _ (HH.out _ HB11.out) (fun hHeld => ?_)
      clear hK K
      refine norm_ (a' := ?_) ?_ ?_
      rotate_left
      · show Act.put _ (some 85) _ = _
        simp only [Act.put, List.setIfInBounds_toArray, List.set_cons_zero, List.set_cons_succ, i64_w, i32_w]
        rfl
      refine last_ (i := 10) (N := none) #[true, true, true, true, true, true, true, true, true, true, true] rfl rfl (by kernel_rfl) (by decide) (fun K hK => ?_)
      refine skip_ (w1 := _) (by rfl) rfl (run_mapUpdate rfl rfl rfl rfl hrun2) ?_
      refine hK.out _ _ ?_
      clear hK K
      refine done_ (by kernel_rfl) ?_
      (try simp only [Exit.inBlock, Exit.then])
      clear hHeld hrun2
      have hnZ : D + 1 ∉ [B, pm, bm] := fun hm => by have := HLT.out _ hm; omega
      have hbm : D + 1 ≠ bm := fun e => hnZ (by rw [e]; simp)
      have hz12 := (sb_other (W := w11) (b := bm) ob2 hbm).trans (blk_below HZ10.out HB11.out)
      have HV12 := Aside0.mk (((HV.out.trans (S' := []) (Mv.of_below HB11.out) (fun _ hk => by simp at hk)) : Mv [B, pm, bm] w w11).setBlock (b := bm) (.inl (by simp)) ob2)
      generalize ChangeMaps.setBlock w11 bm ob2 = w12 at *
      have HNZ := Aside0.mk hnZ
      obtain ⟨z0, z1, z2⟩ := cells3 hz12
      have y0 := blk_frozen hz12 0
      have y1 := blk_frozen hz12 1
      have y2 := blk_frozen hz12 2
      have HZ12 := Aside0.mk hz12
      clear hz12 hnZ hbm
      go_wp2_with fail
      rw [set3 HZ12.out]
      refine bodyPost_ret (results_cell_row rfl _ _ (D + 1) 42 _ (0, 0) _ rfl (sb_same HZ12.out _) Try.underlying42 rfl (by kernel_rfl)) rfl ?_
      rw [HR1.out, HP.out]
      exact ⟨rfl, HMO2.out.move (fun k hk => sb_other _ (fun e => HNZ.out (e ▸ hk))), HV12.out.setBlock (.inr (by omega)) _⟩
    · have hr := HR.out
      rw [if_neg hak1] at hr
      have HR1 := Aside0.mk hr
      clear hr
      have hb1 : (o.ak == 1) = false := beq_eq_false_iff_ne.2 hak1
      have hb2 : (o.ak != 1) = true := by simp [hak1]
      have HAK1 := Aside0.mk hak1
      clear hak1
      go_upto_region 15 with fail
      clear hb1 hb2 c0
      have HH := Aside0.mk (show ∀ W, Below w10.heap.size w10 W → (W.cell? ⟨B, 2, none⟩ = some (.map (some bm)) ∧ W.cell? ⟨D + 1 + 1, 2, none⟩ = some (.int .u64 (av : Int)) ∧ W.cell? ⟨G, 0, none⟩ = some (.int .u64 p.f0) ∧ W.cell? ⟨G, 1, none⟩ = some (.int .i64 p.f1) ∧ W.cell? ⟨G, 2, none⟩ = some (.int .u64 p.f2) ∧ W.cell? ⟨G, 3, none⟩ = some (.bool p.f3.f0) ∧ W.cell? ⟨G, 4, none⟩ = some (.bool p.f3.f1) ∧ W.cell? ⟨G, 5, none⟩ = some (.bool p.f3.f2) ∧ W.cell? ⟨G, 6, none⟩ = some (.bool p.f3.f3) ∧ W.cell? ⟨G, 7, none⟩ = some (.bool p.f3.f4) ∧ W.cell? ⟨G, 8, none⟩ = some (.bool p.f3.f5) ∧ W.cell? ⟨G, 9, none⟩ = some (.bool p.f4) ∧ W.cell? ⟨G, 10, none⟩ = some (.bool p.f5) ∧ (Instr.lookup 73 (.map (some bm)) (.agg #[.int .i64 x.f1.f2, .int .u64 ((offN x av : Nat) : Int)]) false).run Try.prog W = .ok (.int .u8 (getB s.by_ x.f1.f2 ((offN x av : Nat) : Int))) W) from fun W hb => by
        obtain ⟨-, -, m2, -⟩ := (HMO.out.below hb).cells
        obtain ⟨-, -, c2⟩ := cells3 (blk_below HL10.out hb)
        rw [HOV.out] at c2
        obtain ⟨p0, p1, p2, p3, p4, p5, p6, p7, p8, p9, p10⟩ := cells11 (blk_below HP10.out hb)
        exact ⟨m2, c2, p0, p1, p2, p3, p4, p5, p6, p7, p8, p9, p10, (HMO.out.below hb).look_b HRG.out HOF.out⟩)
      refine start_ (n := 11) (S := fun w' => w'.cell? ⟨B, 2, none⟩ = some (.map (some bm)) ∧ w'.cell? ⟨D + 1 + 1, 2, none⟩ = some (.int .u64 (av : Int)) ∧ w'.cell? ⟨G, 0, none⟩ = some (.int .u64 p.f0) ∧ w'.cell? ⟨G, 1, none⟩ = some (.int .i64 p.f1) ∧ w'.cell? ⟨G, 2, none⟩ = some (.int .u64 p.f2) ∧ w'.cell? ⟨G, 3, none⟩ = some (.bool p.f3.f0) ∧ w'.cell? ⟨G, 4, none⟩ = some (.bool p.f3.f1) ∧ w'.cell? ⟨G, 5, none⟩ = some (.bool p.f3.f2) ∧ w'.cell? ⟨G, 6, none⟩ = some (.bool p.f3.f3) ∧ w'.cell? ⟨G, 7, none⟩ = some (.bool p.f3.f4) ∧ w'.cell? ⟨G, 8, none⟩ = some (.bool p.f3.f5) ∧ w'.cell? ⟨G, 9, none⟩ = some (.bool p.f4) ∧ w'.cell? ⟨G, 10, none⟩ = some (.bool p.f5) ∧ (Instr.lookup 73 (.map (some bm)) (.agg #[.int .i64 x.f1.f2, .int .u64 ((offN x av : Nat) : Int)]) false).run Try.prog w' = .ok (.int .u8 (getB s.by_ x.f1.f2 ((offN x av : Nat) : Int))) w') (ds := [10]) #[false, false, false, false, false, false, false, false, false, false, false] (by kernel_rfl) rfl rfl (by first | exact HH.out _ (Below.refl _ _) | exact HH.out _ (Below.refl _ _).drew) (fun hHeld => ?_)
      refine pure_ (i := 0) (N := some 68) (v := ?_) (a' := ?_) #[true, false, false, false, false, false, false, false, false, false, false] rfl rfl (by kernel_rfl) (fun _ _ _ h => h) (Or.inl ⟨by rfl, ?_⟩) ?_ ?_
      rotate_left
      · intro w'
        go_simp
        with_reducible rfl
      rotate_left
      · simp only [Act.put, List.setIfInBounds_toArray, List.set_cons_zero, List.set_cons_succ, i64_w, i32_w]
        rfl
      refine pure_ (i := 1) (N := some 69) (v := ?_) (a' := ?_) #[true, true, false, false, false, false, false, false, false, false, false] rfl rfl (by kernel_rfl) (fun _ _ _ h => h) (Or.inl ⟨by rfl, ?_⟩) ?_ ?_
      rotate_left
      · intro w'
        go_simp
        with_reducible rfl
      rotate_left
      · simp only [Act.put, List.setIfInBounds_toArray, List.set_cons_zero, List.set_cons_succ, i64_w, i32_w]
        rfl
      refine pure_ (i := 2) (N := some 70) (v := ?_) (a' := ?_) #[true, true, true, false, false, false, false, false, false, false, false] rfl rfl (by kernel_rfl) (fun _ _ _ h => h) (Or.inl ⟨by rfl, ?_⟩) ?_ ?_
      rotate_left
      · intro w'
        go_simp
        with_reducible rfl
      rotate_left
      · simp only [Act.put, List.setIfInBounds_toArray, List.set_cons_zero, List.set_cons_succ, i64_w, i32_w]
        rfl
      refine pure_ (i := 5) (N := some 73) (v := ?_) (a' := ?_) #[true, true, true, false, false, true, false, false, false, false, false] rfl rfl (by kernel_rfl) (fun _ _ _ h => h) (Or.inl ⟨by rfl, ?_⟩) ?_ ?_
      rotate_left
      · intro w'
        go_simp
        with_reducible rfl
      rotate_left
      · simp only [Act.put, List.setIfInBounds_toArray, List.set_cons_zero, List.set_cons_succ, i64_w, i32_w]
        rfl
      refine take_ (i := 3) (N := some 71) (v := ?_) (a' := ?_) #[true, true, true, true, false, true, false, false, false, false, false] rfl rfl (by kernel_rfl) (fun _ _ _ h => h) (Or.inl ⟨by rfl, ?_⟩) hHeld ?_ ?_
      rotate_left
      · rintro w' ⟨s0, s1, s2, s3, s4, s5, s6, s7, s8, s9, s10, s11, s12, s13⟩
        go_simp
        with_reducible rfl
      rotate_left
      · simp only [Act.put, List.setIfInBounds_toArray, List.set_cons_zero, List.set_cons_succ, i64_w, i32_w]
        rfl
      refine take_ (i := 4) (N := some 72) (v := ?_) (a' := ?_) #[true, true, true, true, true, true, false, false, false, false, false] rfl rfl (by kernel_rfl) (fun _ _ _ h => h) (Or.inl ⟨by rfl, ?_⟩) hHeld ?_ ?_
      rotate_left
      · rintro w' ⟨s0, s1, s2, s3, s4, s5, s6, s7, s8, s9, s10, s11, s12, s13⟩
        go_simp
        with_reducible rfl
      rotate_left
      · simp only [Act.put, List.setIfInBounds_toArray, List.set_cons_zero, List.set_cons_succ, i64_w, i32_w]
        rfl
      refine take_ (i := 6) (N := some 74) (v := ?_) (a' := ?_) #[true, true, true, true, true, true, true, false, false, false, false] rfl rfl (by kernel_rfl) (fun _ _ _ h => h) (Or.inl ⟨by rfl, ?_⟩) hHeld ?_ ?_
      rotate_left
      · rintro w' ⟨s0, s1, s2, s3, s4, s5, s6, s7, s8, s9, s10, s11, s12, s13⟩
        go_simp
        with_reducible rfl
      rotate_left
      · simp only [Act.put, List.setIfInBounds_toArray, List.set_cons_zero, List.set_cons_succ, i64_w, i32_w]
        rfl
      refine one_ (i := 7) (N := some 75) #[true, true, true, true, true, true, true, true, false, false, false] rfl rfl (by kernel_rfl) (by decide) (fun K hK => ?_)
      refine goes_ Try.func52 (by kernel_rfl) rfl #[.agg #[.int .u64 p.f0, .int .i64 p.f1, .int .u64 p.f2, .bool p.f3.f0, .bool p.f3.f1, .bool p.f3.f2, .bool p.f3.f3, .bool p.f3.f4, .bool p.f3.f5, .bool p.f4, .bool p.f5], .int .u64 (av : Int)] (by rfl) rfl rfl (by (try simp only [List.map_toArray, List.map_cons, List.map_nil]); first | done | rfl) ?_
      refine (model_spotOf.calls p.f0 p.f1 p.f2 p.f3.f0 p.f3.f1 p.f3.f2 p.f3.f3 p.f3.f4 p.f3.f5 p.f4 p.f5 (av : Int) _ _ _ HSF.out).mono ?_
      rintro e w11 ⟨rfl, hbel⟩
      refine ⟨_, rfl, ?_⟩
      have hb11 := (Below.refl _ w10).drew.trans hbel
      have HB11 := Aside0.mk hb11
      have HZ11 := Aside0.mk (blk_below HZ10.out hb11)
      clear hbel hb11
      refine hK.out _ _ (HH.out _ HB11.out) (fun hHeld => ?_)
      clear hK K
      refine norm_ (a' := ?_) ?_ ?_
      rotate_left
      · show Act.put _ (some 75) _ = _
        simp only [Act.put, List.setIfInBounds_toArray, List.set_cons_zero, List.set_cons_succ, i64_w, i32_w]
        rfl
      refine take_ (i := 8) (N := some 76) (v := ?_) (a' := ?_) #[true, true, true, true, true, true, true, true, true, false, false] rfl rfl (by kernel_rfl) (fun _ _ _ h => h) (Or.inl ⟨by rfl, ?_⟩) hHeld ?_ ?_
      rotate_left
      · rintro w' ⟨s0, s1, s2, s3, s4, s5, s6, s7, s8, s9, s10, s11, s12, s13⟩
        go_simp
        with_reducible rfl
      rotate_left
      · simp only [Act.put, List.setIfInBounds_toArray, List.set_cons_zero, List.set_cons_succ, i64_w, i32_w]
        rfl
      refine pure_ (i := 9) (N := some 77) (v := ?_) (a' := ?_) #[true, true, true, true, true, true, true, true, true, true, false] rfl rfl (by kernel_rfl) (fun _ _ _ h => h) (Or.inl ⟨by rfl, ?_⟩) ?_ ?_
      rotate_left
      · intro w'
        go_simp
        with_reducible rfl
      rotate_left
      · simp only [Act.put, List.setIfInBounds_toArray, List.set_cons_zero, List.set_cons_succ, i64_w, i32_w]
        rfl
      refine last_ (i := 10) (N := none) #[true, true, true, true, true, true, true, true, true, true, true] rfl rfl (by kernel_rfl) (by decide) (fun K hK => ?_)
      refine skip_ (w1 := _) (by rfl) rfl (run_store_reply rfl rfl rfl HZ11.out) ?_
      refine hK.out _ _ ?_
      clear hK K
      refine done_ (by kernel_rfl) ?_
      (try simp only [Exit.inBlock, Exit.then])
      clear hHeld
      have hnZ : D + 1 ∉ [B, pm, bm] := fun hm => by have := HLT.out _ hm; omega
      have HNZ := Aside0.mk hnZ
      have HV11 := Aside0.mk ((HV.out.trans (S' := []) (Mv.of_below HB11.out) (fun _ hk => by simp at hk)) : Mv [B, pm, bm] w w11)
      have HM11 := Aside0.mk (HMO.out.below HB11.out)
      go_wp2_with fail
      refine bodyPost_ret (results_cell_row rfl _ _ (D + 1) 42 _ (0, 0) _ rfl (sb_same HZ11.out _) Try.underlying42 rfl (by kernel_rfl)) rfl ?_
      rw [HR1.out, HP.out]
      exact ⟨rfl, HM11.out.move (fun k hk => sb_other _ (fun e => HNZ.out (e ▸ hk))), HV11.out.setBlock (.inr (by omega)) _⟩
  · rw [hf5] at p5
    refine start_ (n := 11) (S := fun w' => w'.cell? ⟨G, 10, none⟩ = some (.bool false) ∧ w'.cell? ⟨D + 1 + 1, 0, none⟩ = some (.int .i64 o.ak)) (ds := [10]) #[false, false, false, false, false, false, false, false, false, false, false] (by kernel_rfl) rfl rfl ⟨p5, c0⟩ (fun hHeld => ?_)
    refine pure_ (i := 0) (N := some 50) (v := ?_) (a' := ?_) #[true, false, false, false, false, false, false, false, false, false, false] rfl rfl (by kernel_rfl) (fun _ _ _ h => h) (Or.inl ⟨by rfl, ?_⟩) ?_ ?_
    rotate_left
    · intro w'
      go_simp
      with_reducible rfl
    rotate_left
    · simp only [Act.put, List.setIfInBounds_toArray, List.set_cons_zero, List.set_cons_succ, i64_w, i32_w]
      rfl
    refine take_ (i := 1) (N := some 51) (v := ?_) (a' := ?_) #[true, true, false, false, false, false, false, false, false, false, false] rfl rfl (by kernel_rfl) (fun _ _ _ h => h) (Or.inl ⟨by rfl, ?_⟩) hHeld ?_ ?_
    rotate_left
    · rintro w' ⟨s0, s1⟩
      go_simp
      with_reducible rfl
    rotate_left
    · simp only [Act.put, List.setIfInBounds_toArray, List.set_cons_zero, List.set_cons_succ, i64_w, i32_w]
      rfl
    refine pure_ (i := 2) (N := some 52) (v := ?_) (a' := ?_) #[true, true, true, false, false, false, false, false, false, false, false] rfl rfl (by kernel_rfl) (fun _ _ _ h => h) (Or.inl ⟨by rfl, ?_⟩) ?_ ?_
    rotate_left
    · intro w'
      go_simp
      with_reducible rfl
    rotate_left
    · simp only [Act.put, List.setIfInBounds_toArray, List.set_cons_zero, List.set_cons_succ, i64_w, i32_w]
      rfl
    refine pure_ (i := 3) (N := some 53) (v := ?_) (a' := ?_) #[true, true, true, true, false, false, false, false, false, false, false] rfl rfl (by kernel_rfl) (fun _ _ _ h => h) (Or.inl ⟨by rfl, ?_⟩) ?_ ?_
    rotate_left
    · intro w'
      go_simp
      with_reducible rfl
    rotate_left
    · simp only [Act.put, List.setIfInBounds_toArray, List.set_cons_zero, List.set_cons_succ, i64_w, i32_w]
      rfl
    refine pure_ (i := 7) (N := some 57) (v := ?_) (a' := ?_) #[true, true, true, true, false, false, false, true, false, false, false] rfl rfl (by kernel_rfl) (fun _ _ _ h => h) (Or.inl ⟨by rfl, ?_⟩) ?_ ?_
    rotate_left
    · intro w'
      go_simp
      with_reducible rfl
    rotate_left
    · simp only [Act.put, List.setIfInBounds_toArray, List.set_cons_zero, List.set_cons_succ, i64_w, i32_w]
      rfl
    refine take_ (i := 4) (N := some 54) (v := ?_) (a' := ?_) #[true, true, true, true, true, false, false, true, false, false, false] rfl rfl (by kernel_rfl) (fun _ _ _ h => h) (Or.inl ⟨by rfl, ?_⟩) hHeld ?_ ?_
    rotate_left
    · rintro w' ⟨s0, s1⟩
      go_simp
      with_reducible rfl
    rotate_left
    · simp only [Act.put, List.setIfInBounds_toArray, List.set_cons_zero, List.set_cons_succ, i64_w, i32_w]
      rfl
    refine pure_ (i := 5) (N := some 55) (v := ?_) (a' := ?_) #[true, true, true, true, true, true, false, true, false, false, false] rfl rfl (by kernel_rfl) (fun _ _ _ h => h) (Or.inl ⟨by rfl, ?_⟩) ?_ ?_
    rotate_left
    · intro w'
      go_simp
      with_reducible rfl
    rotate_left
    · simp only [Act.put, List.setIfInBounds_toArray, List.set_cons_zero, List.set_cons_succ, i64_w, i32_w]
      rfl
    refine pure_ (i := 6) (N := some 56) (v := ?_) (a' := ?_) #[true, true, true, true, true, true, true, true, false, false, false] rfl rfl (by kernel_rfl) (fun _ _ _ h => h) (Or.inl ⟨by rfl, ?_⟩) ?_ ?_
    rotate_left
    · intro w'
      go_simp
      with_reducible rfl
    rotate_left
    · simp only [Act.put, List.setIfInBounds_toArray, List.set_cons_zero, List.set_cons_succ, i64_w, i32_w]
      rfl
    refine one_ (i := 8) (N := none) #[true, true, true, true, true, true, true, true, true, false, false] rfl rfl (by kernel_rfl) (by decide) (fun K hK => ?_)
    refine skip_ (w1 := ?_) (by rfl) rfl ?_ ?_
    rotate_left
    · go_simp
      with_reducible rfl
    refine hK.out _ _ (by obtain ⟨s0, s1⟩ := hHeld; constructor <;> go_simp) (fun hHeld => ?_)
    clear hK K
    refine pure_ (i := 9) (N := some 58) (v := ?_) (a' := ?_) #[true, true, true, true, true, true, true, true, true, true, false] rfl rfl (by kernel_rfl) (fun _ _ _ h => h) (Or.inl ⟨by rfl, ?_⟩) ?_ ?_
    rotate_left
    · intro w'
      go_simp
      with_reducible rfl
    rotate_left
    · simp only [Act.put, List.setIfInBounds_toArray, List.set_cons_zero, List.set_cons_succ, i64_w, i32_w]
      rfl
    refine last_ (i := 10) (N := none) #[true, true, true, true, true, true, true, true, true, true, true] rfl rfl (by kernel_rfl) (by decide) (fun K hK => ?_)
    refine skip_ (w1 := ?_) (by rfl) rfl ?_ ?_
    rotate_left
    · go_simp
      with_reducible rfl
    refine hK.out _ _ ?_
    clear hK K
    refine done_ (by kernel_rfl) ?_
    (try simp only [Exit.inBlock, Exit.then])
    have s9 := setCell_block (t := 50) (i := 9) (cs' := #[.int .u64 x.f1.f0, .int .i64 x.f1.f1, .int .u64 x.f1.f2, .bool x.f1.f3.f0, .bool x.f1.f3.f1, .bool x.f1.f3.f2, .bool x.f1.f3.f3, .bool x.f1.f3.f4, .bool x.f1.f3.f5, .bool true, Value.bool false]) HP7.out (.bool true) (by rw [hf5]; rfl)
    have s10 := sb_put (t := 50) (i := 10) (cs := #[.int .u64 x.f1.f0, .int .i64 x.f1.f1, .int .u64 x.f1.f2, .bool x.f1.f3.f0, .bool x.f1.f3.f1, .bool x.f1.f3.f2, .bool x.f1.f3.f3, .bool x.f1.f3.f4, .bool x.f1.f3.f5, .bool true, Value.bool false]) (cs' := #[.int .u64 x.f1.f0, .int .i64 x.f1.f1, .int .u64 x.f1.f2, .bool x.f1.f3.f0, .bool x.f1.f3.f1, .bool x.f1.f3.f2, .bool x.f1.f3.f3, .bool x.f1.f3.f4, .bool x.f1.f3.f5, .bool true, .bool (x.f1.f5 || (o.ak == 1))]) HP7.out (.bool (o.ak == 1)) (by rw [hf5]; rfl)
    rw [s9, s10]
    clear s9 s10
    have h8b := sb_same HP7.out (.cells #[.int .u64 x.f1.f0, .int .i64 x.f1.f1, .int .u64 x.f1.f2, .bool x.f1.f3.f0, .bool x.f1.f3.f1, .bool x.f1.f3.f2, .bool x.f1.f3.f3, .bool x.f1.f3.f4, .bool x.f1.f3.f5, .bool true, .bool (x.f1.f5 || (o.ak == 1))] 50 (0, 0))
    have h8y := (sb_other (W := w7) (b := G) (k := G + 1) (.cells #[.int .u64 x.f1.f0, .int .i64 x.f1.f1, .int .u64 x.f1.f2, .bool x.f1.f3.f0, .bool x.f1.f3.f1, .bool x.f1.f3.f2, .bool x.f1.f3.f3, .bool x.f1.f3.f4, .bool x.f1.f3.f5, .bool true, .bool (x.f1.f5 || (o.ak == 1))] 50 (0, 0)) (by omega)).trans HY7.out
    have h8l := (sb_other (W := w7) (b := G) (k := D + 1 + 1) (.cells #[.int .u64 x.f1.f0, .int .i64 x.f1.f1, .int .u64 x.f1.f2, .bool x.f1.f3.f0, .bool x.f1.f3.f1, .bool x.f1.f3.f2, .bool x.f1.f3.f3, .bool x.f1.f3.f4, .bool x.f1.f3.f5, .bool true, .bool (x.f1.f5 || (o.ak == 1))] 50 (0, 0)) hgd).trans HL7.out
    have h8z := (sb_other (W := w7) (b := G) (k := D + 1) (.cells #[.int .u64 x.f1.f0, .int .i64 x.f1.f1, .int .u64 x.f1.f2, .bool x.f1.f3.f0, .bool x.f1.f3.f1, .bool x.f1.f3.f2, .bool x.f1.f3.f3, .bool x.f1.f3.f4, .bool x.f1.f3.f5, .bool true, .bool (x.f1.f5 || (o.ak == 1))] 50 (0, 0)) (by have := HGD.out; omega)).trans HZ7.out
    have h8k := (sb_other (W := w7) (b := G) (k := D) (.cells #[.int .u64 x.f1.f0, .int .i64 x.f1.f1, .int .u64 x.f1.f2, .bool x.f1.f3.f0, .bool x.f1.f3.f1, .bool x.f1.f3.f2, .bool x.f1.f3.f3, .bool x.f1.f3.f4, .bool x.f1.f3.f5, .bool true, .bool (x.f1.f5 || (o.ak == 1))] 50 (0, 0)) (by have := HGD.out; omega)).trans HK7.out
    have h8w := below_sb HB7.out (g := G) (by have := HGD.out; omega) (.cells #[.int .u64 x.f1.f0, .int .i64 x.f1.f1, .int .u64 x.f1.f2, .bool x.f1.f3.f0, .bool x.f1.f3.f1, .bool x.f1.f3.f2, .bool x.f1.f3.f3, .bool x.f1.f3.f4, .bool x.f1.f3.f5, .bool true, .bool (x.f1.f5 || (o.ak == 1))] 50 (0, 0))
    generalize ChangeMaps.setBlock w7 G (.cells #[.int .u64 x.f1.f0, .int .i64 x.f1.f1, .int .u64 x.f1.f2, .bool x.f1.f3.f0, .bool x.f1.f3.f1, .bool x.f1.f3.f2, .bool x.f1.f3.f3, .bool x.f1.f3.f4, .bool x.f1.f3.f5, .bool true, .bool (x.f1.f5 || (o.ak == 1))] 50 (0, 0)) = w8 at *
    obtain ⟨p, hp⟩ : ∃ p : Pg, accP x.f1 o.ak = p := ⟨_, rfl⟩
    have HP := Aside0.mk hp
    have h8p : (w8.drew).heap[G]? = some (.cells #[.int .u64 p.f0, .int .i64 p.f1, .int .u64 p.f2, .bool p.f3.f0, .bool p.f3.f1, .bool p.f3.f2, .bool p.f3.f3, .bool p.f3.f4, .bool p.f3.f5, .bool p.f4, .bool p.f5] 50 (0, 0)) := by subst hp; exact h8b
    clear h8b hp p4 p5 f4 f5 c0 hHeld HP7
    have HP8 := Aside0.mk h8p
    have HY8 := Aside0.mk (show (w8.drew).heap[G + 1]? = _ from h8y)
    have HL8 := Aside0.mk (show (w8.drew).heap[D + 1 + 1]? = _ from h8l)
    have HZ8 := Aside0.mk (show (w8.drew).heap[D + 1]? = _ from h8z)
    have HK8 := Aside0.mk (show (w8.drew).heap[D]? = _ from h8k)
    have HB8 := Aside0.mk h8w.drew
    clear h8p h8y h8l h8z h8k h8w HY7 HL7 HZ7 HK7 HB7
    generalize w8.drew = w9 at *
    go_upto_region 13 with fail
    have hm9 := HM.out.below HB8.out
    obtain ⟨-, m1, -, -⟩ := hm9.cells
    obtain ⟨k0, k1, k2⟩ := cells3 HY8.out
    obtain ⟨p0, p1, p2, p3, p4, p5, p6, p7, p8, p9, p10⟩ := cells11 HP8.out
    obtain ⟨ob, hrun, hmo⟩ := (hm9.below (Below.refl _ w9).drew).set_page HW.out HXI.out p (by rw [← HP.out]; rfl) (by rw [← HP.out]; rfl)
    have HMO := Aside0.mk hmo
    unfold kyv pgv at hrun
    clear hm9 hmo
    refine start_ (n := 7) (S := fun w' => w'.cell? ⟨B, 1, none⟩ = some (.map (some pm)) ∧ w'.cell? ⟨G + 1, 0, none⟩ = some (.int .i64 x.f0) ∧ w'.cell? ⟨G + 1, 1, none⟩ = some (.int .u64 x.f1.f0) ∧ w'.cell? ⟨G + 1, 2, none⟩ = some (.int .i64 x.f1.f1) ∧ w'.cell? ⟨G, 0, none⟩ = some (.int .u64 p.f0) ∧ w'.cell? ⟨G, 1, none⟩ = some (.int .i64 p.f1) ∧ w'.cell? ⟨G, 2, none⟩ = some (.int .u64 p.f2) ∧ w'.cell? ⟨G, 3, none⟩ = some (.bool p.f3.f0) ∧ w'.cell? ⟨G, 4, none⟩ = some (.bool p.f3.f1) ∧ w'.cell? ⟨G, 5, none⟩ = some (.bool p.f3.f2) ∧ w'.cell? ⟨G, 6, none⟩ = some (.bool p.f3.f3) ∧ w'.cell? ⟨G, 7, none⟩ = some (.bool p.f3.f4) ∧ w'.cell? ⟨G, 8, none⟩ = some (.bool p.f3.f5) ∧ w'.cell? ⟨G, 9, none⟩ = some (.bool p.f4) ∧ w'.cell? ⟨G, 10, none⟩ = some (.bool p.f5)) (ds := [6]) #[false, false, false, false, false, false, false] (by kernel_rfl) rfl rfl ⟨m1, k0, k1, k2, p0, p1, p2, p3, p4, p5, p6, p7, p8, p9, p10⟩ (fun hHeld => ?_)
    refine pure_ (i := 0) (N := some 59) (v := ?_) (a' := ?_) #[true, false, false, false, false, false, false] rfl rfl (by kernel_rfl) (fun _ _ _ h => h) (Or.inl ⟨by rfl, ?_⟩) ?_ ?_
    rotate_left
    · intro w'
      go_simp
      with_reducible rfl
    rotate_left
    · simp only [Act.put, List.setIfInBounds_toArray, List.set_cons_zero, List.set_cons_succ, i64_w, i32_w]
      rfl
    refine pure_ (i := 1) (N := some 60) (v := ?_) (a' := ?_) #[true, true, false, false, false, false, false] rfl rfl (by kernel_rfl) (fun _ _ _ h => h) (Or.inl ⟨by rfl, ?_⟩) ?_ ?_
    rotate_left
    · intro w'
      go_simp
      with_reducible rfl
    rotate_left
    · simp only [Act.put, List.setIfInBounds_toArray, List.set_cons_zero, List.set_cons_succ, i64_w, i32_w]
      rfl
    refine pure_ (i := 2) (N := some 61) (v := ?_) (a' := ?_) #[true, true, true, false, false, false, false] rfl rfl (by kernel_rfl) (fun _ _ _ h => h) (Or.inl ⟨by rfl, ?_⟩) ?_ ?_
    rotate_left
    · intro w'
      go_simp
      with_reducible rfl
    rotate_left
    · simp only [Act.put, List.setIfInBounds_toArray, List.set_cons_zero, List.set_cons_succ, i64_w, i32_w]
      rfl
    refine take_ (i := 3) (N := some 62) (v := ?_) (a' := ?_) #[true, true, true, true, false, false, false] rfl rfl (by kernel_rfl) (fun _ _ _ h => h) (Or.inl ⟨by rfl, ?_⟩) hHeld ?_ ?_
    rotate_left
    · rintro w' ⟨s0, s1, s2, s3, s4, s5, s6, s7, s8, s9, s10, s11, s12, s13, s14⟩
      go_simp
      with_reducible rfl
    rotate_left
    · simp only [Act.put, List.setIfInBounds_toArray, List.set_cons_zero, List.set_cons_succ, i64_w, i32_w]
      rfl
    refine take_ (i := 4) (N := some 63) (v := ?_) (a' := ?_) #[true, true, true, true, true, false, false] rfl rfl (by kernel_rfl) (fun _ _ _ h => h) (Or.inl ⟨by rfl, ?_⟩) hHeld ?_ ?_
    rotate_left
    · rintro w' ⟨s0, s1, s2, s3, s4, s5, s6, s7, s8, s9, s10, s11, s12, s13, s14⟩
      go_simp
      with_reducible rfl
    rotate_left
    · simp only [Act.put, List.setIfInBounds_toArray, List.set_cons_zero, List.set_cons_succ, i64_w, i32_w]
      rfl
    refine take_ (i := 5) (N := some 64) (v := ?_) (a' := ?_) #[true, true, true, true, true, true, false] rfl rfl (by kernel_rfl) (fun _ _ _ h => h) (Or.inl ⟨by rfl, ?_⟩) hHeld ?_ ?_
    rotate_left
    · rintro w' ⟨s0, s1, s2, s3, s4, s5, s6, s7, s8, s9, s10, s11, s12, s13, s14⟩
      go_simp
      with_reducible rfl
    rotate_left
    · simp only [Act.put, List.setIfInBounds_toArray, List.set_cons_zero, List.set_cons_succ, i64_w, i32_w]
      rfl
    refine last_ (i := 6) (N := none) #[true, true, true, true, true, true, true] rfl rfl (by kernel_rfl) (by decide) (fun K hK => ?_)
    refine skip_ (w1 := _) (by rfl) rfl (run_mapUpdate rfl rfl rfl rfl hrun) ?_
    refine hK.out _ _ ?_
    clear hK K
    refine done_ (by kernel_rfl) ?_
    (try simp only [Exit.inBlock, Exit.then])
    clear m1 k0 k1 k2 p0 p1 p2 p3 p4 p5 p6 p7 p8 p9 p10 hHeld hrun
    have hpm : pm < D := by have := HLT.out pm (by simp); omega
    have h10p := (sb_other (W := w9.drew) (b := pm) (k := G) ob (by have := HGD.out; omega)).trans (show (w9.drew).heap[G]? = _ from HP8.out)
    have h10l := (sb_other (W := w9.drew) (b := pm) (k := D + 1 + 1) ob (by omega)).trans (show (w9.drew).heap[D + 1 + 1]? = _ from HL8.out)
    have h10z := (sb_other (W := w9.drew) (b := pm) (k := D + 1) ob (by omega)).trans (show (w9.drew).heap[D + 1]? = _ from HZ8.out)
    have h10k := (sb_other (W := w9.drew) (b := pm) (k := D) ob (by omega)).trans (show (w9.drew).heap[D]? = _ from HK8.out)
    have HV := Aside0.mk ((Mv.of_below HB8.out.drew : Mv [B, pm, bm] w _).setBlock (b := pm) (.inl (by simp)) ob)
    generalize ChangeMaps.setBlock w9.drew pm ob = w10 at *
    have HP10 := Aside0.mk h10p
    have HL10 := Aside0.mk h10l
    have HZ10 := Aside0.mk h10z
    have HK10 := Aside0.mk h10k
    obtain ⟨c0, -, -⟩ := cells3 h10l
    clear h10p h10l h10z h10k HP8 HY8 HL8 HZ8 HK8 HB8
    have hok := HW.out.ok x HX.out
    have hsf : model_spotOf.f p.f0 p.f1 p.f2 p.f3.f0 p.f3.f1 p.f3.f2 p.f3.f3 p.f3.f4 p.f3.f5 p.f4 p.f5 (av : Int) = some (x.f1.f2, ((offN x av : Nat) : Int)) := by rw [← HP.out]; exact spot_f (p := accP x.f1 o.ak) hok.pa0 hok.pa1 (off_f hok hva)
    have HSF := Aside0.mk hsf
    have h1 : W64 x.f1.f2 := ⟨by have := hok.pa0; omega, by have := hok.pa1; omega⟩
    have h2 : U64 ((offN x av : Nat) : Int) := ⟨by omega, by have := offN_lt (x := x) hva; omega⟩
    have HRG := Aside0.mk h1
    have HOF := Aside0.mk h2
    clear hsf hok h1 h2
    by_cases hak1 : o.ak = 1
    · have hr := HR.out
      rw [if_pos hak1] at hr
      have HR1 := Aside0.mk hr
      clear hr
      have hb1 : (o.ak == 1) = true := beq_iff_eq.2 hak1
      have hb2 : (o.ak != 1) = false := by simp [hak1]
      have HAK1 := Aside0.mk hak1
      clear hak1
      go_upto_region 16 with fail
      clear hb1 hb2 c0
      have HH := Aside0.mk (show ∀ W, Below w10.heap.size w10 W → (W.cell? ⟨B, 2, none⟩ = some (.map (some bm)) ∧ W.cell? ⟨D + 1 + 1, 2, none⟩ = some (.int .u64 (av : Int)) ∧ W.cell? ⟨D, 5, none⟩ = some (.int .u8 o.byte) ∧ W.cell? ⟨G, 0, none⟩ = some (.int .u64 p.f0) ∧ W.cell? ⟨G, 1, none⟩ = some (.int .i64 p.f1) ∧ W.cell? ⟨G, 2, none⟩ = some (.int .u64 p.f2) ∧ W.cell? ⟨G, 3, none⟩ = some (.bool p.f3.f0) ∧ W.cell? ⟨G, 4, none⟩ = some (.bool p.f3.f1) ∧ W.cell? ⟨G, 5, none⟩ = some (.bool p.f3.f2) ∧ W.cell? ⟨G, 6, none⟩ = some (.bool p.f3.f3) ∧ W.cell? ⟨G, 7, none⟩ = some (.bool p.f3.f4) ∧ W.cell? ⟨G, 8, none⟩ = some (.bool p.f3.f5) ∧ W.cell? ⟨G, 9, none⟩ = some (.bool p.f4) ∧ W.cell? ⟨G, 10, none⟩ = some (.bool p.f5)) from fun W hb => by
        obtain ⟨-, -, m2, -⟩ := (HMO.out.below hb).cells
        obtain ⟨-, -, c2⟩ := cells3 (blk_below HL10.out hb)
        rw [HOV.out] at c2
        obtain ⟨-, -, -, -, -, o5, -, -, -, -, -, -, -, -, -, -⟩ := cells16 (blk_below HK10.out hb)
        obtain ⟨p0, p1, p2, p3, p4, p5, p6, p7, p8, p9, p10⟩ := cells11 (blk_below HP10.out hb)
        exact ⟨m2, c2, o5, p0, p1, p2, p3, p4, p5, p6, p7, p8, p9, p10⟩)
      refine start_ (n := 11) (S := fun w' => w'.cell? ⟨B, 2, none⟩ = some (.map (some bm)) ∧ w'.cell? ⟨D + 1 + 1, 2, none⟩ = some (.int .u64 (av : Int)) ∧ w'.cell? ⟨D, 5, none⟩ = some (.int .u8 o.byte) ∧ w'.cell? ⟨G, 0, none⟩ = some (.int .u64 p.f0) ∧ w'.cell? ⟨G, 1, none⟩ = some (.int .i64 p.f1) ∧ w'.cell? ⟨G, 2, none⟩ = some (.int .u64 p.f2) ∧ w'.cell? ⟨G, 3, none⟩ = some (.bool p.f3.f0) ∧ w'.cell? ⟨G, 4, none⟩ = some (.bool p.f3.f1) ∧ w'.cell? ⟨G, 5, none⟩ = some (.bool p.f3.f2) ∧ w'.cell? ⟨G, 6, none⟩ = some (.bool p.f3.f3) ∧ w'.cell? ⟨G, 7, none⟩ = some (.bool p.f3.f4) ∧ w'.cell? ⟨G, 8, none⟩ = some (.bool p.f3.f5) ∧ w'.cell? ⟨G, 9, none⟩ = some (.bool p.f4) ∧ w'.cell? ⟨G, 10, none⟩ = some (.bool p.f5)) (ds := [10]) #[false, false, false, false, false, false, false, false, false, false, false] (by kernel_rfl) rfl rfl (by first | exact HH.out _ (Below.refl _ _) | exact HH.out _ (Below.refl _ _).drew) (fun hHeld => ?_)
      refine pure_ (i := 0) (N := some 78) (v := ?_) (a' := ?_) #[true, false, false, false, false, false, false, false, false, false, false] rfl rfl (by kernel_rfl) (fun _ _ _ h => h) (Or.inl ⟨by rfl, ?_⟩) ?_ ?_
      rotate_left
      · intro w'
        go_simp
        with_reducible rfl
      rotate_left
      · simp only [Act.put, List.setIfInBounds_toArray, List.set_cons_zero, List.set_cons_succ, i64_w, i32_w]
        rfl
      refine pure_ (i := 1) (N := some 79) (v := ?_) (a' := ?_) #[true, true, false, false, false, false, false, false, false, false, false] rfl rfl (by kernel_rfl) (fun _ _ _ h => h) (Or.inl ⟨by rfl, ?_⟩) ?_ ?_
      rotate_left
      · intro w'
        go_simp
        with_reducible rfl
      rotate_left
      · simp only [Act.put, List.setIfInBounds_toArray, List.set_cons_zero, List.set_cons_succ, i64_w, i32_w]
        rfl
      refine pure_ (i := 2) (N := some 80) (v := ?_) (a' := ?_) #[true, true, true, false, false, false, false, false, false, false, false] rfl rfl (by kernel_rfl) (fun _ _ _ h => h) (Or.inl ⟨by rfl, ?_⟩) ?_ ?_
      rotate_left
      · intro w'
        go_simp
        with_reducible rfl
      rotate_left
      · simp only [Act.put, List.setIfInBounds_toArray, List.set_cons_zero, List.set_cons_succ, i64_w, i32_w]
        rfl
      refine pure_ (i := 5) (N := some 83) (v := ?_) (a' := ?_) #[true, true, true, false, false, true, false, false, false, false, false] rfl rfl (by kernel_rfl) (fun _ _ _ h => h) (Or.inl ⟨by rfl, ?_⟩) ?_ ?_
      rotate_left
      · intro w'
        go_simp
        with_reducible rfl
      rotate_left
      · simp only [Act.put, List.setIfInBounds_toArray, List.set_cons_zero, List.set_cons_succ, i64_w, i32_w]
        rfl
      refine pure_ (i := 8) (N := some 86) (v := ?_) (a' := ?_) #[true, true, true, false, false, true, false, false, true, false, false] rfl rfl (by kernel_rfl) (fun _ _ _ h => h) (Or.inl ⟨by rfl, ?_⟩) ?_ ?_
      rotate_left
      · intro w'
        go_simp
        with_reducible rfl
      rotate_left
      · simp only [Act.put, List.setIfInBounds_toArray, List.set_cons_zero, List.set_cons_succ, i64_w, i32_w]
        rfl
      refine take_ (i := 3) (N := some 81) (v := ?_) (a' := ?_) #[true, true, true, true, false, true, false, false, true, false, false] rfl rfl (by kernel_rfl) (fun _ _ _ h => h) (Or.inl ⟨by rfl, ?_⟩) hHeld ?_ ?_
      rotate_left
      · rintro w' ⟨s0, s1, s2, s3, s4, s5, s6, s7, s8, s9, s10, s11, s12, s13⟩
        go_simp
        with_reducible rfl
      rotate_left
      · simp only [Act.put, List.setIfInBounds_toArray, List.set_cons_zero, List.set_cons_succ, i64_w, i32_w]
        rfl
      refine take_ (i := 4) (N := some 82) (v := ?_) (a' := ?_) #[true, true, true, true, true, true, false, false, true, false, false] rfl rfl (by kernel_rfl) (fun _ _ _ h => h) (Or.inl ⟨by rfl, ?_⟩) hHeld ?_ ?_
      rotate_left
      · rintro w' ⟨s0, s1, s2, s3, s4, s5, s6, s7, s8, s9, s10, s11, s12, s13⟩
        go_simp
        with_reducible rfl
      rotate_left
      · simp only [Act.put, List.setIfInBounds_toArray, List.set_cons_zero, List.set_cons_succ, i64_w, i32_w]
        rfl
      refine take_ (i := 6) (N := some 84) (v := ?_) (a' := ?_) #[true, true, true, true, true, true, true, false, true, false, false] rfl rfl (by kernel_rfl) (fun _ _ _ h => h) (Or.inl ⟨by rfl, ?_⟩) hHeld ?_ ?_
      rotate_left
      · rintro w' ⟨s0, s1, s2, s3, s4, s5, s6, s7, s8, s9, s10, s11, s12, s13⟩
        go_simp
        with_reducible rfl
      rotate_left
      · simp only [Act.put, List.setIfInBounds_toArray, List.set_cons_zero, List.set_cons_succ, i64_w, i32_w]
        rfl
      refine take_ (i := 9) (N := some 87) (v := ?_) (a' := ?_) #[true, true, true, true, true, true, true, false, true, true, false] rfl rfl (by kernel_rfl) (fun _ _ _ h => h) (Or.inl ⟨by rfl, ?_⟩) hHeld ?_ ?_
      rotate_left
      · rintro w' ⟨s0, s1, s2, s3, s4, s5, s6, s7, s8, s9, s10, s11, s12, s13⟩
        go_simp
        with_reducible rfl
      rotate_left
      · simp only [Act.put, List.setIfInBounds_toArray, List.set_cons_zero, List.set_cons_succ, i64_w, i32_w]
        rfl
      refine one_ (i := 7) (N := some 85) #[true, true, true, true, true, true, true, true, true, true, false] rfl rfl (by kernel_rfl) (by decide) (fun K hK => ?_)
      refine goes_ Try.func52 (by kernel_rfl) rfl #[.agg #[.int .u64 p.f0, .int .i64 p.f1, .int .u64 p.f2, .bool p.f3.f0, .bool p.f3.f1, .bool p.f3.f2, .bool p.f3.f3, .bool p.f3.f4, .bool p.f3.f5, .bool p.f4, .bool p.f5], .int .u64 (av : Int)] (by rfl) rfl rfl (by (try simp only [List.map_toArray, List.map_cons, List.map_nil]); first | done | rfl) ?_
      refine (model_spotOf.calls p.f0 p.f1 p.f2 p.f3.f0 p.f3.f1 p.f3.f2 p.f3.f3 p.f3.f4 p.f3.f5 p.f4 p.f5 (av : Int) _ _ _ HSF.out).mono ?_
      rintro e w11 ⟨rfl, hbel⟩
      refine ⟨_, rfl, ?_⟩
      have hb11 := (Below.refl _ w10).drew.trans hbel
      have HB11 := Aside0.mk hb11
      obtain ⟨ob2, hrun2, hmo2⟩ := (HMO.out.below hb11).set_byte HRG.out HOF.out HBY.out.1 HBY.out.2
      unfold spv at hrun2
      have HMO2 := Aside0.mk hmo2
      clear hbel hb11 hmo2
      refine hK.out _ _ (HH.out _ HB11.out) (fun hHeld => ?_)
      clear hK K
      refine norm_ (a' := ?_) ?_ ?_
      rotate_left
      · show Act.put _ (some 85) _ = _
        simp only [Act.put, List.setIfInBounds_toArray, List.set_cons_zero, List.set_cons_succ, i64_w, i32_w]
        rfl
      refine last_ (i := 10) (N := none) #[true, true, true, true, true, true, true, true, true, true, true] rfl rfl (by kernel_rfl) (by decide) (fun K hK => ?_)
      refine skip_ (w1 := _) (by rfl) rfl (run_mapUpdate rfl rfl rfl rfl hrun2) ?_
      refine hK.out _ _ ?_
      clear hK K
      refine done_ (by kernel_rfl) ?_
      (try simp only [Exit.inBlock, Exit.then])
      clear hHeld hrun2
      have hnZ : D + 1 ∉ [B, pm, bm] := fun hm => by have := HLT.out _ hm; omega
      have hbm : D + 1 ≠ bm := fun e => hnZ (by rw [e]; simp)
      have hz12 := (sb_other (W := w11) (b := bm) ob2 hbm).trans (blk_below HZ10.out HB11.out)
      have HV12 := Aside0.mk (((HV.out.trans (S' := []) (Mv.of_below HB11.out) (fun _ hk => by simp at hk)) : Mv [B, pm, bm] w w11).setBlock (b := bm) (.inl (by simp)) ob2)
      generalize ChangeMaps.setBlock w11 bm ob2 = w12 at *
      have HNZ := Aside0.mk hnZ
      obtain ⟨z0, z1, z2⟩ := cells3 hz12
      have y0 := blk_frozen hz12 0
      have y1 := blk_frozen hz12 1
      have y2 := blk_frozen hz12 2
      have HZ12 := Aside0.mk hz12
      clear hz12 hnZ hbm
      go_wp2_with fail
      rw [set3 HZ12.out]
      refine bodyPost_ret (results_cell_row rfl _ _ (D + 1) 42 _ (0, 0) _ rfl (sb_same HZ12.out _) Try.underlying42 rfl (by kernel_rfl)) rfl ?_
      rw [HR1.out, HP.out]
      exact ⟨rfl, HMO2.out.move (fun k hk => sb_other _ (fun e => HNZ.out (e ▸ hk))), HV12.out.setBlock (.inr (by omega)) _⟩
    · have hr := HR.out
      rw [if_neg hak1] at hr
      have HR1 := Aside0.mk hr
      clear hr
      have hb1 : (o.ak == 1) = false := beq_eq_false_iff_ne.2 hak1
      have hb2 : (o.ak != 1) = true := by simp [hak1]
      have HAK1 := Aside0.mk hak1
      clear hak1
      go_upto_region 15 with fail
      clear hb1 hb2 c0
      have HH := Aside0.mk (show ∀ W, Below w10.heap.size w10 W → (W.cell? ⟨B, 2, none⟩ = some (.map (some bm)) ∧ W.cell? ⟨D + 1 + 1, 2, none⟩ = some (.int .u64 (av : Int)) ∧ W.cell? ⟨G, 0, none⟩ = some (.int .u64 p.f0) ∧ W.cell? ⟨G, 1, none⟩ = some (.int .i64 p.f1) ∧ W.cell? ⟨G, 2, none⟩ = some (.int .u64 p.f2) ∧ W.cell? ⟨G, 3, none⟩ = some (.bool p.f3.f0) ∧ W.cell? ⟨G, 4, none⟩ = some (.bool p.f3.f1) ∧ W.cell? ⟨G, 5, none⟩ = some (.bool p.f3.f2) ∧ W.cell? ⟨G, 6, none⟩ = some (.bool p.f3.f3) ∧ W.cell? ⟨G, 7, none⟩ = some (.bool p.f3.f4) ∧ W.cell? ⟨G, 8, none⟩ = some (.bool p.f3.f5) ∧ W.cell? ⟨G, 9, none⟩ = some (.bool p.f4) ∧ W.cell? ⟨G, 10, none⟩ = some (.bool p.f5) ∧ (Instr.lookup 73 (.map (some bm)) (.agg #[.int .i64 x.f1.f2, .int .u64 ((offN x av : Nat) : Int)]) false).run Try.prog W = .ok (.int .u8 (getB s.by_ x.f1.f2 ((offN x av : Nat) : Int))) W) from fun W hb => by
        obtain ⟨-, -, m2, -⟩ := (HMO.out.below hb).cells
        obtain ⟨-, -, c2⟩ := cells3 (blk_below HL10.out hb)
        rw [HOV.out] at c2
        obtain ⟨p0, p1, p2, p3, p4, p5, p6, p7, p8, p9, p10⟩ := cells11 (blk_below HP10.out hb)
        exact ⟨m2, c2, p0, p1, p2, p3, p4, p5, p6, p7, p8, p9, p10, (HMO.out.below hb).look_b HRG.out HOF.out⟩)
      refine start_ (n := 11) (S := fun w' => w'.cell? ⟨B, 2, none⟩ = some (.map (some bm)) ∧ w'.cell? ⟨D + 1 + 1, 2, none⟩ = some (.int .u64 (av : Int)) ∧ w'.cell? ⟨G, 0, none⟩ = some (.int .u64 p.f0) ∧ w'.cell? ⟨G, 1, none⟩ = some (.int .i64 p.f1) ∧ w'.cell? ⟨G, 2, none⟩ = some (.int .u64 p.f2) ∧ w'.cell? ⟨G, 3, none⟩ = some (.bool p.f3.f0) ∧ w'.cell? ⟨G, 4, none⟩ = some (.bool p.f3.f1) ∧ w'.cell? ⟨G, 5, none⟩ = some (.bool p.f3.f2) ∧ w'.cell? ⟨G, 6, none⟩ = some (.bool p.f3.f3) ∧ w'.cell? ⟨G, 7, none⟩ = some (.bool p.f3.f4) ∧ w'.cell? ⟨G, 8, none⟩ = some (.bool p.f3.f5) ∧ w'.cell? ⟨G, 9, none⟩ = some (.bool p.f4) ∧ w'.cell? ⟨G, 10, none⟩ = some (.bool p.f5) ∧ (Instr.lookup 73 (.map (some bm)) (.agg #[.int .i64 x.f1.f2, .int .u64 ((offN x av : Nat) : Int)]) false).run Try.prog w' = .ok (.int .u8 (getB s.by_ x.f1.f2 ((offN x av : Nat) : Int))) w') (ds := [10]) #[false, false, false, false, false, false, false, false, false, false, false] (by kernel_rfl) rfl rfl (by first | exact HH.out _ (Below.refl _ _) | exact HH.out _ (Below.refl _ _).drew) (fun hHeld => ?_)
      refine pure_ (i := 0) (N := some 68) (v := ?_) (a' := ?_) #[true, false, false, false, false, false, false, false, false, false, false] rfl rfl (by kernel_rfl) (fun _ _ _ h => h) (Or.inl ⟨by rfl, ?_⟩) ?_ ?_
      rotate_left
      · intro w'
        go_simp
        with_reducible rfl
      rotate_left
      · simp only [Act.put, List.setIfInBounds_toArray, List.set_cons_zero, List.set_cons_succ, i64_w, i32_w]
        rfl
      refine pure_ (i := 1) (N := some 69) (v := ?_) (a' := ?_) #[true, true, false, false, false, false, false, false, false, false, false] rfl rfl (by kernel_rfl) (fun _ _ _ h => h) (Or.inl ⟨by rfl, ?_⟩) ?_ ?_
      rotate_left
      · intro w'
        go_simp
        with_reducible rfl
      rotate_left
      · simp only [Act.put, List.setIfInBounds_toArray, List.set_cons_zero, List.set_cons_succ, i64_w, i32_w]
        rfl
      refine pure_ (i := 2) (N := some 70) (v := ?_) (a' := ?_) #[true, true, true, false, false, false, false, false, false, false, false] rfl rfl (by kernel_rfl) (fun _ _ _ h => h) (Or.inl ⟨by rfl, ?_⟩) ?_ ?_
      rotate_left
      · intro w'
        go_simp
        with_reducible rfl
      rotate_left
      · simp only [Act.put, List.setIfInBounds_toArray, List.set_cons_zero, List.set_cons_succ, i64_w, i32_w]
        rfl
      refine pure_ (i := 5) (N := some 73) (v := ?_) (a' := ?_) #[true, true, true, false, false, true, false, false, false, false, false] rfl rfl (by kernel_rfl) (fun _ _ _ h => h) (Or.inl ⟨by rfl, ?_⟩) ?_ ?_
      rotate_left
      · intro w'
        go_simp
        with_reducible rfl
      rotate_left
      · simp only [Act.put, List.setIfInBounds_toArray, List.set_cons_zero, List.set_cons_succ, i64_w, i32_w]
        rfl
      refine take_ (i := 3) (N := some 71) (v := ?_) (a' := ?_) #[true, true, true, true, false, true, false, false, false, false, false] rfl rfl (by kernel_rfl) (fun _ _ _ h => h) (Or.inl ⟨by rfl, ?_⟩) hHeld ?_ ?_
      rotate_left
      · rintro w' ⟨s0, s1, s2, s3, s4, s5, s6, s7, s8, s9, s10, s11, s12, s13⟩
        go_simp
        with_reducible rfl
      rotate_left
      · simp only [Act.put, List.setIfInBounds_toArray, List.set_cons_zero, List.set_cons_succ, i64_w, i32_w]
        rfl
      refine take_ (i := 4) (N := some 72) (v := ?_) (a' := ?_) #[true, true, true, true, true, true, false, false, false, false, false] rfl rfl (by kernel_rfl) (fun _ _ _ h => h) (Or.inl ⟨by rfl, ?_⟩) hHeld ?_ ?_
      rotate_left
      · rintro w' ⟨s0, s1, s2, s3, s4, s5, s6, s7, s8, s9, s10, s11, s12, s13⟩
        go_simp
        with_reducible rfl
      rotate_left
      · simp only [Act.put, List.setIfInBounds_toArray, List.set_cons_zero, List.set_cons_succ, i64_w, i32_w]
        rfl
      refine take_ (i := 6) (N := some 74) (v := ?_) (a' := ?_) #[true, true, true, true, true, true, true, false, false, false, false] rfl rfl (by kernel_rfl) (fun _ _ _ h => h) (Or.inl ⟨by rfl, ?_⟩) hHeld ?_ ?_
      rotate_left
      · rintro w' ⟨s0, s1, s2, s3, s4, s5, s6, s7, s8, s9, s10, s11, s12, s13⟩
        go_simp
        with_reducible rfl
      rotate_left
      · simp only [Act.put, List.setIfInBounds_toArray, List.set_cons_zero, List.set_cons_succ, i64_w, i32_w]
        rfl
      refine one_ (i := 7) (N := some 75) #[true, true, true, true, true, true, true, true, false, false, false] rfl rfl (by kernel_rfl) (by decide) (fun K hK => ?_)
      refine goes_ Try.func52 (by kernel_rfl) rfl #[.agg #[.int .u64 p.f0, .int .i64 p.f1, .int .u64 p.f2, .bool p.f3.f0, .bool p.f3.f1, .bool p.f3.f2, .bool p.f3.f3, .bool p.f3.f4, .bool p.f3.f5, .bool p.f4, .bool p.f5], .int .u64 (av : Int)] (by rfl) rfl rfl (by (try simp only [List.map_toArray, List.map_cons, List.map_nil]); first | done | rfl) ?_
      refine (model_spotOf.calls p.f0 p.f1 p.f2 p.f3.f0 p.f3.f1 p.f3.f2 p.f3.f3 p.f3.f4 p.f3.f5 p.f4 p.f5 (av : Int) _ _ _ HSF.out).mono ?_
      rintro e w11 ⟨rfl, hbel⟩
      refine ⟨_, rfl, ?_⟩
      have hb11 := (Below.refl _ w10).drew.trans hbel
      have HB11 := Aside0.mk hb11
      have HZ11 := Aside0.mk (blk_below HZ10.out hb11)
      clear hbel hb11
      refine hK.out _ _ (HH.out _ HB11.out) (fun hHeld => ?_)
      clear hK K
      refine norm_ (a' := ?_) ?_ ?_
      rotate_left
      · show Act.put _ (some 75) _ = _
        simp only [Act.put, List.setIfInBounds_toArray, List.set_cons_zero, List.set_cons_succ, i64_w, i32_w]
        rfl
      refine take_ (i := 8) (N := some 76) (v := ?_) (a' := ?_) #[true, true, true, true, true, true, true, true, true, false, false] rfl rfl (by kernel_rfl) (fun _ _ _ h => h) (Or.inl ⟨by rfl, ?_⟩) hHeld ?_ ?_
      rotate_left
      · rintro w' ⟨s0, s1, s2, s3, s4, s5, s6, s7, s8, s9, s10, s11, s12, s13⟩
        go_simp
        with_reducible rfl
      rotate_left
      · simp only [Act.put, List.setIfInBounds_toArray, List.set_cons_zero, List.set_cons_succ, i64_w, i32_w]
        rfl
      refine pure_ (i := 9) (N := some 77) (v := ?_) (a' := ?_) #[true, true, true, true, true, true, true, true, true, true, false] rfl rfl (by kernel_rfl) (fun _ _ _ h => h) (Or.inl ⟨by rfl, ?_⟩) ?_ ?_
      rotate_left
      · intro w'
        go_simp
        with_reducible rfl
      rotate_left
      · simp only [Act.put, List.setIfInBounds_toArray, List.set_cons_zero, List.set_cons_succ, i64_w, i32_w]
        rfl
      refine last_ (i := 10) (N := none) #[true, true, true, true, true, true, true, true, true, true, true] rfl rfl (by kernel_rfl) (by decide) (fun K hK => ?_)
      refine skip_ (w1 := _) (by rfl) rfl (run_store_reply rfl rfl rfl HZ11.out) ?_
      refine hK.out _ _ ?_
      clear hK K
      refine done_ (by kernel_rfl) ?_
      (try simp only [Exit.inBlock, Exit.then])
      clear hHeld
      have hnZ : D + 1 ∉ [B, pm, bm] := fun hm => by have := HLT.out _ hm; omega
      have HNZ := Aside0.mk hnZ
      have HV11 := Aside0.mk ((HV.out.trans (S' := []) (Mv.of_below HB11.out) (fun _ hk => by simp at hk)) : Mv [B, pm, bm] w w11)
      have HM11 := Aside0.mk (HMO.out.below HB11.out)
      go_wp2_with fail
      refine bodyPost_ret (results_cell_row rfl _ _ (D + 1) 42 _ (0, 0) _ rfl (sb_same HZ11.out _) Try.underlying42 rfl (by kernel_rfl)) rfl ?_
      rw [HR1.out, HP.out]
      exact ⟨rfl, HM11.out.move (fun k hk => sb_other _ (fun e => HNZ.out (e ▸ hk))), HV11.out.setBlock (.inr (by omega)) _⟩
end
end Go.Proofs.Ytalmemcidbmdgaa.PM



/- A model (layer 16): access, in one. -/
set_option linter.unusedVariables false
set_option linter.unusedSimpArgs false
namespace Go.Proofs.Ytalmemcidbmdgaa.PM
open Go.RowKit Go.Proofs.YtalmemcidbmdgaaW.PrintWords Go.Proofs.YtalmemcidbmdgaaW.PrintLast Go.Proofs.YtalmemcidbmdgaaW.PrintMore Go.Proofs.Ytalmemcidbmdgaa.PageG
attribute [local go_sem] max2_int min2_int max_two min_two max_three min_three max_four min_four   -- for this text's walks alone
section
variable {w w' : World} {B pm bm : Nat} {s : MS}
theorem access_calls (h : Mo w B pm bm s) (hw : WfL s.L) (o : OpS) (ho : OkO o) :
    Calls Try.prog 38 #[.pointer (some ⟨B, 0, none⟩), Value.agg #[.int .i64 o.kind, .int .i64 o.sp, .int .i64 o.ak, .bool o.ap, .int .u64 o.av, .int .u8 o.byte, .int .u64 o.va, .int .i64 o.size, .bool o.at_.f0, .bool o.at_.f1, .bool o.at_.f2, .bool o.at_.f3, .bool o.at_.f4, .bool o.at_.f5, .int .i64 o.other, .int .u64 o.too]] w (Rep3 w B pm bm (accessR s o)) := by
  cases hf : find s.L o.sp o.av.toNat with
  | none => exact access_none h hw o ho hf
  | some i =>
    obtain ⟨x, hx, hh⟩ := find_some hf
    by_cases hg : isAll s.n [o.sp] = true ∧ (0 ≤ o.ak ∧ o.ak < 4) ∧ holeB o.av.toNat = false ∧ judgeN x.f1.f3 o.ak o.ap = 0
    · exact access_ok h hw o ho hf hx hg.1 hg.2.1 hg.2.2.1 hg.2.2.2
    · exact access_fault h hw o ho hf hx hg
end
end Go.Proofs.Ytalmemcidbmdgaa.PM


/- A model (layer 16): clear: the walk. -/
set_option linter.unusedVariables false
set_option linter.unusedSimpArgs false
namespace Go.Proofs.Ytalmemcidbmdgaa.PM
open Go.RowKit Go.Proofs.YtalmemcidbmdgaaW.PrintWords Go.Proofs.YtalmemcidbmdgaaW.PrintLast Go.Proofs.YtalmemcidbmdgaaW.PrintMore Go.Proofs.Ytalmemcidbmdgaa.PageG
attribute [local go_sem] max2_int min2_int max_two min_two max_three min_three max_four min_four   -- for this text's walks alone
section
variable {w w' : World} {B pm bm : Nat} {s : MS}
set_option maxHeartbeats 8000000 in
set_option maxRecDepth 100000 in
theorem clear_calls (h : Mo w B pm bm s) (hw : WfL s.L) (hf : s.L.length ≤ 100000) (o : OpS) (ho : OkO o) :
    Calls Try.prog 42 #[.pointer (some ⟨B, 0, none⟩), Value.agg #[.int .i64 o.kind, .int .i64 o.sp, .int .i64 o.ak, .bool o.ap, .int .u64 o.av, .int .u8 o.byte, .int .u64 o.va, .int .i64 o.size, .bool o.at_.f0, .bool o.at_.f1, .bool o.at_.f2, .bool o.at_.f3, .bool o.at_.f4, .bool o.at_.f5, .int .i64 o.other, .int .u64 o.too]] w (Rep w B pm bm (changeR s o (clearS s))) := by
  have HM := Aside0.mk h
  have HLT := Aside0.mk h.lt
  have HW := Aside0.mk hw
  have HO := Aside0.mk ho
  clear h hw ho
  obtain ⟨D, hD⟩ : ∃ D, w.heap.size = D := ⟨_, rfl⟩
  go_enter Try.func42, Try.ntmps42
  go_upto_region 1 with fail
  have hk := blk_alloc (blk_alloc (blk_new w (.cells #[.pointer (some ⟨B, 0, none⟩)] 24)) (.cells #[.int .i64 o.kind, .int .i64 o.sp, .int .i64 o.ak, .bool o.ap, .int .u64 o.av, .int .u8 o.byte, .int .u64 o.va, .int .i64 o.size, .bool o.at_.f0, .bool o.at_.f1, .bool o.at_.f2, .bool o.at_.f3, .bool o.at_.f4, .bool o.at_.f5, .int .i64 o.other, .int .u64 o.too] 36)) (.cells #[.int .i64 0, .int .i64 0, .int .u8 0] 42)
  have hz := blk_alloc (blk_new (w.alloc (.cells #[.pointer (some ⟨B, 0, none⟩)] 24)) (.cells #[.int .i64 o.kind, .int .i64 o.sp, .int .i64 o.ak, .bool o.ap, .int .u64 o.av, .int .u8 o.byte, .int .u64 o.va, .int .i64 o.size, .bool o.at_.f0, .bool o.at_.f1, .bool o.at_.f2, .bool o.at_.f3, .bool o.at_.f4, .bool o.at_.f5, .int .i64 o.other, .int .u64 o.too] 36)) (.cells #[.int .i64 0, .int .i64 0, .int .u8 0] 42)
  have hl := blk_new ((w.alloc (.cells #[.pointer (some ⟨B, 0, none⟩)] 24)).alloc (.cells #[.int .i64 o.kind, .int .i64 o.sp, .int .i64 o.ak, .bool o.ap, .int .u64 o.av, .int .u8 o.byte, .int .u64 o.va, .int .i64 o.size, .bool o.at_.f0, .bool o.at_.f1, .bool o.at_.f2, .bool o.at_.f3, .bool o.at_.f4, .bool o.at_.f5, .int .i64 o.other, .int .u64 o.too] 36)) (.cells #[.int .i64 0, .int .i64 0, .int .u8 0] 42)
  have hb : Below w.heap.size w (((w.alloc (.cells #[.pointer (some ⟨B, 0, none⟩)] 24)).alloc (.cells #[.int .i64 o.kind, .int .i64 o.sp, .int .i64 o.ak, .bool o.ap, .int .u64 o.av, .int .u8 o.byte, .int .u64 o.va, .int .i64 o.size, .bool o.at_.f0, .bool o.at_.f1, .bool o.at_.f2, .bool o.at_.f3, .bool o.at_.f4, .bool o.at_.f5, .int .i64 o.other, .int .u64 o.too] 36)).alloc (.cells #[.int .i64 0, .int .i64 0, .int .u8 0] 42)) := (((Below.refl _ w).alloc (Nat.le_refl _) _).alloc (by simp) _).alloc (by simp; omega) _
  have hs1 : (w.alloc (.cells #[.pointer (some ⟨B, 0, none⟩)] 24)).heap.size = D + 1 := by simp [hD]
  have hs2 : ((w.alloc (.cells #[.pointer (some ⟨B, 0, none⟩)] 24)).alloc (.cells #[.int .i64 o.kind, .int .i64 o.sp, .int .i64 o.ak, .bool o.ap, .int .u64 o.av, .int .u8 o.byte, .int .u64 o.va, .int .i64 o.size, .bool o.at_.f0, .bool o.at_.f1, .bool o.at_.f2, .bool o.at_.f3, .bool o.at_.f4, .bool o.at_.f5, .int .i64 o.other, .int .u64 o.too] 36)).heap.size = D + 1 + 1 := by simp [hD]
  rw [hD] at hk
  rw [hs1] at hz
  rw [hs2] at hl
  generalize ((w.alloc (.cells #[.pointer (some ⟨B, 0, none⟩)] 24)).alloc (.cells #[.int .i64 o.kind, .int .i64 o.sp, .int .i64 o.ak, .bool o.ap, .int .u64 o.av, .int .u8 o.byte, .int .u64 o.va, .int .i64 o.size, .bool o.at_.f0, .bool o.at_.f1, .bool o.at_.f2, .bool o.at_.f3, .bool o.at_.f4, .bool o.at_.f5, .int .i64 o.other, .int .u64 o.too] 36)).alloc (.cells #[.int .i64 0, .int .i64 0, .int .u8 0] 42) = w1 at *
  clear hs1 hs2
  have m0 : w1.cell? ⟨D, 0, none⟩ = some (Value.pointer (some ⟨B, 0, none⟩)) := (blk_cell hk 0).trans rfl
  obtain ⟨o0, o1, o2, o3, o4, o5, o6, o7, o8, o9, o10, o11, o12, o13, o14, o15⟩ := cells16 hz
  have HB := Aside0.mk hb
  have HK := Aside0.mk hk
  have HOB := Aside0.mk hz
  have HL := Aside0.mk hl
  clear hb hk hz hl
  have HCH := Aside0.mk (change_calls (HM.out.below HB.out) HW.out o HO.out 75 #[.pointer (some ⟨D, 0, none⟩)] (clearS s)
    (fun i x hi hh W hbW hmW => by
      have hk2 := blk_below HK.out hbW
      have hg2 : W.cell? ⟨D, 0, none⟩ = some (Value.pointer (some ⟨B, 0, none⟩)) := (blk_cell hk2 0).trans rfl
      have he : clearS s i = { s with L := s.L.set i ⟨x.f0, { x.f1 with f4 := false, f5 := false }⟩ } := by unfold clearS; rw [hi]
      rw [he]
      exact clr_calls hmW HW.out hi D hg2)
    (enters_ Try.func75 (by rfl) (by kernel_rfl)))
  go_wp2_with fail
  refine HCH.out.mono ?_
  rintro e w2 ⟨rfl, hm2, hv2⟩
  have hne : D + 1 + 1 ∉ [B, pm, bm] := fun hm => by have := HLT.out _ hm; omega
  have hl2 := (hv2.block _ (blk_lt HL.out) hne).trans HL.out
  obtain ⟨z0, z1, z2⟩ := cells3 hl2
  have y0 := blk_frozen hl2 0
  have y1 := blk_frozen hl2 1
  have y2 := blk_frozen hl2 2
  have HM2 := Aside0.mk hm2
  have HV2 := Aside0.mk hv2
  have HNE := Aside0.mk hne
  clear hm2 hv2 hne m0 o0 o1 o2 o3 o4 o5 o6 o7 o8 o9 o10 o11 o12 o13 o14 o15
  go_wp2_with fail
  rw [set3 hl2]
  refine bodyPost_ret (results_cell_row rfl _ _ (D + 1 + 1) 42 _ (0, 0) _ rfl (sb_same hl2 _) Try.underlying42 rfl (by kernel_rfl)) rfl ?_
  exact ⟨rfl, HM2.out.move (fun k hk => sb_other _ (fun e => HNE.out (e ▸ hk))), ((Mv.of_below HB.out).then HV2.out).setBlock (.inr (by omega)) _⟩
end
end Go.Proofs.Ytalmemcidbmdgaa.PM


/- A model (layer 16): protect: the walk. -/
set_option linter.unusedVariables false
set_option linter.unusedSimpArgs false
namespace Go.Proofs.Ytalmemcidbmdgaa.PM
open Go.RowKit Go.Proofs.YtalmemcidbmdgaaW.PrintWords Go.Proofs.YtalmemcidbmdgaaW.PrintLast Go.Proofs.YtalmemcidbmdgaaW.PrintMore Go.Proofs.Ytalmemcidbmdgaa.PageG
attribute [local go_sem] max2_int min2_int max_two min_two max_three min_three max_four min_four   -- for this text's walks alone
section
variable {w w' : World} {B pm bm : Nat} {s : MS}
set_option maxHeartbeats 8000000 in
set_option maxRecDepth 100000 in
theorem protect_calls (h : Mo w B pm bm s) (hw : WfL s.L) (hf : s.L.length ≤ 100000) (o : OpS) (ho : OkO o) :
    Calls Try.prog 41 #[.pointer (some ⟨B, 0, none⟩), Value.agg #[.int .i64 o.kind, .int .i64 o.sp, .int .i64 o.ak, .bool o.ap, .int .u64 o.av, .int .u8 o.byte, .int .u64 o.va, .int .i64 o.size, .bool o.at_.f0, .bool o.at_.f1, .bool o.at_.f2, .bool o.at_.f3, .bool o.at_.f4, .bool o.at_.f5, .int .i64 o.other, .int .u64 o.too]] w (Rep w B pm bm (if o.at_.f4 = true then (1, s) else changeR s o (protS s o.at_))) := by
  obtain ⟨res, hres⟩ : ∃ res, (if o.at_.f4 = true then (1, s) else changeR s o (protS s o.at_)) = res := ⟨_, rfl⟩
  rw [hres]
  have HRES := Aside0.mk hres
  clear hres
  have HM := Aside0.mk h
  have HLT := Aside0.mk h.lt
  have HW := Aside0.mk hw
  have HO := Aside0.mk ho
  clear h hw ho
  obtain ⟨D, hD⟩ : ∃ D, w.heap.size = D := ⟨_, rfl⟩
  go_enter Try.func41, Try.ntmps41
  go_upto_region 1 with fail
  have hk := blk_alloc (blk_alloc (blk_new w (.cells #[.pointer (some ⟨B, 0, none⟩)] 24)) (.cells #[.int .i64 o.kind, .int .i64 o.sp, .int .i64 o.ak, .bool o.ap, .int .u64 o.av, .int .u8 o.byte, .int .u64 o.va, .int .i64 o.size, .bool o.at_.f0, .bool o.at_.f1, .bool o.at_.f2, .bool o.at_.f3, .bool o.at_.f4, .bool o.at_.f5, .int .i64 o.other, .int .u64 o.too] 36)) (.cells #[.int .i64 0, .int .i64 0, .int .u8 0] 42)
  have hz := blk_alloc (blk_new (w.alloc (.cells #[.pointer (some ⟨B, 0, none⟩)] 24)) (.cells #[.int .i64 o.kind, .int .i64 o.sp, .int .i64 o.ak, .bool o.ap, .int .u64 o.av, .int .u8 o.byte, .int .u64 o.va, .int .i64 o.size, .bool o.at_.f0, .bool o.at_.f1, .bool o.at_.f2, .bool o.at_.f3, .bool o.at_.f4, .bool o.at_.f5, .int .i64 o.other, .int .u64 o.too] 36)) (.cells #[.int .i64 0, .int .i64 0, .int .u8 0] 42)
  have hl := blk_new ((w.alloc (.cells #[.pointer (some ⟨B, 0, none⟩)] 24)).alloc (.cells #[.int .i64 o.kind, .int .i64 o.sp, .int .i64 o.ak, .bool o.ap, .int .u64 o.av, .int .u8 o.byte, .int .u64 o.va, .int .i64 o.size, .bool o.at_.f0, .bool o.at_.f1, .bool o.at_.f2, .bool o.at_.f3, .bool o.at_.f4, .bool o.at_.f5, .int .i64 o.other, .int .u64 o.too] 36)) (.cells #[.int .i64 0, .int .i64 0, .int .u8 0] 42)
  have hb : Below w.heap.size w (((w.alloc (.cells #[.pointer (some ⟨B, 0, none⟩)] 24)).alloc (.cells #[.int .i64 o.kind, .int .i64 o.sp, .int .i64 o.ak, .bool o.ap, .int .u64 o.av, .int .u8 o.byte, .int .u64 o.va, .int .i64 o.size, .bool o.at_.f0, .bool o.at_.f1, .bool o.at_.f2, .bool o.at_.f3, .bool o.at_.f4, .bool o.at_.f5, .int .i64 o.other, .int .u64 o.too] 36)).alloc (.cells #[.int .i64 0, .int .i64 0, .int .u8 0] 42)) := (((Below.refl _ w).alloc (Nat.le_refl _) _).alloc (by simp) _).alloc (by simp; omega) _
  have hs1 : (w.alloc (.cells #[.pointer (some ⟨B, 0, none⟩)] 24)).heap.size = D + 1 := by simp [hD]
  have hs2 : ((w.alloc (.cells #[.pointer (some ⟨B, 0, none⟩)] 24)).alloc (.cells #[.int .i64 o.kind, .int .i64 o.sp, .int .i64 o.ak, .bool o.ap, .int .u64 o.av, .int .u8 o.byte, .int .u64 o.va, .int .i64 o.size, .bool o.at_.f0, .bool o.at_.f1, .bool o.at_.f2, .bool o.at_.f3, .bool o.at_.f4, .bool o.at_.f5, .int .i64 o.other, .int .u64 o.too] 36)).heap.size = D + 1 + 1 := by simp [hD]
  rw [hD] at hk
  rw [hs1] at hz
  rw [hs2] at hl
  generalize ((w.alloc (.cells #[.pointer (some ⟨B, 0, none⟩)] 24)).alloc (.cells #[.int .i64 o.kind, .int .i64 o.sp, .int .i64 o.ak, .bool o.ap, .int .u64 o.av, .int .u8 o.byte, .int .u64 o.va, .int .i64 o.size, .bool o.at_.f0, .bool o.at_.f1, .bool o.at_.f2, .bool o.at_.f3, .bool o.at_.f4, .bool o.at_.f5, .int .i64 o.other, .int .u64 o.too] 36)).alloc (.cells #[.int .i64 0, .int .i64 0, .int .u8 0] 42) = w1 at *
  clear hs1 hs2
  have m0 : w1.cell? ⟨D, 0, none⟩ = some (Value.pointer (some ⟨B, 0, none⟩)) := (blk_cell hk 0).trans rfl
  obtain ⟨o0, o1, o2, o3, o4, o5, o6, o7, o8, o9, o10, o11, o12, o13, o14, o15⟩ := cells16 hz
  have HB := Aside0.mk hb
  have HK := Aside0.mk hk
  have HOB := Aside0.mk hz
  have HL := Aside0.mk hl
  clear hb hk hz hl
  have HCH := Aside0.mk (change_calls (HM.out.below HB.out) HW.out o HO.out 74 #[.pointer (some ⟨D + 1, 0, none⟩), .pointer (some ⟨D, 0, none⟩)] (protS s o.at_)
    (fun i x hi hh W hbW hmW => by
      have hk2 := blk_below HK.out hbW
      have hg2 : W.cell? ⟨D, 0, none⟩ = some (Value.pointer (some ⟨B, 0, none⟩)) := (blk_cell hk2 0).trans rfl
      have he : protS s o.at_ i = { s with L := s.L.set i ⟨x.f0, { x.f1 with f3 := o.at_ }⟩ } := by unfold protS; rw [hi]
      rw [he]
      obtain ⟨q0, q1, q2, q3, q4, q5, q6, q7, q8, q9, q10, q11, q12, q13, q14, q15⟩ := cells16 (blk_below HOB.out hbW)
      exact pro_calls hmW o.at_ HW.out hi (D + 1) D ⟨q8, q9, q10, q11, q12, q13⟩ hg2)
    (enters_ Try.func74 (by rfl) (by kernel_rfl)))
  have hres := HRES.out
  rcases Bool.eq_false_or_eq_true o.at_.f4 with hag | hag
  · rw [if_pos hag] at hres
    subst hres
    clear HCH HRES
    go_wp2_with fail
    refine (model_told.calls 1 _ _ _ w1 rfl).mono ?_
    rintro e w2 ⟨rfl, hb2⟩
    have hz2 := blk_below HL.out hb2
    have HB2 := Aside0.mk (below_step HB.out hb2)
    obtain ⟨z0, z1, z2⟩ := cells3 hz2
    have y0 := blk_frozen hz2 0
    have y1 := blk_frozen hz2 1
    have y2 := blk_frozen hz2 2
    clear hb2 m0 o0 o1 o2 o3 o4 o5 o6 o7 o8 o9 o10 o11 o12 o13 o14 o15
    go_wp2_with fail
    rw [set3 hz2]
    refine bodyPost_ret (results_cell_row rfl _ _ (D + 1 + 1) 42 _ (0, 0) _ rfl (sb_same hz2 _) Try.underlying42 rfl (by kernel_rfl)) rfl ?_
    have hbf := below_sb HB2.out (by omega : w.heap.size ≤ D + 1 + 1) (.cells #[.int .i64 1, .int .i64 0, .int .u8 0] 42 (0, 0))
    exact ⟨rfl, HM.out.below hbf, Mv.of_below hbf⟩
  rw [if_neg (by rw [hag]; simp)] at hres
  subst hres
  have hch := HCH.out
  rw [hag] at hch o12
  clear HCH
  have HCH := Aside0.mk hch
  have HAG := Aside0.mk hag
  clear hch hag HRES
  go_wp2_with fail
  refine HCH.out.mono ?_
  rintro e w2 ⟨rfl, hm2, hv2⟩
  have hne : D + 1 + 1 ∉ [B, pm, bm] := fun hm => by have := HLT.out _ hm; omega
  have hl2 := (hv2.block _ (blk_lt HL.out) hne).trans HL.out
  obtain ⟨z0, z1, z2⟩ := cells3 hl2
  have y0 := blk_frozen hl2 0
  have y1 := blk_frozen hl2 1
  have y2 := blk_frozen hl2 2
  have HM2 := Aside0.mk hm2
  have HV2 := Aside0.mk hv2
  have HNE := Aside0.mk hne
  clear hm2 hv2 hne m0 o0 o1 o2 o3 o4 o5 o6 o7 o8 o9 o10 o11 o12 o13 o14 o15
  go_wp2_with fail
  rw [set3 hl2]
  refine bodyPost_ret (results_cell_row rfl _ _ (D + 1 + 1) 42 _ (0, 0) _ rfl (sb_same hl2 _) Try.underlying42 rfl (by kernel_rfl)) rfl ?_
  refine ⟨rfl, HM2.out.move (fun k hk => ?_), ((Mv.of_below HB.out).then HV2.out).setBlock (.inr (by omega)) _⟩
  exact sb_other _ (fun e => HNE.out (by rw [← e]; exact hk))
end
end Go.Proofs.Ytalmemcidbmdgaa.PM


/- A model (layer 16): Do: the walk of one kind. -/
set_option linter.unusedVariables false
set_option linter.unusedSimpArgs false
namespace Go.Proofs.Ytalmemcidbmdgaa.PM
open Go.RowKit Go.Proofs.YtalmemcidbmdgaaW.PrintWords Go.Proofs.YtalmemcidbmdgaaW.PrintLast Go.Proofs.YtalmemcidbmdgaaW.PrintMore Go.Proofs.Ytalmemcidbmdgaa.PageG
attribute [local go_sem] max2_int min2_int max_two min_two max_three min_three max_four min_four   -- for this text's walks alone
/-- A call of a function value. -/
theorem goesv_ {P : Program} {ops : Array Oper} {Q : Exit → Act → World → Prop} {oi : Oper} {N : Option Tmp} {a : Act} {w : World} {K : Act → World → Prop} {c : Operand} {f : FuncId} {first caps args : Array Value} {asg : Array Operand} {ts : Array TypeId}
    (hw : Region.wanted oi (yielded ops a.tmps) = true) (hN : oi.dst = N) (hop : oi.op = .call { callee := .value c, args := asg, argTypes := ts }) (hc : a.eval c = .func (.func f) first caps) (henter : ∀ (args : Array Value) (w : World), (callFunc f args).run P w = .ok (.enter f args) w) (hargs : first ++ asg.map a.eval ++ caps = args)
    (h : Calls P f args w fun e w' => ∃ v, e = .returned v ∧ K (a.put N v) w') : if Region.wanted oi (yielded ops a.tmps) = true then Oper.wp P oi a w K Q else K (a.put N undef) w := by
  refine call_ f args hw hN ?_ h
  have he := henter args w
  unfold execOp
  simp [hop, resolve, Deferred.ofValue, invoke, hc, hargs, he]
def doF : List FuncId := [38, 39, 40, 41, 42, 43, 44, 45]
section
variable {w w' : World} {B pm bm : Nat} {s : MS}
set_option maxHeartbeats 8000000 in
set_option maxRecDepth 100000 in
theorem do_one (h : Mo w B pm bm s) (o : OpS) (hk : 0 ≤ o.kind ∧ o.kind < 8) (fv : FuncId) (hfv : doF[o.kind.toNat]? = some fv) (henter : ∀ (args : Array Value) (w : World), (callFunc fv args).run Try.prog w = .ok (.enter fv args) w) (R : (Int × Int × Int) × MS)
    (hc : ∀ W, Below w.heap.size w W → Calls Try.prog fv #[.pointer (some ⟨B, 0, none⟩), Value.agg #[.int .i64 o.kind, .int .i64 o.sp, .int .i64 o.ak, .bool o.ap, .int .u64 o.av, .int .u8 o.byte, .int .u64 o.va, .int .i64 o.size, .bool o.at_.f0, .bool o.at_.f1, .bool o.at_.f2, .bool o.at_.f3, .bool o.at_.f4, .bool o.at_.f5, .int .i64 o.other, .int .u64 o.too]] W (Rep3 W B pm bm R)) :
    Calls Try.prog 14 #[.pointer (some ⟨B, 0, none⟩), Value.agg #[.int .i64 o.kind, .int .i64 o.sp, .int .i64 o.ak, .bool o.ap, .int .u64 o.av, .int .u8 o.byte, .int .u64 o.va, .int .i64 o.size, .bool o.at_.f0, .bool o.at_.f1, .bool o.at_.f2, .bool o.at_.f3, .bool o.at_.f4, .bool o.at_.f5, .int .i64 o.other, .int .u64 o.too]] w (Rep3 w B pm bm R) := by
  have HLT := Aside0.mk h.lt
  have HC := Aside0.mk hc
  have HE := Aside0.mk henter
  have HFV := Aside0.mk hfv
  obtain ⟨k, hkn⟩ : ∃ k : Nat, o.kind = (k : Int) := ⟨o.kind.toNat, by omega⟩
  have HKN := Aside0.mk hkn
  have hd0 : decide (o.kind < 0) = false := decide_eq_false (by omega)
  have hd8 : decide (8 ≤ o.kind) = false := decide_eq_false (by omega)
  clear h hc henter hfv hkn
  obtain ⟨D, hD⟩ : ∃ D, w.heap.size = D := ⟨_, rfl⟩
  go_enter Try.func14, Try.ntmps14
  go_upto_region 4 with fail
  have hk := blk_alloc (blk_alloc (blk_new w (.cells #[.int .i64 o.kind, .int .i64 o.sp, .int .i64 o.ak, .bool o.ap, .int .u64 o.av, .int .u8 o.byte, .int .u64 o.va, .int .i64 o.size, .bool o.at_.f0, .bool o.at_.f1, .bool o.at_.f2, .bool o.at_.f3, .bool o.at_.f4, .bool o.at_.f5, .int .i64 o.other, .int .u64 o.too] 36)) (.cells #[.int .i64 0, .int .i64 0, .int .u8 0] 42)) (.cells #[.func (.func 38) #[.pointer (some ⟨B, 0, none⟩)] #[], .func (.func 39) #[.pointer (some ⟨B, 0, none⟩)] #[], .func (.func 40) #[.pointer (some ⟨B, 0, none⟩)] #[], .func (.func 41) #[.pointer (some ⟨B, 0, none⟩)] #[], .func (.func 42) #[.pointer (some ⟨B, 0, none⟩)] #[], .func (.func 43) #[.pointer (some ⟨B, 0, none⟩)] #[], .func (.func 44) #[.pointer (some ⟨B, 0, none⟩)] #[], .func (.func 45) #[.pointer (some ⟨B, 0, none⟩)] #[]] 82)
  have hz := blk_alloc (blk_new (w.alloc (.cells #[.int .i64 o.kind, .int .i64 o.sp, .int .i64 o.ak, .bool o.ap, .int .u64 o.av, .int .u8 o.byte, .int .u64 o.va, .int .i64 o.size, .bool o.at_.f0, .bool o.at_.f1, .bool o.at_.f2, .bool o.at_.f3, .bool o.at_.f4, .bool o.at_.f5, .int .i64 o.other, .int .u64 o.too] 36)) (.cells #[.int .i64 0, .int .i64 0, .int .u8 0] 42)) (.cells #[.func (.func 38) #[.pointer (some ⟨B, 0, none⟩)] #[], .func (.func 39) #[.pointer (some ⟨B, 0, none⟩)] #[], .func (.func 40) #[.pointer (some ⟨B, 0, none⟩)] #[], .func (.func 41) #[.pointer (some ⟨B, 0, none⟩)] #[], .func (.func 42) #[.pointer (some ⟨B, 0, none⟩)] #[], .func (.func 43) #[.pointer (some ⟨B, 0, none⟩)] #[], .func (.func 44) #[.pointer (some ⟨B, 0, none⟩)] #[], .func (.func 45) #[.pointer (some ⟨B, 0, none⟩)] #[]] 82)
  have hl := blk_new ((w.alloc (.cells #[.int .i64 o.kind, .int .i64 o.sp, .int .i64 o.ak, .bool o.ap, .int .u64 o.av, .int .u8 o.byte, .int .u64 o.va, .int .i64 o.size, .bool o.at_.f0, .bool o.at_.f1, .bool o.at_.f2, .bool o.at_.f3, .bool o.at_.f4, .bool o.at_.f5, .int .i64 o.other, .int .u64 o.too] 36)).alloc (.cells #[.int .i64 0, .int .i64 0, .int .u8 0] 42)) (.cells #[.func (.func 38) #[.pointer (some ⟨B, 0, none⟩)] #[], .func (.func 39) #[.pointer (some ⟨B, 0, none⟩)] #[], .func (.func 40) #[.pointer (some ⟨B, 0, none⟩)] #[], .func (.func 41) #[.pointer (some ⟨B, 0, none⟩)] #[], .func (.func 42) #[.pointer (some ⟨B, 0, none⟩)] #[], .func (.func 43) #[.pointer (some ⟨B, 0, none⟩)] #[], .func (.func 44) #[.pointer (some ⟨B, 0, none⟩)] #[], .func (.func 45) #[.pointer (some ⟨B, 0, none⟩)] #[]] 82)
  have hb : Below w.heap.size w (((w.alloc (.cells #[.int .i64 o.kind, .int .i64 o.sp, .int .i64 o.ak, .bool o.ap, .int .u64 o.av, .int .u8 o.byte, .int .u64 o.va, .int .i64 o.size, .bool o.at_.f0, .bool o.at_.f1, .bool o.at_.f2, .bool o.at_.f3, .bool o.at_.f4, .bool o.at_.f5, .int .i64 o.other, .int .u64 o.too] 36)).alloc (.cells #[.int .i64 0, .int .i64 0, .int .u8 0] 42)).alloc (.cells #[.func (.func 38) #[.pointer (some ⟨B, 0, none⟩)] #[], .func (.func 39) #[.pointer (some ⟨B, 0, none⟩)] #[], .func (.func 40) #[.pointer (some ⟨B, 0, none⟩)] #[], .func (.func 41) #[.pointer (some ⟨B, 0, none⟩)] #[], .func (.func 42) #[.pointer (some ⟨B, 0, none⟩)] #[], .func (.func 43) #[.pointer (some ⟨B, 0, none⟩)] #[], .func (.func 44) #[.pointer (some ⟨B, 0, none⟩)] #[], .func (.func 45) #[.pointer (some ⟨B, 0, none⟩)] #[]] 82)) := (((Below.refl _ w).alloc (Nat.le_refl _) _).alloc (by simp) _).alloc (by simp; omega) _
  have hs1 : (w.alloc (.cells #[.int .i64 o.kind, .int .i64 o.sp, .int .i64 o.ak, .bool o.ap, .int .u64 o.av, .int .u8 o.byte, .int .u64 o.va, .int .i64 o.size, .bool o.at_.f0, .bool o.at_.f1, .bool o.at_.f2, .bool o.at_.f3, .bool o.at_.f4, .bool o.at_.f5, .int .i64 o.other, .int .u64 o.too] 36)).heap.size = D + 1 := by simp [hD]
  have hs2 : ((w.alloc (.cells #[.int .i64 o.kind, .int .i64 o.sp, .int .i64 o.ak, .bool o.ap, .int .u64 o.av, .int .u8 o.byte, .int .u64 o.va, .int .i64 o.size, .bool o.at_.f0, .bool o.at_.f1, .bool o.at_.f2, .bool o.at_.f3, .bool o.at_.f4, .bool o.at_.f5, .int .i64 o.other, .int .u64 o.too] 36)).alloc (.cells #[.int .i64 0, .int .i64 0, .int .u8 0] 42)).heap.size = D + 1 + 1 := by simp [hD]
  rw [hD] at hk
  rw [hs1] at hz
  rw [hs2] at hl
  generalize ((w.alloc (.cells #[.int .i64 o.kind, .int .i64 o.sp, .int .i64 o.ak, .bool o.ap, .int .u64 o.av, .int .u8 o.byte, .int .u64 o.va, .int .i64 o.size, .bool o.at_.f0, .bool o.at_.f1, .bool o.at_.f2, .bool o.at_.f3, .bool o.at_.f4, .bool o.at_.f5, .int .i64 o.other, .int .u64 o.too] 36)).alloc (.cells #[.int .i64 0, .int .i64 0, .int .u8 0] 42)).alloc (.cells #[.func (.func 38) #[.pointer (some ⟨B, 0, none⟩)] #[], .func (.func 39) #[.pointer (some ⟨B, 0, none⟩)] #[], .func (.func 40) #[.pointer (some ⟨B, 0, none⟩)] #[], .func (.func 41) #[.pointer (some ⟨B, 0, none⟩)] #[], .func (.func 42) #[.pointer (some ⟨B, 0, none⟩)] #[], .func (.func 43) #[.pointer (some ⟨B, 0, none⟩)] #[], .func (.func 44) #[.pointer (some ⟨B, 0, none⟩)] #[], .func (.func 45) #[.pointer (some ⟨B, 0, none⟩)] #[]] 82) = w1 at *
  clear hs1 hs2
  obtain ⟨o0, o1, o2, o3, o4, o5, o6, o7, o8, o9, o10, o11, o12, o13, o14, o15⟩ := cells16 hk
  have q0 : w1.cell? ⟨D + 1 + 1, o.kind.toNat, none⟩ = some (.func (.func fv) #[.pointer (some ⟨B, 0, none⟩)] #[]) := by
    refine (blk_cell hl o.kind.toNat).trans ?_
    have e : #[.func (.func 38) #[.pointer (some ⟨B, 0, none⟩)] #[], .func (.func 39) #[.pointer (some ⟨B, 0, none⟩)] #[], .func (.func 40) #[.pointer (some ⟨B, 0, none⟩)] #[], .func (.func 41) #[.pointer (some ⟨B, 0, none⟩)] #[], .func (.func 42) #[.pointer (some ⟨B, 0, none⟩)] #[], .func (.func 43) #[.pointer (some ⟨B, 0, none⟩)] #[], .func (.func 44) #[.pointer (some ⟨B, 0, none⟩)] #[], .func (.func 45) #[.pointer (some ⟨B, 0, none⟩)] #[]] = (doF.map (fun f => Value.func (.func f) #[.pointer (some ⟨B, 0, none⟩)] #[])).toArray := rfl
    rw [e, List.getElem?_toArray, List.getElem?_map, HFV.out]
    rfl
  have hn2 : D + 1 + 1 ∉ [B, pm, bm] := fun hm => by have := HLT.out _ hm; omega
  have hn1 : D + 1 ∉ [B, pm, bm] := fun hm => by have := HLT.out _ hm; omega
  have hn0 : D ∉ [B, pm, bm] := fun hm => by have := HLT.out _ hm; omega
  have HN0 := Aside0.mk hn2
  have HNZ := Aside0.mk hn1
  have HN2 := Aside0.mk hn0
  have HZ := Aside0.mk hz
  have HB := Aside0.mk hb
  clear hk hz hl hb hn0 hn1 hn2 hd0 hd8
  refine start_ (n := 7) (S := fun w' => w'.cell? ⟨D + 1 + 1, o.kind.toNat, none⟩ = some (.func (.func fv) #[.pointer (some ⟨B, 0, none⟩)] #[]) ∧ w'.cell? ⟨D, 0, none⟩ = some (.int .i64 o.kind) ∧ w'.cell? ⟨D, 1, none⟩ = some (.int .i64 o.sp) ∧ w'.cell? ⟨D, 2, none⟩ = some (.int .i64 o.ak) ∧ w'.cell? ⟨D, 3, none⟩ = some (.bool o.ap) ∧ w'.cell? ⟨D, 4, none⟩ = some (.int .u64 o.av) ∧ w'.cell? ⟨D, 5, none⟩ = some (.int .u8 o.byte) ∧ w'.cell? ⟨D, 6, none⟩ = some (.int .u64 o.va) ∧ w'.cell? ⟨D, 7, none⟩ = some (.int .i64 o.size) ∧ w'.cell? ⟨D, 8, none⟩ = some (.bool o.at_.f0) ∧ w'.cell? ⟨D, 9, none⟩ = some (.bool o.at_.f1) ∧ w'.cell? ⟨D, 10, none⟩ = some (.bool o.at_.f2) ∧ w'.cell? ⟨D, 11, none⟩ = some (.bool o.at_.f3) ∧ w'.cell? ⟨D, 12, none⟩ = some (.bool o.at_.f4) ∧ w'.cell? ⟨D, 13, none⟩ = some (.bool o.at_.f5) ∧ w'.cell? ⟨D, 14, none⟩ = some (.int .i64 o.other) ∧ w'.cell? ⟨D, 15, none⟩ = some (.int .u64 o.too)) (ds := [6]) #[false, false, false, false, false, false, false] (by kernel_rfl) rfl rfl ⟨q0, o0, o1, o2, o3, o4, o5, o6, o7, o8, o9, o10, o11, o12, o13, o14, o15⟩ (fun hHeld => ?_)
  refine pure_ (i := 0) (N := some 32) (v := ?_) (a' := ?_) #[true, false, false, false, false, false, false] rfl rfl (by kernel_rfl) (fun _ _ _ h => h) (Or.inl ⟨by rfl, ?_⟩) ?_ ?_
  rotate_left
  · intro w'
    go_simp
    with_reducible rfl
  rotate_left
  · simp only [Act.put, List.setIfInBounds_toArray, List.set_cons_zero, List.set_cons_succ, i64_w, i32_w]
    rfl
  refine take_ (i := 1) (N := some 33) (v := ?_) (a' := ?_) #[true, true, false, false, false, false, false] rfl rfl (by kernel_rfl) (fun _ _ _ h => h) (Or.inl ⟨by rfl, ?_⟩) hHeld ?_ ?_
  rotate_left
  · rintro w' ⟨s0, s1, s2, s3, s4, s5, s6, s7, s8, s9, s10, s11, s12, s13, s14, s15, s16⟩
    go_simp
    with_reducible rfl
  rotate_left
  · simp only [Act.put, List.setIfInBounds_toArray, List.set_cons_zero, List.set_cons_succ, i64_w, i32_w]
    rfl
  refine pure_ (i := 2) (N := some 34) (v := ?_) (a' := ?_) #[true, true, true, false, false, false, false] rfl rfl (by kernel_rfl) (fun _ _ _ h => h) (Or.inl ⟨by rfl, ?_⟩) ?_ ?_
  rotate_left
  · intro w'
    go_simp
    with_reducible rfl
  rotate_left
  · simp only [Act.put, List.setIfInBounds_toArray, List.set_cons_zero, List.set_cons_succ, i64_w, i32_w]
    rfl
  refine take_ (i := 3) (N := some 35) (v := ?_) (a' := ?_) #[true, true, true, true, false, false, false] rfl rfl (by kernel_rfl) (fun _ _ _ h => h) (Or.inl ⟨by rfl, ?_⟩) hHeld ?_ ?_
  rotate_left
  · rintro w' ⟨s0, s1, s2, s3, s4, s5, s6, s7, s8, s9, s10, s11, s12, s13, s14, s15, s16⟩
    go_simp
    with_reducible rfl
  rotate_left
  · simp only [Act.put, List.setIfInBounds_toArray, List.set_cons_zero, List.set_cons_succ, i64_w, i32_w]
    rfl
  refine take_ (i := 4) (N := some 36) (v := ?_) (a' := ?_) #[true, true, true, true, true, false, false] rfl rfl (by kernel_rfl) (fun _ _ _ h => h) (Or.inl ⟨by rfl, ?_⟩) hHeld ?_ ?_
  rotate_left
  · rintro w' ⟨s0, s1, s2, s3, s4, s5, s6, s7, s8, s9, s10, s11, s12, s13, s14, s15, s16⟩
    go_simp
    with_reducible rfl
  rotate_left
  · simp only [Act.put, List.setIfInBounds_toArray, List.set_cons_zero, List.set_cons_succ, i64_w, i32_w]
    rfl
  refine one_ (i := 5) (N := some 37) #[true, true, true, true, true, true, false] rfl rfl (by kernel_rfl) (by decide) (fun K hK => ?_)
  refine goesv_ (f := fv) (first := #[.pointer (some ⟨B, 0, none⟩)]) (caps := #[]) (args := #[.pointer (some ⟨B, 0, none⟩), Value.agg #[.int .i64 o.kind, .int .i64 o.sp, .int .i64 o.ak, .bool o.ap, .int .u64 o.av, .int .u8 o.byte, .int .u64 o.va, .int .i64 o.size, .bool o.at_.f0, .bool o.at_.f1, .bool o.at_.f2, .bool o.at_.f3, .bool o.at_.f4, .bool o.at_.f5, .int .i64 o.other, .int .u64 o.too]]) (by rfl) rfl rfl (by first | rfl | (simp [Act.eval]; done)) HE.out (by (try simp only [List.map_toArray, List.map_cons, List.map_nil]); first | done | rfl) ?_
  refine (HC.out _ (below_step HB.out (Below.refl _ _).drew)).mono ?_
  rintro e w4 ⟨rfl, hm4, hv4⟩
  refine ⟨_, rfl, ?_⟩
  have HM4 := Aside0.mk hm4
  have HV4 := Aside0.mk hv4
  clear hm4 hv4
  have hz4 : w4.heap[D + 1]? = some (.cells #[.int .i64 0, .int .i64 0, .int .u8 0] 42 (0, 0)) := (HV4.out.block _ (blk_lt HZ.out) HNZ.out).trans HZ.out
  have HZ4 := Aside0.mk hz4
  obtain ⟨t0, t1, t2, t3, t4, t5, t6, t7, t8, t9, t10, t11, t12, t13, t14, t15, t16⟩ := hHeld
  refine hK.out _ _ ⟨HV4.out.cell t0 HN0.out, HV4.out.cell t1 HN2.out, HV4.out.cell t2 HN2.out, HV4.out.cell t3 HN2.out, HV4.out.cell t4 HN2.out, HV4.out.cell t5 HN2.out, HV4.out.cell t6 HN2.out, HV4.out.cell t7 HN2.out, HV4.out.cell t8 HN2.out, HV4.out.cell t9 HN2.out, HV4.out.cell t10 HN2.out, HV4.out.cell t11 HN2.out, HV4.out.cell t12 HN2.out, HV4.out.cell t13 HN2.out, HV4.out.cell t14 HN2.out, HV4.out.cell t15 HN2.out, HV4.out.cell t16 HN2.out⟩ (fun hHeld => ?_)
  clear hK K
  refine norm_ (a' := ?_) ?_ ?_
  rotate_left
  · show Act.put _ (some 37) _ = _
    simp only [Act.put, List.setIfInBounds_toArray, List.set_cons_zero, List.set_cons_succ, i64_w, i32_w]
    rfl
  refine last_ (i := 6) (N := none) #[true, true, true, true, true, true, true] rfl rfl (by kernel_rfl) (by decide) (fun K hK => ?_)
  refine skip_ (w1 := _) (by rfl) rfl (run_store_reply rfl rfl rfl hz4) ?_
  refine hK.out _ _ ?_
  clear hK K
  refine done_ (by kernel_rfl) ?_
  (try simp only [Exit.inBlock, Exit.then])
  clear hHeld
  have hv5 := ((Mv.of_below HB.out.drew).then HV4.out : Mv [B, pm, bm] w w4)
  have HV5 := Aside0.mk hv5
  clear hv5
  go_wp2_with fail
  refine bodyPost_ret (results_cell_row rfl _ _ (D + 1) 42 _ (0, 0) _ rfl (sb_same HZ4.out _) Try.underlying42 rfl (by kernel_rfl)) rfl ?_
  exact ⟨rfl, HM4.out.move (fun k hk => sb_other _ (fun e => HNZ.out (e ▸ hk))), HV5.out.setBlock (.inr (by omega)) _⟩
end
end Go.Proofs.Ytalmemcidbmdgaa.PM



/- A model (layer 16): Do, in one. -/
set_option linter.unusedVariables false
set_option linter.unusedSimpArgs false
namespace Go.Proofs.Ytalmemcidbmdgaa.PM
open Go.RowKit Go.Proofs.YtalmemcidbmdgaaW.PrintWords Go.Proofs.YtalmemcidbmdgaaW.PrintLast Go.Proofs.YtalmemcidbmdgaaW.PrintMore Go.Proofs.Ytalmemcidbmdgaa.PageG
attribute [local go_sem] max2_int min2_int max_two min_two max_three min_three max_four min_four   -- for this text's walks alone
/-- A space's pages, as they rise. -/
def pagesS (s : MS) (sp : Int) : List Pg := (sel sp s.L).mergeSort (fun p q => decide (p.f0 ≤ q.f0))
def dropAt (sp : Int) (t : MS) (p : Pg) : MS := match find t.L sp p.f0.toNat with | some i => unmapS t i | none => t
def destS (s : MS) (sp : Int) : MS := (pagesS s sp).foldl (dropAt sp) s
def destroyR (s : MS) (o : OpS) : Int × MS := if isAll s.n [o.sp] = true then (0, destS s o.sp) else (1, s)
def protectR (s : MS) (o : OpS) : Int × MS := if o.at_.f4 = true then (1, s) else changeR s o (protS s o.at_)
def rep3 (r : Int × MS) : (Int × Int × Int) × MS := ((r.1, 0, 0), r.2)
/-- Do. -/
def doR (s : MS) (o : OpS) : (Int × Int × Int) × MS :=
  if o.kind = 0 then accessR s o
  else if o.kind = 1 then rep3 (mappedR s o)
  else if o.kind = 2 then rep3 (changeR s o (unmapS s))
  else if o.kind = 3 then rep3 (protectR s o)
  else if o.kind = 4 then rep3 (changeR s o (clearS s))
  else if o.kind = 5 then rep3 (shareR s o)
  else if o.kind = 6 then rep3 (growE s o, s)
  else if o.kind = 7 then rep3 (destroyR s o)
  else rep3 (1, s)
theorem pagesS_perm (s : MS) (sp : Int) : (pagesS s sp).Perm (sel sp s.L) := List.mergeSort_perm _ _
theorem DS.fold {s : MS} {sp : Int} {l : List Pg} (hw : WfL s.L) (hp : l.Perm (sel sp s.L)) : ∀ j, j ≤ l.length → DS s sp l j ((l.take j).foldl (dropAt sp) s)
  | 0, _ => DS.start hw hp
  | j + 1, hj => by
    have ih := DS.fold hw hp j (by omega)
    have hlt : j < l.length := by omega
    obtain ⟨i, x, hi, hx, hxp, hd⟩ := ih.next (List.getElem?_eq_getElem hlt)
    rw [List.take_succ_eq_append_getElem hlt, List.foldl_append]
    generalize (l.take j).foldl (dropAt sp) s = t at *
    show DS s sp l (j + 1) (dropAt sp t l[j])
    have hok := ih.wf.ok x (List.mem_of_getElem? hi)
    have hf : find t.L sp (l[j]).f0.toNat = some i := find_of ih.wf hi (by rw [← hxp]; exact hit_iff.2 ⟨hx, hok.st⟩)
    unfold dropAt
    rw [hf]
    show DS s sp l (j + 1) (unmapS t i)
    unfold unmapS
    rw [hi]
    exact hd
theorem dest_gone {s : MS} (hw : WfL s.L) (sp : Int) : Gone s sp (destS s sp) := by
  have h := DS.fold hw (pagesS_perm s sp) (pagesS s sp).length (Nat.le_refl _)
  rw [List.take_length] at h
  exact h.end
theorem BRel.congr {l : ML.En} {b b' : List Bt} (h : BRel l b) (e : ∀ r o, getB b' r o = getB b r o) : BRel l b' :=
  ⟨h.form, fun r o v hm => by rw [e]; exact h.has r o v hm, fun r o hm => by rw [e]; exact h.hasnt r o hm⟩
section
variable {w w' : World} {B pm bm : Nat} {s : MS}
theorem Mo.congr {s' : MS} (h : Mo w B pm bm s) (h1 : s'.n = s.n) (h2 : s'.L = s.L) (h3 : s'.made = s.made) (h4 : ∀ r o, getB s'.by_ r o = getB s.by_ r o) : Mo w B pm bm s' := by
  obtain ⟨l, hl, hr⟩ := h.hm
  exact ⟨by rw [h1, h3]; exact h.hb, by rw [h2]; exact h.hp, ⟨l, hl, hr.congr h4⟩, h.ne⟩
theorem gone_one {s t t' : MS} {sp : Int} (h : Gone s sp t) (h' : Gone s sp t') : t'.n = t.n ∧ t'.L = t.L ∧ t'.made = t.made ∧ ∀ r o, getB t'.by_ r o = getB t.by_ r o := by
  refine ⟨h'.n.trans h.n.symm, h'.L.trans h.L.symm, h'.made.trans h.made.symm, fun r o => ?_⟩
  rw [h.by_, h'.by_, h'.L, h.L]
theorem dest2_calls (h : Mo w B pm bm s) (hw : WfL s.L) (hf : s.L.length ≤ 100000) (o : OpS) :
    Calls Try.prog 45 #[.pointer (some ⟨B, 0, none⟩), Value.agg #[.int .i64 o.kind, .int .i64 o.sp, .int .i64 o.ak, .bool o.ap, .int .u64 o.av, .int .u8 o.byte, .int .u64 o.va, .int .i64 o.size, .bool o.at_.f0, .bool o.at_.f1, .bool o.at_.f2, .bool o.at_.f3, .bool o.at_.f4, .bool o.at_.f5, .int .i64 o.other, .int .u64 o.too]] w (Rep3 w B pm bm (rep3 (destroyR s o))) := by
  refine (destroy_calls h hw hf o).mono ?_
  rintro e w' ⟨n, t, rfl, hc, hm, hv⟩
  unfold destroyR
  rcases hc with ⟨hi, rfl, rfl⟩ | ⟨hi, rfl, hg⟩
  · rw [if_neg (by rw [hi]; simp)]
    exact ⟨rfl, hm, hv⟩
  · rw [if_pos hi]
    obtain ⟨e1, e2, e3, e4⟩ := gone_one hg (dest_gone hw o.sp)
    exact ⟨rfl, hm.congr e1 e2 e3 e4, hv⟩
set_option maxHeartbeats 8000000 in
set_option maxRecDepth 100000 in
theorem do_bad (h : Mo w B pm bm s) (o : OpS) (hk : ¬ (0 ≤ o.kind ∧ o.kind < 8)) :
    Calls Try.prog 14 #[.pointer (some ⟨B, 0, none⟩), Value.agg #[.int .i64 o.kind, .int .i64 o.sp, .int .i64 o.ak, .bool o.ap, .int .u64 o.av, .int .u8 o.byte, .int .u64 o.va, .int .i64 o.size, .bool o.at_.f0, .bool o.at_.f1, .bool o.at_.f2, .bool o.at_.f3, .bool o.at_.f4, .bool o.at_.f5, .int .i64 o.other, .int .u64 o.too]] w (Rep3 w B pm bm (rep3 (1, s))) := by
  have HM := Aside0.mk h
  clear h
  obtain ⟨D, hD⟩ : ∃ D, w.heap.size = D := ⟨_, rfl⟩
  by_cases h0 : o.kind < 0
  · have hd0 : decide (o.kind < 0) = true := decide_eq_true h0
    clear hk h0
    go_enter Try.func14, Try.ntmps14
    go_upto_region 2 with fail
    have hz := blk_new (w.alloc (.cells #[.int .i64 o.kind, .int .i64 o.sp, .int .i64 o.ak, .bool o.ap, .int .u64 o.av, .int .u8 o.byte, .int .u64 o.va, .int .i64 o.size, .bool o.at_.f0, .bool o.at_.f1, .bool o.at_.f2, .bool o.at_.f3, .bool o.at_.f4, .bool o.at_.f5, .int .i64 o.other, .int .u64 o.too] 36)) (.cells #[.int .i64 0, .int .i64 0, .int .u8 0] 42)
    have hb : Below w.heap.size w ((w.alloc (.cells #[.int .i64 o.kind, .int .i64 o.sp, .int .i64 o.ak, .bool o.ap, .int .u64 o.av, .int .u8 o.byte, .int .u64 o.va, .int .i64 o.size, .bool o.at_.f0, .bool o.at_.f1, .bool o.at_.f2, .bool o.at_.f3, .bool o.at_.f4, .bool o.at_.f5, .int .i64 o.other, .int .u64 o.too] 36)).alloc (.cells #[.int .i64 0, .int .i64 0, .int .u8 0] 42)) := ((Below.refl _ w).alloc (Nat.le_refl _) _).alloc (by simp) _
    have hs1 : (w.alloc (.cells #[.int .i64 o.kind, .int .i64 o.sp, .int .i64 o.ak, .bool o.ap, .int .u64 o.av, .int .u8 o.byte, .int .u64 o.va, .int .i64 o.size, .bool o.at_.f0, .bool o.at_.f1, .bool o.at_.f2, .bool o.at_.f3, .bool o.at_.f4, .bool o.at_.f5, .int .i64 o.other, .int .u64 o.too] 36)).heap.size = D + 1 := by simp [hD]
    rw [hs1] at hz
    generalize (w.alloc (.cells #[.int .i64 o.kind, .int .i64 o.sp, .int .i64 o.ak, .bool o.ap, .int .u64 o.av, .int .u8 o.byte, .int .u64 o.va, .int .i64 o.size, .bool o.at_.f0, .bool o.at_.f1, .bool o.at_.f2, .bool o.at_.f3, .bool o.at_.f4, .bool o.at_.f5, .int .i64 o.other, .int .u64 o.too] 36)).alloc (.cells #[.int .i64 0, .int .i64 0, .int .u8 0] 42) = w1 at *
    have HZ := Aside0.mk hz
    have HB := Aside0.mk hb
    clear hs1 hz hb hd0
    go_wp2_with fail
    refine (model_told.calls 1 _ _ _ w1 rfl).mono ?_
    rintro e w2z ⟨rfl, hb2⟩
    have hz2 := blk_below HZ.out hb2
    have HB2 := Aside0.mk (below_step HB.out hb2)
    obtain ⟨z0, z1, z2⟩ := cells3 hz2
    have y0 := blk_frozen hz2 0
    have y1 := blk_frozen hz2 1
    have y2 := blk_frozen hz2 2
    clear hb2
    go_wp2_with fail
    rw [set3 hz2]
    refine bodyPost_ret (results_cell_row rfl _ _ (D + 1) 42 _ (0, 0) _ rfl (sb_same hz2 _) Try.underlying42 rfl (by kernel_rfl)) rfl ?_
    exact Rep3.same HM.out (below_sb HB2.out (by omega) _) rfl
  · have hd0 : decide (o.kind < 0) = false := decide_eq_false h0
    have hd8 : decide (8 ≤ o.kind) = true := decide_eq_true (by omega)
    clear hk h0
    go_enter Try.func14, Try.ntmps14
    go_upto_region 2 with fail
    have hz := blk_new (w.alloc (.cells #[.int .i64 o.kind, .int .i64 o.sp, .int .i64 o.ak, .bool o.ap, .int .u64 o.av, .int .u8 o.byte, .int .u64 o.va, .int .i64 o.size, .bool o.at_.f0, .bool o.at_.f1, .bool o.at_.f2, .bool o.at_.f3, .bool o.at_.f4, .bool o.at_.f5, .int .i64 o.other, .int .u64 o.too] 36)) (.cells #[.int .i64 0, .int .i64 0, .int .u8 0] 42)
    have hb : Below w.heap.size w ((w.alloc (.cells #[.int .i64 o.kind, .int .i64 o.sp, .int .i64 o.ak, .bool o.ap, .int .u64 o.av, .int .u8 o.byte, .int .u64 o.va, .int .i64 o.size, .bool o.at_.f0, .bool o.at_.f1, .bool o.at_.f2, .bool o.at_.f3, .bool o.at_.f4, .bool o.at_.f5, .int .i64 o.other, .int .u64 o.too] 36)).alloc (.cells #[.int .i64 0, .int .i64 0, .int .u8 0] 42)) := ((Below.refl _ w).alloc (Nat.le_refl _) _).alloc (by simp) _
    have hs1 : (w.alloc (.cells #[.int .i64 o.kind, .int .i64 o.sp, .int .i64 o.ak, .bool o.ap, .int .u64 o.av, .int .u8 o.byte, .int .u64 o.va, .int .i64 o.size, .bool o.at_.f0, .bool o.at_.f1, .bool o.at_.f2, .bool o.at_.f3, .bool o.at_.f4, .bool o.at_.f5, .int .i64 o.other, .int .u64 o.too] 36)).heap.size = D + 1 := by simp [hD]
    rw [hs1] at hz
    generalize (w.alloc (.cells #[.int .i64 o.kind, .int .i64 o.sp, .int .i64 o.ak, .bool o.ap, .int .u64 o.av, .int .u8 o.byte, .int .u64 o.va, .int .i64 o.size, .bool o.at_.f0, .bool o.at_.f1, .bool o.at_.f2, .bool o.at_.f3, .bool o.at_.f4, .bool o.at_.f5, .int .i64 o.other, .int .u64 o.too] 36)).alloc (.cells #[.int .i64 0, .int .i64 0, .int .u8 0] 42) = w1 at *
    have HZ := Aside0.mk hz
    have HB := Aside0.mk hb
    clear hs1 hz hb hd0
    go_wp2_with fail
    refine (model_told.calls 1 _ _ _ w1 rfl).mono ?_
    rintro e w2z ⟨rfl, hb2⟩
    have hz2 := blk_below HZ.out hb2
    have HB2 := Aside0.mk (below_step HB.out hb2)
    obtain ⟨z0, z1, z2⟩ := cells3 hz2
    have y0 := blk_frozen hz2 0
    have y1 := blk_frozen hz2 1
    have y2 := blk_frozen hz2 2
    clear hb2
    go_wp2_with fail
    rw [set3 hz2]
    refine bodyPost_ret (results_cell_row rfl _ _ (D + 1) 42 _ (0, 0) _ rfl (sb_same hz2 _) Try.underlying42 rfl (by kernel_rfl)) rfl ?_
    exact Rep3.same HM.out (below_sb HB2.out (by omega) _) rfl
theorem do_calls (h : Mo w B pm bm s) (hw : WfL s.L) (hf : s.L.length ≤ 100000) (o : OpS) (ho : OkO o) (hn : s.n ≤ 64) (hm0 : 0 ≤ s.made) (hm1 : s.made < 1000000) :
    Calls Try.prog 14 #[.pointer (some ⟨B, 0, none⟩), Value.agg #[.int .i64 o.kind, .int .i64 o.sp, .int .i64 o.ak, .bool o.ap, .int .u64 o.av, .int .u8 o.byte, .int .u64 o.va, .int .i64 o.size, .bool o.at_.f0, .bool o.at_.f1, .bool o.at_.f2, .bool o.at_.f3, .bool o.at_.f4, .bool o.at_.f5, .int .i64 o.other, .int .u64 o.too]] w (Rep3 w B pm bm (doR s o)) := by
  have hc : o.kind = 0 ∨ o.kind = 1 ∨ o.kind = 2 ∨ o.kind = 3 ∨ o.kind = 4 ∨ o.kind = 5 ∨ o.kind = 6 ∨ o.kind = 7 ∨ ¬ (0 ≤ o.kind ∧ o.kind < 8) := by omega
  unfold doR
  rcases hc with hk | hk | hk | hk | hk | hk | hk | hk | hk
  · rw [if_pos hk]
    exact do_one h o (by omega) _ (by rw [hk]; rfl) (enters_ Try.func38 (by rfl) (by kernel_rfl)) _ (fun W hb => access_calls (h.below hb) hw o ho)
  · rw [if_neg (by omega), if_pos hk]
    exact do_one h o (by omega) _ (by rw [hk]; rfl) (enters_ Try.func39 (by rfl) (by kernel_rfl)) _ (fun W hb => (mapped_calls (h.below hb) hw hf o ho.va hn hm0 hm1).mono (fun e w' h => h))
  · rw [if_neg (by omega), if_neg (by omega), if_pos hk]
    exact do_one h o (by omega) _ (by rw [hk]; rfl) (enters_ Try.func40 (by rfl) (by kernel_rfl)) _ (fun W hb => (unmap_calls (h.below hb) hw hf o ho).mono (fun e w' h => h))
  · rw [if_neg (by omega), if_neg (by omega), if_neg (by omega), if_pos hk]
    exact do_one h o (by omega) _ (by rw [hk]; rfl) (enters_ Try.func41 (by rfl) (by kernel_rfl)) _ (fun W hb => (protect_calls (h.below hb) hw hf o ho).mono (fun e w' h => h))
  · rw [if_neg (by omega), if_neg (by omega), if_neg (by omega), if_neg (by omega), if_pos hk]
    exact do_one h o (by omega) _ (by rw [hk]; rfl) (enters_ Try.func42 (by rfl) (by kernel_rfl)) _ (fun W hb => (clear_calls (h.below hb) hw hf o ho).mono (fun e w' h => h))
  · rw [if_neg (by omega), if_neg (by omega), if_neg (by omega), if_neg (by omega), if_neg (by omega), if_pos hk]
    exact do_one h o (by omega) _ (by rw [hk]; rfl) (enters_ Try.func43 (by rfl) (by kernel_rfl)) _ (fun W hb => (share_calls (h.below hb) hw hf o ho hn).mono (fun e w' h => h))
  · rw [if_neg (by omega), if_neg (by omega), if_neg (by omega), if_neg (by omega), if_neg (by omega), if_neg (by omega), if_pos hk]
    exact do_one h o (by omega) _ (by rw [hk]; rfl) (enters_ Try.func44 (by rfl) (by kernel_rfl)) _ (fun W hb => (grow_calls (h.below hb) o).mono (fun e w' hh => ⟨hh.1, (h.below hb).below hh.2, Mv.of_below hh.2⟩))
  · rw [if_neg (by omega), if_neg (by omega), if_neg (by omega), if_neg (by omega), if_neg (by omega), if_neg (by omega), if_neg (by omega), if_pos hk]
    exact do_one h o (by omega) _ (by rw [hk]; rfl) (enters_ Try.func45 (by rfl) (by kernel_rfl)) _ (fun W hb => dest2_calls (h.below hb) hw hf o)
  · rw [if_neg (by omega), if_neg (by omega), if_neg (by omega), if_neg (by omega), if_neg (by omega), if_neg (by omega), if_neg (by omega), if_neg (by omega)]
    exact do_bad h o hk
end
end Go.Proofs.Ytalmemcidbmdgaa.PM


/- A model (layer 16): what stays behind every operation: plain. -/
set_option linter.unusedVariables false
set_option linter.unusedSimpArgs false
namespace Go.Proofs.Ytalmemcidbmdgaa.PM
open Go.RowKit Go.Proofs.YtalmemcidbmdgaaW.PrintWords Go.Proofs.YtalmemcidbmdgaaW.PrintLast Go.Proofs.YtalmemcidbmdgaaW.PrintMore Go.Proofs.Ytalmemcidbmdgaa.PageG
attribute [local go_sem] max2_int min2_int max_two min_two max_three min_three max_four min_four   -- for this text's walks alone
/-- What is true of a model behind k operations. -/
structure WfK (k : Nat) (s : MS) : Prop where
  n0 : 0 ≤ s.n
  n1 : s.n ≤ 64
  wl : WfL s.L
  few : s.L.length ≤ k
  made0 : 0 ≤ s.made
  made1 : s.made ≤ (k : Int)
  pa : ∀ x ∈ s.L, x.f1.f2 < s.made
  sp : ∀ x ∈ s.L, x.f0 < s.n
  rs : ∀ x ∈ s.L, ∀ y ∈ s.L, x.f1.f2 = y.f1.f2 → x.f1.f1 = y.f1.f1
  bok : ∀ b ∈ s.by_, 0 ≤ b.f0 ∧ b.f0 < s.made ∧ U64 b.f1 ∧ 0 ≤ b.f2 ∧ b.f2 < 256
  bof : ∀ b ∈ s.by_, ∀ x ∈ s.L, x.f1.f2 = b.f0 → b.f1 < ((2 ^ (13 + 3 * szN x) : Nat) : Int)
  bnd : s.by_.Pairwise (fun a b => ¬ (a.f0 = b.f0 ∧ a.f1 = b.f1))
  blen : s.by_.length ≤ k
theorem WfK.new {n : Int} (h0 : 0 ≤ n) (h1 : n ≤ 64) : WfK 0 ⟨n, [], [], 0⟩ :=
  ⟨h0, h1, ⟨fun x hx => (by cases hx), List.Pairwise.nil⟩, by simp, by simp, by simp, fun x hx => (by cases hx), fun x hx => (by cases hx), fun x hx => (by cases hx), fun x hx => (by cases hx), fun x hx => (by cases hx), List.Pairwise.nil, by simp⟩
theorem WfK.up {k m : Nat} {s : MS} (h : WfK k s) (hm : k ≤ m) : WfK m s :=
  ⟨h.n0, h.n1, h.wl, by have := h.few; omega, h.made0, by have := h.made1; omega, h.pa, h.sp, h.rs, h.bok, h.bof, h.bnd, by have := h.blen; omega⟩
theorem mem_set {α : Type} {l : List α} {i : Nat} {a y : α} (h : y ∈ l.set i a) : y ∈ l ∨ y = a := List.mem_or_eq_of_mem_set h
theorem meets_same {x x' y : Ent} (h0 : x'.f0 = x.f0) (h1 : x'.f1.f0 = x.f1.f0) (h2 : x'.f1.f1 = x.f1.f1) : (meets x' y ↔ meets x y) ∧ (meets y x' ↔ meets y x) := by
  have e1 : vaN x' = vaN x := by unfold vaN; rw [h1]
  have e2 : szN x' = szN x := by unfold szN; rw [h2]
  unfold meets
  rw [h0, e1, e2]
  exact ⟨Iff.rfl, Iff.rfl⟩
theorem pw_set {α : Type} {R : α → α → Prop} {a : α} : ∀ {l : List α} {i : Nat} {x : α}, l[i]? = some x → (∀ y, R x y → R a y) → (∀ y, R y x → R y a) → l.Pairwise R → (l.set i a).Pairwise R
  | [], i, x, h, _, _, _ => by simp at h
  | b :: l, 0, x, h, h1, h2, hp => by
    simp at h
    subst h
    have := List.pairwise_cons.1 hp
    exact List.pairwise_cons.2 ⟨fun y hy => h1 y (this.1 y hy), this.2⟩
  | b :: l, i + 1, x, h, h1, h2, hp => by
    have hc := List.pairwise_cons.1 hp
    have hx : l[i]? = some x := by simpa using h
    refine List.pairwise_cons.2 ⟨fun y hy => ?_, pw_set hx h1 h2 hc.2⟩
    rcases mem_set hy with hy | rfl
    · exact hc.1 y hy
    · exact h2 b (hc.1 x (List.mem_of_getElem? hx))
theorem WfK.set {k : Nat} {s : MS} (h : WfK k s) {i : Nat} {x : Ent} (hi : s.L[i]? = some x) (p : Pg) (h0 : p.f0 = x.f1.f0) (h1 : p.f1 = x.f1.f1) (h2 : p.f2 = x.f1.f2) : WfK k { s with L := s.L.set i ⟨x.f0, p⟩ } := by
  have hx := List.mem_of_getElem? hi
  have hok := h.wl.ok x hx
  have hne : OkE ⟨x.f0, p⟩ := ⟨hok.sp0, hok.sp1, by show p.f0 = ((p.f0.toNat : Nat) : Int); rw [h0]; exact hok.va, by show p.f0.toNat < _; rw [h0]; exact hok.va1, by show p.f1 = ((p.f1.toNat : Nat) : Int); rw [h1]; exact hok.sz, by show p.f1.toNat < _; rw [h1]; exact hok.sz1, by show bs p.f0.toNat p.f1.toNat = p.f0.toNat; rw [h0, h1]; exact hok.st, by show 0 ≤ p.f2; rw [h2]; exact hok.pa0, by show p.f2 < _; rw [h2]; exact hok.pa1⟩
  have hm : ∀ y, (meets ⟨x.f0, p⟩ y ↔ meets x y) ∧ (meets y ⟨x.f0, p⟩ ↔ meets y x) := fun y => meets_same rfl h0 h1
  refine ⟨h.n0, h.n1, ⟨fun y hy => ?_, ?_⟩, by simpa using h.few, h.made0, h.made1, fun y hy => ?_, fun y hy => ?_, fun y hy z hz => ?_, h.bok, fun b hb y hy => ?_, h.bnd, h.blen⟩
  · rcases mem_set hy with hy | rfl
    · exact h.wl.ok y hy
    · exact hne
  · exact pw_set hi (fun y hy hc => hy ((hm y).1.1 hc)) (fun y hy hc => hy ((hm y).2.1 hc)) h.wl.apart
  · rcases mem_set hy with hy | rfl
    · exact h.pa y hy
    · show p.f2 < _
      rw [h2]
      exact h.pa x hx
  · rcases mem_set hy with hy | rfl
    · exact h.sp y hy
    · exact h.sp x hx
  · rcases mem_set hy with hy | rfl
    · rcases mem_set hz with hz | rfl
      · exact h.rs y hy z hz
      · show _ = p.f2 → _ = p.f1
        rw [h2, h1]
        exact h.rs y hy x hx
    · rcases mem_set hz with hz | rfl
      · show p.f2 = _ → p.f1 = _
        rw [h2, h1]
        exact h.rs x hx z hz
      · intro _; rfl
  · rcases mem_set hy with hy | rfl
    · exact h.bof b hb y hy
    · show p.f2 = _ → _ < ((2 ^ (13 + 3 * p.f1.toNat) : Nat) : Int)
      rw [h2, h1]
      exact h.bof b hb x hx
theorem WfK.byte {k : Nat} {s : MS} (h : WfK k s) {r o v : Int} {x : Ent} (hx : x ∈ s.L) (hr : x.f1.f2 = r) (ho : 0 ≤ o) (ho1 : o < ((2 ^ (13 + 3 * szN x) : Nat) : Int)) (ho2 : U64 o) (hv : 0 ≤ v ∧ v < 256) : WfK (k + 1) { s with by_ := putB s.by_ r o v } := by
  have hlen : (s.by_.filter (fun b => !(b.f0 == r && b.f1 == o))).length ≤ s.by_.length := List.length_filter_le _ _
  have hbl := h.blen
  have h' := h.up (Nat.le_succ k)
  refine ⟨h'.n0, h'.n1, h'.wl, h'.few, h'.made0, h'.made1, h'.pa, h'.sp, h'.rs, fun b hb => ?_, fun b hb y hy e => ?_, ?_, ?_⟩
  · rcases List.mem_cons.1 hb with rfl | hb
    · exact ⟨by rw [← hr]; exact (h.wl.ok x hx).pa0, by rw [← hr]; exact h.pa x hx, ho2, hv.1, hv.2⟩
    · exact h.bok b (List.mem_filter.1 hb).1
  · rcases List.mem_cons.1 hb with rfl | hb
    · have e2 := h.rs x hx y hy (by rw [hr, e])
      have e3 : szN y = szN x := by unfold szN; rw [e2]
      rw [e3]
      exact ho1
    · exact h.bof b (List.mem_filter.1 hb).1 y hy e
  · refine List.pairwise_cons.2 ⟨fun b hb hc => ?_, h.bnd.sublist List.filter_sublist⟩
    have := (List.mem_filter.1 hb).2
    simp [← hc.1, ← hc.2] at this
  · show (_ :: _).length ≤ _
    simp only [List.length_cons]
    omega
theorem WfK.drop {k : Nat} {s : MS} (h : WfK k s) (i : Nat) (x : Ent) : WfK k (dropS s i x) := by
  have hsub := List.eraseIdx_sublist s.L i
  have hb : ∀ b ∈ (dropS s i x).by_, b ∈ s.by_ := fun b hb => by
    have hb' : b ∈ (if winN (s.L.eraseIdx i) x.f1.f2 = 0 then cutB s.by_ x.f1.f2 else s.by_) := hb
    split at hb'
    · exact (List.mem_filter.1 hb').1
    · exact hb'
  have hbs : (dropS s i x).by_.Sublist s.by_ := by
    show (if winN (s.L.eraseIdx i) x.f1.f2 = 0 then cutB s.by_ x.f1.f2 else s.by_).Sublist s.by_
    split
    · exact List.filter_sublist
    · exact List.Sublist.refl _
  exact ⟨h.n0, h.n1, h.wl.erase i, Nat.le_trans hsub.length_le h.few, h.made0, h.made1, fun y hy => h.pa y (hsub.subset hy), fun y hy => h.sp y (hsub.subset hy), fun y hy z hz => h.rs y (hsub.subset hy) z (hsub.subset hz), fun b hm => h.bok b (hb b hm), fun b hm y hy => h.bof b (hb b hm) y (hsub.subset hy), h.bnd.sublist hbs, Nat.le_trans hbs.length_le h.blen⟩
theorem WfK.unmap {k : Nat} {s : MS} (h : WfK k s) (i : Nat) : WfK k (unmapS s i) := by
  unfold unmapS
  split
  · exact h.drop i _
  · exact h
theorem WfK.dropAt {k : Nat} {s : MS} (h : WfK k s) (sp : Int) (p : Pg) : WfK k (PM.dropAt sp s p) := by
  unfold PM.dropAt
  split
  · exact h.unmap _
  · exact h
theorem WfK.dest {k : Nat} {s : MS} (h : WfK k s) (sp : Int) : WfK k (destS s sp) := by
  unfold destS
  generalize pagesS s sp = l
  induction l generalizing s with
  | nil => exact h
  | cons p l ih => exact ih (h.dropAt sp p)
theorem WfK.prot {k : Nat} {s : MS} (h : WfK k s) (a : Atr) (i : Nat) : WfK k (protS s a i) := by
  unfold protS
  split
  · rename_i x hx
    exact h.set hx _ rfl rfl rfl
  · exact h
theorem WfK.clear {k : Nat} {s : MS} (h : WfK k s) (i : Nat) : WfK k (clearS s i) := by
  unfold clearS
  split
  · rename_i x hx
    exact h.set hx _ rfl rfl rfl
  · exact h
theorem WfK.change {k : Nat} {s : MS} (h : WfK k s) (o : OpS) (f : Nat → MS) (hf : ∀ i, WfK k (f i)) : WfK k (changeR s o f).2 := by
  unfold changeR
  split
  · split
    · exact h
    · exact hf _
  · exact h
theorem offN_bound (x : Ent) (va : Nat) : ((offN x va : Nat) : Int) < ((2 ^ (13 + 3 * szN x) : Nat) : Int) := by
  have : offN x va < 2 ^ (13 + 3 * szN x) := Nat.mod_lt _ (Nat.two_pow_pos _)
  omega
theorem WfK.access {k : Nat} {s : MS} (h : WfK k s) (o : OpS) (ho : OkO o) : WfK (k + 1) (accessR s o).2 := by
  have h' := h.up (Nat.le_succ k)
  have hav : o.av.toNat < 2 ^ 64 := by have := ho.av; omega
  unfold accessR
  split
  · split
    · exact h'
    · split
      · exact h'
      · split
        · exact h'
        · rename_i x hx
          split
          · split
            · have h1 := h.set hx (accP x.f1 o.ak) rfl rfl rfl
              have hm : (⟨x.f0, accP x.f1 o.ak⟩ : Ent) ∈ s.L.set _ ⟨x.f0, accP x.f1 o.ak⟩ := List.mem_set (List.getElem?_eq_some_iff.1 hx).1 _
              exact h1.byte (x := ⟨x.f0, accP x.f1 o.ak⟩) hm rfl (by omega) (offN_bound x _) ⟨by omega, by have := offN_lt (x := x) hav; omega⟩ ho.by_
            · exact h'.set hx (accP x.f1 o.ak) rfl rfl rfl
          · exact h'
  · exact h'
theorem WfK.snoc {k : Nat} {s : MS} (h : WfK k s) (sp : Int) (p : Pg) (m : Int) (hp : OkE ⟨sp, p⟩) (hm : s.made ≤ m) (hm1 : m ≤ ((k + 1 : Nat) : Int)) (hpa : p.f2 < m) (hsp : sp < s.n) (hmt : (sel sp s.L).any (meetB p) = false) (hr : ∀ y ∈ s.L, y.f1.f2 = p.f2 → y.f1.f1 = p.f1) (hb : ∀ b ∈ s.by_, p.f2 = b.f0 → b.f1 < ((2 ^ (13 + 3 * p.f1.toNat) : Nat) : Int)) :
    WfK (k + 1) { s with L := s.L ++ [⟨sp, p⟩], made := m } := by
  have h' := h.up (Nat.le_succ k)
  refine ⟨h.n0, h.n1, ⟨fun y hy => ?_, ?_⟩, by have := h.few; simp only [List.length_append, List.length_singleton]; omega, by have := h.made0; show 0 ≤ m; omega, hm1, fun y hy => ?_, fun y hy => ?_, fun y hy z hz => ?_, fun b hb => ?_, fun b hb2 y hy => ?_, h.bnd, h'.blen⟩
  · rcases List.mem_append.1 hy with hy | hy
    · exact h.wl.ok y hy
    · rw [List.mem_singleton.1 hy]; exact hp
  · refine List.pairwise_append.2 ⟨h.wl.apart, List.pairwise_singleton _ _, fun y hy z hz hc => ?_⟩
    rw [List.mem_singleton.1 hz] at hc
    rw [List.any_eq_false] at hmt
    refine hmt y.f1 ?_ ?_
    · unfold sel
      exact List.mem_map.2 ⟨y, List.mem_filter.2 ⟨hy, by simp [hc.1]⟩, rfl⟩
    · unfold meetB
      have := hc.2
      unfold vaN szN at this
      simp only [decide_eq_true_eq]
      rw [Nat.max_comm]
      exact this.symm
  · rcases List.mem_append.1 hy with hy | hy
    · have := h.pa y hy; show _ < m; omega
    · rw [List.mem_singleton.1 hy]; exact hpa
  · rcases List.mem_append.1 hy with hy | hy
    · exact h.sp y hy
    · rw [List.mem_singleton.1 hy]; exact hsp
  · rcases List.mem_append.1 hy with hy | hy
    · rcases List.mem_append.1 hz with hz | hz
      · exact h.rs y hy z hz
      · rw [List.mem_singleton.1 hz]; exact hr y hy
    · rw [List.mem_singleton.1 hy]
      rcases List.mem_append.1 hz with hz | hz
      · exact fun e => (hr z hz e.symm).symm
      · rw [List.mem_singleton.1 hz]; exact fun _ => rfl
  · have := h.bok b hb
    exact ⟨this.1, by show _ < m; omega, this.2.2⟩
  · rcases List.mem_append.1 hy with hy | hy
    · exact h.bof b hb2 y hy
    · rw [List.mem_singleton.1 hy]; exact hb b hb2
theorem isAll_mem {n : Int} {l : List Int} (h : isAll n l = true) {x : Int} (hx : x ∈ l) : 0 ≤ x ∧ x < n := by
  unfold isAll at h
  rw [List.all_eq_true] at h
  simpa using h x hx
theorem WfK.mapped {k : Nat} {s : MS} (h : WfK k s) (hk : k < 1000) (o : OpS) (ho : OkO o) : WfK (k + 1) (mappedR s o).2 := by
  have h' := h.up (Nat.le_succ k)
  unfold mappedR
  split
  · rename_i hg
    have hs := isAll_mem hg.1 (x := o.sp) (by simp)
    have hva := ho.va
    have hm1 := h.made1
    have hq : OkQ o.sp (mapP s o) := ⟨hs.1, by have := h.n1; omega, by show o.va = ((o.va.toNat : Nat) : Int); omega, by show o.va.toNat < 2 ^ 64; omega, h.made0, by show s.made < 1000000; omega⟩
    unfold putS
    split
    · rw [if_neg (by show ¬ (3 : Int) = 0; omega)]; exact h'
    · split
      · rw [if_neg (by show ¬ (4 : Int) = 0; omega)]; exact h'
      · split
        · rw [if_neg (by show ¬ (9 : Int) = 0; omega)]; exact h'
        · rename_i hst hmt
          rw [if_pos rfl]
          have hst' : startsB (mapP s o).f0 (mapP s o).f1 = true := by simpa using hst
          have hmt' : (sel o.sp s.L).any (meetB (mapP s o)) = false := by simpa using hmt
          refine h.snoc o.sp (mapP s o) (s.made + 1) (hq.e hst') (by omega) (by omega) (by show s.made < _; omega) hs.2 hmt' (fun y hy e => ?_) (fun b hb e => ?_)
          · have := h.pa y hy
            have e' : y.f1.f2 = s.made := e
            omega
          · have := (h.bok b hb).2.1
            have e' : s.made = b.f0 := e
            omega
  · exact h'
theorem WfK.share {k : Nat} {s : MS} (h : WfK k s) (o : OpS) (ho : OkO o) : WfK (k + 1) (shareR s o).2 := by
  have h' := h.up (Nat.le_succ k)
  unfold shareR
  split
  · rename_i hg
    have hs := isAll_mem hg.1 (x := o.other) (by simp)
    have hva := ho.to1
    split
    · exact h'
    · split
      · rename_i x hx
        have hxm := List.mem_of_getElem? hx
        have hok := h.wl.ok x hxm
        have hq : OkQ o.other (shaP o x) := ⟨hs.1, by have := h.n1; omega, by show o.too = ((o.too.toNat : Nat) : Int); omega, by show o.too.toNat < 2 ^ 64; omega, hok.pa0, hok.pa1⟩
        unfold putS
        split
        · exact h'
        · split
          · exact h'
          · split
            · exact h'
            · rename_i hst hmt
              have hst' : startsB (shaP o x).f0 (shaP o x).f1 = true := by simpa using hst
              have hmt' : (sel o.other s.L).any (meetB (shaP o x)) = false := by simpa using hmt
              refine h.snoc o.other (shaP o x) s.made (hq.e hst') (by omega) (by have := h.made1; omega) (h.pa x hxm) hs.2 hmt' (fun y hy e => ?_) (fun b hb e => ?_)
              · exact h.rs y hy x hxm e
              · exact h.bof b hb x hxm e
      · exact h'
  · exact h'
theorem WfK.step {k : Nat} {s : MS} (h : WfK k s) (hk : k < 1000) (o : OpS) (ho : OkO o) : WfK (k + 1) (doR s o).2 := by
  have h' := h.up (Nat.le_succ k)
  unfold doR
  split
  · exact h.access o ho
  · split
    · exact h.mapped hk o ho
    · split
      · exact h'.change o _ (fun i => h'.unmap i)
      · split
        · show WfK (k + 1) (protectR s o).2
          unfold protectR
          split
          · exact h'
          · exact h'.change o _ (fun i => h'.prot _ i)
        · split
          · exact h'.change o _ (fun i => h'.clear i)
          · split
            · exact h.share o ho
            · split
              · exact h'
              · split
                · show WfK (k + 1) (destroyR s o).2
                  unfold destroyR
                  split
                  · exact h'.dest o.sp
                  · exact h'
                · exact h'
section
variable {w w' : World} {B pm bm : Nat} {s : MS}
/-- Do, and what stays. -/
def DoneP (w : World) (B pm bm : Nat) (k : Nat) (s : MS) (o : OpS) (e : Ending) (w' : World) : Prop :=
  e = .returned (.agg #[.int .i64 (doR s o).1.1, .int .i64 (doR s o).1.2.1, .int .u8 (doR s o).1.2.2]) ∧ Mo w' B pm bm (doR s o).2 ∧ WfK (k + 1) (doR s o).2 ∧ Mv [B, pm, bm] w w'
theorem done_calls (h : Mo w B pm bm s) {k : Nat} (hw : WfK k s) (hk : k < 1000) (o : OpS) (ho : OkO o) :
    Calls Try.prog 14 #[.pointer (some ⟨B, 0, none⟩), Value.agg #[.int .i64 o.kind, .int .i64 o.sp, .int .i64 o.ak, .bool o.ap, .int .u64 o.av, .int .u8 o.byte, .int .u64 o.va, .int .i64 o.size, .bool o.at_.f0, .bool o.at_.f1, .bool o.at_.f2, .bool o.at_.f3, .bool o.at_.f4, .bool o.at_.f5, .int .i64 o.other, .int .u64 o.too]] w (DoneP w B pm bm k s o) :=
  (do_calls h hw.wl (by have := hw.few; omega) o ho hw.n1 hw.made0 (by have := hw.made1; omega)).mono (fun e w' hh => ⟨hh.1, hh.2.1, hw.step hk o ho, hh.2.2⟩)
end
end Go.Proofs.Ytalmemcidbmdgaa.PM


/- A model (layer 16): the document's example: the walk. -/
set_option linter.unusedVariables false
set_option linter.unusedSimpArgs false
namespace Go.Proofs.Ytalmemcidbmdgaa.PM
open Go.RowKit Go.Proofs.YtalmemcidbmdgaaW.PrintWords Go.Proofs.YtalmemcidbmdgaaW.PrintLast Go.Proofs.YtalmemcidbmdgaaW.PrintMore Go.Proofs.Ytalmemcidbmdgaa.PageG
attribute [local go_sem] max2_int min2_int max_two min_two max_three min_three max_four min_four   -- for this text's walks alone
def lvS0 : MS := ⟨1, [], [], 0⟩
theorem lvw0 : WfK 0 lvS0 := WfK.new (by omega) (by omega)
section
variable {w w' : World} {B pm bm : Nat} {s : MS}
theorem lv_do {k : Nat} {s' : MS} (h : Mo w B pm bm s) (hw : WfK k s) (hk : k < 1000) (o : OpS) (ho : OkO o) {a b c : Int} (he : doR s o = ((a, b, c), s')) :
    Calls Try.prog 14 #[.pointer (some ⟨B, 0, none⟩), Value.agg #[.int .i64 o.kind, .int .i64 o.sp, .int .i64 o.ak, .bool o.ap, .int .u64 o.av, .int .u8 o.byte, .int .u64 o.va, .int .i64 o.size, .bool o.at_.f0, .bool o.at_.f1, .bool o.at_.f2, .bool o.at_.f3, .bool o.at_.f4, .bool o.at_.f5, .int .i64 o.other, .int .u64 o.too]] w (fun e w' => e = .returned (.agg #[.int .i64 a, .int .i64 b, .int .u8 c]) ∧ Mo w' B pm bm s' ∧ Mv [B, pm, bm] w w') :=
  (done_calls h hw hk o ho).mono (fun e w' hh => by
    obtain ⟨h1, h2, -, h4⟩ := hh
    rw [he] at h1 h2
    exact ⟨h1, h2, h4⟩)
end
end Go.Proofs.Ytalmemcidbmdgaa.PM


/- A story (layer 21): the document's example: the small walks. -/
set_option linter.unusedVariables false
set_option linter.unusedSimpArgs false
namespace Go.Proofs.Ytalmemcidbmdgaa.PM
open Go.RowKit Go.Proofs.YtalmemcidbmdgaaW.PrintWords Go.Proofs.YtalmemcidbmdgaaW.PrintLast Go.Proofs.YtalmemcidbmdgaaW.PrintMore Go.Proofs.Ytalmemcidbmdgaa.PageG
attribute [local go_sem] max2_int min2_int max_two min_two max_three min_three max_four min_four   -- for this text's walks alone
section
variable {w w' : World}
/-- The one call of the example. -/
def CallAt (w : World) (g : Nat) : Prop := w.heap[g]? = some (.cells #[.int .i64 0, .int .i64 6, .int .i64 0, .int .i64 0, .bool false, .int .u64 0, .int .u8 0, .int .u64 0, .int .i64 0, .bool false, .bool false, .bool false, .bool false, .bool false, .bool false, .int .i64 0, .int .u64 0, .int .i64 0, .int .i64 3, .int .i64 3, .int .i64 0, .int .i64 0, .int .u8 0, .int .i64 0] 69 (0, 0))
theorem CallAt.below {g : Nat} (h : CallAt w g) (hb : Below w.heap.size w w') : CallAt w' g := blk_below h hb
set_option maxHeartbeats 4000000 in
set_option maxRecDepth 100000 in
theorem row1_calls (w : World) : Calls Try.prog 122 #[.agg #[.int .i64 0, .int .i64 6, .int .i64 0, .int .i64 0, .bool false, .int .u64 0, .int .u8 0, .int .u64 0, .int .i64 0, .bool false, .bool false, .bool false, .bool false, .bool false, .bool false, .int .i64 0, .int .u64 0, .int .i64 0, .int .i64 3, .int .i64 3, .int .i64 0, .int .i64 0, .int .u8 0, .int .i64 0]] w fun e w' => e = .returned (.bool true) ∧ Below w.heap.size w w' := by
  have hb := (Below.refl _ w).alloc (Nat.le_refl _) (.cells #[.int .i64 0, .int .i64 6, .int .i64 0, .int .i64 0, .bool false, .int .u64 0, .int .u8 0, .int .u64 0, .int .i64 0, .bool false, .bool false, .bool false, .bool false, .bool false, .bool false, .int .i64 0, .int .u64 0, .int .i64 0, .int .i64 3, .int .i64 3, .int .i64 0, .int .i64 0, .int .u8 0, .int .i64 0] 69)
  have HB := Aside0.mk hb
  clear hb
  go_enter Try.func122, Try.ntmps122
  go_wp2_with fail
  go_ret
  exact ⟨rfl, HB.out⟩
set_option maxHeartbeats 4000000 in
set_option maxRecDepth 100000 in
theorem idx0_calls (w : World) (A : Option Addr) (c : Nat) (fv : Value) : Calls Try.prog 108 #[.slice A 0 c, fv] w fun e w' => e = .returned (.int .i64 (-1)) ∧ w = w' := by
  go_enter Try.func108, Try.ntmps108
  go_wp2_with fail
  refine wp_loop_rounds 1 ?_
  rw [rounds_succ]
  go_wp2_with fail
  go_ret
  exact ⟨rfl, rfl⟩
set_option maxHeartbeats 4000000 in
set_option maxRecDepth 100000 in
theorem has0_calls (w : World) (A : Option Addr) (c : Nat) (fv : Value) : Calls Try.prog 84 #[.slice A 0 c, fv] w fun e w' => e = .returned (.bool false) ∧ w = w' := by
  go_enter Try.func84, Try.ntmps84
  go_wp2_with fail
  refine (idx0_calls w A c fv).mono ?_
  rintro e w1 ⟨rfl, rfl⟩
  go_wp2_with fail
  go_ret
  exact ⟨rfl, rfl⟩
set_option maxHeartbeats 4000000 in
set_option maxRecDepth 100000 in
theorem ins1_calls (w : World) (A : Option Addr) (c : Nat) (fv : Value) : Calls Try.prog 128 #[.slice A 1 c, .int .i64 0, .int .i64 1, fv] w fun e w' => e = .returned (.tuple #[]) ∧ w = w' := by
  go_enter Try.func128, Try.ntmps128
  go_wp2_with fail
  refine wp_loop_rounds 1 ?_
  rw [rounds_succ]
  go_wp2_with fail
  go_end0
  exact ⟨rfl, rfl⟩
set_option maxHeartbeats 4000000 in
set_option maxRecDepth 100000 in
theorem stable1_calls (w : World) (A : Option Addr) (c : Nat) (fv : Value) : Calls Try.prog 126 #[.slice A 1 c, .int .i64 1, fv] w fun e w' => e = .returned (.tuple #[]) ∧ w = w' := by
  go_enter Try.func126, Try.ntmps126
  go_wp2_with fail
  refine wp_loop_rounds 1 ?_
  rw [rounds_succ]
  go_wp2_with fail
  refine (ins1_calls w A c fv).mono ?_
  rintro e w1 ⟨rfl, rfl⟩
  go_wp2_with fail
  refine wp_loop_rounds 1 ?_
  rw [rounds_succ]
  go_wp2_with fail
  go_end0
  exact ⟨rfl, rfl⟩
set_option maxHeartbeats 4000000 in
set_option maxRecDepth 100000 in
theorem sort1_calls (w : World) (A : Option Addr) (c : Nat) (fv : Value) : Calls Try.prog 123 #[.slice A 1 c, fv] w fun e w' => e = .returned (.tuple #[]) ∧ w = w' := by
  go_enter Try.func123, Try.ntmps123
  go_wp2_with fail
  refine (stable1_calls w A c fv).mono ?_
  rintro e w1 ⟨rfl, rfl⟩
  go_wp2_with fail
  go_end0
  exact ⟨rfl, rfl⟩
set_option maxHeartbeats 4000000 in
set_option maxRecDepth 100000 in
theorem chk1_calls (w : World) (g b : Nat) (hg : CallAt w g) (hb : w.cell? ⟨b, 0, none⟩ = some (.slice (some ⟨g, 0, none⟩) 1 1)) : Calls Try.prog 82 #[.int .i64 0, .pointer (some ⟨b, 0, none⟩)] w fun e w' => e = .returned (.bool false) ∧ Below w.heap.size w w' := by
  unfold CallAt at hg
  have c3 : w.cell? ⟨g, 18, none⟩ = some (.int .i64 3) := (blk_cell hg 18).trans rfl
  have c4 : w.cell? ⟨g, 19, none⟩ = some (.int .i64 3) := (blk_cell hg 19).trans rfl
  clear hg
  go_enter Try.func82, Try.ntmps82
  go_wp2_with fail
  go_ret
  exact ⟨rfl, Below.refl _ _⟩
set_option maxHeartbeats 4000000 in
set_option maxRecDepth 100000 in
theorem chk2_calls (w : World) (g b : Nat) (hg : CallAt w g) (hb : w.cell? ⟨b, 0, none⟩ = some (.slice (some ⟨g, 0, none⟩) 1 1)) : Calls Try.prog 83 #[.int .i64 0, .pointer (some ⟨b, 0, none⟩)] w fun e w' => e = .returned (.bool false) ∧ Below w.heap.size w w' := by
  unfold CallAt at hg
  have hgl := World.block_lt_of_cell? _ _ hb
  have hgl2 := blk_lt hg
  have hbl := (Below.refl _ w).alloc (Nat.le_refl _) (.cells #[.int .i64 0] 3)
  have c4 : w.cell? ⟨g, 19, none⟩ = some (.int .i64 3) := (blk_cell hg 19).trans rfl
  have hb1 := cell_up hbl hb
  have c41 := cell_up hbl c4
  have HB := Aside0.mk hbl
  clear hg hbl
  go_enter Try.func83, Try.ntmps83
  go_wp2_with fail
  refine (has0_calls _ _ _ _).mono ?_
  rintro e w1 ⟨rfl, rfl⟩
  go_wp2_with fail
  go_ret
  exact ⟨rfl, HB.out⟩
set_option maxHeartbeats 4000000 in
set_option maxRecDepth 100000 in
theorem chk3_calls (w : World) (g b : Nat) (hg : CallAt w g) (hb : w.cell? ⟨b, 0, none⟩ = some (.slice (some ⟨g, 0, none⟩) 1 1)) : Calls Try.prog 86 #[.int .i64 0, .pointer (some ⟨b, 0, none⟩)] w fun e w' => e = .returned (.bool false) ∧ Below w.heap.size w w' := by
  unfold CallAt at hg
  have c2 : w.cell? ⟨g, 17, none⟩ = some (.int .i64 0) := (blk_cell hg 17).trans rfl
  have c3 : w.cell? ⟨g, 18, none⟩ = some (.int .i64 3) := (blk_cell hg 18).trans rfl
  have c4 : w.cell? ⟨g, 19, none⟩ = some (.int .i64 3) := (blk_cell hg 19).trans rfl
  clear hg
  go_enter Try.func86, Try.ntmps86
  go_upto_region 1 with fail
  refine start_ (n := 41) (S := fun w' => w'.cell? ⟨b, 0, none⟩ = some (.slice (some ⟨g, 0, none⟩) 1 1) ∧ w'.cell? ⟨g, 17, none⟩ = some (.int .i64 0) ∧ w'.cell? ⟨g, 18, none⟩ = some (.int .i64 3) ∧ w'.cell? ⟨g, 19, none⟩ = some (.int .i64 3)) (ds := []) #[false, false, false, false, false, false, false, false, false, false, false, false, false, false, false, false, false, false, false, false, false, false, false, false, false, false, false, false, false, false, false, false, false, false, false, false, false, false, false, false, false] (by kernel_rfl) rfl rfl ⟨hb, c2, c3, c4⟩ (fun hHeld => ?_)
  refine pure_ (i := 1) (N := some 5) (v := ?_) (a' := ?_) #[false, true, false, false, false, false, false, false, false, false, false, false, false, false, false, false, false, false, false, false, false, false, false, false, false, false, false, false, false, false, false, false, false, false, false, false, false, false, false, false, false] rfl rfl (by kernel_rfl) (fun _ _ _ h => h) (Or.inl ⟨by rfl, ?_⟩) ?_ ?_
  rotate_left
  · intro w'
    go_simp
    with_reducible rfl
  rotate_left
  · simp only [Act.put, List.setIfInBounds_toArray, List.set_cons_zero, List.set_cons_succ, i64_w, i32_w]
    rfl
  refine take_ (i := 0) (N := some 4) (v := ?_) (a' := ?_) #[true, true, false, false, false, false, false, false, false, false, false, false, false, false, false, false, false, false, false, false, false, false, false, false, false, false, false, false, false, false, false, false, false, false, false, false, false, false, false, false, false] rfl rfl (by kernel_rfl) (fun _ _ _ h => h) (Or.inl ⟨by rfl, ?_⟩) hHeld ?_ ?_
  rotate_left
  · rintro w' ⟨s0, s1, s2, s3⟩
    go_simp
    with_reducible rfl
  rotate_left
  · simp only [Act.put, List.setIfInBounds_toArray, List.set_cons_zero, List.set_cons_succ, i64_w, i32_w]
    rfl
  refine pure_ (i := 2) (N := some 6) (v := ?_) (a' := ?_) #[true, true, true, false, false, false, false, false, false, false, false, false, false, false, false, false, false, false, false, false, false, false, false, false, false, false, false, false, false, false, false, false, false, false, false, false, false, false, false, false, false] rfl rfl (by kernel_rfl) (fun _ _ _ h => h) (Or.inl ⟨by rfl, ?_⟩) ?_ ?_
  rotate_left
  · intro w'
    go_simp
    with_reducible rfl
  rotate_left
  · simp only [Act.put, List.setIfInBounds_toArray, List.set_cons_zero, List.set_cons_succ, i64_w, i32_w]
    rfl
  refine pure_ (i := 3) (N := some 7) (v := ?_) (a' := ?_) #[true, true, true, true, false, false, false, false, false, false, false, false, false, false, false, false, false, false, false, false, false, false, false, false, false, false, false, false, false, false, false, false, false, false, false, false, false, false, false, false, false] rfl rfl (by kernel_rfl) (fun _ _ _ h => h) (Or.inl ⟨by rfl, ?_⟩) ?_ ?_
  rotate_left
  · intro w'
    go_simp
    with_reducible rfl
  rotate_left
  · simp only [Act.put, List.setIfInBounds_toArray, List.set_cons_zero, List.set_cons_succ, i64_w, i32_w]
    rfl
  refine take_ (i := 4) (N := some 8) (v := ?_) (a' := ?_) #[true, true, true, true, true, false, false, false, false, false, false, false, false, false, false, false, false, false, false, false, false, false, false, false, false, false, false, false, false, false, false, false, false, false, false, false, false, false, false, false, false] rfl rfl (by kernel_rfl) (fun _ _ _ h => h) (Or.inl ⟨by rfl, ?_⟩) hHeld ?_ ?_
  rotate_left
  · rintro w' ⟨s0, s1, s2, s3⟩
    go_simp
    with_reducible rfl
  rotate_left
  · simp only [Act.put, List.setIfInBounds_toArray, List.set_cons_zero, List.set_cons_succ, i64_w, i32_w]
    rfl
  refine pure_ (i := 5) (N := some 9) (v := ?_) (a' := ?_) #[true, true, true, true, true, true, false, false, false, false, false, false, false, false, false, false, false, false, false, false, false, false, false, false, false, false, false, false, false, false, false, false, false, false, false, false, false, false, false, false, false] rfl rfl (by kernel_rfl) (fun _ _ _ h => h) (Or.inl ⟨by rfl, ?_⟩) ?_ ?_
  rotate_left
  · intro w'
    go_simp
    with_reducible rfl
  rotate_left
  · simp only [Act.put, List.setIfInBounds_toArray, List.set_cons_zero, List.set_cons_succ, i64_w, i32_w]
    rfl
  refine pure_ (i := 6) (N := some 10) (v := ?_) (a' := ?_) #[true, true, true, true, true, true, true, false, false, false, false, false, false, false, false, false, false, false, false, false, false, false, false, false, false, false, false, false, false, false, false, false, false, false, false, false, false, false, false, false, false] rfl rfl (by kernel_rfl) (fun _ _ _ h => h) (Or.inl ⟨by rfl, ?_⟩) ?_ ?_
  rotate_left
  · intro w'
    go_simp
    with_reducible rfl
  rotate_left
  · simp only [Act.put, List.setIfInBounds_toArray, List.set_cons_zero, List.set_cons_succ, i64_w, i32_w]
    rfl
  refine pure_ (i := 8) (N := some 12) (v := ?_) (a' := ?_) #[true, true, true, true, true, true, true, false, true, false, false, false, false, false, false, false, false, false, false, false, false, false, false, false, false, false, false, false, false, false, false, false, false, false, false, false, false, false, false, false, false] rfl rfl (by kernel_rfl) (fun _ _ _ h => h) (Or.inl ⟨by rfl, ?_⟩) ?_ ?_
  rotate_left
  · intro w'
    go_simp
    with_reducible rfl
  rotate_left
  · simp only [Act.put, List.setIfInBounds_toArray, List.set_cons_zero, List.set_cons_succ, i64_w, i32_w]
    rfl
  refine pure_ (i := 13) (N := some 17) (v := ?_) (a' := ?_) #[true, true, true, true, true, true, true, false, true, false, false, false, false, true, false, false, false, false, false, false, false, false, false, false, false, false, false, false, false, false, false, false, false, false, false, false, false, false, false, false, false] rfl rfl (by kernel_rfl) (fun _ _ _ h => h) (Or.inl ⟨by rfl, ?_⟩) ?_ ?_
  rotate_left
  · intro w'
    go_simp
    with_reducible rfl
  rotate_left
  · simp only [Act.put, List.setIfInBounds_toArray, List.set_cons_zero, List.set_cons_succ, i64_w, i32_w]
    rfl
  refine take_ (i := 7) (N := some 11) (v := ?_) (a' := ?_) #[true, true, true, true, true, true, true, true, true, false, false, false, false, true, false, false, false, false, false, false, false, false, false, false, false, false, false, false, false, false, false, false, false, false, false, false, false, false, false, false, false] rfl rfl (by kernel_rfl) (fun _ _ _ h => h) (Or.inl ⟨by rfl, ?_⟩) hHeld ?_ ?_
  rotate_left
  · rintro w' ⟨s0, s1, s2, s3⟩
    go_simp
    with_reducible rfl
  rotate_left
  · simp only [Act.put, List.setIfInBounds_toArray, List.set_cons_zero, List.set_cons_succ, i64_w, i32_w]
    rfl
  refine pure_ (i := 9) (N := some 13) (v := ?_) (a' := ?_) #[true, true, true, true, true, true, true, true, true, true, false, false, false, true, false, false, false, false, false, false, false, false, false, false, false, false, false, false, false, false, false, false, false, false, false, false, false, false, false, false, false] rfl rfl (by kernel_rfl) (fun _ _ _ h => h) (Or.inl ⟨by rfl, ?_⟩) ?_ ?_
  rotate_left
  · intro w'
    go_simp
    with_reducible rfl
  rotate_left
  · simp only [Act.put, List.setIfInBounds_toArray, List.set_cons_zero, List.set_cons_succ, i64_w, i32_w]
    rfl
  refine pure_ (i := 10) (N := some 14) (v := ?_) (a' := ?_) #[true, true, true, true, true, true, true, true, true, true, true, false, false, true, false, false, false, false, false, false, false, false, false, false, false, false, false, false, false, false, false, false, false, false, false, false, false, false, false, false, false] rfl rfl (by kernel_rfl) (fun _ _ _ h => h) (Or.inl ⟨by rfl, ?_⟩) ?_ ?_
  rotate_left
  · intro w'
    go_simp
    with_reducible rfl
  rotate_left
  · simp only [Act.put, List.setIfInBounds_toArray, List.set_cons_zero, List.set_cons_succ, i64_w, i32_w]
    rfl
  refine take_ (i := 11) (N := some 15) (v := ?_) (a' := ?_) #[true, true, true, true, true, true, true, true, true, true, true, true, false, true, false, false, false, false, false, false, false, false, false, false, false, false, false, false, false, false, false, false, false, false, false, false, false, false, false, false, false] rfl rfl (by kernel_rfl) (fun _ _ _ h => h) (Or.inl ⟨by rfl, ?_⟩) hHeld ?_ ?_
  rotate_left
  · rintro w' ⟨s0, s1, s2, s3⟩
    go_simp
    with_reducible rfl
  rotate_left
  · simp only [Act.put, List.setIfInBounds_toArray, List.set_cons_zero, List.set_cons_succ, i64_w, i32_w]
    rfl
  refine take_ (i := 12) (N := some 16) (v := ?_) (a' := ?_) #[true, true, true, true, true, true, true, true, true, true, true, true, true, true, false, false, false, false, false, false, false, false, false, false, false, false, false, false, false, false, false, false, false, false, false, false, false, false, false, false, false] rfl rfl (by kernel_rfl) (fun _ _ _ h => h) (Or.inl ⟨by rfl, ?_⟩) hHeld ?_ ?_
  rotate_left
  · rintro w' ⟨s0, s1, s2, s3⟩
    go_simp
    with_reducible rfl
  rotate_left
  · simp only [Act.put, List.setIfInBounds_toArray, List.set_cons_zero, List.set_cons_succ, i64_w, i32_w]
    rfl
  refine pure_ (i := 14) (N := some 18) (v := ?_) (a' := ?_) #[true, true, true, true, true, true, true, true, true, true, true, true, true, true, true, false, false, false, false, false, false, false, false, false, false, false, false, false, false, false, false, false, false, false, false, false, false, false, false, false, false] rfl rfl (by kernel_rfl) (fun _ _ _ h => h) (Or.inl ⟨by rfl, ?_⟩) ?_ ?_
  rotate_left
  · intro w'
    go_simp
    with_reducible rfl
  rotate_left
  · simp only [Act.put, List.setIfInBounds_toArray, List.set_cons_zero, List.set_cons_succ, i64_w, i32_w]
    rfl
  refine pure_ (i := 15) (N := some 19) (v := ?_) (a' := ?_) #[true, true, true, true, true, true, true, true, true, true, true, true, true, true, true, true, false, false, false, false, false, false, false, false, false, false, false, false, false, false, false, false, false, false, false, false, false, false, false, false, false] rfl rfl (by kernel_rfl) (fun _ _ _ h => h) (Or.inl ⟨by rfl, ?_⟩) ?_ ?_
  rotate_left
  · intro w'
    go_simp
    with_reducible rfl
  rotate_left
  · simp only [Act.put, List.setIfInBounds_toArray, List.set_cons_zero, List.set_cons_succ, i64_w, i32_w]
    rfl
  refine take_ (i := 16) (N := some 20) (v := ?_) (a' := ?_) #[true, true, true, true, true, true, true, true, true, true, true, true, true, true, true, true, true, false, false, false, false, false, false, false, false, false, false, false, false, false, false, false, false, false, false, false, false, false, false, false, false] rfl rfl (by kernel_rfl) (fun _ _ _ h => h) (Or.inl ⟨by rfl, ?_⟩) hHeld ?_ ?_
  rotate_left
  · rintro w' ⟨s0, s1, s2, s3⟩
    go_simp
    with_reducible rfl
  rotate_left
  · simp only [Act.put, List.setIfInBounds_toArray, List.set_cons_zero, List.set_cons_succ, i64_w, i32_w]
    rfl
  refine pure_ (i := 17) (N := some 21) (v := ?_) (a' := ?_) #[true, true, true, true, true, true, true, true, true, true, true, true, true, true, true, true, true, true, false, false, false, false, false, false, false, false, false, false, false, false, false, false, false, false, false, false, false, false, false, false, false] rfl rfl (by kernel_rfl) (fun _ _ _ h => h) (Or.inl ⟨by rfl, ?_⟩) ?_ ?_
  rotate_left
  · intro w'
    go_simp
    with_reducible rfl
  rotate_left
  · simp only [Act.put, List.setIfInBounds_toArray, List.set_cons_zero, List.set_cons_succ, i64_w, i32_w]
    rfl
  refine pure_ (i := 18) (N := some 22) (v := ?_) (a' := ?_) #[true, true, true, true, true, true, true, true, true, true, true, true, true, true, true, true, true, true, true, false, false, false, false, false, false, false, false, false, false, false, false, false, false, false, false, false, false, false, false, false, false] rfl rfl (by kernel_rfl) (fun _ _ _ h => h) (Or.inl ⟨by rfl, ?_⟩) ?_ ?_
  rotate_left
  · intro w'
    go_simp
    with_reducible rfl
  rotate_left
  · simp only [Act.put, List.setIfInBounds_toArray, List.set_cons_zero, List.set_cons_succ, i64_w, i32_w]
    rfl
  refine pure_ (i := 20) (N := some 24) (v := ?_) (a' := ?_) #[true, true, true, true, true, true, true, true, true, true, true, true, true, true, true, true, true, true, true, false, true, false, false, false, false, false, false, false, false, false, false, false, false, false, false, false, false, false, false, false, false] rfl rfl (by kernel_rfl) (fun _ _ _ h => h) (Or.inl ⟨by rfl, ?_⟩) ?_ ?_
  rotate_left
  · intro w'
    go_simp
    with_reducible rfl
  rotate_left
  · simp only [Act.put, List.setIfInBounds_toArray, List.set_cons_zero, List.set_cons_succ, i64_w, i32_w]
    rfl
  refine take_ (i := 19) (N := some 23) (v := ?_) (a' := ?_) #[true, true, true, true, true, true, true, true, true, true, true, true, true, true, true, true, true, true, true, true, true, false, false, false, false, false, false, false, false, false, false, false, false, false, false, false, false, false, false, false, false] rfl rfl (by kernel_rfl) (fun _ _ _ h => h) (Or.inl ⟨by rfl, ?_⟩) hHeld ?_ ?_
  rotate_left
  · rintro w' ⟨s0, s1, s2, s3⟩
    go_simp
    with_reducible rfl
  rotate_left
  · simp only [Act.put, List.setIfInBounds_toArray, List.set_cons_zero, List.set_cons_succ, i64_w, i32_w]
    rfl
  refine pure_ (i := 21) (N := some 25) (v := ?_) (a' := ?_) #[true, true, true, true, true, true, true, true, true, true, true, true, true, true, true, true, true, true, true, true, true, true, false, false, false, false, false, false, false, false, false, false, false, false, false, false, false, false, false, false, false] rfl rfl (by kernel_rfl) (fun _ _ _ h => h) (Or.inl ⟨by rfl, ?_⟩) ?_ ?_
  rotate_left
  · intro w'
    go_simp
    with_reducible rfl
  rotate_left
  · simp only [Act.put, List.setIfInBounds_toArray, List.set_cons_zero, List.set_cons_succ, i64_w, i32_w]
    rfl
  refine pure_ (i := 22) (N := some 26) (v := ?_) (a' := ?_) #[true, true, true, true, true, true, true, true, true, true, true, true, true, true, true, true, true, true, true, true, true, true, true, false, false, false, false, false, false, false, false, false, false, false, false, false, false, false, false, false, false] rfl rfl (by kernel_rfl) (fun _ _ _ h => h) (Or.inl ⟨by rfl, ?_⟩) ?_ ?_
  rotate_left
  · intro w'
    go_simp
    with_reducible rfl
  rotate_left
  · simp only [Act.put, List.setIfInBounds_toArray, List.set_cons_zero, List.set_cons_succ, i64_w, i32_w]
    rfl
  refine take_ (i := 23) (N := some 27) (v := ?_) (a' := ?_) #[true, true, true, true, true, true, true, true, true, true, true, true, true, true, true, true, true, true, true, true, true, true, true, true, false, false, false, false, false, false, false, false, false, false, false, false, false, false, false, false, false] rfl rfl (by kernel_rfl) (fun _ _ _ h => h) (Or.inl ⟨by rfl, ?_⟩) hHeld ?_ ?_
  rotate_left
  · rintro w' ⟨s0, s1, s2, s3⟩
    go_simp
    with_reducible rfl
  rotate_left
  · simp only [Act.put, List.setIfInBounds_toArray, List.set_cons_zero, List.set_cons_succ, i64_w, i32_w]
    rfl
  refine pure_ (i := 24) (N := some 28) (v := ?_) (a' := ?_) #[true, true, true, true, true, true, true, true, true, true, true, true, true, true, true, true, true, true, true, true, true, true, true, true, true, false, false, false, false, false, false, false, false, false, false, false, false, false, false, false, false] rfl rfl (by kernel_rfl) (fun _ _ _ h => h) (Or.inl ⟨by rfl, ?_⟩) ?_ ?_
  rotate_left
  · intro w'
    go_simp
    with_reducible rfl
  rotate_left
  · simp only [Act.put, List.setIfInBounds_toArray, List.set_cons_zero, List.set_cons_succ, i64_w, i32_w]
    rfl
  refine pure_ (i := 25) (N := some 29) (v := ?_) (a' := ?_) #[true, true, true, true, true, true, true, true, true, true, true, true, true, true, true, true, true, true, true, true, true, true, true, true, true, true, false, false, false, false, false, false, false, false, false, false, false, false, false, false, false] rfl rfl (by kernel_rfl) (fun _ _ _ h => h) (Or.inl ⟨by rfl, ?_⟩) ?_ ?_
  rotate_left
  · intro w'
    go_simp
    with_reducible rfl
  rotate_left
  · simp only [Act.put, List.setIfInBounds_toArray, List.set_cons_zero, List.set_cons_succ, i64_w, i32_w]
    rfl
  refine pure_ (i := 27) (N := some 31) (v := ?_) (a' := ?_) #[true, true, true, true, true, true, true, true, true, true, true, true, true, true, true, true, true, true, true, true, true, true, true, true, true, true, false, true, false, false, false, false, false, false, false, false, false, false, false, false, false] rfl rfl (by kernel_rfl) (fun _ _ _ h => h) (Or.inl ⟨by rfl, ?_⟩) ?_ ?_
  rotate_left
  · intro w'
    go_simp
    with_reducible rfl
  rotate_left
  · simp only [Act.put, List.setIfInBounds_toArray, List.set_cons_zero, List.set_cons_succ, i64_w, i32_w]
    rfl
  refine pure_ (i := 32) (N := some 36) (v := ?_) (a' := ?_) #[true, true, true, true, true, true, true, true, true, true, true, true, true, true, true, true, true, true, true, true, true, true, true, true, true, true, false, true, false, false, false, false, true, false, false, false, false, false, false, false, false] rfl rfl (by kernel_rfl) (fun _ _ _ h => h) (Or.inl ⟨by rfl, ?_⟩) ?_ ?_
  rotate_left
  · intro w'
    go_simp
    with_reducible rfl
  rotate_left
  · simp only [Act.put, List.setIfInBounds_toArray, List.set_cons_zero, List.set_cons_succ, i64_w, i32_w]
    rfl
  refine take_ (i := 26) (N := some 30) (v := ?_) (a' := ?_) #[true, true, true, true, true, true, true, true, true, true, true, true, true, true, true, true, true, true, true, true, true, true, true, true, true, true, true, true, false, false, false, false, true, false, false, false, false, false, false, false, false] rfl rfl (by kernel_rfl) (fun _ _ _ h => h) (Or.inl ⟨by rfl, ?_⟩) hHeld ?_ ?_
  rotate_left
  · rintro w' ⟨s0, s1, s2, s3⟩
    go_simp
    with_reducible rfl
  rotate_left
  · simp only [Act.put, List.setIfInBounds_toArray, List.set_cons_zero, List.set_cons_succ, i64_w, i32_w]
    rfl
  refine pure_ (i := 28) (N := some 32) (v := ?_) (a' := ?_) #[true, true, true, true, true, true, true, true, true, true, true, true, true, true, true, true, true, true, true, true, true, true, true, true, true, true, true, true, true, false, false, false, true, false, false, false, false, false, false, false, false] rfl rfl (by kernel_rfl) (fun _ _ _ h => h) (Or.inl ⟨by rfl, ?_⟩) ?_ ?_
  rotate_left
  · intro w'
    go_simp
    with_reducible rfl
  rotate_left
  · simp only [Act.put, List.setIfInBounds_toArray, List.set_cons_zero, List.set_cons_succ, i64_w, i32_w]
    rfl
  refine pure_ (i := 29) (N := some 33) (v := ?_) (a' := ?_) #[true, true, true, true, true, true, true, true, true, true, true, true, true, true, true, true, true, true, true, true, true, true, true, true, true, true, true, true, true, true, false, false, true, false, false, false, false, false, false, false, false] rfl rfl (by kernel_rfl) (fun _ _ _ h => h) (Or.inl ⟨by rfl, ?_⟩) ?_ ?_
  rotate_left
  · intro w'
    go_simp
    with_reducible rfl
  rotate_left
  · simp only [Act.put, List.setIfInBounds_toArray, List.set_cons_zero, List.set_cons_succ, i64_w, i32_w]
    rfl
  refine take_ (i := 30) (N := some 34) (v := ?_) (a' := ?_) #[true, true, true, true, true, true, true, true, true, true, true, true, true, true, true, true, true, true, true, true, true, true, true, true, true, true, true, true, true, true, true, false, true, false, false, false, false, false, false, false, false] rfl rfl (by kernel_rfl) (fun _ _ _ h => h) (Or.inl ⟨by rfl, ?_⟩) hHeld ?_ ?_
  rotate_left
  · rintro w' ⟨s0, s1, s2, s3⟩
    go_simp
    with_reducible rfl
  rotate_left
  · simp only [Act.put, List.setIfInBounds_toArray, List.set_cons_zero, List.set_cons_succ, i64_w, i32_w]
    rfl
  refine take_ (i := 31) (N := some 35) (v := ?_) (a' := ?_) #[true, true, true, true, true, true, true, true, true, true, true, true, true, true, true, true, true, true, true, true, true, true, true, true, true, true, true, true, true, true, true, true, true, false, false, false, false, false, false, false, false] rfl rfl (by kernel_rfl) (fun _ _ _ h => h) (Or.inl ⟨by rfl, ?_⟩) hHeld ?_ ?_
  rotate_left
  · rintro w' ⟨s0, s1, s2, s3⟩
    go_simp
    with_reducible rfl
  rotate_left
  · simp only [Act.put, List.setIfInBounds_toArray, List.set_cons_zero, List.set_cons_succ, i64_w, i32_w]
    rfl
  refine pure_ (i := 33) (N := some 37) (v := ?_) (a' := ?_) #[true, true, true, true, true, true, true, true, true, true, true, true, true, true, true, true, true, true, true, true, true, true, true, true, true, true, true, true, true, true, true, true, true, true, false, false, false, false, false, false, false] rfl rfl (by kernel_rfl) (fun _ _ _ h => h) (Or.inl ⟨by rfl, ?_⟩) ?_ ?_
  rotate_left
  · intro w'
    go_simp
    with_reducible rfl
  rotate_left
  · simp only [Act.put, List.setIfInBounds_toArray, List.set_cons_zero, List.set_cons_succ, i64_w, i32_w]
    rfl
  refine pure_ (i := 34) (N := some 38) (v := ?_) (a' := ?_) #[true, true, true, true, true, true, true, true, true, true, true, true, true, true, true, true, true, true, true, true, true, true, true, true, true, true, true, true, true, true, true, true, true, true, true, false, false, false, false, false, false] rfl rfl (by kernel_rfl) (fun _ _ _ h => h) (Or.inl ⟨by rfl, ?_⟩) ?_ ?_
  rotate_left
  · intro w'
    go_simp
    with_reducible rfl
  rotate_left
  · simp only [Act.put, List.setIfInBounds_toArray, List.set_cons_zero, List.set_cons_succ, i64_w, i32_w]
    rfl
  refine take_ (i := 35) (N := some 39) (v := ?_) (a' := ?_) #[true, true, true, true, true, true, true, true, true, true, true, true, true, true, true, true, true, true, true, true, true, true, true, true, true, true, true, true, true, true, true, true, true, true, true, true, false, false, false, false, false] rfl rfl (by kernel_rfl) (fun _ _ _ h => h) (Or.inl ⟨by rfl, ?_⟩) hHeld ?_ ?_
  rotate_left
  · rintro w' ⟨s0, s1, s2, s3⟩
    go_simp
    with_reducible rfl
  rotate_left
  · simp only [Act.put, List.setIfInBounds_toArray, List.set_cons_zero, List.set_cons_succ, i64_w, i32_w]
    rfl
  refine pure_ (i := 36) (N := some 40) (v := ?_) (a' := ?_) #[true, true, true, true, true, true, true, true, true, true, true, true, true, true, true, true, true, true, true, true, true, true, true, true, true, true, true, true, true, true, true, true, true, true, true, true, true, false, false, false, false] rfl rfl (by kernel_rfl) (fun _ _ _ h => h) (Or.inl ⟨by rfl, ?_⟩) ?_ ?_
  rotate_left
  · intro w'
    go_simp
    with_reducible rfl
  rotate_left
  · simp only [Act.put, List.setIfInBounds_toArray, List.set_cons_zero, List.set_cons_succ, i64_w, i32_w]
    rfl
  refine pure_ (i := 37) (N := some 41) (v := ?_) (a' := ?_) #[true, true, true, true, true, true, true, true, true, true, true, true, true, true, true, true, true, true, true, true, true, true, true, true, true, true, true, true, true, true, true, true, true, true, true, true, true, true, false, false, false] rfl rfl (by kernel_rfl) (fun _ _ _ h => h) (Or.inl ⟨by rfl, ?_⟩) ?_ ?_
  rotate_left
  · intro w'
    go_simp
    with_reducible rfl
  rotate_left
  · simp only [Act.put, List.setIfInBounds_toArray, List.set_cons_zero, List.set_cons_succ, i64_w, i32_w]
    rfl
  refine pure_ (i := 38) (N := some 42) (v := ?_) (a' := ?_) #[true, true, true, true, true, true, true, true, true, true, true, true, true, true, true, true, true, true, true, true, true, true, true, true, true, true, true, true, true, true, true, true, true, true, true, true, true, true, true, false, false] rfl rfl (by kernel_rfl) (fun _ _ _ h => h) (Or.inl ⟨by rfl, ?_⟩) ?_ ?_
  rotate_left
  · intro w'
    go_simp
    with_reducible rfl
  rotate_left
  · simp only [Act.put, List.setIfInBounds_toArray, List.set_cons_zero, List.set_cons_succ, i64_w, i32_w]
    rfl
  refine pure_ (i := 39) (N := some 43) (v := ?_) (a' := ?_) #[true, true, true, true, true, true, true, true, true, true, true, true, true, true, true, true, true, true, true, true, true, true, true, true, true, true, true, true, true, true, true, true, true, true, true, true, true, true, true, true, false] rfl rfl (by kernel_rfl) (fun _ _ _ h => h) (Or.inl ⟨by rfl, ?_⟩) ?_ ?_
  rotate_left
  · intro w'
    go_simp
    with_reducible rfl
  rotate_left
  · simp only [Act.put, List.setIfInBounds_toArray, List.set_cons_zero, List.set_cons_succ, i64_w, i32_w]
    rfl
  refine pure_ (i := 40) (N := some 3) (v := ?_) (a' := ?_) #[true, true, true, true, true, true, true, true, true, true, true, true, true, true, true, true, true, true, true, true, true, true, true, true, true, true, true, true, true, true, true, true, true, true, true, true, true, true, true, true, true] rfl rfl (by kernel_rfl) (fun _ _ _ h => h) (Or.inl ⟨by rfl, ?_⟩) ?_ ?_
  rotate_left
  · intro w'
    go_simp
    with_reducible rfl
  rotate_left
  · simp only [Act.put, List.setIfInBounds_toArray, List.set_cons_zero, List.set_cons_succ, i64_w, i32_w]
    rfl
  refine done_ (by kernel_rfl) ?_
  (try simp only [Exit.inBlock, Exit.then])
  go_wp2_with fail
  go_ret
  exact ⟨rfl, (Below.refl _ _).drew⟩
set_option maxHeartbeats 4000000 in
set_option maxRecDepth 100000 in
theorem chk4_calls (w : World) (g b g2 b2 : Nat) (hg : CallAt w g) (hb : w.cell? ⟨b, 0, none⟩ = some (.slice (some ⟨g, 0, none⟩) 1 1)) (hb2 : w.cell? ⟨b2, 0, none⟩ = some (.slice (some ⟨g2, 0, none⟩) 1 1)) (r : w.cell? ⟨g2, 0, none⟩ = some (.int .i64 0) ∧ w.cell? ⟨g2, 1, none⟩ = some (.int .i64 0) ∧ w.cell? ⟨g2, 2, none⟩ = some (.int .u8 0)) : Calls Try.prog 87 #[.int .i64 0, .pointer (some ⟨b, 0, none⟩), .pointer (some ⟨b2, 0, none⟩)] w fun e w' => e = .returned (.bool false) ∧ Below w.heap.size w w' := by
  unfold CallAt at hg
  have c3 : w.cell? ⟨g, 18, none⟩ = some (.int .i64 3) := (blk_cell hg 18).trans rfl
  have c5 : w.cell? ⟨g, 20, none⟩ = some (.int .i64 0) := (blk_cell hg 20).trans rfl
  have c6 : w.cell? ⟨g, 21, none⟩ = some (.int .i64 0) := (blk_cell hg 21).trans rfl
  have c7 : w.cell? ⟨g, 22, none⟩ = some (.int .u8 0) := (blk_cell hg 22).trans rfl
  obtain ⟨r0, r1, r2⟩ := r
  clear hg
  go_enter Try.func87, Try.ntmps87
  go_upto_region 1 with fail
  refine start_ (n := 19) (S := fun w' => w'.cell? ⟨b, 0, none⟩ = some (.slice (some ⟨g, 0, none⟩) 1 1) ∧ w'.cell? ⟨g, 18, none⟩ = some (.int .i64 3) ∧ w'.cell? ⟨g, 20, none⟩ = some (.int .i64 0) ∧ w'.cell? ⟨g, 21, none⟩ = some (.int .i64 0) ∧ w'.cell? ⟨g, 22, none⟩ = some (.int .u8 0) ∧ w'.cell? ⟨b2, 0, none⟩ = some (.slice (some ⟨g2, 0, none⟩) 1 1) ∧ w'.cell? ⟨g2, 0, none⟩ = some (.int .i64 0) ∧ w'.cell? ⟨g2, 1, none⟩ = some (.int .i64 0) ∧ w'.cell? ⟨g2, 2, none⟩ = some (.int .u8 0)) (ds := []) #[false, false, false, false, false, false, false, false, false, false, false, false, false, false, false, false, false, false, false] (by kernel_rfl) rfl rfl ⟨hb, c3, c5, c6, c7, hb2, r0, r1, r2⟩ (fun hHeld => ?_)
  refine pure_ (i := 1) (N := some 6) (v := ?_) (a' := ?_) #[false, true, false, false, false, false, false, false, false, false, false, false, false, false, false, false, false, false, false] rfl rfl (by kernel_rfl) (fun _ _ _ h => h) (Or.inl ⟨by rfl, ?_⟩) ?_ ?_
  rotate_left
  · intro w'
    go_simp
    with_reducible rfl
  rotate_left
  · simp only [Act.put, List.setIfInBounds_toArray, List.set_cons_zero, List.set_cons_succ, i64_w, i32_w]
    rfl
  refine take_ (i := 0) (N := some 5) (v := ?_) (a' := ?_) #[true, true, false, false, false, false, false, false, false, false, false, false, false, false, false, false, false, false, false] rfl rfl (by kernel_rfl) (fun _ _ _ h => h) (Or.inl ⟨by rfl, ?_⟩) hHeld ?_ ?_
  rotate_left
  · rintro w' ⟨s0, s1, s2, s3, s4, s5, s6, s7, s8⟩
    go_simp
    with_reducible rfl
  rotate_left
  · simp only [Act.put, List.setIfInBounds_toArray, List.set_cons_zero, List.set_cons_succ, i64_w, i32_w]
    rfl
  refine pure_ (i := 2) (N := some 7) (v := ?_) (a' := ?_) #[true, true, true, false, false, false, false, false, false, false, false, false, false, false, false, false, false, false, false] rfl rfl (by kernel_rfl) (fun _ _ _ h => h) (Or.inl ⟨by rfl, ?_⟩) ?_ ?_
  rotate_left
  · intro w'
    go_simp
    with_reducible rfl
  rotate_left
  · simp only [Act.put, List.setIfInBounds_toArray, List.set_cons_zero, List.set_cons_succ, i64_w, i32_w]
    rfl
  refine pure_ (i := 3) (N := some 8) (v := ?_) (a' := ?_) #[true, true, true, true, false, false, false, false, false, false, false, false, false, false, false, false, false, false, false] rfl rfl (by kernel_rfl) (fun _ _ _ h => h) (Or.inl ⟨by rfl, ?_⟩) ?_ ?_
  rotate_left
  · intro w'
    go_simp
    with_reducible rfl
  rotate_left
  · simp only [Act.put, List.setIfInBounds_toArray, List.set_cons_zero, List.set_cons_succ, i64_w, i32_w]
    rfl
  refine take_ (i := 4) (N := some 9) (v := ?_) (a' := ?_) #[true, true, true, true, true, false, false, false, false, false, false, false, false, false, false, false, false, false, false] rfl rfl (by kernel_rfl) (fun _ _ _ h => h) (Or.inl ⟨by rfl, ?_⟩) hHeld ?_ ?_
  rotate_left
  · rintro w' ⟨s0, s1, s2, s3, s4, s5, s6, s7, s8⟩
    go_simp
    with_reducible rfl
  rotate_left
  · simp only [Act.put, List.setIfInBounds_toArray, List.set_cons_zero, List.set_cons_succ, i64_w, i32_w]
    rfl
  refine pure_ (i := 5) (N := some 10) (v := ?_) (a' := ?_) #[true, true, true, true, true, true, false, false, false, false, false, false, false, false, false, false, false, false, false] rfl rfl (by kernel_rfl) (fun _ _ _ h => h) (Or.inl ⟨by rfl, ?_⟩) ?_ ?_
  rotate_left
  · intro w'
    go_simp
    with_reducible rfl
  rotate_left
  · simp only [Act.put, List.setIfInBounds_toArray, List.set_cons_zero, List.set_cons_succ, i64_w, i32_w]
    rfl
  refine pure_ (i := 6) (N := some 11) (v := ?_) (a' := ?_) #[true, true, true, true, true, true, true, false, false, false, false, false, false, false, false, false, false, false, false] rfl rfl (by kernel_rfl) (fun _ _ _ h => h) (Or.inl ⟨by rfl, ?_⟩) ?_ ?_
  rotate_left
  · intro w'
    go_simp
    with_reducible rfl
  rotate_left
  · simp only [Act.put, List.setIfInBounds_toArray, List.set_cons_zero, List.set_cons_succ, i64_w, i32_w]
    rfl
  refine pure_ (i := 8) (N := some 13) (v := ?_) (a' := ?_) #[true, true, true, true, true, true, true, false, true, false, false, false, false, false, false, false, false, false, false] rfl rfl (by kernel_rfl) (fun _ _ _ h => h) (Or.inl ⟨by rfl, ?_⟩) ?_ ?_
  rotate_left
  · intro w'
    go_simp
    with_reducible rfl
  rotate_left
  · simp only [Act.put, List.setIfInBounds_toArray, List.set_cons_zero, List.set_cons_succ, i64_w, i32_w]
    rfl
  refine pure_ (i := 13) (N := some 18) (v := ?_) (a' := ?_) #[true, true, true, true, true, true, true, false, true, false, false, false, false, true, false, false, false, false, false] rfl rfl (by kernel_rfl) (fun _ _ _ h => h) (Or.inl ⟨by rfl, ?_⟩) ?_ ?_
  rotate_left
  · intro w'
    go_simp
    with_reducible rfl
  rotate_left
  · simp only [Act.put, List.setIfInBounds_toArray, List.set_cons_zero, List.set_cons_succ, i64_w, i32_w]
    rfl
  refine take_ (i := 7) (N := some 12) (v := ?_) (a' := ?_) #[true, true, true, true, true, true, true, true, true, false, false, false, false, true, false, false, false, false, false] rfl rfl (by kernel_rfl) (fun _ _ _ h => h) (Or.inl ⟨by rfl, ?_⟩) hHeld ?_ ?_
  rotate_left
  · rintro w' ⟨s0, s1, s2, s3, s4, s5, s6, s7, s8⟩
    go_simp
    with_reducible rfl
  rotate_left
  · simp only [Act.put, List.setIfInBounds_toArray, List.set_cons_zero, List.set_cons_succ, i64_w, i32_w]
    rfl
  refine pure_ (i := 9) (N := some 14) (v := ?_) (a' := ?_) #[true, true, true, true, true, true, true, true, true, true, false, false, false, true, false, false, false, false, false] rfl rfl (by kernel_rfl) (fun _ _ _ h => h) (Or.inl ⟨by rfl, ?_⟩) ?_ ?_
  rotate_left
  · intro w'
    go_simp
    with_reducible rfl
  rotate_left
  · simp only [Act.put, List.setIfInBounds_toArray, List.set_cons_zero, List.set_cons_succ, i64_w, i32_w]
    rfl
  refine pure_ (i := 10) (N := some 15) (v := ?_) (a' := ?_) #[true, true, true, true, true, true, true, true, true, true, true, false, false, true, false, false, false, false, false] rfl rfl (by kernel_rfl) (fun _ _ _ h => h) (Or.inl ⟨by rfl, ?_⟩) ?_ ?_
  rotate_left
  · intro w'
    go_simp
    with_reducible rfl
  rotate_left
  · simp only [Act.put, List.setIfInBounds_toArray, List.set_cons_zero, List.set_cons_succ, i64_w, i32_w]
    rfl
  refine take_ (i := 11) (N := some 16) (v := ?_) (a' := ?_) #[true, true, true, true, true, true, true, true, true, true, true, true, false, true, false, false, false, false, false] rfl rfl (by kernel_rfl) (fun _ _ _ h => h) (Or.inl ⟨by rfl, ?_⟩) hHeld ?_ ?_
  rotate_left
  · rintro w' ⟨s0, s1, s2, s3, s4, s5, s6, s7, s8⟩
    go_simp
    with_reducible rfl
  rotate_left
  · simp only [Act.put, List.setIfInBounds_toArray, List.set_cons_zero, List.set_cons_succ, i64_w, i32_w]
    rfl
  refine take_ (i := 12) (N := some 17) (v := ?_) (a' := ?_) #[true, true, true, true, true, true, true, true, true, true, true, true, true, true, false, false, false, false, false] rfl rfl (by kernel_rfl) (fun _ _ _ h => h) (Or.inl ⟨by rfl, ?_⟩) hHeld ?_ ?_
  rotate_left
  · rintro w' ⟨s0, s1, s2, s3, s4, s5, s6, s7, s8⟩
    go_simp
    with_reducible rfl
  rotate_left
  · simp only [Act.put, List.setIfInBounds_toArray, List.set_cons_zero, List.set_cons_succ, i64_w, i32_w]
    rfl
  refine pure_ (i := 14) (N := some 19) (v := ?_) (a' := ?_) #[true, true, true, true, true, true, true, true, true, true, true, true, true, true, true, false, false, false, false] rfl rfl (by kernel_rfl) (fun _ _ _ h => h) (Or.inl ⟨by rfl, ?_⟩) ?_ ?_
  rotate_left
  · intro w'
    go_simp
    with_reducible rfl
  rotate_left
  · simp only [Act.put, List.setIfInBounds_toArray, List.set_cons_zero, List.set_cons_succ, i64_w, i32_w]
    rfl
  refine take_ (i := 15) (N := some 20) (v := ?_) (a' := ?_) #[true, true, true, true, true, true, true, true, true, true, true, true, true, true, true, true, false, false, false] rfl rfl (by kernel_rfl) (fun _ _ _ h => h) (Or.inl ⟨by rfl, ?_⟩) hHeld ?_ ?_
  rotate_left
  · rintro w' ⟨s0, s1, s2, s3, s4, s5, s6, s7, s8⟩
    go_simp
    with_reducible rfl
  rotate_left
  · simp only [Act.put, List.setIfInBounds_toArray, List.set_cons_zero, List.set_cons_succ, i64_w, i32_w]
    rfl
  refine pure_ (i := 16) (N := some 21) (v := ?_) (a' := ?_) #[true, true, true, true, true, true, true, true, true, true, true, true, true, true, true, true, true, false, false] rfl rfl (by kernel_rfl) (fun _ _ _ h => h) (Or.inl ⟨by rfl, ?_⟩) ?_ ?_
  rotate_left
  · intro w'
    go_simp
    with_reducible rfl
  rotate_left
  · simp only [Act.put, List.setIfInBounds_toArray, List.set_cons_zero, List.set_cons_succ, i64_w, i32_w]
    rfl
  refine pure_ (i := 17) (N := some 22) (v := ?_) (a' := ?_) #[true, true, true, true, true, true, true, true, true, true, true, true, true, true, true, true, true, true, false] rfl rfl (by kernel_rfl) (fun _ _ _ h => h) (Or.inl ⟨by rfl, ?_⟩) ?_ ?_
  rotate_left
  · intro w'
    go_simp
    with_reducible rfl
  rotate_left
  · simp only [Act.put, List.setIfInBounds_toArray, List.set_cons_zero, List.set_cons_succ, i64_w, i32_w]
    rfl
  refine pure_ (i := 18) (N := some 4) (v := ?_) (a' := ?_) #[true, true, true, true, true, true, true, true, true, true, true, true, true, true, true, true, true, true, true] rfl rfl (by kernel_rfl) (fun _ _ _ h => h) (Or.inl ⟨by rfl, ?_⟩) ?_ ?_
  rotate_left
  · intro w'
    go_simp
    with_reducible rfl
  rotate_left
  · simp only [Act.put, List.setIfInBounds_toArray, List.set_cons_zero, List.set_cons_succ, i64_w, i32_w]
    rfl
  refine done_ (by kernel_rfl) ?_
  (try simp only [Exit.inBlock, Exit.then])
  go_wp2_with fail
  go_ret
  exact ⟨rfl, (Below.refl _ _).drew⟩
end
end Go.Proofs.Ytalmemcidbmdgaa.PM


/- A story (layer 21): the document's example: places, Row, tell, Story, Check. -/
set_option linter.unusedVariables false
set_option linter.unusedSimpArgs false
namespace Go.Proofs.Ytalmemcidbmdgaa.PM
open Go.RowKit Go.Proofs.YtalmemcidbmdgaaW.PrintWords Go.Proofs.YtalmemcidbmdgaaW.PrintLast Go.Proofs.YtalmemcidbmdgaaW.PrintMore Go.Proofs.Ytalmemcidbmdgaa.PageG
attribute [local go_sem] max2_int min2_int max_two min_two max_three min_three max_four min_four   -- for this text's walks alone
/-- A whole struct into the block that was made last. -/
theorem wpList_store_new {P : Program} {ops : Array Oper} {rest : List Oper} {o : Oper} {a : Act} {w : World} {Q : Exit → Act → World → Prop} (hgd : o.guard = none) (hd : o.dst = none) (ty : TypeId) (x v : Operand) (ho : o.op = .store ty x v)
    (t : TypeId) (c c' : Array Value) (hx : a.eval x = .pointer (some ⟨w.heap.size, 0, none⟩)) (hv : a.eval v = .agg c') (hi : (P.info? ty).map (·.size) = some c'.size) (hs : c.size = c'.size) (h1 : c'.all (·.oneCell') = true)
    (h : wpList P ops Q rest a (w.alloc (.cells c' t))) : wpList P ops Q (o :: rest) a (w.alloc (.cells c t)) := by
  refine wpList_plain hgd fun K hK => ?_
  have hr : (storeVar ty ⟨w.heap.size, 0, none⟩ (.agg c')).run P (w.alloc (.cells c t)) = .ok () (w.alloc (.cells c' t)) := by
    rw [run_storeVar_row _ _ t ty c c' (heap_alloc_last w _) hi hs h1, World.setRow_alloc_new]
  have hrun : (execOp a.eval o).run P (w.alloc (.cells c t)) = .ok .skip (w.alloc (.cells c' t)) := by
    unfold execOp
    simp [ho, hx, hv, Instr.storeAt, Instr.sureAddr, Sem.run_bind, Sem.run_pure, Result.andThen, hr]
  unfold Oper.wp
  rw [hrun]
  show K (a.put o.dst undef) _
  rw [hd]
  exact hK _ _ h
section
variable {w w' : World}
set_option maxHeartbeats 4000000 in
set_option maxRecDepth 100000 in
theorem places1_calls (w : World) (g : Nat) (hg : CallAt w g) : Calls Try.prog 121 #[.slice (some ⟨g, 0, none⟩) 1 1, .func (.func 122) #[] #[]] w fun e w' => ∃ g' c, e = .returned (.slice (some ⟨g', 0, none⟩) 1 c) ∧ w'.cell? ⟨g', 0, none⟩ = some (.int .i64 0) ∧ Below w.heap.size w w' := by
  have HG := Aside0.mk hg
  unfold CallAt at hg
  clear hg
  have hen := enters_ (P := Try.prog) Try.func122 (by rfl) (by kernel_rfl)
  have HEN := Aside0.mk hen
  clear hen
  go_enter Try.func121, Try.ntmps121
  go_wp2_with fail
  refine wp_loop_rounds 2 ?_
  rw [rounds_succ]
  go_upto_region 5 with (first | (refine wpList_load_row rfl 69 _ rfl g rfl 69 #[.int .i64 0, .int .i64 6, .int .i64 0, .int .i64 0, .bool false, .int .u64 0, .int .u8 0, .int .u64 0, .int .i64 0, .bool false, .bool false, .bool false, .bool false, .bool false, .bool false, .int .i64 0, .int .u64 0, .int .i64 0, .int .i64 3, .int .i64 3, .int .i64 0, .int .i64 0, .int .u8 0, .int .i64 0] (0, 0) _ HG.out Try.underlying69 rfl (by kernel_rfl) ?_) | (refine wpList_store_new rfl rfl 69 _ _ rfl 69 #[.int .i64 0, .int .i64 0, .int .i64 0, .int .i64 0, .bool false, .int .u64 0, .int .u8 0, .int .u64 0, .int .i64 0, .bool false, .bool false, .bool false, .bool false, .bool false, .bool false, .int .i64 0, .int .u64 0, .int .i64 0, .int .i64 0, .int .i64 0, .int .i64 0, .int .i64 0, .int .u8 0, .int .i64 0] #[.int .i64 0, .int .i64 6, .int .i64 0, .int .i64 0, .bool false, .int .u64 0, .int .u8 0, .int .u64 0, .int .i64 0, .bool false, .bool false, .bool false, .bool false, .bool false, .bool false, .int .i64 0, .int .u64 0, .int .i64 0, .int .i64 3, .int .i64 3, .int .i64 0, .int .i64 0, .int .u8 0, .int .i64 0] rfl rfl (by kernel_rfl) rfl (by kernel_rfl) ?_))
  go_upto_region 6 with (refine wpList_load_row rfl 69 _ rfl _ rfl 69 #[.int .i64 0, .int .i64 6, .int .i64 0, .int .i64 0, .bool false, .int .u64 0, .int .u8 0, .int .u64 0, .int .i64 0, .bool false, .bool false, .bool false, .bool false, .bool false, .bool false, .int .i64 0, .int .u64 0, .int .i64 0, .int .i64 3, .int .i64 3, .int .i64 0, .int .i64 0, .int .u8 0, .int .i64 0] (0, 0) _ (heap_alloc_last w _) Try.underlying69 rfl (by kernel_rfl) ?_)
  refine (row1_calls _).mono ?_
  rintro e w1 ⟨rfl, hb⟩
  have hal := (Below.refl _ w).alloc (Nat.le_refl _) (.cells #[.int .i64 0, .int .i64 6, .int .i64 0, .int .i64 0, .bool false, .int .u64 0, .int .u8 0, .int .u64 0, .int .i64 0, .bool false, .bool false, .bool false, .bool false, .bool false, .bool false, .int .i64 0, .int .u64 0, .int .i64 0, .int .i64 3, .int .i64 3, .int .i64 0, .int .i64 0, .int .u8 0, .int .i64 0] 69)
  have HB := Aside0.mk (hal.trans (hb.mono hal.size))
  clear hb hal HG HEN
  go_wp2_with fail
  generalize hcc : (Question.appendCap 1 0 3).cut (w1.tape w1.drawn (Question.appendCap 1 0 3)) = cc
  have hbx : Below w.heap.size w (((w1.alloc (.cells #[.int .i64 0] 3)).alloc (.cells (#[.int .i64 0] ++ Builtin.zeroCells #[.int .i64 0] (cc - 1)) 3)).drew) := ((HB.out.alloc HB.out.size _).alloc (by have := HB.out.size; simp; omega) _).drew
  have hcell : (((w1.alloc (.cells #[.int .i64 0] 3)).alloc (.cells (#[.int .i64 0] ++ Builtin.zeroCells #[.int .i64 0] (cc - 1)) 3)).drew).cell? ⟨w1.heap.size + 1, 0, none⟩ = some (.int .i64 0) := by
    have h := blk_new (w1.alloc (.cells #[.int .i64 0] 3)) (.cells (#[.int .i64 0] ++ Builtin.zeroCells #[.int .i64 0] (cc - 1)) 3)
    rw [World.size_alloc] at h
    have h2 : (#[Value.int .i64 0] ++ Builtin.zeroCells #[.int .i64 0] (cc - 1))[0]? = some (.int .i64 0) := by rw [Array.getElem?_append_left (by simp)]; rfl
    exact (blk_cell h 0).trans h2
  generalize ((w1.alloc (.cells #[.int .i64 0] 3)).alloc (.cells (#[.int .i64 0] ++ Builtin.zeroCells #[.int .i64 0] (cc - 1)) 3)).drew = w2 at *
  generalize w1.heap.size + 1 = G at *
  clear hcc
  rw [rounds_succ]
  go_wp2_with fail
  go_ret
  exact ⟨_, _, rfl, hcell, hbx⟩
end
end Go.Proofs.Ytalmemcidbmdgaa.PM



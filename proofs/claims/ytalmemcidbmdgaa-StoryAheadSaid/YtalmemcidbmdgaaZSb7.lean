import Derived.Test.YtalmemcidbmdgaaZSb6
import Derived.Laws.EntriesVeiled
/- A model (layer 16): access where a page is there, and no fault: the walk (under way). -/
set_option linter.unusedVariables false
set_option linter.unusedSimpArgs false
namespace Go.Proofs.Ytalmemcidbmdgaa.PM
open Go.RowKit Go.Proofs.YtalmemcidbmdgaaW.PrintWords Go.Proofs.YtalmemcidbmdgaaW.PrintLast Go.Proofs.YtalmemcidbmdgaaW.PrintMore Go.Proofs.Ytalmemcidbmdgaa.PageG
attribute [local go_sem] max2_int min2_int max_two min_two max_three min_three max_four min_four   -- for this text's walks alone
section
variable {w w' : World} {B pm bm : Nat} {s : MS}
set_option maxHeartbeats 8000000 in
set_option maxRecDepth 100000 in
theorem access_ok (h : Mo w B pm bm s) (hw : WfL s.L) (o : OpS) (ho : OkO o) {i : Nat} {x : Ent} (hfd : find s.L o.sp o.av.toNat = some i) (hx : s.L[i]? = some x) (hia : isAll s.n [o.sp] = true) (hak : 0 ≤ o.ak ∧ o.ak < 4) (hho0 : holeB o.av.toNat = false) (hjn : judgeN x.f1.f3 o.ak o.ap = 0) :
    Calls Try.prog 38 #[.pointer (some ⟨B, 0, none⟩), Value.agg #[.int .i64 o.kind, .int .i64 o.sp, .int .i64 o.ak, .bool o.ap, .int .u64 o.av, .int .u8 o.byte, .int .u64 o.va, .int .i64 o.size, .bool o.at_.f0, .bool o.at_.f1, .bool o.at_.f2, .bool o.at_.f3, .bool o.at_.f4, .bool o.at_.f5, .int .i64 o.other, .int .u64 o.too]] w (Rep3 w B pm bm (accessR s o)) := by
  have HM := Aside0.mk h
  have hr : accessR s o = (if o.ak = 1 then ((0, 0, 0), { s with L := s.L.set i ⟨x.f0, accP x.f1 o.ak⟩, by_ := putB s.by_ x.f1.f2 ((offN x o.av.toNat : Nat) : Int) o.byte }) else ((0, 0, getB s.by_ x.f1.f2 ((offN x o.av.toNat : Nat) : Int)), { s with L := s.L.set i ⟨x.f0, accP x.f1 o.ak⟩ })) := by
    unfold accessR
    rw [if_pos ⟨hia, hak⟩, if_neg (by rw [hho0]; simp), hfd]
    simp only [hx]
    rw [if_pos hjn]
  obtain ⟨res, hres⟩ : ∃ res, accessR s o = res := ⟨_, rfl⟩
  rw [hres] at hr ⊢
  clear hres
  obtain ⟨av, hvd⟩ : ∃ av : Nat, o.av.toNat = av := ⟨_, rfl⟩
  rw [hvd] at hr
  have HR := Aside0.mk hr
  clear hr
  have hh0 : hit o.sp o.av.toNat x = true := by
    obtain ⟨y, hy, hh⟩ := find_some hfd
    rw [hx] at hy
    cases hy
    exact hh
  rw [hvd] at hh0 hho0
  have hva : av < 2 ^ 64 := by have := ho.av; omega
  have HOV := Aside0.mk (show o.av = (av : Int) by have := ho.av; omega)
  have HW := Aside0.mk hw
  have HX := Aside0.mk (List.mem_of_getElem? hx)
  have HXI := Aside0.mk hx
  have HBY := Aside0.mk ho.by_
  have HFD := Aside0.mk hfd
  have HH := Aside0.mk hh0
  have hsp := Aside0.mk ho.sp
  have HJ := Aside0.mk (judge_f x.f1.f3 o.ak (av : Int) o.ap)
  have HMY := Aside0.mk (fmay_f o.ak (av : Int) o.ap)
  have HHO := Aside0.mk (hole_f av hva)
  rw [hjn] at HJ
  clear hjn
  rw [decide_eq_true hak] at HMY
  rw [hho0] at HHO
  have HIA := Aside0.mk hia
  have HLT := Aside0.mk h.lt
  have HVD := Aside0.mk hvd
  have HAK := Aside0.mk hak
  clear h hw ho hfd hho0 hx hh0 hia hvd hak
  obtain ⟨D, hD⟩ : ∃ D, w.heap.size = D := ⟨_, rfl⟩
  go_enter Try.func38, Try.ntmps38
  go_upto_region 2 with fail
  have hk := blk_alloc (blk_alloc (blk_new w (.cells #[.int .i64 o.kind, .int .i64 o.sp, .int .i64 o.ak, .bool o.ap, .int .u64 o.av, .int .u8 o.byte, .int .u64 o.va, .int .i64 o.size, .bool o.at_.f0, .bool o.at_.f1, .bool o.at_.f2, .bool o.at_.f3, .bool o.at_.f4, .bool o.at_.f5, .int .i64 o.other, .int .u64 o.too] 36)) (.cells #[.int .i64 0, .int .i64 0, .int .u8 0] 42)) (.cells #[.int .i64 o.ak, .bool o.ap, .int .u64 o.av] 32)
  have hz := blk_alloc (blk_new (w.alloc (.cells #[.int .i64 o.kind, .int .i64 o.sp, .int .i64 o.ak, .bool o.ap, .int .u64 o.av, .int .u8 o.byte, .int .u64 o.va, .int .i64 o.size, .bool o.at_.f0, .bool o.at_.f1, .bool o.at_.f2, .bool o.at_.f3, .bool o.at_.f4, .bool o.at_.f5, .int .i64 o.other, .int .u64 o.too] 36)) (.cells #[.int .i64 0, .int .i64 0, .int .u8 0] 42)) (.cells #[.int .i64 o.ak, .bool o.ap, .int .u64 o.av] 32)
  have hl := blk_new ((w.alloc (.cells #[.int .i64 o.kind, .int .i64 o.sp, .int .i64 o.ak, .bool o.ap, .int .u64 o.av, .int .u8 o.byte, .int .u64 o.va, .int .i64 o.size, .bool o.at_.f0, .bool o.at_.f1, .bool o.at_.f2, .bool o.at_.f3, .bool o.at_.f4, .bool o.at_.f5, .int .i64 o.other, .int .u64 o.too] 36)).alloc (.cells #[.int .i64 0, .int .i64 0, .int .u8 0] 42)) (.cells #[.int .i64 o.ak, .bool o.ap, .int .u64 o.av] 32)
  have hb : Below w.heap.size w (((w.alloc (.cells #[.int .i64 o.kind, .int .i64 o.sp, .int .i64 o.ak, .bool o.ap, .int .u64 o.av, .int .u8 o.byte, .int .u64 o.va, .int .i64 o.size, .bool o.at_.f0, .bool o.at_.f1, .bool o.at_.f2, .bool o.at_.f3, .bool o.at_.f4, .bool o.at_.f5, .int .i64 o.other, .int .u64 o.too] 36)).alloc (.cells #[.int .i64 0, .int .i64 0, .int .u8 0] 42)).alloc (.cells #[.int .i64 o.ak, .bool o.ap, .int .u64 o.av] 32)) := (((Below.refl _ w).alloc (Nat.le_refl _) _).alloc (by simp) _).alloc (by simp; omega) _
  have hs1 : (w.alloc (.cells #[.int .i64 o.kind, .int .i64 o.sp, .int .i64 o.ak, .bool o.ap, .int .u64 o.av, .int .u8 o.byte, .int .u64 o.va, .int .i64 o.size, .bool o.at_.f0, .bool o.at_.f1, .bool o.at_.f2, .bool o.at_.f3, .bool o.at_.f4, .bool o.at_.f5, .int .i64 o.other, .int .u64 o.too] 36)).heap.size = D + 1 := by simp [hD]
  have hs2 : ((w.alloc (.cells #[.int .i64 o.kind, .int .i64 o.sp, .int .i64 o.ak, .bool o.ap, .int .u64 o.av, .int .u8 o.byte, .int .u64 o.va, .int .i64 o.size, .bool o.at_.f0, .bool o.at_.f1, .bool o.at_.f2, .bool o.at_.f3, .bool o.at_.f4, .bool o.at_.f5, .int .i64 o.other, .int .u64 o.too] 36)).alloc (.cells #[.int .i64 0, .int .i64 0, .int .u8 0] 42)).heap.size = D + 1 + 1 := by simp [hD]
  rw [hD] at hk
  rw [hs1] at hz
  rw [hs2] at hl
  generalize ((w.alloc (.cells #[.int .i64 o.kind, .int .i64 o.sp, .int .i64 o.ak, .bool o.ap, .int .u64 o.av, .int .u8 o.byte, .int .u64 o.va, .int .i64 o.size, .bool o.at_.f0, .bool o.at_.f1, .bool o.at_.f2, .bool o.at_.f3, .bool o.at_.f4, .bool o.at_.f5, .int .i64 o.other, .int .u64 o.too] 36)).alloc (.cells #[.int .i64 0, .int .i64 0, .int .u8 0] 42)).alloc (.cells #[.int .i64 o.ak, .bool o.ap, .int .u64 o.av] 32) = w1 at *
  clear hs1 hs2
  obtain ⟨-, o1, -⟩ := cells16 hk
  obtain ⟨c0, c1, c2⟩ := cells3 hl
  rw [HOV.out] at c2
  have HZ := Aside0.mk hz
  have HB := Aside0.mk hb
  have HK := Aside0.mk hk
  have HL := Aside0.mk hl
  clear hz hb hk hl
  go_wp2_with fail
  refine (at_yes (HM.out.below HB.out) HW.out o.sp hsp.out av hva x HX.out HH.out).mono ?_
  rintro e w2 ⟨rfl, hb2⟩
  have hp3 := blk_alloc (blk_new w2 (.cells #[.int .u64 x.f1.f0, .int .i64 x.f1.f1, .int .u64 x.f1.f2, .bool x.f1.f3.f0, .bool x.f1.f3.f1, .bool x.f1.f3.f2, .bool x.f1.f3.f3, .bool x.f1.f3.f4, .bool x.f1.f3.f5, .bool x.f1.f4, .bool x.f1.f5] 50)) (.cells #[.int .i64 x.f0, .int .u64 x.f1.f0, .int .i64 x.f1.f1] 84)
  have hb3 := hb2.trans ((((Below.refl _ w2).alloc (Nat.le_refl _) (.cells #[.int .u64 x.f1.f0, .int .i64 x.f1.f1, .int .u64 x.f1.f2, .bool x.f1.f3.f0, .bool x.f1.f3.f1, .bool x.f1.f3.f2, .bool x.f1.f3.f3, .bool x.f1.f3.f4, .bool x.f1.f3.f5, .bool x.f1.f4, .bool x.f1.f5] 50)).alloc (by simp) (.cells #[.int .i64 x.f0, .int .u64 x.f1.f0, .int .i64 x.f1.f1] 84)).mono hb2.size)
  unfold pgv kyv
  have HZ3 := Aside0.mk (blk_below HZ.out hb3)
  have HK3 := Aside0.mk (blk_below HK.out hb3)
  have HL3 := Aside0.mk (blk_below HL.out hb3)
  have HB3 := Aside0.mk (below_step HB.out hb3)
  have HP3 := Aside0.mk hp3
  have hy3 := blk_new (w2.alloc (.cells #[.int .u64 x.f1.f0, .int .i64 x.f1.f1, .int .u64 x.f1.f2, .bool x.f1.f3.f0, .bool x.f1.f3.f1, .bool x.f1.f3.f2, .bool x.f1.f3.f3, .bool x.f1.f3.f4, .bool x.f1.f3.f5, .bool x.f1.f4, .bool x.f1.f5] 50)) (.cells #[.int .i64 x.f0, .int .u64 x.f1.f0, .int .i64 x.f1.f1] 84)
  rw [World.size_alloc] at hy3
  have HY3 := Aside0.mk hy3
  clear hy3
  have HGD := Aside0.mk (show D + 1 + 1 < w2.heap.size from Nat.lt_of_lt_of_le (blk_lt HL.out) hb2.size)
  clear hb2 hb3 hp3 o1 c0 c1 c2 HZ HK HL HB
  go_upto_region 3 with fail
  generalize (w2.alloc (.cells #[.int .u64 x.f1.f0, .int .i64 x.f1.f1, .int .u64 x.f1.f2, .bool x.f1.f3.f0, .bool x.f1.f3.f1, .bool x.f1.f3.f2, .bool x.f1.f3.f3, .bool x.f1.f3.f4, .bool x.f1.f3.f5, .bool x.f1.f4, .bool x.f1.f5] 50)).alloc (.cells #[.int .i64 x.f0, .int .u64 x.f1.f0, .int .i64 x.f1.f1] 84) = w3 at *
  generalize w2.heap.size = G at *
  obtain ⟨-, -, -, p3, p4, p5, p6, p7, p8, -, -⟩ := cells11 HP3.out
  obtain ⟨c0, c1, c2⟩ := cells3 HL3.out
  rw [HOV.out] at c2
  go_wp2_with fail
  refine (fault_Judge.calls 10 x.f1.f3.f0 x.f1.f3.f1 x.f1.f3.f2 x.f1.f3.f3 x.f1.f3.f4 x.f1.f3.f5 o.ak o.ap (av : Int) 0 w3 HJ.out).mono ?_
  rintro e w4 ⟨rfl, hb4⟩
  have HZ4 := Aside0.mk (blk_below HZ3.out hb4)
  have HK4 := Aside0.mk (blk_below HK3.out hb4)
  have HL4 := Aside0.mk (blk_below HL3.out hb4)
  have HP4 := Aside0.mk (blk_below HP3.out hb4)
  have HY4 := Aside0.mk (blk_below HY3.out hb4)
  have HB4 := Aside0.mk (below_step HB3.out hb4)
  clear hb4 p3 p4 p5 p6 p7 p8 c0 c1 c2 HP3 HY3 HZ3 HK3 HL3 HB3
  obtain ⟨-, o1, -⟩ := cells16 HK4.out
  go_wp2_with fail
  have hbn := (Below.refl _ w4).alloc (Nat.le_refl _) (.cells #[.int .i64 o.sp] 3)
  have hl5 := blk_new w4 (.cells #[.int .i64 o.sp] 3)
  have HZ := Aside0.mk (blk_below HZ4.out hbn)
  have HL := Aside0.mk (blk_below HL4.out hbn)
  have HP := Aside0.mk (blk_below HP4.out hbn)
  have HY := Aside0.mk (blk_below HY4.out hbn)
  have HK := Aside0.mk (blk_below HK4.out hbn)
  have HB := Aside0.mk (below_step HB4.out hbn)
  clear hbn o1 HZ4 HK4 HL4 HB4 HP4 HY4
  generalize w4.alloc (.cells #[.int .i64 o.sp] 3) = w5 at *
  generalize w4.heap.size = G2 at *
  refine (is_calls (HM.out.below HB.out) [o.sp] (some ⟨G2, 0, none⟩) 1 (c_lit (xs := [o.sp]) hl5 (by simp)) (by simp)).mono ?_
  rintro e w6 ⟨rfl, rfl⟩
  clear hl5
  rw [HIA.out]
  obtain ⟨c0, c1, c2⟩ := cells3 HL.out
  rw [HOV.out] at c2
  go_wp2_with fail
  refine (fault_May.calls o.ak o.ap (av : Int) true w5 HMY.out).mono ?_
  rintro e w6 ⟨rfl, hb6⟩
  have HL6 := Aside0.mk (blk_below HL.out hb6)
  have HP6 := Aside0.mk (blk_below HP.out hb6)
  have HY6 := Aside0.mk (blk_below HY.out hb6)
  have HK6 := Aside0.mk (blk_below HK.out hb6)
  have HB6 := Aside0.mk (below_step HB.out hb6)
  have HZ6 := Aside0.mk (blk_below HZ.out hb6)
  clear hb6 c0 c1 c2 HL HB HZ HP HY HK
  obtain ⟨c0, c1, c2⟩ := cells3 HL6.out
  rw [HOV.out] at c2
  go_wp2_with fail
  refine (page_Hole.calls (av : Int) false w6 HHO.out).mono ?_
  rintro e w7 ⟨rfl, hd⟩
  have HZ7 := Aside0.mk (blk_below HZ6.out hd.below)
  have HL7 := Aside0.mk (blk_below HL6.out hd.below)
  have HP7 := Aside0.mk (blk_below HP6.out hd.below)
  have HY7 := Aside0.mk (blk_below HY6.out hd.below)
  have HK7 := Aside0.mk (blk_below HK6.out hd.below)
  have HB7 := Aside0.mk (below_step HB6.out hd.below)
  clear hd c0 c1 c2 HZ6 HL6 HB6 HP6 HY6 HK6
  go_upto_region 12 with fail
  obtain ⟨-, -, -, -, -, -, -, -, -, p4, p5⟩ := cells11 HP7.out
  have f4 := blk_frozen HP7.out 9
  have f5 := blk_frozen HP7.out 10
  obtain ⟨c0, -, -⟩ := cells3 HL7.out
  have hgd : D + 1 + 1 ≠ G := by have := HGD.out; omega
  rcases Bool.eq_false_or_eq_true x.f1.f5 with hf5 | hf5
  · rw [hf5] at p5
    refine start_ (n := 11) (S := fun w' => w'.cell? ⟨G, 10, none⟩ = some (.bool true) ∧ w'.cell? ⟨D + 1 + 1, 0, none⟩ = some (.int .i64 o.ak)) (ds := [10]) #[false, false, false, false, false, false, false, false, false, false, false] (by kernel_rfl) rfl rfl ⟨p5, c0⟩ (fun hHeld => ?_)
    refine pure_ (i := 0) (N := some 50) (v := ?_) (a' := ?_) #[true, false, false, false, false, false, false, false, false, false, false] rfl rfl (by kernel_rfl) (fun _ _ _ h => h) (Or.inl ⟨by rfl, ?_⟩) ?_ ?_
    rotate_left
    · intro w'
      go_simp
      with_reducible rfl
    rotate_left
    · simp only [Act.put, List.setIfInBounds_toArray, List.set_cons_zero, List.set_cons_succ, i64_w, i32_w]
      rfl
    refine take_ (i := 1) (N := some 51) (v := ?_) (a' := ?_) #[true, true, false, false, false, false, false, false, false, false, false] rfl rfl (by kernel_rfl) (fun _ _ _ h => h) (Or.inl ⟨by rfl, ?_⟩) hHeld ?_ ?_
    rotate_left
    · rintro w' ⟨s0, s1⟩
      go_simp
      with_reducible rfl
    rotate_left
    · simp only [Act.put, List.setIfInBounds_toArray, List.set_cons_zero, List.set_cons_succ, i64_w, i32_w]
      rfl
    refine pure_ (i := 2) (N := some 52) (v := ?_) (a' := ?_) #[true, true, true, false, false, false, false, false, false, false, false] rfl rfl (by kernel_rfl) (fun _ _ _ h => h) (Or.inl ⟨by rfl, ?_⟩) ?_ ?_
    rotate_left
    · intro w'
      go_simp
      with_reducible rfl
    rotate_left
    · simp only [Act.put, List.setIfInBounds_toArray, List.set_cons_zero, List.set_cons_succ, i64_w, i32_w]
      rfl
    refine pure_ (i := 3) (N := some 53) (v := undef) (a' := ?_) #[true, true, true, true, false, false, false, false, false, false, false] rfl rfl (by kernel_rfl) (fun _ _ _ h => h) (Or.inr ⟨by rfl, rfl⟩) ?_ ?_
    rotate_left
    · simp only [Act.put, List.setIfInBounds_toArray, List.set_cons_zero, List.set_cons_succ, i64_w, i32_w]
      rfl
    refine pure_ (i := 4) (N := some 54) (v := undef) (a' := ?_) #[true, true, true, true, true, false, false, false, false, false, false] rfl rfl (by kernel_rfl) (fun _ _ _ h => h) (Or.inr ⟨by rfl, rfl⟩) ?_ ?_
    rotate_left
    · simp only [Act.put, List.setIfInBounds_toArray, List.set_cons_zero, List.set_cons_succ, i64_w, i32_w]
      rfl
    refine pure_ (i := 5) (N := some 55) (v := undef) (a' := ?_) #[true, true, true, true, true, true, false, false, false, false, false] rfl rfl (by kernel_rfl) (fun _ _ _ h => h) (Or.inr ⟨by rfl, rfl⟩) ?_ ?_
    rotate_left
    · simp only [Act.put, List.setIfInBounds_toArray, List.set_cons_zero, List.set_cons_succ, i64_w, i32_w]
      rfl
    refine pure_ (i := 6) (N := some 56) (v := ?_) (a' := ?_) #[true, true, true, true, true, true, true, false, false, false, false] rfl rfl (by kernel_rfl) (fun _ _ _ h => h) (Or.inl ⟨by rfl, ?_⟩) ?_ ?_
    rotate_left
    · intro w'
      go_simp
      with_reducible rfl
    rotate_left
    · simp only [Act.put, List.setIfInBounds_toArray, List.set_cons_zero, List.set_cons_succ, i64_w, i32_w]
      rfl
    refine pure_ (i := 7) (N := some 57) (v := ?_) (a' := ?_) #[true, true, true, true, true, true, true, true, false, false, false] rfl rfl (by kernel_rfl) (fun _ _ _ h => h) (Or.inl ⟨by rfl, ?_⟩) ?_ ?_
    rotate_left
    · intro w'
      go_simp
      with_reducible rfl
    rotate_left
    · simp only [Act.put, List.setIfInBounds_toArray, List.set_cons_zero, List.set_cons_succ, i64_w, i32_w]
      rfl
    refine one_ (i := 8) (N := none) #[true, true, true, true, true, true, true, true, true, false, false] rfl rfl (by kernel_rfl) (by decide) (fun K hK => ?_)
    refine skip_ (w1 := ?_) (by rfl) rfl ?_ ?_
    rotate_left
    · go_simp
      with_reducible rfl
    refine hK.out _ _ (by obtain ⟨s0, s1⟩ := hHeld; constructor <;> go_simp) (fun hHeld => ?_)
    clear hK K
    refine pure_ (i := 9) (N := some 58) (v := ?_) (a' := ?_) #[true, true, true, true, true, true, true, true, true, true, false] rfl rfl (by kernel_rfl) (fun _ _ _ h => h) (Or.inl ⟨by rfl, ?_⟩) ?_ ?_
    rotate_left
    · intro w'
      go_simp
      with_reducible rfl
    rotate_left
    · simp only [Act.put, List.setIfInBounds_toArray, List.set_cons_zero, List.set_cons_succ, i64_w, i32_w]
      rfl
    refine last_ (i := 10) (N := none) #[true, true, true, true, true, true, true, true, true, true, true] rfl rfl (by kernel_rfl) (by decide) (fun K hK => ?_)
    refine skip_ (w1 := ?_) (by rfl) rfl ?_ ?_
    rotate_left
    · go_simp
      with_reducible rfl
    refine hK.out _ _ ?_
    clear hK K
    refine done_ (by kernel_rfl) ?_
    (try simp only [Exit.inBlock, Exit.then])
    have s9 := setCell_block (t := 50) (i := 9) (cs' := #[.int .u64 x.f1.f0, .int .i64 x.f1.f1, .int .u64 x.f1.f2, .bool x.f1.f3.f0, .bool x.f1.f3.f1, .bool x.f1.f3.f2, .bool x.f1.f3.f3, .bool x.f1.f3.f4, .bool x.f1.f3.f5, .bool true, Value.bool true]) HP7.out (.bool true) (by rw [hf5]; rfl)
    have s10 := sb_put (t := 50) (i := 10) (cs := #[.int .u64 x.f1.f0, .int .i64 x.f1.f1, .int .u64 x.f1.f2, .bool x.f1.f3.f0, .bool x.f1.f3.f1, .bool x.f1.f3.f2, .bool x.f1.f3.f3, .bool x.f1.f3.f4, .bool x.f1.f3.f5, .bool true, Value.bool true]) (cs' := #[.int .u64 x.f1.f0, .int .i64 x.f1.f1, .int .u64 x.f1.f2, .bool x.f1.f3.f0, .bool x.f1.f3.f1, .bool x.f1.f3.f2, .bool x.f1.f3.f3, .bool x.f1.f3.f4, .bool x.f1.f3.f5, .bool true, .bool (x.f1.f5 || (o.ak == 1))]) HP7.out (.bool true) (by rw [hf5]; rfl)
    rw [s9, s10]
    clear s9 s10
    have h8b := sb_same HP7.out (.cells #[.int .u64 x.f1.f0, .int .i64 x.f1.f1, .int .u64 x.f1.f2, .bool x.f1.f3.f0, .bool x.f1.f3.f1, .bool x.f1.f3.f2, .bool x.f1.f3.f3, .bool x.f1.f3.f4, .bool x.f1.f3.f5, .bool true, .bool (x.f1.f5 || (o.ak == 1))] 50 (0, 0))
    have h8y := (sb_other (W := w7) (b := G) (k := G + 1) (.cells #[.int .u64 x.f1.f0, .int .i64 x.f1.f1, .int .u64 x.f1.f2, .bool x.f1.f3.f0, .bool x.f1.f3.f1, .bool x.f1.f3.f2, .bool x.f1.f3.f3, .bool x.f1.f3.f4, .bool x.f1.f3.f5, .bool true, .bool (x.f1.f5 || (o.ak == 1))] 50 (0, 0)) (by omega)).trans HY7.out
    have h8l := (sb_other (W := w7) (b := G) (k := D + 1 + 1) (.cells #[.int .u64 x.f1.f0, .int .i64 x.f1.f1, .int .u64 x.f1.f2, .bool x.f1.f3.f0, .bool x.f1.f3.f1, .bool x.f1.f3.f2, .bool x.f1.f3.f3, .bool x.f1.f3.f4, .bool x.f1.f3.f5, .bool true, .bool (x.f1.f5 || (o.ak == 1))] 50 (0, 0)) hgd).trans HL7.out
    have h8z := (sb_other (W := w7) (b := G) (k := D + 1) (.cells #[.int .u64 x.f1.f0, .int .i64 x.f1.f1, .int .u64 x.f1.f2, .bool x.f1.f3.f0, .bool x.f1.f3.f1, .bool x.f1.f3.f2, .bool x.f1.f3.f3, .bool x.f1.f3.f4, .bool x.f1.f3.f5, .bool true, .bool (x.f1.f5 || (o.ak == 1))] 50 (0, 0)) (by have := HGD.out; omega)).trans HZ7.out
    have h8k := (sb_other (W := w7) (b := G) (k := D) (.cells #[.int .u64 x.f1.f0, .int .i64 x.f1.f1, .int .u64 x.f1.f2, .bool x.f1.f3.f0, .bool x.f1.f3.f1, .bool x.f1.f3.f2, .bool x.f1.f3.f3, .bool x.f1.f3.f4, .bool x.f1.f3.f5, .bool true, .bool (x.f1.f5 || (o.ak == 1))] 50 (0, 0)) (by have := HGD.out; omega)).trans HK7.out
    have h8w := below_sb HB7.out (g := G) (by have := HGD.out; omega) (.cells #[.int .u64 x.f1.f0, .int .i64 x.f1.f1, .int .u64 x.f1.f2, .bool x.f1.f3.f0, .bool x.f1.f3.f1, .bool x.f1.f3.f2, .bool x.f1.f3.f3, .bool x.f1.f3.f4, .bool x.f1.f3.f5, .bool true, .bool (x.f1.f5 || (o.ak == 1))] 50 (0, 0))
    generalize ChangeMaps.setBlock w7 G (.cells #[.int .u64 x.f1.f0, .int .i64 x.f1.f1, .int .u64 x.f1.f2, .bool x.f1.f3.f0, .bool x.f1.f3.f1, .bool x.f1.f3.f2, .bool x.f1.f3.f3, .bool x.f1.f3.f4, .bool x.f1.f3.f5, .bool true, .bool (x.f1.f5 || (o.ak == 1))] 50 (0, 0)) = w8 at *
    obtain ⟨p, hp⟩ : ∃ p : Pg, accP x.f1 o.ak = p := ⟨_, rfl⟩
    have HP := Aside0.mk hp
    have h8p : (w8.drew).heap[G]? = some (.cells #[.int .u64 p.f0, .int .i64 p.f1, .int .u64 p.f2, .bool p.f3.f0, .bool p.f3.f1, .bool p.f3.f2, .bool p.f3.f3, .bool p.f3.f4, .bool p.f3.f5, .bool p.f4, .bool p.f5] 50 (0, 0)) := by subst hp; exact h8b
    clear h8b hp p4 p5 f4 f5 c0 hHeld HP7
    have HP8 := Aside0.mk h8p
    have HY8 := Aside0.mk (show (w8.drew).heap[G + 1]? = _ from h8y)
    have HL8 := Aside0.mk (show (w8.drew).heap[D + 1 + 1]? = _ from h8l)
    have HZ8 := Aside0.mk (show (w8.drew).heap[D + 1]? = _ from h8z)
    have HK8 := Aside0.mk (show (w8.drew).heap[D]? = _ from h8k)
    have HB8 := Aside0.mk h8w.drew
    clear h8p h8y h8l h8z h8k h8w HY7 HL7 HZ7 HK7 HB7
    generalize w8.drew = w9 at *
    go_upto_region 13 with fail
    have hm9 := HM.out.below HB8.out
    obtain ⟨-, m1, -, -⟩ := hm9.cells
    obtain ⟨k0, k1, k2⟩ := cells3 HY8.out
    obtain ⟨p0, p1, p2, p3, p4, p5, p6, p7, p8, p9, p10⟩ := cells11 HP8.out
    obtain ⟨ob, hrun, hmo⟩ := (hm9.below (Below.refl _ w9).drew).set_page HW.out HXI.out p (by rw [← HP.out]; rfl) (by rw [← HP.out]; rfl)
    have HMO := Aside0.mk hmo
    unfold kyv pgv at hrun
    clear hm9 hmo
    refine start_ (n := 7) (S := fun w' => w'.cell? ⟨B, 1, none⟩ = some (.map (some pm)) ∧ w'.cell? ⟨G + 1, 0, none⟩ = some (.int .i64 x.f0) ∧ w'.cell? ⟨G + 1, 1, none⟩ = some (.int .u64 x.f1.f0) ∧ w'.cell? ⟨G + 1, 2, none⟩ = some (.int .i64 x.f1.f1) ∧ w'.cell? ⟨G, 0, none⟩ = some (.int .u64 p.f0) ∧ w'.cell? ⟨G, 1, none⟩ = some (.int .i64 p.f1) ∧ w'.cell? ⟨G, 2, none⟩ = some (.int .u64 p.f2) ∧ w'.cell? ⟨G, 3, none⟩ = some (.bool p.f3.f0) ∧ w'.cell? ⟨G, 4, none⟩ = some (.bool p.f3.f1) ∧ w'.cell? ⟨G, 5, none⟩ = some (.bool p.f3.f2) ∧ w'.cell? ⟨G, 6, none⟩ = some (.bool p.f3.f3) ∧ w'.cell? ⟨G, 7, none⟩ = some (.bool p.f3.f4) ∧ w'.cell? ⟨G, 8, none⟩ = some (.bool p.f3.f5) ∧ w'.cell? ⟨G, 9, none⟩ = some (.bool p.f4) ∧ w'.cell? ⟨G, 10, none⟩ = some (.bool p.f5)) (ds := [6]) #[false, false, false, false, false, false, false] (by kernel_rfl) rfl rfl ⟨m1, k0, k1, k2, p0, p1, p2, p3, p4, p5, p6, p7, p8, p9, p10⟩ (fun hHeld => ?_)
    refine pure_ (i := 0) (N := some 59) (v := ?_) (a' := ?_) #[true, false, false, false, false, false, false] rfl rfl (by kernel_rfl) (fun _ _ _ h => h) (Or.inl ⟨by rfl, ?_⟩) ?_ ?_
    rotate_left
    · intro w'
      go_simp
      with_reducible rfl
    rotate_left
    · simp only [Act.put, List.setIfInBounds_toArray, List.set_cons_zero, List.set_cons_succ, i64_w, i32_w]
      rfl
    refine pure_ (i := 1) (N := some 60) (v := ?_) (a' := ?_) #[true, true, false, false, false, false, false] rfl rfl (by kernel_rfl) (fun _ _ _ h => h) (Or.inl ⟨by rfl, ?_⟩) ?_ ?_
    rotate_left
    · intro w'
      go_simp
      with_reducible rfl
    rotate_left
    · simp only [Act.put, List.setIfInBounds_toArray, List.set_cons_zero, List.set_cons_succ, i64_w, i32_w]
      rfl
    refine pure_ (i := 2) (N := some 61) (v := ?_) (a' := ?_) #[true, true, true, false, false, false, false] rfl rfl (by kernel_rfl) (fun _ _ _ h => h) (Or.inl ⟨by rfl, ?_⟩) ?_ ?_
    rotate_left
    · intro w'
      go_simp
      with_reducible rfl
    rotate_left
    · simp only [Act.put, List.setIfInBounds_toArray, List.set_cons_zero, List.set_cons_succ, i64_w, i32_w]
      rfl
    refine take_ (i := 3) (N := some 62) (v := ?_) (a' := ?_) #[true, true, true, true, false, false, false] rfl rfl (by kernel_rfl) (fun _ _ _ h => h) (Or.inl ⟨by rfl, ?_⟩) hHeld ?_ ?_
    rotate_left
    · rintro w' ⟨s0, s1, s2, s3, s4, s5, s6, s7, s8, s9, s10, s11, s12, s13, s14⟩
      go_simp
      with_reducible rfl
    rotate_left
    · simp only [Act.put, List.setIfInBounds_toArray, List.set_cons_zero, List.set_cons_succ, i64_w, i32_w]
      rfl
    refine take_ (i := 4) (N := some 63) (v := ?_) (a' := ?_) #[true, true, true, true, true, false, false] rfl rfl (by kernel_rfl) (fun _ _ _ h => h) (Or.inl ⟨by rfl, ?_⟩) hHeld ?_ ?_
    rotate_left
    · rintro w' ⟨s0, s1, s2, s3, s4, s5, s6, s7, s8, s9, s10, s11, s12, s13, s14⟩
      go_simp
      with_reducible rfl
    rotate_left
    · simp only [Act.put, List.setIfInBounds_toArray, List.set_cons_zero, List.set_cons_succ, i64_w, i32_w]
      rfl
    refine take_ (i := 5) (N := some 64) (v := ?_) (a' := ?_) #[true, true, true, true, true, true, false] rfl rfl (by kernel_rfl) (fun _ _ _ h => h) (Or.inl ⟨by rfl, ?_⟩) hHeld ?_ ?_
    rotate_left
    · rintro w' ⟨s0, s1, s2, s3, s4, s5, s6, s7, s8, s9, s10, s11, s12, s13, s14⟩
      go_simp
      with_reducible rfl
    rotate_left
    · simp only [Act.put, List.setIfInBounds_toArray, List.set_cons_zero, List.set_cons_succ, i64_w, i32_w]
      rfl
    refine last_ (i := 6) (N := none) #[true, true, true, true, true, true, true] rfl rfl (by kernel_rfl) (by decide) (fun K hK => ?_)
    refine skip_ (w1 := _) (by rfl) rfl (run_mapUpdate rfl rfl rfl rfl hrun) ?_
    refine hK.out _ _ ?_
    clear hK K
    refine done_ (by kernel_rfl) ?_
    (try simp only [Exit.inBlock, Exit.then])
    clear m1 k0 k1 k2 p0 p1 p2 p3 p4 p5 p6 p7 p8 p9 p10 hHeld hrun
    have hpm : pm < D := by have := HLT.out pm (by simp); omega
    have h10p := (sb_other (W := w9.drew) (b := pm) (k := G) ob (by have := HGD.out; omega)).trans (show (w9.drew).heap[G]? = _ from HP8.out)
    have h10l := (sb_other (W := w9.drew) (b := pm) (k := D + 1 + 1) ob (by omega)).trans (show (w9.drew).heap[D + 1 + 1]? = _ from HL8.out)
    have h10z := (sb_other (W := w9.drew) (b := pm) (k := D + 1) ob (by omega)).trans (show (w9.drew).heap[D + 1]? = _ from HZ8.out)
    have h10k := (sb_other (W := w9.drew) (b := pm) (k := D) ob (by omega)).trans (show (w9.drew).heap[D]? = _ from HK8.out)
    have HV := Aside0.mk ((Mv.of_below HB8.out.drew : Mv [B, pm, bm] w _).setBlock (b := pm) (.inl (by simp)) ob)
    generalize ChangeMaps.setBlock w9.drew pm ob = w10 at *
    have HP10 := Aside0.mk h10p
    have HL10 := Aside0.mk h10l
    have HZ10 := Aside0.mk h10z
    have HK10 := Aside0.mk h10k
    obtain ⟨c0, -, -⟩ := cells3 h10l
    clear h10p h10l h10z h10k HP8 HY8 HL8 HZ8 HK8 HB8
    have hok := HW.out.ok x HX.out
    have hsf : model_spotOf.f p.f0 p.f1 p.f2 p.f3.f0 p.f3.f1 p.f3.f2 p.f3.f3 p.f3.f4 p.f3.f5 p.f4 p.f5 (av : Int) = some (x.f1.f2, ((offN x av : Nat) : Int)) := by rw [← HP.out]; exact spot_f (p := accP x.f1 o.ak) hok.pa0 hok.pa1 (off_f hok hva)
    have HSF := Aside0.mk hsf
    have h1 : W64 x.f1.f2 := ⟨by have := hok.pa0; omega, by have := hok.pa1; omega⟩
    have h2 : U64 ((offN x av : Nat) : Int) := ⟨by omega, by have := offN_lt (x := x) hva; omega⟩
    have HRG := Aside0.mk h1
    have HOF := Aside0.mk h2
    clear hsf hok h1 h2
    by_cases hak1 : o.ak = 1
    · have hr := HR.out
      rw [if_pos hak1] at hr
      have HR1 := Aside0.mk hr
      clear hr
      have hb1 : (o.ak == 1) = true := beq_iff_eq.2 hak1
      have hb2 : (o.ak != 1) = false := by simp [hak1]
      have HAK1 := Aside0.mk hak1
      clear hak1
      go_upto_region 16 with fail
      clear hb1 hb2 c0
      have HH := Aside0.mk (show ∀ W, Below w10.heap.size w10 W → (W.cell? ⟨B, 2, none⟩ = some (.map (some bm)) ∧ W.cell? ⟨D + 1 + 1, 2, none⟩ = some (.int .u64 (av : Int)) ∧ W.cell? ⟨D, 5, none⟩ = some (.int .u8 o.byte) ∧ W.cell? ⟨G, 0, none⟩ = some (.int .u64 p.f0) ∧ W.cell? ⟨G, 1, none⟩ = some (.int .i64 p.f1) ∧ W.cell? ⟨G, 2, none⟩ = some (.int .u64 p.f2) ∧ W.cell? ⟨G, 3, none⟩ = some (.bool p.f3.f0) ∧ W.cell? ⟨G, 4, none⟩ = some (.bool p.f3.f1) ∧ W.cell? ⟨G, 5, none⟩ = some (.bool p.f3.f2) ∧ W.cell? ⟨G, 6, none⟩ = some (.bool p.f3.f3) ∧ W.cell? ⟨G, 7, none⟩ = some (.bool p.f3.f4) ∧ W.cell? ⟨G, 8, none⟩ = some (.bool p.f3.f5) ∧ W.cell? ⟨G, 9, none⟩ = some (.bool p.f4) ∧ W.cell? ⟨G, 10, none⟩ = some (.bool p.f5)) from fun W hb => by
        obtain ⟨-, -, m2, -⟩ := (HMO.out.below hb).cells
        obtain ⟨-, -, c2⟩ := cells3 (blk_below HL10.out hb)
        rw [HOV.out] at c2
        obtain ⟨-, -, -, -, -, o5, -, -, -, -, -, -, -, -, -, -⟩ := cells16 (blk_below HK10.out hb)
        obtain ⟨p0, p1, p2, p3, p4, p5, p6, p7, p8, p9, p10⟩ := cells11 (blk_below HP10.out hb)
        exact ⟨m2, c2, o5, p0, p1, p2, p3, p4, p5, p6, p7, p8, p9, p10⟩)
      refine start_ (n := 11) (S := fun w' => w'.cell? ⟨B, 2, none⟩ = some (.map (some bm)) ∧ w'.cell? ⟨D + 1 + 1, 2, none⟩ = some (.int .u64 (av : Int)) ∧ w'.cell? ⟨D, 5, none⟩ = some (.int .u8 o.byte) ∧ w'.cell? ⟨G, 0, none⟩ = some (.int .u64 p.f0) ∧ w'.cell? ⟨G, 1, none⟩ = some (.int .i64 p.f1) ∧ w'.cell? ⟨G, 2, none⟩ = some (.int .u64 p.f2) ∧ w'.cell? ⟨G, 3, none⟩ = some (.bool p.f3.f0) ∧ w'.cell? ⟨G, 4, none⟩ = some (.bool p.f3.f1) ∧ w'.cell? ⟨G, 5, none⟩ = some (.bool p.f3.f2) ∧ w'.cell? ⟨G, 6, none⟩ = some (.bool p.f3.f3) ∧ w'.cell? ⟨G, 7, none⟩ = some (.bool p.f3.f4) ∧ w'.cell? ⟨G, 8, none⟩ = some (.bool p.f3.f5) ∧ w'.cell? ⟨G, 9, none⟩ = some (.bool p.f4) ∧ w'.cell? ⟨G, 10, none⟩ = some (.bool p.f5)) (ds := [10]) #[false, false, false, false, false, false, false, false, false, false, false] (by kernel_rfl) rfl rfl (by first | exact HH.out _ (Below.refl _ _) | exact HH.out _ (Below.refl _ _).drew) (fun hHeld => ?_)
      refine pure_ (i := 0) (N := some 78) (v := ?_) (a' := ?_) #[true, false, false, false, false, false, false, false, false, false, false] rfl rfl (by kernel_rfl) (fun _ _ _ h => h) (Or.inl ⟨by rfl, ?_⟩) ?_ ?_
      rotate_left
      · intro w'
        go_simp
        with_reducible rfl
      rotate_left
      · simp only [Act.put, List.setIfInBounds_toArray, List.set_cons_zero, List.set_cons_succ, i64_w, i32_w]
        rfl
      refine pure_ (i := 1) (N := some 79) (v := ?_) (a' := ?_) #[true, true, false, false, false, false, false, false, false, false, false] rfl rfl (by kernel_rfl) (fun _ _ _ h => h) (Or.inl ⟨by rfl, ?_⟩) ?_ ?_
      rotate_left
      · intro w'
        go_simp
        with_reducible rfl
      rotate_left
      · simp only [Act.put, List.setIfInBounds_toArray, List.set_cons_zero, List.set_cons_succ, i64_w, i32_w]
        rfl
      refine pure_ (i := 2) (N := some 80) (v := ?_) (a' := ?_) #[true, true, true, false, false, false, false, false, false, false, false] rfl rfl (by kernel_rfl) (fun _ _ _ h => h) (Or.inl ⟨by rfl, ?_⟩) ?_ ?_
      rotate_left
      · intro w'
        go_simp
        with_reducible rfl
      rotate_left
      · simp only [Act.put, List.setIfInBounds_toArray, List.set_cons_zero, List.set_cons_succ, i64_w, i32_w]
        rfl
      refine pure_ (i := 5) (N := some 83) (v := ?_) (a' := ?_) #[true, true, true, false, false, true, false, false, false, false, false] rfl rfl (by kernel_rfl) (fun _ _ _ h => h) (Or.inl ⟨by rfl, ?_⟩) ?_ ?_
      rotate_left
      · intro w'
        go_simp
        with_reducible rfl
      rotate_left
      · simp only [Act.put, List.setIfInBounds_toArray, List.set_cons_zero, List.set_cons_succ, i64_w, i32_w]
        rfl
      refine pure_ (i := 8) (N := some 86) (v := ?_) (a' := ?_) #[true, true, true, false, false, true, false, false, true, false, false] rfl rfl (by kernel_rfl) (fun _ _ _ h => h) (Or.inl ⟨by rfl, ?_⟩) ?_ ?_
      rotate_left
      · intro w'
        go_simp
        with_reducible rfl
      rotate_left
      · simp only [Act.put, List.setIfInBounds_toArray, List.set_cons_zero, List.set_cons_succ, i64_w, i32_w]
        rfl
      refine take_ (i := 3) (N := some 81) (v := ?_) (a' := ?_) #[true, true, true, true, false, true, false, false, true, false, false] rfl rfl (by kernel_rfl) (fun _ _ _ h => h) (Or.inl ⟨by rfl, ?_⟩) hHeld ?_ ?_
      rotate_left
      · rintro w' ⟨s0, s1, s2, s3, s4, s5, s6, s7, s8, s9, s10, s11, s12, s13⟩
        go_simp
        with_reducible rfl
      rotate_left
      · simp only [Act.put, List.setIfInBounds_toArray, List.set_cons_zero, List.set_cons_succ, i64_w, i32_w]
        rfl
      refine take_ (i := 4) (N := some 82) (v := ?_) (a' := ?_) #[true, true, true, true, true, true, false, false, true, false, false] rfl rfl (by kernel_rfl) (fun _ _ _ h => h) (Or.inl ⟨by rfl, ?_⟩) hHeld ?_ ?_
      rotate_left
      · rintro w' ⟨s0, s1, s2, s3, s4, s5, s6, s7, s8, s9, s10, s11, s12, s13⟩
        go_simp
        with_reducible rfl
      rotate_left
      · simp only [Act.put, List.setIfInBounds_toArray, List.set_cons_zero, List.set_cons_succ, i64_w, i32_w]
        rfl
      refine take_ (i := 6) (N := some 84) (v := ?_) (a' := ?_) #[true, true, true, true, true, true, true, false, true, false, false] rfl rfl (by kernel_rfl) (fun _ _ _ h => h) (Or.inl ⟨by rfl, ?_⟩) hHeld ?_ ?_
      rotate_left
      · rintro w' ⟨s0, s1, s2, s3, s4, s5, s6, s7, s8, s9, s10, s11, s12, s13⟩
        go_simp
        with_reducible rfl
      rotate_left
      · simp only [Act.put, List.setIfInBounds_toArray, List.set_cons_zero, List.set_cons_succ, i64_w, i32_w]
        rfl
      refine take_ (i := 9) (N := some 87) (v := ?_) (a' := ?_) #[true, true, true, true, true, true, true, false, true, true, false] rfl rfl (by kernel_rfl) (fun _ _ _ h => h) (Or.inl ⟨by rfl, ?_⟩) hHeld ?_ ?_
      rotate_left
      · rintro w' ⟨s0, s1, s2, s3, s4, s5, s6, s7, s8, s9, s10, s11, s12, s13⟩
        go_simp
        with_reducible rfl
      rotate_left
      · simp only [Act.put, List.setIfInBounds_toArray, List.set_cons_zero, List.set_cons_succ, i64_w, i32_w]
        rfl
      refine one_ (i := 7) (N := some 85) #[true, true, true, true, true, true, true, true, true, true, false] rfl rfl (by kernel_rfl) (by decide) (fun K hK => ?_)
      refine goes_ Try.func52 (by kernel_rfl) rfl #[.agg #[.int .u64 p.f0, .int .i64 p.f1, .int .u64 p.f2, .bool p.f3.f0, .bool p.f3.f1, .bool p.f3.f2, .bool p.f3.f3, .bool p.f3.f4, .bool p.f3.f5, .bool p.f4, .bool p.f5], .int .u64 (av : Int)] (by rfl) rfl rfl (by (try simp only [List.map_toArray, List.map_cons, List.map_nil]); first | done | rfl) ?_
      refine (model_spotOf.calls p.f0 p.f1 p.f2 p.f3.f0 p.f3.f1 p.f3.f2 p.f3.f3 p.f3.f4 p.f3.f5 p.f4 p.f5 (av : Int) _ _ _ HSF.out).mono ?_
      rintro e w11 ⟨rfl, hbel⟩
      refine ⟨_, rfl, ?_⟩
      have hb11 := (Below.refl _ w10).drew.trans hbel
      have HB11 := Aside0.mk hb11
      obtain ⟨ob2, hrun2, hmo2⟩ := (HMO.out.below hb11).set_byte HRG.out HOF.out HBY.out.1 HBY.out.2
      unfold spv at hrun2
      have HMO2 := Aside0.mk hmo2
      clear hbel hb11 hmo2
      refine hK.out _ _ (HH.out _ HB11.out) (fun hHeld => ?_)
      clear hK K
      refine norm_ (a' := ?_) ?_ ?_
      rotate_left
      · show Act.put _ (some 85) _ = _
        simp only [Act.put, List.setIfInBounds_toArray, List.set_cons_zero, List.set_cons_succ, i64_w, i32_w]
        rfl
      refine last_ (i := 10) (N := none) #[true, true, true, true, true, true, true, true, true, true, true] rfl rfl (by kernel_rfl) (by decide) (fun K hK => ?_)
      refine skip_ (w1 := _) (by rfl) rfl (run_mapUpdate rfl rfl rfl rfl hrun2) ?_
      refine hK.out _ _ ?_
      clear hK K
      refine done_ (by kernel_rfl) ?_
      (try simp only [Exit.inBlock, Exit.then])
      clear hHeld hrun2
      have hnZ : D + 1 ∉ [B, pm, bm] := fun hm => by have := HLT.out _ hm; omega
      have hbm : D + 1 ≠ bm := fun e => hnZ (by rw [e]; simp)
      have hz12 := (sb_other (W := w11) (b := bm) ob2 hbm).trans (blk_below HZ10.out HB11.out)
      have HV12 := Aside0.mk (((HV.out.trans (S' := []) (Mv.of_below HB11.out) (fun _ hk => by simp at hk)) : Mv [B, pm, bm] w w11).setBlock (b := bm) (.inl (by simp)) ob2)
      generalize ChangeMaps.setBlock w11 bm ob2 = w12 at *
      have HNZ := Aside0.mk hnZ
      obtain ⟨z0, z1, z2⟩ := cells3 hz12
      have y0 := blk_frozen hz12 0
      have y1 := blk_frozen hz12 1
      have y2 := blk_frozen hz12 2
      have HZ12 := Aside0.mk hz12
      clear hz12 hnZ hbm
      go_wp2_with fail
      rw [set3 HZ12.out]
      refine bodyPost_ret (results_cell_row rfl _ _ (D + 1) 42 _ (0, 0) _ rfl (sb_same HZ12.out _) Try.underlying42 rfl (by kernel_rfl)) rfl ?_
      rw [HR1.out, HP.out]
      exact ⟨rfl, HMO2.out.move (fun k hk => sb_other _ (fun e => HNZ.out (e ▸ hk))), HV12.out.setBlock (.inr (by omega)) _⟩
    · have hr := HR.out
      rw [if_neg hak1] at hr
      have HR1 := Aside0.mk hr
      clear hr
      have hb1 : (o.ak == 1) = false := beq_eq_false_iff_ne.2 hak1
      have hb2 : (o.ak != 1) = true := by simp [hak1]
      have HAK1 := Aside0.mk hak1
      clear hak1
      go_upto_region 15 with fail
      clear hb1 hb2 c0
      have HH := Aside0.mk (show ∀ W, Below w10.heap.size w10 W → (W.cell? ⟨B, 2, none⟩ = some (.map (some bm)) ∧ W.cell? ⟨D + 1 + 1, 2, none⟩ = some (.int .u64 (av : Int)) ∧ W.cell? ⟨G, 0, none⟩ = some (.int .u64 p.f0) ∧ W.cell? ⟨G, 1, none⟩ = some (.int .i64 p.f1) ∧ W.cell? ⟨G, 2, none⟩ = some (.int .u64 p.f2) ∧ W.cell? ⟨G, 3, none⟩ = some (.bool p.f3.f0) ∧ W.cell? ⟨G, 4, none⟩ = some (.bool p.f3.f1) ∧ W.cell? ⟨G, 5, none⟩ = some (.bool p.f3.f2) ∧ W.cell? ⟨G, 6, none⟩ = some (.bool p.f3.f3) ∧ W.cell? ⟨G, 7, none⟩ = some (.bool p.f3.f4) ∧ W.cell? ⟨G, 8, none⟩ = some (.bool p.f3.f5) ∧ W.cell? ⟨G, 9, none⟩ = some (.bool p.f4) ∧ W.cell? ⟨G, 10, none⟩ = some (.bool p.f5) ∧ (Instr.lookup 73 (.map (some bm)) (.agg #[.int .i64 x.f1.f2, .int .u64 ((offN x av : Nat) : Int)]) false).run Try.prog W = .ok (.int .u8 (getB s.by_ x.f1.f2 ((offN x av : Nat) : Int))) W) from fun W hb => by
        obtain ⟨-, -, m2, -⟩ := (HMO.out.below hb).cells
        obtain ⟨-, -, c2⟩ := cells3 (blk_below HL10.out hb)
        rw [HOV.out] at c2
        obtain ⟨p0, p1, p2, p3, p4, p5, p6, p7, p8, p9, p10⟩ := cells11 (blk_below HP10.out hb)
        exact ⟨m2, c2, p0, p1, p2, p3, p4, p5, p6, p7, p8, p9, p10, (HMO.out.below hb).look_b HRG.out HOF.out⟩)
      refine start_ (n := 11) (S := fun w' => w'.cell? ⟨B, 2, none⟩ = some (.map (some bm)) ∧ w'.cell? ⟨D + 1 + 1, 2, none⟩ = some (.int .u64 (av : Int)) ∧ w'.cell? ⟨G, 0, none⟩ = some (.int .u64 p.f0) ∧ w'.cell? ⟨G, 1, none⟩ = some (.int .i64 p.f1) ∧ w'.cell? ⟨G, 2, none⟩ = some (.int .u64 p.f2) ∧ w'.cell? ⟨G, 3, none⟩ = some (.bool p.f3.f0) ∧ w'.cell? ⟨G, 4, none⟩ = some (.bool p.f3.f1) ∧ w'.cell? ⟨G, 5, none⟩ = some (.bool p.f3.f2) ∧ w'.cell? ⟨G, 6, none⟩ = some (.bool p.f3.f3) ∧ w'.cell? ⟨G, 7, none⟩ = some (.bool p.f3.f4) ∧ w'.cell? ⟨G, 8, none⟩ = some (.bool p.f3.f5) ∧ w'.cell? ⟨G, 9, none⟩ = some (.bool p.f4) ∧ w'.cell? ⟨G, 10, none⟩ = some (.bool p.f5) ∧ (Instr.lookup 73 (.map (some bm)) (.agg #[.int .i64 x.f1.f2, .int .u64 ((offN x av : Nat) : Int)]) false).run Try.prog w' = .ok (.int .u8 (getB s.by_ x.f1.f2 ((offN x av : Nat) : Int))) w') (ds := [10]) #[false, false, false, false, false, false, false, false, false, false, false] (by kernel_rfl) rfl rfl (by first | exact HH.out _ (Below.refl _ _) | exact HH.out _ (Below.refl _ _).drew) (fun hHeld => ?_)
      refine pure_ (i := 0) (N := some 68) (v := ?_) (a' := ?_) #[true, false, false, false, false, false, false, false, false, false, false] rfl rfl (by kernel_rfl) (fun _ _ _ h => h) (Or.inl ⟨by rfl, ?_⟩) ?_ ?_
      rotate_left
      · intro w'
        go_simp
        with_reducible rfl
      rotate_left
      · simp only [Act.put, List.setIfInBounds_toArray, List.set_cons_zero, List.set_cons_succ, i64_w, i32_w]
        rfl
      refine pure_ (i := 1) (N := some 69) (v := ?_) (a' := ?_) #[true, true, false, false, false, false, false, false, false, false, false] rfl rfl (by kernel_rfl) (fun _ _ _ h => h) (Or.inl ⟨by rfl, ?_⟩) ?_ ?_
      rotate_left
      · intro w'
        go_simp
        with_reducible rfl
      rotate_left
      · simp only [Act.put, List.setIfInBounds_toArray, List.set_cons_zero, List.set_cons_succ, i64_w, i32_w]
        rfl
      refine pure_ (i := 2) (N := some 70) (v := ?_) (a' := ?_) #[true, true, true, false, false, false, false, false, false, false, false] rfl rfl (by kernel_rfl) (fun _ _ _ h => h) (Or.inl ⟨by rfl, ?_⟩) ?_ ?_
      rotate_left
      · intro w'
        go_simp
        with_reducible rfl
      rotate_left
      · simp only [Act.put, List.setIfInBounds_toArray, List.set_cons_zero, List.set_cons_succ, i64_w, i32_w]
        rfl
      refine pure_ (i := 5) (N := some 73) (v := ?_) (a' := ?_) #[true, true, true, false, false, true, false, false, false, false, false] rfl rfl (by kernel_rfl) (fun _ _ _ h => h) (Or.inl ⟨by rfl, ?_⟩) ?_ ?_
      rotate_left
      · intro w'
        go_simp
        with_reducible rfl
      rotate_left
      · simp only [Act.put, List.setIfInBounds_toArray, List.set_cons_zero, List.set_cons_succ, i64_w, i32_w]
        rfl
      refine take_ (i := 3) (N := some 71) (v := ?_) (a' := ?_) #[true, true, true, true, false, true, false, false, false, false, false] rfl rfl (by kernel_rfl) (fun _ _ _ h => h) (Or.inl ⟨by rfl, ?_⟩) hHeld ?_ ?_
      rotate_left
      · rintro w' ⟨s0, s1, s2, s3, s4, s5, s6, s7, s8, s9, s10, s11, s12, s13⟩
        go_simp
        with_reducible rfl
      rotate_left
      · simp only [Act.put, List.setIfInBounds_toArray, List.set_cons_zero, List.set_cons_succ, i64_w, i32_w]
        rfl
      refine take_ (i := 4) (N := some 72) (v := ?_) (a' := ?_) #[true, true, true, true, true, true, false, false, false, false, false] rfl rfl (by kernel_rfl) (fun _ _ _ h => h) (Or.inl ⟨by rfl, ?_⟩) hHeld ?_ ?_
      rotate_left
      · rintro w' ⟨s0, s1, s2, s3, s4, s5, s6, s7, s8, s9, s10, s11, s12, s13⟩
        go_simp
        with_reducible rfl
      rotate_left
      · simp only [Act.put, List.setIfInBounds_toArray, List.set_cons_zero, List.set_cons_succ, i64_w, i32_w]
        rfl
      refine take_ (i := 6) (N := some 74) (v := ?_) (a' := ?_) #[true, true, true, true, true, true, true, false, false, false, false] rfl rfl (by kernel_rfl) (fun _ _ _ h => h) (Or.inl ⟨by rfl, ?_⟩) hHeld ?_ ?_
      rotate_left
      · rintro w' ⟨s0, s1, s2, s3, s4, s5, s6, s7, s8, s9, s10, s11, s12, s13⟩
        go_simp
        with_reducible rfl
      rotate_left
      · simp only [Act.put, List.setIfInBounds_toArray, List.set_cons_zero, List.set_cons_succ, i64_w, i32_w]
        rfl
      refine one_ (i := 7) (N := some 75) #[true, true, true, true, true, true, true, true, false, false, false] rfl rfl (by kernel_rfl) (by decide) (fun K hK => ?_)
      refine goes_ Try.func52 (by kernel_rfl) rfl #[.agg #[.int .u64 p.f0, .int .i64 p.f1, .int .u64 p.f2, .bool p.f3.f0, .bool p.f3.f1, .bool p.f3.f2, .bool p.f3.f3, .bool p.f3.f4, .bool p.f3.f5, .bool p.f4, .bool p.f5], .int .u64 (av : Int)] (by rfl) rfl rfl (by (try simp only [List.map_toArray, List.map_cons, List.map_nil]); first | done | rfl) ?_
      refine (model_spotOf.calls p.f0 p.f1 p.f2 p.f3.f0 p.f3.f1 p.f3.f2 p.f3.f3 p.f3.f4 p.f3.f5 p.f4 p.f5 (av : Int) _ _ _ HSF.out).mono ?_
      rintro e w11 ⟨rfl, hbel⟩
      refine ⟨_, rfl, ?_⟩
      have hb11 := (Below.refl _ w10).drew.trans hbel
      have HB11 := Aside0.mk hb11
      have HZ11 := Aside0.mk (blk_below HZ10.out hb11)
      clear hbel hb11
      refine hK.out _ _ (HH.out _ HB11.out) (fun hHeld => ?_)
      clear hK K
      refine norm_ (a' := ?_) ?_ ?_
      rotate_left
      · show Act.put _ (some 75) _ = _
        simp only [Act.put, List.setIfInBounds_toArray, List.set_cons_zero, List.set_cons_succ, i64_w, i32_w]
        rfl
      refine take_ (i := 8) (N := some 76) (v := ?_) (a' := ?_) #[true, true, true, true, true, true, true, true, true, false, false] rfl rfl (by kernel_rfl) (fun _ _ _ h => h) (Or.inl ⟨by rfl, ?_⟩) hHeld ?_ ?_
      rotate_left
      · rintro w' ⟨s0, s1, s2, s3, s4, s5, s6, s7, s8, s9, s10, s11, s12, s13⟩
        go_simp
        with_reducible rfl
      rotate_left
      · simp only [Act.put, List.setIfInBounds_toArray, List.set_cons_zero, List.set_cons_succ, i64_w, i32_w]
        rfl
      refine pure_ (i := 9) (N := some 77) (v := ?_) (a' := ?_) #[true, true, true, true, true, true, true, true, true, true, false] rfl rfl (by kernel_rfl) (fun _ _ _ h => h) (Or.inl ⟨by rfl, ?_⟩) ?_ ?_
      rotate_left
      · intro w'
        go_simp
        with_reducible rfl
      rotate_left
      · simp only [Act.put, List.setIfInBounds_toArray, List.set_cons_zero, List.set_cons_succ, i64_w, i32_w]
        rfl
      refine last_ (i := 10) (N := none) #[true, true, true, true, true, true, true, true, true, true, true] rfl rfl (by kernel_rfl) (by decide) (fun K hK => ?_)
      refine skip_ (w1 := _) (by rfl) rfl (run_store_reply rfl rfl rfl HZ11.out) ?_
      refine hK.out _ _ ?_
      clear hK K
      refine done_ (by kernel_rfl) ?_
      (try simp only [Exit.inBlock, Exit.then])
      clear hHeld
      have hnZ : D + 1 ∉ [B, pm, bm] := fun hm => by have := HLT.out _ hm; omega
      have HNZ := Aside0.mk hnZ
      have HV11 := Aside0.mk ((HV.out.trans (S' := []) (Mv.of_below HB11.out) (fun _ hk => by simp at hk)) : Mv [B, pm, bm] w w11)
      have HM11 := Aside0.mk (HMO.out.below HB11.out)
      go_wp2_with fail
      refine bodyPost_ret (results_cell_row rfl _ _ (D + 1) 42 _ (0, 0) _ rfl (sb_same HZ11.out _) Try.underlying42 rfl (by kernel_rfl)) rfl ?_
      rw [HR1.out, HP.out]
      exact ⟨rfl, HM11.out.move (fun k hk => sb_other _ (fun e => HNZ.out (e ▸ hk))), HV11.out.setBlock (.inr (by omega)) _⟩
  · rw [hf5] at p5
    refine start_ (n := 11) (S := fun w' => w'.cell? ⟨G, 10, none⟩ = some (.bool false) ∧ w'.cell? ⟨D + 1 + 1, 0, none⟩ = some (.int .i64 o.ak)) (ds := [10]) #[false, false, false, false, false, false, false, false, false, false, false] (by kernel_rfl) rfl rfl ⟨p5, c0⟩ (fun hHeld => ?_)
    refine pure_ (i := 0) (N := some 50) (v := ?_) (a' := ?_) #[true, false, false, false, false, false, false, false, false, false, false] rfl rfl (by kernel_rfl) (fun _ _ _ h => h) (Or.inl ⟨by rfl, ?_⟩) ?_ ?_
    rotate_left
    · intro w'
      go_simp
      with_reducible rfl
    rotate_left
    · simp only [Act.put, List.setIfInBounds_toArray, List.set_cons_zero, List.set_cons_succ, i64_w, i32_w]
      rfl
    refine take_ (i := 1) (N := some 51) (v := ?_) (a' := ?_) #[true, true, false, false, false, false, false, false, false, false, false] rfl rfl (by kernel_rfl) (fun _ _ _ h => h) (Or.inl ⟨by rfl, ?_⟩) hHeld ?_ ?_
    rotate_left
    · rintro w' ⟨s0, s1⟩
      go_simp
      with_reducible rfl
    rotate_left
    · simp only [Act.put, List.setIfInBounds_toArray, List.set_cons_zero, List.set_cons_succ, i64_w, i32_w]
      rfl
    refine pure_ (i := 2) (N := some 52) (v := ?_) (a' := ?_) #[true, true, true, false, false, false, false, false, false, false, false] rfl rfl (by kernel_rfl) (fun _ _ _ h => h) (Or.inl ⟨by rfl, ?_⟩) ?_ ?_
    rotate_left
    · intro w'
      go_simp
      with_reducible rfl
    rotate_left
    · simp only [Act.put, List.setIfInBounds_toArray, List.set_cons_zero, List.set_cons_succ, i64_w, i32_w]
      rfl
    refine pure_ (i := 3) (N := some 53) (v := ?_) (a' := ?_) #[true, true, true, true, false, false, false, false, false, false, false] rfl rfl (by kernel_rfl) (fun _ _ _ h => h) (Or.inl ⟨by rfl, ?_⟩) ?_ ?_
    rotate_left
    · intro w'
      go_simp
      with_reducible rfl
    rotate_left
    · simp only [Act.put, List.setIfInBounds_toArray, List.set_cons_zero, List.set_cons_succ, i64_w, i32_w]
      rfl
    refine pure_ (i := 7) (N := some 57) (v := ?_) (a' := ?_) #[true, true, true, true, false, false, false, true, false, false, false] rfl rfl (by kernel_rfl) (fun _ _ _ h => h) (Or.inl ⟨by rfl, ?_⟩) ?_ ?_
    rotate_left
    · intro w'
      go_simp
      with_reducible rfl
    rotate_left
    · simp only [Act.put, List.setIfInBounds_toArray, List.set_cons_zero, List.set_cons_succ, i64_w, i32_w]
      rfl
    refine take_ (i := 4) (N := some 54) (v := ?_) (a' := ?_) #[true, true, true, true, true, false, false, true, false, false, false] rfl rfl (by kernel_rfl) (fun _ _ _ h => h) (Or.inl ⟨by rfl, ?_⟩) hHeld ?_ ?_
    rotate_left
    · rintro w' ⟨s0, s1⟩
      go_simp
      with_reducible rfl
    rotate_left
    · simp only [Act.put, List.setIfInBounds_toArray, List.set_cons_zero, List.set_cons_succ, i64_w, i32_w]
      rfl
    refine pure_ (i := 5) (N := some 55) (v := ?_) (a' := ?_) #[true, true, true, true, true, true, false, true, false, false, false] rfl rfl (by kernel_rfl) (fun _ _ _ h => h) (Or.inl ⟨by rfl, ?_⟩) ?_ ?_
    rotate_left
    · intro w'
      go_simp
      with_reducible rfl
    rotate_left
    · simp only [Act.put, List.setIfInBounds_toArray, List.set_cons_zero, List.set_cons_succ, i64_w, i32_w]
      rfl
    refine pure_ (i := 6) (N := some 56) (v := ?_) (a' := ?_) #[true, true, true, true, true, true, true, true, false, false, false] rfl rfl (by kernel_rfl) (fun _ _ _ h => h) (Or.inl ⟨by rfl, ?_⟩) ?_ ?_
    rotate_left
    · intro w'
      go_simp
      with_reducible rfl
    rotate_left
    · simp only [Act.put, List.setIfInBounds_toArray, List.set_cons_zero, List.set_cons_succ, i64_w, i32_w]
      rfl
    refine one_ (i := 8) (N := none) #[true, true, true, true, true, true, true, true, true, false, false] rfl rfl (by kernel_rfl) (by decide) (fun K hK => ?_)
    refine skip_ (w1 := ?_) (by rfl) rfl ?_ ?_
    rotate_left
    · go_simp
      with_reducible rfl
    refine hK.out _ _ (by obtain ⟨s0, s1⟩ := hHeld; constructor <;> go_simp) (fun hHeld => ?_)
    clear hK K
    refine pure_ (i := 9) (N := some 58) (v := ?_) (a' := ?_) #[true, true, true, true, true, true, true, true, true, true, false] rfl rfl (by kernel_rfl) (fun _ _ _ h => h) (Or.inl ⟨by rfl, ?_⟩) ?_ ?_
    rotate_left
    · intro w'
      go_simp
      with_reducible rfl
    rotate_left
    · simp only [Act.put, List.setIfInBounds_toArray, List.set_cons_zero, List.set_cons_succ, i64_w, i32_w]
      rfl
    refine last_ (i := 10) (N := none) #[true, true, true, true, true, true, true, true, true, true, true] rfl rfl (by kernel_rfl) (by decide) (fun K hK => ?_)
    refine skip_ (w1 := ?_) (by rfl) rfl ?_ ?_
    rotate_left
    · go_simp
      with_reducible rfl
    refine hK.out _ _ ?_
    clear hK K
    refine done_ (by kernel_rfl) ?_
    (try simp only [Exit.inBlock, Exit.then])
    have s9 := setCell_block (t := 50) (i := 9) (cs' := #[.int .u64 x.f1.f0, .int .i64 x.f1.f1, .int .u64 x.f1.f2, .bool x.f1.f3.f0, .bool x.f1.f3.f1, .bool x.f1.f3.f2, .bool x.f1.f3.f3, .bool x.f1.f3.f4, .bool x.f1.f3.f5, .bool true, Value.bool false]) HP7.out (.bool true) (by rw [hf5]; rfl)
    have s10 := sb_put (t := 50) (i := 10) (cs := #[.int .u64 x.f1.f0, .int .i64 x.f1.f1, .int .u64 x.f1.f2, .bool x.f1.f3.f0, .bool x.f1.f3.f1, .bool x.f1.f3.f2, .bool x.f1.f3.f3, .bool x.f1.f3.f4, .bool x.f1.f3.f5, .bool true, Value.bool false]) (cs' := #[.int .u64 x.f1.f0, .int .i64 x.f1.f1, .int .u64 x.f1.f2, .bool x.f1.f3.f0, .bool x.f1.f3.f1, .bool x.f1.f3.f2, .bool x.f1.f3.f3, .bool x.f1.f3.f4, .bool x.f1.f3.f5, .bool true, .bool (x.f1.f5 || (o.ak == 1))]) HP7.out (.bool (o.ak == 1)) (by rw [hf5]; rfl)
    rw [s9, s10]
    clear s9 s10
    have h8b := sb_same HP7.out (.cells #[.int .u64 x.f1.f0, .int .i64 x.f1.f1, .int .u64 x.f1.f2, .bool x.f1.f3.f0, .bool x.f1.f3.f1, .bool x.f1.f3.f2, .bool x.f1.f3.f3, .bool x.f1.f3.f4, .bool x.f1.f3.f5, .bool true, .bool (x.f1.f5 || (o.ak == 1))] 50 (0, 0))
    have h8y := (sb_other (W := w7) (b := G) (k := G + 1) (.cells #[.int .u64 x.f1.f0, .int .i64 x.f1.f1, .int .u64 x.f1.f2, .bool x.f1.f3.f0, .bool x.f1.f3.f1, .bool x.f1.f3.f2, .bool x.f1.f3.f3, .bool x.f1.f3.f4, .bool x.f1.f3.f5, .bool true, .bool (x.f1.f5 || (o.ak == 1))] 50 (0, 0)) (by omega)).trans HY7.out
    have h8l := (sb_other (W := w7) (b := G) (k := D + 1 + 1) (.cells #[.int .u64 x.f1.f0, .int .i64 x.f1.f1, .int .u64 x.f1.f2, .bool x.f1.f3.f0, .bool x.f1.f3.f1, .bool x.f1.f3.f2, .bool x.f1.f3.f3, .bool x.f1.f3.f4, .bool x.f1.f3.f5, .bool true, .bool (x.f1.f5 || (o.ak == 1))] 50 (0, 0)) hgd).trans HL7.out
    have h8z := (sb_other (W := w7) (b := G) (k := D + 1) (.cells #[.int .u64 x.f1.f0, .int .i64 x.f1.f1, .int .u64 x.f1.f2, .bool x.f1.f3.f0, .bool x.f1.f3.f1, .bool x.f1.f3.f2, .bool x.f1.f3.f3, .bool x.f1.f3.f4, .bool x.f1.f3.f5, .bool true, .bool (x.f1.f5 || (o.ak == 1))] 50 (0, 0)) (by have := HGD.out; omega)).trans HZ7.out
    have h8k := (sb_other (W := w7) (b := G) (k := D) (.cells #[.int .u64 x.f1.f0, .int .i64 x.f1.f1, .int .u64 x.f1.f2, .bool x.f1.f3.f0, .bool x.f1.f3.f1, .bool x.f1.f3.f2, .bool x.f1.f3.f3, .bool x.f1.f3.f4, .bool x.f1.f3.f5, .bool true, .bool (x.f1.f5 || (o.ak == 1))] 50 (0, 0)) (by have := HGD.out; omega)).trans HK7.out
    have h8w := below_sb HB7.out (g := G) (by have := HGD.out; omega) (.cells #[.int .u64 x.f1.f0, .int .i64 x.f1.f1, .int .u64 x.f1.f2, .bool x.f1.f3.f0, .bool x.f1.f3.f1, .bool x.f1.f3.f2, .bool x.f1.f3.f3, .bool x.f1.f3.f4, .bool x.f1.f3.f5, .bool true, .bool (x.f1.f5 || (o.ak == 1))] 50 (0, 0))
    generalize ChangeMaps.setBlock w7 G (.cells #[.int .u64 x.f1.f0, .int .i64 x.f1.f1, .int .u64 x.f1.f2, .bool x.f1.f3.f0, .bool x.f1.f3.f1, .bool x.f1.f3.f2, .bool x.f1.f3.f3, .bool x.f1.f3.f4, .bool x.f1.f3.f5, .bool true, .bool (x.f1.f5 || (o.ak == 1))] 50 (0, 0)) = w8 at *
    obtain ⟨p, hp⟩ : ∃ p : Pg, accP x.f1 o.ak = p := ⟨_, rfl⟩
    have HP := Aside0.mk hp
    have h8p : (w8.drew).heap[G]? = some (.cells #[.int .u64 p.f0, .int .i64 p.f1, .int .u64 p.f2, .bool p.f3.f0, .bool p.f3.f1, .bool p.f3.f2, .bool p.f3.f3, .bool p.f3.f4, .bool p.f3.f5, .bool p.f4, .bool p.f5] 50 (0, 0)) := by subst hp; exact h8b
    clear h8b hp p4 p5 f4 f5 c0 hHeld HP7
    have HP8 := Aside0.mk h8p
    have HY8 := Aside0.mk (show (w8.drew).heap[G + 1]? = _ from h8y)
    have HL8 := Aside0.mk (show (w8.drew).heap[D + 1 + 1]? = _ from h8l)
    have HZ8 := Aside0.mk (show (w8.drew).heap[D + 1]? = _ from h8z)
    have HK8 := Aside0.mk (show (w8.drew).heap[D]? = _ from h8k)
    have HB8 := Aside0.mk h8w.drew
    clear h8p h8y h8l h8z h8k h8w HY7 HL7 HZ7 HK7 HB7
    generalize w8.drew = w9 at *
    go_upto_region 13 with fail
    have hm9 := HM.out.below HB8.out
    obtain ⟨-, m1, -, -⟩ := hm9.cells
    obtain ⟨k0, k1, k2⟩ := cells3 HY8.out
    obtain ⟨p0, p1, p2, p3, p4, p5, p6, p7, p8, p9, p10⟩ := cells11 HP8.out
    obtain ⟨ob, hrun, hmo⟩ := (hm9.below (Below.refl _ w9).drew).set_page HW.out HXI.out p (by rw [← HP.out]; rfl) (by rw [← HP.out]; rfl)
    have HMO := Aside0.mk hmo
    unfold kyv pgv at hrun
    clear hm9 hmo
    refine start_ (n := 7) (S := fun w' => w'.cell? ⟨B, 1, none⟩ = some (.map (some pm)) ∧ w'.cell? ⟨G + 1, 0, none⟩ = some (.int .i64 x.f0) ∧ w'.cell? ⟨G + 1, 1, none⟩ = some (.int .u64 x.f1.f0) ∧ w'.cell? ⟨G + 1, 2, none⟩ = some (.int .i64 x.f1.f1) ∧ w'.cell? ⟨G, 0, none⟩ = some (.int .u64 p.f0) ∧ w'.cell? ⟨G, 1, none⟩ = some (.int .i64 p.f1) ∧ w'.cell? ⟨G, 2, none⟩ = some (.int .u64 p.f2) ∧ w'.cell? ⟨G, 3, none⟩ = some (.bool p.f3.f0) ∧ w'.cell? ⟨G, 4, none⟩ = some (.bool p.f3.f1) ∧ w'.cell? ⟨G, 5, none⟩ = some (.bool p.f3.f2) ∧ w'.cell? ⟨G, 6, none⟩ = some (.bool p.f3.f3) ∧ w'.cell? ⟨G, 7, none⟩ = some (.bool p.f3.f4) ∧ w'.cell? ⟨G, 8, none⟩ = some (.bool p.f3.f5) ∧ w'.cell? ⟨G, 9, none⟩ = some (.bool p.f4) ∧ w'.cell? ⟨G, 10, none⟩ = some (.bool p.f5)) (ds := [6]) #[false, false, false, false, false, false, false] (by kernel_rfl) rfl rfl ⟨m1, k0, k1, k2, p0, p1, p2, p3, p4, p5, p6, p7, p8, p9, p10⟩ (fun hHeld => ?_)
    refine pure_ (i := 0) (N := some 59) (v := ?_) (a' := ?_) #[true, false, false, false, false, false, false] rfl rfl (by kernel_rfl) (fun _ _ _ h => h) (Or.inl ⟨by rfl, ?_⟩) ?_ ?_
    rotate_left
    · intro w'
      go_simp
      with_reducible rfl
    rotate_left
    · simp only [Act.put, List.setIfInBounds_toArray, List.set_cons_zero, List.set_cons_succ, i64_w, i32_w]
      rfl
    refine pure_ (i := 1) (N := some 60) (v := ?_) (a' := ?_) #[true, true, false, false, false, false, false] rfl rfl (by kernel_rfl) (fun _ _ _ h => h) (Or.inl ⟨by rfl, ?_⟩) ?_ ?_
    rotate_left
    · intro w'
      go_simp
      with_reducible rfl
    rotate_left
    · simp only [Act.put, List.setIfInBounds_toArray, List.set_cons_zero, List.set_cons_succ, i64_w, i32_w]
      rfl
    refine pure_ (i := 2) (N := some 61) (v := ?_) (a' := ?_) #[true, true, true, false, false, false, false] rfl rfl (by kernel_rfl) (fun _ _ _ h => h) (Or.inl ⟨by rfl, ?_⟩) ?_ ?_
    rotate_left
    · intro w'
      go_simp
      with_reducible rfl
    rotate_left
    · simp only [Act.put, List.setIfInBounds_toArray, List.set_cons_zero, List.set_cons_succ, i64_w, i32_w]
      rfl
    refine take_ (i := 3) (N := some 62) (v := ?_) (a' := ?_) #[true, true, true, true, false, false, false] rfl rfl (by kernel_rfl) (fun _ _ _ h => h) (Or.inl ⟨by rfl, ?_⟩) hHeld ?_ ?_
    rotate_left
    · rintro w' ⟨s0, s1, s2, s3, s4, s5, s6, s7, s8, s9, s10, s11, s12, s13, s14⟩
      go_simp
      with_reducible rfl
    rotate_left
    · simp only [Act.put, List.setIfInBounds_toArray, List.set_cons_zero, List.set_cons_succ, i64_w, i32_w]
      rfl
    refine take_ (i := 4) (N := some 63) (v := ?_) (a' := ?_) #[true, true, true, true, true, false, false] rfl rfl (by kernel_rfl) (fun _ _ _ h => h) (Or.inl ⟨by rfl, ?_⟩) hHeld ?_ ?_
    rotate_left
    · rintro w' ⟨s0, s1, s2, s3, s4, s5, s6, s7, s8, s9, s10, s11, s12, s13, s14⟩
      go_simp
      with_reducible rfl
    rotate_left
    · simp only [Act.put, List.setIfInBounds_toArray, List.set_cons_zero, List.set_cons_succ, i64_w, i32_w]
      rfl
    refine take_ (i := 5) (N := some 64) (v := ?_) (a' := ?_) #[true, true, true, true, true, true, false] rfl rfl (by kernel_rfl) (fun _ _ _ h => h) (Or.inl ⟨by rfl, ?_⟩) hHeld ?_ ?_
    rotate_left
    · rintro w' ⟨s0, s1, s2, s3, s4, s5, s6, s7, s8, s9, s10, s11, s12, s13, s14⟩
      go_simp
      with_reducible rfl
    rotate_left
    · simp only [Act.put, List.setIfInBounds_toArray, List.set_cons_zero, List.set_cons_succ, i64_w, i32_w]
      rfl
    refine last_ (i := 6) (N := none) #[true, true, true, true, true, true, true] rfl rfl (by kernel_rfl) (by decide) (fun K hK => ?_)
    refine skip_ (w1 := _) (by rfl) rfl (run_mapUpdate rfl rfl rfl rfl hrun) ?_
    refine hK.out _ _ ?_
    clear hK K
    refine done_ (by kernel_rfl) ?_
    (try simp only [Exit.inBlock, Exit.then])
    clear m1 k0 k1 k2 p0 p1 p2 p3 p4 p5 p6 p7 p8 p9 p10 hHeld hrun
    have hpm : pm < D := by have := HLT.out pm (by simp); omega
    have h10p := (sb_other (W := w9.drew) (b := pm) (k := G) ob (by have := HGD.out; omega)).trans (show (w9.drew).heap[G]? = _ from HP8.out)
    have h10l := (sb_other (W := w9.drew) (b := pm) (k := D + 1 + 1) ob (by omega)).trans (show (w9.drew).heap[D + 1 + 1]? = _ from HL8.out)
    have h10z := (sb_other (W := w9.drew) (b := pm) (k := D + 1) ob (by omega)).trans (show (w9.drew).heap[D + 1]? = _ from HZ8.out)
    have h10k := (sb_other (W := w9.drew) (b := pm) (k := D) ob (by omega)).trans (show (w9.drew).heap[D]? = _ from HK8.out)
    have HV := Aside0.mk ((Mv.of_below HB8.out.drew : Mv [B, pm, bm] w _).setBlock (b := pm) (.inl (by simp)) ob)
    generalize ChangeMaps.setBlock w9.drew pm ob = w10 at *
    have HP10 := Aside0.mk h10p
    have HL10 := Aside0.mk h10l
    have HZ10 := Aside0.mk h10z
    have HK10 := Aside0.mk h10k
    obtain ⟨c0, -, -⟩ := cells3 h10l
    clear h10p h10l h10z h10k HP8 HY8 HL8 HZ8 HK8 HB8
    have hok := HW.out.ok x HX.out
    have hsf : model_spotOf.f p.f0 p.f1 p.f2 p.f3.f0 p.f3.f1 p.f3.f2 p.f3.f3 p.f3.f4 p.f3.f5 p.f4 p.f5 (av : Int) = some (x.f1.f2, ((offN x av : Nat) : Int)) := by rw [← HP.out]; exact spot_f (p := accP x.f1 o.ak) hok.pa0 hok.pa1 (off_f hok hva)
    have HSF := Aside0.mk hsf
    have h1 : W64 x.f1.f2 := ⟨by have := hok.pa0; omega, by have := hok.pa1; omega⟩
    have h2 : U64 ((offN x av : Nat) : Int) := ⟨by omega, by have := offN_lt (x := x) hva; omega⟩
    have HRG := Aside0.mk h1
    have HOF := Aside0.mk h2
    clear hsf hok h1 h2
    by_cases hak1 : o.ak = 1
    · have hr := HR.out
      rw [if_pos hak1] at hr
      have HR1 := Aside0.mk hr
      clear hr
      have hb1 : (o.ak == 1) = true := beq_iff_eq.2 hak1
      have hb2 : (o.ak != 1) = false := by simp [hak1]
      have HAK1 := Aside0.mk hak1
      clear hak1
      go_upto_region 16 with fail
      clear hb1 hb2 c0
      have HH := Aside0.mk (show ∀ W, Below w10.heap.size w10 W → (W.cell? ⟨B, 2, none⟩ = some (.map (some bm)) ∧ W.cell? ⟨D + 1 + 1, 2, none⟩ = some (.int .u64 (av : Int)) ∧ W.cell? ⟨D, 5, none⟩ = some (.int .u8 o.byte) ∧ W.cell? ⟨G, 0, none⟩ = some (.int .u64 p.f0) ∧ W.cell? ⟨G, 1, none⟩ = some (.int .i64 p.f1) ∧ W.cell? ⟨G, 2, none⟩ = some (.int .u64 p.f2) ∧ W.cell? ⟨G, 3, none⟩ = some (.bool p.f3.f0) ∧ W.cell? ⟨G, 4, none⟩ = some (.bool p.f3.f1) ∧ W.cell? ⟨G, 5, none⟩ = some (.bool p.f3.f2) ∧ W.cell? ⟨G, 6, none⟩ = some (.bool p.f3.f3) ∧ W.cell? ⟨G, 7, none⟩ = some (.bool p.f3.f4) ∧ W.cell? ⟨G, 8, none⟩ = some (.bool p.f3.f5) ∧ W.cell? ⟨G, 9, none⟩ = some (.bool p.f4) ∧ W.cell? ⟨G, 10, none⟩ = some (.bool p.f5)) from fun W hb => by
        obtain ⟨-, -, m2, -⟩ := (HMO.out.below hb).cells
        obtain ⟨-, -, c2⟩ := cells3 (blk_below HL10.out hb)
        rw [HOV.out] at c2
        obtain ⟨-, -, -, -, -, o5, -, -, -, -, -, -, -, -, -, -⟩ := cells16 (blk_below HK10.out hb)
        obtain ⟨p0, p1, p2, p3, p4, p5, p6, p7, p8, p9, p10⟩ := cells11 (blk_below HP10.out hb)
        exact ⟨m2, c2, o5, p0, p1, p2, p3, p4, p5, p6, p7, p8, p9, p10⟩)
      refine start_ (n := 11) (S := fun w' => w'.cell? ⟨B, 2, none⟩ = some (.map (some bm)) ∧ w'.cell? ⟨D + 1 + 1, 2, none⟩ = some (.int .u64 (av : Int)) ∧ w'.cell? ⟨D, 5, none⟩ = some (.int .u8 o.byte) ∧ w'.cell? ⟨G, 0, none⟩ = some (.int .u64 p.f0) ∧ w'.cell? ⟨G, 1, none⟩ = some (.int .i64 p.f1) ∧ w'.cell? ⟨G, 2, none⟩ = some (.int .u64 p.f2) ∧ w'.cell? ⟨G, 3, none⟩ = some (.bool p.f3.f0) ∧ w'.cell? ⟨G, 4, none⟩ = some (.bool p.f3.f1) ∧ w'.cell? ⟨G, 5, none⟩ = some (.bool p.f3.f2) ∧ w'.cell? ⟨G, 6, none⟩ = some (.bool p.f3.f3) ∧ w'.cell? ⟨G, 7, none⟩ = some (.bool p.f3.f4) ∧ w'.cell? ⟨G, 8, none⟩ = some (.bool p.f3.f5) ∧ w'.cell? ⟨G, 9, none⟩ = some (.bool p.f4) ∧ w'.cell? ⟨G, 10, none⟩ = some (.bool p.f5)) (ds := [10]) #[false, false, false, false, false, false, false, false, false, false, false] (by kernel_rfl) rfl rfl (by first | exact HH.out _ (Below.refl _ _) | exact HH.out _ (Below.refl _ _).drew) (fun hHeld => ?_)
      refine pure_ (i := 0) (N := some 78) (v := ?_) (a' := ?_) #[true, false, false, false, false, false, false, false, false, false, false] rfl rfl (by kernel_rfl) (fun _ _ _ h => h) (Or.inl ⟨by rfl, ?_⟩) ?_ ?_
      rotate_left
      · intro w'
        go_simp
        with_reducible rfl
      rotate_left
      · simp only [Act.put, List.setIfInBounds_toArray, List.set_cons_zero, List.set_cons_succ, i64_w, i32_w]
        rfl
      refine pure_ (i := 1) (N := some 79) (v := ?_) (a' := ?_) #[true, true, false, false, false, false, false, false, false, false, false] rfl rfl (by kernel_rfl) (fun _ _ _ h => h) (Or.inl ⟨by rfl, ?_⟩) ?_ ?_
      rotate_left
      · intro w'
        go_simp
        with_reducible rfl
      rotate_left
      · simp only [Act.put, List.setIfInBounds_toArray, List.set_cons_zero, List.set_cons_succ, i64_w, i32_w]
        rfl
      refine pure_ (i := 2) (N := some 80) (v := ?_) (a' := ?_) #[true, true, true, false, false, false, false, false, false, false, false] rfl rfl (by kernel_rfl) (fun _ _ _ h => h) (Or.inl ⟨by rfl, ?_⟩) ?_ ?_
      rotate_left
      · intro w'
        go_simp
        with_reducible rfl
      rotate_left
      · simp only [Act.put, List.setIfInBounds_toArray, List.set_cons_zero, List.set_cons_succ, i64_w, i32_w]
        rfl
      refine pure_ (i := 5) (N := some 83) (v := ?_) (a' := ?_) #[true, true, true, false, false, true, false, false, false, false, false] rfl rfl (by kernel_rfl) (fun _ _ _ h => h) (Or.inl ⟨by rfl, ?_⟩) ?_ ?_
      rotate_left
      · intro w'
        go_simp
        with_reducible rfl
      rotate_left
      · simp only [Act.put, List.setIfInBounds_toArray, List.set_cons_zero, List.set_cons_succ, i64_w, i32_w]
        rfl
      refine pure_ (i := 8) (N := some 86) (v := ?_) (a' := ?_) #[true, true, true, false, false, true, false, false, true, false, false] rfl rfl (by kernel_rfl) (fun _ _ _ h => h) (Or.inl ⟨by rfl, ?_⟩) ?_ ?_
      rotate_left
      · intro w'
        go_simp
        with_reducible rfl
      rotate_left
      · simp only [Act.put, List.setIfInBounds_toArray, List.set_cons_zero, List.set_cons_succ, i64_w, i32_w]
        rfl
      refine take_ (i := 3) (N := some 81) (v := ?_) (a' := ?_) #[true, true, true, true, false, true, false, false, true, false, false] rfl rfl (by kernel_rfl) (fun _ _ _ h => h) (Or.inl ⟨by rfl, ?_⟩) hHeld ?_ ?_
      rotate_left
      · rintro w' ⟨s0, s1, s2, s3, s4, s5, s6, s7, s8, s9, s10, s11, s12, s13⟩
        go_simp
        with_reducible rfl
      rotate_left
      · simp only [Act.put, List.setIfInBounds_toArray, List.set_cons_zero, List.set_cons_succ, i64_w, i32_w]
        rfl
      refine take_ (i := 4) (N := some 82) (v := ?_) (a' := ?_) #[true, true, true, true, true, true, false, false, true, false, false] rfl rfl (by kernel_rfl) (fun _ _ _ h => h) (Or.inl ⟨by rfl, ?_⟩) hHeld ?_ ?_
      rotate_left
      · rintro w' ⟨s0, s1, s2, s3, s4, s5, s6, s7, s8, s9, s10, s11, s12, s13⟩
        go_simp
        with_reducible rfl
      rotate_left
      · simp only [Act.put, List.setIfInBounds_toArray, List.set_cons_zero, List.set_cons_succ, i64_w, i32_w]
        rfl
      refine take_ (i := 6) (N := some 84) (v := ?_) (a' := ?_) #[true, true, true, true, true, true, true, false, true, false, false] rfl rfl (by kernel_rfl) (fun _ _ _ h => h) (Or.inl ⟨by rfl, ?_⟩) hHeld ?_ ?_
      rotate_left
      · rintro w' ⟨s0, s1, s2, s3, s4, s5, s6, s7, s8, s9, s10, s11, s12, s13⟩
        go_simp
        with_reducible rfl
      rotate_left
      · simp only [Act.put, List.setIfInBounds_toArray, List.set_cons_zero, List.set_cons_succ, i64_w, i32_w]
        rfl
      refine take_ (i := 9) (N := some 87) (v := ?_) (a' := ?_) #[true, true, true, true, true, true, true, false, true, true, false] rfl rfl (by kernel_rfl) (fun _ _ _ h => h) (Or.inl ⟨by rfl, ?_⟩) hHeld ?_ ?_
      rotate_left
      · rintro w' ⟨s0, s1, s2, s3, s4, s5, s6, s7, s8, s9, s10, s11, s12, s13⟩
        go_simp
        with_reducible rfl
      rotate_left
      · simp only [Act.put, List.setIfInBounds_toArray, List.set_cons_zero, List.set_cons_succ, i64_w, i32_w]
        rfl
      refine one_ (i := 7) (N := some 85) #[true, true, true, true, true, true, true, true, true, true, false] rfl rfl (by kernel_rfl) (by decide) (fun K hK => ?_)
      refine goes_ Try.func52 (by kernel_rfl) rfl #[.agg #[.int .u64 p.f0, .int .i64 p.f1, .int .u64 p.f2, .bool p.f3.f0, .bool p.f3.f1, .bool p.f3.f2, .bool p.f3.f3, .bool p.f3.f4, .bool p.f3.f5, .bool p.f4, .bool p.f5], .int .u64 (av : Int)] (by rfl) rfl rfl (by (try simp only [List.map_toArray, List.map_cons, List.map_nil]); first | done | rfl) ?_
      refine (model_spotOf.calls p.f0 p.f1 p.f2 p.f3.f0 p.f3.f1 p.f3.f2 p.f3.f3 p.f3.f4 p.f3.f5 p.f4 p.f5 (av : Int) _ _ _ HSF.out).mono ?_
      rintro e w11 ⟨rfl, hbel⟩
      refine ⟨_, rfl, ?_⟩
      have hb11 := (Below.refl _ w10).drew.trans hbel
      have HB11 := Aside0.mk hb11
      obtain ⟨ob2, hrun2, hmo2⟩ := (HMO.out.below hb11).set_byte HRG.out HOF.out HBY.out.1 HBY.out.2
      unfold spv at hrun2
      have HMO2 := Aside0.mk hmo2
      clear hbel hb11 hmo2
      refine hK.out _ _ (HH.out _ HB11.out) (fun hHeld => ?_)
      clear hK K
      refine norm_ (a' := ?_) ?_ ?_
      rotate_left
      · show Act.put _ (some 85) _ = _
        simp only [Act.put, List.setIfInBounds_toArray, List.set_cons_zero, List.set_cons_succ, i64_w, i32_w]
        rfl
      refine last_ (i := 10) (N := none) #[true, true, true, true, true, true, true, true, true, true, true] rfl rfl (by kernel_rfl) (by decide) (fun K hK => ?_)
      refine skip_ (w1 := _) (by rfl) rfl (run_mapUpdate rfl rfl rfl rfl hrun2) ?_
      refine hK.out _ _ ?_
      clear hK K
      refine done_ (by kernel_rfl) ?_
      (try simp only [Exit.inBlock, Exit.then])
      clear hHeld hrun2
      have hnZ : D + 1 ∉ [B, pm, bm] := fun hm => by have := HLT.out _ hm; omega
      have hbm : D + 1 ≠ bm := fun e => hnZ (by rw [e]; simp)
      have hz12 := (sb_other (W := w11) (b := bm) ob2 hbm).trans (blk_below HZ10.out HB11.out)
      have HV12 := Aside0.mk (((HV.out.trans (S' := []) (Mv.of_below HB11.out) (fun _ hk => by simp at hk)) : Mv [B, pm, bm] w w11).setBlock (b := bm) (.inl (by simp)) ob2)
      generalize ChangeMaps.setBlock w11 bm ob2 = w12 at *
      have HNZ := Aside0.mk hnZ
      obtain ⟨z0, z1, z2⟩ := cells3 hz12
      have y0 := blk_frozen hz12 0
      have y1 := blk_frozen hz12 1
      have y2 := blk_frozen hz12 2
      have HZ12 := Aside0.mk hz12
      clear hz12 hnZ hbm
      go_wp2_with fail
      rw [set3 HZ12.out]
      refine bodyPost_ret (results_cell_row rfl _ _ (D + 1) 42 _ (0, 0) _ rfl (sb_same HZ12.out _) Try.underlying42 rfl (by kernel_rfl)) rfl ?_
      rw [HR1.out, HP.out]
      exact ⟨rfl, HMO2.out.move (fun k hk => sb_other _ (fun e => HNZ.out (e ▸ hk))), HV12.out.setBlock (.inr (by omega)) _⟩
    · have hr := HR.out
      rw [if_neg hak1] at hr
      have HR1 := Aside0.mk hr
      clear hr
      have hb1 : (o.ak == 1) = false := beq_eq_false_iff_ne.2 hak1
      have hb2 : (o.ak != 1) = true := by simp [hak1]
      have HAK1 := Aside0.mk hak1
      clear hak1
      go_upto_region 15 with fail
      clear hb1 hb2 c0
      have HH := Aside0.mk (show ∀ W, Below w10.heap.size w10 W → (W.cell? ⟨B, 2, none⟩ = some (.map (some bm)) ∧ W.cell? ⟨D + 1 + 1, 2, none⟩ = some (.int .u64 (av : Int)) ∧ W.cell? ⟨G, 0, none⟩ = some (.int .u64 p.f0) ∧ W.cell? ⟨G, 1, none⟩ = some (.int .i64 p.f1) ∧ W.cell? ⟨G, 2, none⟩ = some (.int .u64 p.f2) ∧ W.cell? ⟨G, 3, none⟩ = some (.bool p.f3.f0) ∧ W.cell? ⟨G, 4, none⟩ = some (.bool p.f3.f1) ∧ W.cell? ⟨G, 5, none⟩ = some (.bool p.f3.f2) ∧ W.cell? ⟨G, 6, none⟩ = some (.bool p.f3.f3) ∧ W.cell? ⟨G, 7, none⟩ = some (.bool p.f3.f4) ∧ W.cell? ⟨G, 8, none⟩ = some (.bool p.f3.f5) ∧ W.cell? ⟨G, 9, none⟩ = some (.bool p.f4) ∧ W.cell? ⟨G, 10, none⟩ = some (.bool p.f5) ∧ (Instr.lookup 73 (.map (some bm)) (.agg #[.int .i64 x.f1.f2, .int .u64 ((offN x av : Nat) : Int)]) false).run Try.prog W = .ok (.int .u8 (getB s.by_ x.f1.f2 ((offN x av : Nat) : Int))) W) from fun W hb => by
        obtain ⟨-, -, m2, -⟩ := (HMO.out.below hb).cells
        obtain ⟨-, -, c2⟩ := cells3 (blk_below HL10.out hb)
        rw [HOV.out] at c2
        obtain ⟨p0, p1, p2, p3, p4, p5, p6, p7, p8, p9, p10⟩ := cells11 (blk_below HP10.out hb)
        exact ⟨m2, c2, p0, p1, p2, p3, p4, p5, p6, p7, p8, p9, p10, (HMO.out.below hb).look_b HRG.out HOF.out⟩)
      refine start_ (n := 11) (S := fun w' => w'.cell? ⟨B, 2, none⟩ = some (.map (some bm)) ∧ w'.cell? ⟨D + 1 + 1, 2, none⟩ = some (.int .u64 (av : Int)) ∧ w'.cell? ⟨G, 0, none⟩ = some (.int .u64 p.f0) ∧ w'.cell? ⟨G, 1, none⟩ = some (.int .i64 p.f1) ∧ w'.cell? ⟨G, 2, none⟩ = some (.int .u64 p.f2) ∧ w'.cell? ⟨G, 3, none⟩ = some (.bool p.f3.f0) ∧ w'.cell? ⟨G, 4, none⟩ = some (.bool p.f3.f1) ∧ w'.cell? ⟨G, 5, none⟩ = some (.bool p.f3.f2) ∧ w'.cell? ⟨G, 6, none⟩ = some (.bool p.f3.f3) ∧ w'.cell? ⟨G, 7, none⟩ = some (.bool p.f3.f4) ∧ w'.cell? ⟨G, 8, none⟩ = some (.bool p.f3.f5) ∧ w'.cell? ⟨G, 9, none⟩ = some (.bool p.f4) ∧ w'.cell? ⟨G, 10, none⟩ = some (.bool p.f5) ∧ (Instr.lookup 73 (.map (some bm)) (.agg #[.int .i64 x.f1.f2, .int .u64 ((offN x av : Nat) : Int)]) false).run Try.prog w' = .ok (.int .u8 (getB s.by_ x.f1.f2 ((offN x av : Nat) : Int))) w') (ds := [10]) #[false, false, false, false, false, false, false, false, false, false, false] (by kernel_rfl) rfl rfl (by first | exact HH.out _ (Below.refl _ _) | exact HH.out _ (Below.refl _ _).drew) (fun hHeld => ?_)
      refine pure_ (i := 0) (N := some 68) (v := ?_) (a' := ?_) #[true, false, false, false, false, false, false, false, false, false, false] rfl rfl (by kernel_rfl) (fun _ _ _ h => h) (Or.inl ⟨by rfl, ?_⟩) ?_ ?_
      rotate_left
      · intro w'
        go_simp
        with_reducible rfl
      rotate_left
      · simp only [Act.put, List.setIfInBounds_toArray, List.set_cons_zero, List.set_cons_succ, i64_w, i32_w]
        rfl
      refine pure_ (i := 1) (N := some 69) (v := ?_) (a' := ?_) #[true, true, false, false, false, false, false, false, false, false, false] rfl rfl (by kernel_rfl) (fun _ _ _ h => h) (Or.inl ⟨by rfl, ?_⟩) ?_ ?_
      rotate_left
      · intro w'
        go_simp
        with_reducible rfl
      rotate_left
      · simp only [Act.put, List.setIfInBounds_toArray, List.set_cons_zero, List.set_cons_succ, i64_w, i32_w]
        rfl
      refine pure_ (i := 2) (N := some 70) (v := ?_) (a' := ?_) #[true, true, true, false, false, false, false, false, false, false, false] rfl rfl (by kernel_rfl) (fun _ _ _ h => h) (Or.inl ⟨by rfl, ?_⟩) ?_ ?_
      rotate_left
      · intro w'
        go_simp
        with_reducible rfl
      rotate_left
      · simp only [Act.put, List.setIfInBounds_toArray, List.set_cons_zero, List.set_cons_succ, i64_w, i32_w]
        rfl
      refine pure_ (i := 5) (N := some 73) (v := ?_) (a' := ?_) #[true, true, true, false, false, true, false, false, false, false, false] rfl rfl (by kernel_rfl) (fun _ _ _ h => h) (Or.inl ⟨by rfl, ?_⟩) ?_ ?_
      rotate_left
      · intro w'
        go_simp
        with_reducible rfl
      rotate_left
      · simp only [Act.put, List.setIfInBounds_toArray, List.set_cons_zero, List.set_cons_succ, i64_w, i32_w]
        rfl
      refine take_ (i := 3) (N := some 71) (v := ?_) (a' := ?_) #[true, true, true, true, false, true, false, false, false, false, false] rfl rfl (by kernel_rfl) (fun _ _ _ h => h) (Or.inl ⟨by rfl, ?_⟩) hHeld ?_ ?_
      rotate_left
      · rintro w' ⟨s0, s1, s2, s3, s4, s5, s6, s7, s8, s9, s10, s11, s12, s13⟩
        go_simp
        with_reducible rfl
      rotate_left
      · simp only [Act.put, List.setIfInBounds_toArray, List.set_cons_zero, List.set_cons_succ, i64_w, i32_w]
        rfl
      refine take_ (i := 4) (N := some 72) (v := ?_) (a' := ?_) #[true, true, true, true, true, true, false, false, false, false, false] rfl rfl (by kernel_rfl) (fun _ _ _ h => h) (Or.inl ⟨by rfl, ?_⟩) hHeld ?_ ?_
      rotate_left
      · rintro w' ⟨s0, s1, s2, s3, s4, s5, s6, s7, s8, s9, s10, s11, s12, s13⟩
        go_simp
        with_reducible rfl
      rotate_left
      · simp only [Act.put, List.setIfInBounds_toArray, List.set_cons_zero, List.set_cons_succ, i64_w, i32_w]
        rfl
      refine take_ (i := 6) (N := some 74) (v := ?_) (a' := ?_) #[true, true, true, true, true, true, true, false, false, false, false] rfl rfl (by kernel_rfl) (fun _ _ _ h => h) (Or.inl ⟨by rfl, ?_⟩) hHeld ?_ ?_
      rotate_left
      · rintro w' ⟨s0, s1, s2, s3, s4, s5, s6, s7, s8, s9, s10, s11, s12, s13⟩
        go_simp
        with_reducible rfl
      rotate_left
      · simp only [Act.put, List.setIfInBounds_toArray, List.set_cons_zero, List.set_cons_succ, i64_w, i32_w]
        rfl
      refine one_ (i := 7) (N := some 75) #[true, true, true, true, true, true, true, true, false, false, false] rfl rfl (by kernel_rfl) (by decide) (fun K hK => ?_)
      refine goes_ Try.func52 (by kernel_rfl) rfl #[.agg #[.int .u64 p.f0, .int .i64 p.f1, .int .u64 p.f2, .bool p.f3.f0, .bool p.f3.f1, .bool p.f3.f2, .bool p.f3.f3, .bool p.f3.f4, .bool p.f3.f5, .bool p.f4, .bool p.f5], .int .u64 (av : Int)] (by rfl) rfl rfl (by (try simp only [List.map_toArray, List.map_cons, List.map_nil]); first | done | rfl) ?_
      refine (model_spotOf.calls p.f0 p.f1 p.f2 p.f3.f0 p.f3.f1 p.f3.f2 p.f3.f3 p.f3.f4 p.f3.f5 p.f4 p.f5 (av : Int) _ _ _ HSF.out).mono ?_
      rintro e w11 ⟨rfl, hbel⟩
      refine ⟨_, rfl, ?_⟩
      have hb11 := (Below.refl _ w10).drew.trans hbel
      have HB11 := Aside0.mk hb11
      have HZ11 := Aside0.mk (blk_below HZ10.out hb11)
      clear hbel hb11
      refine hK.out _ _ (HH.out _ HB11.out) (fun hHeld => ?_)
      clear hK K
      refine norm_ (a' := ?_) ?_ ?_
      rotate_left
      · show Act.put _ (some 75) _ = _
        simp only [Act.put, List.setIfInBounds_toArray, List.set_cons_zero, List.set_cons_succ, i64_w, i32_w]
        rfl
      refine take_ (i := 8) (N := some 76) (v := ?_) (a' := ?_) #[true, true, true, true, true, true, true, true, true, false, false] rfl rfl (by kernel_rfl) (fun _ _ _ h => h) (Or.inl ⟨by rfl, ?_⟩) hHeld ?_ ?_
      rotate_left
      · rintro w' ⟨s0, s1, s2, s3, s4, s5, s6, s7, s8, s9, s10, s11, s12, s13⟩
        go_simp
        with_reducible rfl
      rotate_left
      · simp only [Act.put, List.setIfInBounds_toArray, List.set_cons_zero, List.set_cons_succ, i64_w, i32_w]
        rfl
      refine pure_ (i := 9) (N := some 77) (v := ?_) (a' := ?_) #[true, true, true, true, true, true, true, true, true, true, false] rfl rfl (by kernel_rfl) (fun _ _ _ h => h) (Or.inl ⟨by rfl, ?_⟩) ?_ ?_
      rotate_left
      · intro w'
        go_simp
        with_reducible rfl
      rotate_left
      · simp only [Act.put, List.setIfInBounds_toArray, List.set_cons_zero, List.set_cons_succ, i64_w, i32_w]
        rfl
      refine last_ (i := 10) (N := none) #[true, true, true, true, true, true, true, true, true, true, true] rfl rfl (by kernel_rfl) (by decide) (fun K hK => ?_)
      refine skip_ (w1 := _) (by rfl) rfl (run_store_reply rfl rfl rfl HZ11.out) ?_
      refine hK.out _ _ ?_
      clear hK K
      refine done_ (by kernel_rfl) ?_
      (try simp only [Exit.inBlock, Exit.then])
      clear hHeld
      have hnZ : D + 1 ∉ [B, pm, bm] := fun hm => by have := HLT.out _ hm; omega
      have HNZ := Aside0.mk hnZ
      have HV11 := Aside0.mk ((HV.out.trans (S' := []) (Mv.of_below HB11.out) (fun _ hk => by simp at hk)) : Mv [B, pm, bm] w w11)
      have HM11 := Aside0.mk (HMO.out.below HB11.out)
      go_wp2_with fail
      refine bodyPost_ret (results_cell_row rfl _ _ (D + 1) 42 _ (0, 0) _ rfl (sb_same HZ11.out _) Try.underlying42 rfl (by kernel_rfl)) rfl ?_
      rw [HR1.out, HP.out]
      exact ⟨rfl, HM11.out.move (fun k hk => sb_other _ (fun e => HNZ.out (e ▸ hk))), HV11.out.setBlock (.inr (by omega)) _⟩
end
end Go.Proofs.Ytalmemcidbmdgaa.PM



/- A model (layer 16): access, in one. -/
set_option linter.unusedVariables false
set_option linter.unusedSimpArgs false
namespace Go.Proofs.Ytalmemcidbmdgaa.PM
open Go.RowKit Go.Proofs.YtalmemcidbmdgaaW.PrintWords Go.Proofs.YtalmemcidbmdgaaW.PrintLast Go.Proofs.YtalmemcidbmdgaaW.PrintMore Go.Proofs.Ytalmemcidbmdgaa.PageG
attribute [local go_sem] max2_int min2_int max_two min_two max_three min_three max_four min_four   -- for this text's walks alone
section
variable {w w' : World} {B pm bm : Nat} {s : MS}
theorem access_calls (h : Mo w B pm bm s) (hw : WfL s.L) (o : OpS) (ho : OkO o) :
    Calls Try.prog 38 #[.pointer (some ⟨B, 0, none⟩), Value.agg #[.int .i64 o.kind, .int .i64 o.sp, .int .i64 o.ak, .bool o.ap, .int .u64 o.av, .int .u8 o.byte, .int .u64 o.va, .int .i64 o.size, .bool o.at_.f0, .bool o.at_.f1, .bool o.at_.f2, .bool o.at_.f3, .bool o.at_.f4, .bool o.at_.f5, .int .i64 o.other, .int .u64 o.too]] w (Rep3 w B pm bm (accessR s o)) := by
  cases hf : find s.L o.sp o.av.toNat with
  | none => exact access_none h hw o ho hf
  | some i =>
    obtain ⟨x, hx, hh⟩ := find_some hf
    by_cases hg : isAll s.n [o.sp] = true ∧ (0 ≤ o.ak ∧ o.ak < 4) ∧ holeB o.av.toNat = false ∧ judgeN x.f1.f3 o.ak o.ap = 0
    · exact access_ok h hw o ho hf hx hg.1 hg.2.1 hg.2.2.1 hg.2.2.2
    · exact access_fault h hw o ho hf hx hg
end
end Go.Proofs.Ytalmemcidbmdgaa.PM


/- A model (layer 16): clear: the walk. -/
set_option linter.unusedVariables false
set_option linter.unusedSimpArgs false
namespace Go.Proofs.Ytalmemcidbmdgaa.PM
open Go.RowKit Go.Proofs.YtalmemcidbmdgaaW.PrintWords Go.Proofs.YtalmemcidbmdgaaW.PrintLast Go.Proofs.YtalmemcidbmdgaaW.PrintMore Go.Proofs.Ytalmemcidbmdgaa.PageG
attribute [local go_sem] max2_int min2_int max_two min_two max_three min_three max_four min_four   -- for this text's walks alone
section
variable {w w' : World} {B pm bm : Nat} {s : MS}
set_option maxHeartbeats 8000000 in
set_option maxRecDepth 100000 in
theorem clear_calls (h : Mo w B pm bm s) (hw : WfL s.L) (hf : s.L.length ≤ 100000) (o : OpS) (ho : OkO o) :
    Calls Try.prog 42 #[.pointer (some ⟨B, 0, none⟩), Value.agg #[.int .i64 o.kind, .int .i64 o.sp, .int .i64 o.ak, .bool o.ap, .int .u64 o.av, .int .u8 o.byte, .int .u64 o.va, .int .i64 o.size, .bool o.at_.f0, .bool o.at_.f1, .bool o.at_.f2, .bool o.at_.f3, .bool o.at_.f4, .bool o.at_.f5, .int .i64 o.other, .int .u64 o.too]] w (Rep w B pm bm (changeR s o (clearS s))) := by
  have HM := Aside0.mk h
  have HLT := Aside0.mk h.lt
  have HW := Aside0.mk hw
  have HO := Aside0.mk ho
  clear h hw ho
  obtain ⟨D, hD⟩ : ∃ D, w.heap.size = D := ⟨_, rfl⟩
  go_enter Try.func42, Try.ntmps42
  go_upto_region 1 with fail
  have hk := blk_alloc (blk_alloc (blk_new w (.cells #[.pointer (some ⟨B, 0, none⟩)] 24)) (.cells #[.int .i64 o.kind, .int .i64 o.sp, .int .i64 o.ak, .bool o.ap, .int .u64 o.av, .int .u8 o.byte, .int .u64 o.va, .int .i64 o.size, .bool o.at_.f0, .bool o.at_.f1, .bool o.at_.f2, .bool o.at_.f3, .bool o.at_.f4, .bool o.at_.f5, .int .i64 o.other, .int .u64 o.too] 36)) (.cells #[.int .i64 0, .int .i64 0, .int .u8 0] 42)
  have hz := blk_alloc (blk_new (w.alloc (.cells #[.pointer (some ⟨B, 0, none⟩)] 24)) (.cells #[.int .i64 o.kind, .int .i64 o.sp, .int .i64 o.ak, .bool o.ap, .int .u64 o.av, .int .u8 o.byte, .int .u64 o.va, .int .i64 o.size, .bool o.at_.f0, .bool o.at_.f1, .bool o.at_.f2, .bool o.at_.f3, .bool o.at_.f4, .bool o.at_.f5, .int .i64 o.other, .int .u64 o.too] 36)) (.cells #[.int .i64 0, .int .i64 0, .int .u8 0] 42)
  have hl := blk_new ((w.alloc (.cells #[.pointer (some ⟨B, 0, none⟩)] 24)).alloc (.cells #[.int .i64 o.kind, .int .i64 o.sp, .int .i64 o.ak, .bool o.ap, .int .u64 o.av, .int .u8 o.byte, .int .u64 o.va, .int .i64 o.size, .bool o.at_.f0, .bool o.at_.f1, .bool o.at_.f2, .bool o.at_.f3, .bool o.at_.f4, .bool o.at_.f5, .int .i64 o.other, .int .u64 o.too] 36)) (.cells #[.int .i64 0, .int .i64 0, .int .u8 0] 42)
  have hb : Below w.heap.size w (((w.alloc (.cells #[.pointer (some ⟨B, 0, none⟩)] 24)).alloc (.cells #[.int .i64 o.kind, .int .i64 o.sp, .int .i64 o.ak, .bool o.ap, .int .u64 o.av, .int .u8 o.byte, .int .u64 o.va, .int .i64 o.size, .bool o.at_.f0, .bool o.at_.f1, .bool o.at_.f2, .bool o.at_.f3, .bool o.at_.f4, .bool o.at_.f5, .int .i64 o.other, .int .u64 o.too] 36)).alloc (.cells #[.int .i64 0, .int .i64 0, .int .u8 0] 42)) := (((Below.refl _ w).alloc (Nat.le_refl _) _).alloc (by simp) _).alloc (by simp; omega) _
  have hs1 : (w.alloc (.cells #[.pointer (some ⟨B, 0, none⟩)] 24)).heap.size = D + 1 := by simp [hD]
  have hs2 : ((w.alloc (.cells #[.pointer (some ⟨B, 0, none⟩)] 24)).alloc (.cells #[.int .i64 o.kind, .int .i64 o.sp, .int .i64 o.ak, .bool o.ap, .int .u64 o.av, .int .u8 o.byte, .int .u64 o.va, .int .i64 o.size, .bool o.at_.f0, .bool o.at_.f1, .bool o.at_.f2, .bool o.at_.f3, .bool o.at_.f4, .bool o.at_.f5, .int .i64 o.other, .int .u64 o.too] 36)).heap.size = D + 1 + 1 := by simp [hD]
  rw [hD] at hk
  rw [hs1] at hz
  rw [hs2] at hl
  generalize ((w.alloc (.cells #[.pointer (some ⟨B, 0, none⟩)] 24)).alloc (.cells #[.int .i64 o.kind, .int .i64 o.sp, .int .i64 o.ak, .bool o.ap, .int .u64 o.av, .int .u8 o.byte, .int .u64 o.va, .int .i64 o.size, .bool o.at_.f0, .bool o.at_.f1, .bool o.at_.f2, .bool o.at_.f3, .bool o.at_.f4, .bool o.at_.f5, .int .i64 o.other, .int .u64 o.too] 36)).alloc (.cells #[.int .i64 0, .int .i64 0, .int .u8 0] 42) = w1 at *
  clear hs1 hs2
  have m0 : w1.cell? ⟨D, 0, none⟩ = some (Value.pointer (some ⟨B, 0, none⟩)) := (blk_cell hk 0).trans rfl
  obtain ⟨o0, o1, o2, o3, o4, o5, o6, o7, o8, o9, o10, o11, o12, o13, o14, o15⟩ := cells16 hz
  have HB := Aside0.mk hb
  have HK := Aside0.mk hk
  have HOB := Aside0.mk hz
  have HL := Aside0.mk hl
  clear hb hk hz hl
  have HCH := Aside0.mk (change_calls (HM.out.below HB.out) HW.out o HO.out 75 #[.pointer (some ⟨D, 0, none⟩)] (clearS s)
    (fun i x hi hh W hbW hmW => by
      have hk2 := blk_below HK.out hbW
      have hg2 : W.cell? ⟨D, 0, none⟩ = some (Value.pointer (some ⟨B, 0, none⟩)) := (blk_cell hk2 0).trans rfl
      have he : clearS s i = { s with L := s.L.set i ⟨x.f0, { x.f1 with f4 := false, f5 := false }⟩ } := by unfold clearS; rw [hi]
      rw [he]
      exact clr_calls hmW HW.out hi D hg2)
    (enters_ Try.func75 (by rfl) (by kernel_rfl)))
  go_wp2_with fail
  refine HCH.out.mono ?_
  rintro e w2 ⟨rfl, hm2, hv2⟩
  have hne : D + 1 + 1 ∉ [B, pm, bm] := fun hm => by have := HLT.out _ hm; omega
  have hl2 := (hv2.block _ (blk_lt HL.out) hne).trans HL.out
  obtain ⟨z0, z1, z2⟩ := cells3 hl2
  have y0 := blk_frozen hl2 0
  have y1 := blk_frozen hl2 1
  have y2 := blk_frozen hl2 2
  have HM2 := Aside0.mk hm2
  have HV2 := Aside0.mk hv2
  have HNE := Aside0.mk hne
  clear hm2 hv2 hne m0 o0 o1 o2 o3 o4 o5 o6 o7 o8 o9 o10 o11 o12 o13 o14 o15
  go_wp2_with fail
  rw [set3 hl2]
  refine bodyPost_ret (results_cell_row rfl _ _ (D + 1 + 1) 42 _ (0, 0) _ rfl (sb_same hl2 _) Try.underlying42 rfl (by kernel_rfl)) rfl ?_
  exact ⟨rfl, HM2.out.move (fun k hk => sb_other _ (fun e => HNE.out (e ▸ hk))), ((Mv.of_below HB.out).then HV2.out).setBlock (.inr (by omega)) _⟩
end
end Go.Proofs.Ytalmemcidbmdgaa.PM


/- A model (layer 16): protect: the walk. -/
set_option linter.unusedVariables false
set_option linter.unusedSimpArgs false
namespace Go.Proofs.Ytalmemcidbmdgaa.PM
open Go.RowKit Go.Proofs.YtalmemcidbmdgaaW.PrintWords Go.Proofs.YtalmemcidbmdgaaW.PrintLast Go.Proofs.YtalmemcidbmdgaaW.PrintMore Go.Proofs.Ytalmemcidbmdgaa.PageG
attribute [local go_sem] max2_int min2_int max_two min_two max_three min_three max_four min_four   -- for this text's walks alone
section
variable {w w' : World} {B pm bm : Nat} {s : MS}
set_option maxHeartbeats 8000000 in
set_option maxRecDepth 100000 in
theorem protect_calls (h : Mo w B pm bm s) (hw : WfL s.L) (hf : s.L.length ≤ 100000) (o : OpS) (ho : OkO o) :
    Calls Try.prog 41 #[.pointer (some ⟨B, 0, none⟩), Value.agg #[.int .i64 o.kind, .int .i64 o.sp, .int .i64 o.ak, .bool o.ap, .int .u64 o.av, .int .u8 o.byte, .int .u64 o.va, .int .i64 o.size, .bool o.at_.f0, .bool o.at_.f1, .bool o.at_.f2, .bool o.at_.f3, .bool o.at_.f4, .bool o.at_.f5, .int .i64 o.other, .int .u64 o.too]] w (Rep w B pm bm (if o.at_.f4 = true then (1, s) else changeR s o (protS s o.at_))) := by
  obtain ⟨res, hres⟩ : ∃ res, (if o.at_.f4 = true then (1, s) else changeR s o (protS s o.at_)) = res := ⟨_, rfl⟩
  rw [hres]
  have HRES := Aside0.mk hres
  clear hres
  have HM := Aside0.mk h
  have HLT := Aside0.mk h.lt
  have HW := Aside0.mk hw
  have HO := Aside0.mk ho
  clear h hw ho
  obtain ⟨D, hD⟩ : ∃ D, w.heap.size = D := ⟨_, rfl⟩
  go_enter Try.func41, Try.ntmps41
  go_upto_region 1 with fail
  have hk := blk_alloc (blk_alloc (blk_new w (.cells #[.pointer (some ⟨B, 0, none⟩)] 24)) (.cells #[.int .i64 o.kind, .int .i64 o.sp, .int .i64 o.ak, .bool o.ap, .int .u64 o.av, .int .u8 o.byte, .int .u64 o.va, .int .i64 o.size, .bool o.at_.f0, .bool o.at_.f1, .bool o.at_.f2, .bool o.at_.f3, .bool o.at_.f4, .bool o.at_.f5, .int .i64 o.other, .int .u64 o.too] 36)) (.cells #[.int .i64 0, .int .i64 0, .int .u8 0] 42)
  have hz := blk_alloc (blk_new (w.alloc (.cells #[.pointer (some ⟨B, 0, none⟩)] 24)) (.cells #[.int .i64 o.kind, .int .i64 o.sp, .int .i64 o.ak, .bool o.ap, .int .u64 o.av, .int .u8 o.byte, .int .u64 o.va, .int .i64 o.size, .bool o.at_.f0, .bool o.at_.f1, .bool o.at_.f2, .bool o.at_.f3, .bool o.at_.f4, .bool o.at_.f5, .int .i64 o.other, .int .u64 o.too] 36)) (.cells #[.int .i64 0, .int .i64 0, .int .u8 0] 42)
  have hl := blk_new ((w.alloc (.cells #[.pointer (some ⟨B, 0, none⟩)] 24)).alloc (.cells #[.int .i64 o.kind, .int .i64 o.sp, .int .i64 o.ak, .bool o.ap, .int .u64 o.av, .int .u8 o.byte, .int .u64 o.va, .int .i64 o.size, .bool o.at_.f0, .bool o.at_.f1, .bool o.at_.f2, .bool o.at_.f3, .bool o.at_.f4, .bool o.at_.f5, .int .i64 o.other, .int .u64 o.too] 36)) (.cells #[.int .i64 0, .int .i64 0, .int .u8 0] 42)
  have hb : Below w.heap.size w (((w.alloc (.cells #[.pointer (some ⟨B, 0, none⟩)] 24)).alloc (.cells #[.int .i64 o.kind, .int .i64 o.sp, .int .i64 o.ak, .bool o.ap, .int .u64 o.av, .int .u8 o.byte, .int .u64 o.va, .int .i64 o.size, .bool o.at_.f0, .bool o.at_.f1, .bool o.at_.f2, .bool o.at_.f3, .bool o.at_.f4, .bool o.at_.f5, .int .i64 o.other, .int .u64 o.too] 36)).alloc (.cells #[.int .i64 0, .int .i64 0, .int .u8 0] 42)) := (((Below.refl _ w).alloc (Nat.le_refl _) _).alloc (by simp) _).alloc (by simp; omega) _
  have hs1 : (w.alloc (.cells #[.pointer (some ⟨B, 0, none⟩)] 24)).heap.size = D + 1 := by simp [hD]
  have hs2 : ((w.alloc (.cells #[.pointer (some ⟨B, 0, none⟩)] 24)).alloc (.cells #[.int .i64 o.kind, .int .i64 o.sp, .int .i64 o.ak, .bool o.ap, .int .u64 o.av, .int .u8 o.byte, .int .u64 o.va, .int .i64 o.size, .bool o.at_.f0, .bool o.at_.f1, .bool o.at_.f2, .bool o.at_.f3, .bool o.at_.f4, .bool o.at_.f5, .int .i64 o.other, .int .u64 o.too] 36)).heap.size = D + 1 + 1 := by simp [hD]
  rw [hD] at hk
  rw [hs1] at hz
  rw [hs2] at hl
  generalize ((w.alloc (.cells #[.pointer (some ⟨B, 0, none⟩)] 24)).alloc (.cells #[.int .i64 o.kind, .int .i64 o.sp, .int .i64 o.ak, .bool o.ap, .int .u64 o.av, .int .u8 o.byte, .int .u64 o.va, .int .i64 o.size, .bool o.at_.f0, .bool o.at_.f1, .bool o.at_.f2, .bool o.at_.f3, .bool o.at_.f4, .bool o.at_.f5, .int .i64 o.other, .int .u64 o.too] 36)).alloc (.cells #[.int .i64 0, .int .i64 0, .int .u8 0] 42) = w1 at *
  clear hs1 hs2
  have m0 : w1.cell? ⟨D, 0, none⟩ = some (Value.pointer (some ⟨B, 0, none⟩)) := (blk_cell hk 0).trans rfl
  obtain ⟨o0, o1, o2, o3, o4, o5, o6, o7, o8, o9, o10, o11, o12, o13, o14, o15⟩ := cells16 hz
  have HB := Aside0.mk hb
  have HK := Aside0.mk hk
  have HOB := Aside0.mk hz
  have HL := Aside0.mk hl
  clear hb hk hz hl
  have HCH := Aside0.mk (change_calls (HM.out.below HB.out) HW.out o HO.out 74 #[.pointer (some ⟨D + 1, 0, none⟩), .pointer (some ⟨D, 0, none⟩)] (protS s o.at_)
    (fun i x hi hh W hbW hmW => by
      have hk2 := blk_below HK.out hbW
      have hg2 : W.cell? ⟨D, 0, none⟩ = some (Value.pointer (some ⟨B, 0, none⟩)) := (blk_cell hk2 0).trans rfl
      have he : protS s o.at_ i = { s with L := s.L.set i ⟨x.f0, { x.f1 with f3 := o.at_ }⟩ } := by unfold protS; rw [hi]
      rw [he]
      obtain ⟨q0, q1, q2, q3, q4, q5, q6, q7, q8, q9, q10, q11, q12, q13, q14, q15⟩ := cells16 (blk_below HOB.out hbW)
      exact pro_calls hmW o.at_ HW.out hi (D + 1) D ⟨q8, q9, q10, q11, q12, q13⟩ hg2)
    (enters_ Try.func74 (by rfl) (by kernel_rfl)))
  have hres := HRES.out
  rcases Bool.eq_false_or_eq_true o.at_.f4 with hag | hag
  · rw [if_pos hag] at hres
    subst hres
    clear HCH HRES
    go_wp2_with fail
    refine (model_told.calls 1 _ _ _ w1 rfl).mono ?_
    rintro e w2 ⟨rfl, hb2⟩
    have hz2 := blk_below HL.out hb2
    have HB2 := Aside0.mk (below_step HB.out hb2)
    obtain ⟨z0, z1, z2⟩ := cells3 hz2
    have y0 := blk_frozen hz2 0
    have y1 := blk_frozen hz2 1
    have y2 := blk_frozen hz2 2
    clear hb2 m0 o0 o1 o2 o3 o4 o5 o6 o7 o8 o9 o10 o11 o12 o13 o14 o15
    go_wp2_with fail
    rw [set3 hz2]
    refine bodyPost_ret (results_cell_row rfl _ _ (D + 1 + 1) 42 _ (0, 0) _ rfl (sb_same hz2 _) Try.underlying42 rfl (by kernel_rfl)) rfl ?_
    have hbf := below_sb HB2.out (by omega : w.heap.size ≤ D + 1 + 1) (.cells #[.int .i64 1, .int .i64 0, .int .u8 0] 42 (0, 0))
    exact ⟨rfl, HM.out.below hbf, Mv.of_below hbf⟩
  rw [if_neg (by rw [hag]; simp)] at hres
  subst hres
  have hch := HCH.out
  rw [hag] at hch o12
  clear HCH
  have HCH := Aside0.mk hch
  have HAG := Aside0.mk hag
  clear hch hag HRES
  go_wp2_with fail
  refine HCH.out.mono ?_
  rintro e w2 ⟨rfl, hm2, hv2⟩
  have hne : D + 1 + 1 ∉ [B, pm, bm] := fun hm => by have := HLT.out _ hm; omega
  have hl2 := (hv2.block _ (blk_lt HL.out) hne).trans HL.out
  obtain ⟨z0, z1, z2⟩ := cells3 hl2
  have y0 := blk_frozen hl2 0
  have y1 := blk_frozen hl2 1
  have y2 := blk_frozen hl2 2
  have HM2 := Aside0.mk hm2
  have HV2 := Aside0.mk hv2
  have HNE := Aside0.mk hne
  clear hm2 hv2 hne m0 o0 o1 o2 o3 o4 o5 o6 o7 o8 o9 o10 o11 o12 o13 o14 o15
  go_wp2_with fail
  rw [set3 hl2]
  refine bodyPost_ret (results_cell_row rfl _ _ (D + 1 + 1) 42 _ (0, 0) _ rfl (sb_same hl2 _) Try.underlying42 rfl (by kernel_rfl)) rfl ?_
  refine ⟨rfl, HM2.out.move (fun k hk => ?_), ((Mv.of_below HB.out).then HV2.out).setBlock (.inr (by omega)) _⟩
  exact sb_other _ (fun e => HNE.out (by rw [← e]; exact hk))
end
end Go.Proofs.Ytalmemcidbmdgaa.PM


/- A model (layer 16): Do: the walk of one kind. -/
set_option linter.unusedVariables false
set_option linter.unusedSimpArgs false
namespace Go.Proofs.Ytalmemcidbmdgaa.PM
open Go.RowKit Go.Proofs.YtalmemcidbmdgaaW.PrintWords Go.Proofs.YtalmemcidbmdgaaW.PrintLast Go.Proofs.YtalmemcidbmdgaaW.PrintMore Go.Proofs.Ytalmemcidbmdgaa.PageG
attribute [local go_sem] max2_int min2_int max_two min_two max_three min_three max_four min_four   -- for this text's walks alone
/-- A call of a function value. -/
theorem goesv_ {P : Program} {ops : Array Oper} {Q : Exit → Act → World → Prop} {oi : Oper} {N : Option Tmp} {a : Act} {w : World} {K : Act → World → Prop} {c : Operand} {f : FuncId} {first caps args : Array Value} {asg : Array Operand} {ts : Array TypeId}
    (hw : Region.wanted oi (yielded ops a.tmps) = true) (hN : oi.dst = N) (hop : oi.op = .call { callee := .value c, args := asg, argTypes := ts }) (hc : a.eval c = .func (.func f) first caps) (henter : ∀ (args : Array Value) (w : World), (callFunc f args).run P w = .ok (.enter f args) w) (hargs : first ++ asg.map a.eval ++ caps = args)
    (h : Calls P f args w fun e w' => ∃ v, e = .returned v ∧ K (a.put N v) w') : if Region.wanted oi (yielded ops a.tmps) = true then Oper.wp P oi a w K Q else K (a.put N undef) w := by
  refine call_ f args hw hN ?_ h
  have he := henter args w
  unfold execOp
  simp [hop, resolve, Deferred.ofValue, invoke, hc, hargs, he]
def doF : List FuncId := [38, 39, 40, 41, 42, 43, 44, 45]
section
variable {w w' : World} {B pm bm : Nat} {s : MS}
set_option maxHeartbeats 8000000 in
set_option maxRecDepth 100000 in
theorem do_one (h : Mo w B pm bm s) (o : OpS) (hk : 0 ≤ o.kind ∧ o.kind < 8) (fv : FuncId) (hfv : doF[o.kind.toNat]? = some fv) (henter : ∀ (args : Array Value) (w : World), (callFunc fv args).run Try.prog w = .ok (.enter fv args) w) (R : (Int × Int × Int) × MS)
    (hc : ∀ W, Below w.heap.size w W → Calls Try.prog fv #[.pointer (some ⟨B, 0, none⟩), Value.agg #[.int .i64 o.kind, .int .i64 o.sp, .int .i64 o.ak, .bool o.ap, .int .u64 o.av, .int .u8 o.byte, .int .u64 o.va, .int .i64 o.size, .bool o.at_.f0, .bool o.at_.f1, .bool o.at_.f2, .bool o.at_.f3, .bool o.at_.f4, .bool o.at_.f5, .int .i64 o.other, .int .u64 o.too]] W (Rep3 W B pm bm R)) :
    Calls Try.prog 14 #[.pointer (some ⟨B, 0, none⟩), Value.agg #[.int .i64 o.kind, .int .i64 o.sp, .int .i64 o.ak, .bool o.ap, .int .u64 o.av, .int .u8 o.byte, .int .u64 o.va, .int .i64 o.size, .bool o.at_.f0, .bool o.at_.f1, .bool o.at_.f2, .bool o.at_.f3, .bool o.at_.f4, .bool o.at_.f5, .int .i64 o.other, .int .u64 o.too]] w (Rep3 w B pm bm R) := by
  have HLT := Aside0.mk h.lt
  have HC := Aside0.mk hc
  have HE := Aside0.mk henter
  have HFV := Aside0.mk hfv
  obtain ⟨k, hkn⟩ : ∃ k : Nat, o.kind = (k : Int) := ⟨o.kind.toNat, by omega⟩
  have HKN := Aside0.mk hkn
  have hd0 : decide (o.kind < 0) = false := decide_eq_false (by omega)
  have hd8 : decide (8 ≤ o.kind) = false := decide_eq_false (by omega)
  clear h hc henter hfv hkn
  obtain ⟨D, hD⟩ : ∃ D, w.heap.size = D := ⟨_, rfl⟩
  go_enter Try.func14, Try.ntmps14
  go_upto_region 4 with fail
  have hk := blk_alloc (blk_alloc (blk_new w (.cells #[.int .i64 o.kind, .int .i64 o.sp, .int .i64 o.ak, .bool o.ap, .int .u64 o.av, .int .u8 o.byte, .int .u64 o.va, .int .i64 o.size, .bool o.at_.f0, .bool o.at_.f1, .bool o.at_.f2, .bool o.at_.f3, .bool o.at_.f4, .bool o.at_.f5, .int .i64 o.other, .int .u64 o.too] 36)) (.cells #[.int .i64 0, .int .i64 0, .int .u8 0] 42)) (.cells #[.func (.func 38) #[.pointer (some ⟨B, 0, none⟩)] #[], .func (.func 39) #[.pointer (some ⟨B, 0, none⟩)] #[], .func (.func 40) #[.pointer (some ⟨B, 0, none⟩)] #[], .func (.func 41) #[.pointer (some ⟨B, 0, none⟩)] #[], .func (.func 42) #[.pointer (some ⟨B, 0, none⟩)] #[], .func (.func 43) #[.pointer (some ⟨B, 0, none⟩)] #[], .func (.func 44) #[.pointer (some ⟨B, 0, none⟩)] #[], .func (.func 45) #[.pointer (some ⟨B, 0, none⟩)] #[]] 82)
  have hz := blk_alloc (blk_new (w.alloc (.cells #[.int .i64 o.kind, .int .i64 o.sp, .int .i64 o.ak, .bool o.ap, .int .u64 o.av, .int .u8 o.byte, .int .u64 o.va, .int .i64 o.size, .bool o.at_.f0, .bool o.at_.f1, .bool o.at_.f2, .bool o.at_.f3, .bool o.at_.f4, .bool o.at_.f5, .int .i64 o.other, .int .u64 o.too] 36)) (.cells #[.int .i64 0, .int .i64 0, .int .u8 0] 42)) (.cells #[.func (.func 38) #[.pointer (some ⟨B, 0, none⟩)] #[], .func (.func 39) #[.pointer (some ⟨B, 0, none⟩)] #[], .func (.func 40) #[.pointer (some ⟨B, 0, none⟩)] #[], .func (.func 41) #[.pointer (some ⟨B, 0, none⟩)] #[], .func (.func 42) #[.pointer (some ⟨B, 0, none⟩)] #[], .func (.func 43) #[.pointer (some ⟨B, 0, none⟩)] #[], .func (.func 44) #[.pointer (some ⟨B, 0, none⟩)] #[], .func (.func 45) #[.pointer (some ⟨B, 0, none⟩)] #[]] 82)
  have hl := blk_new ((w.alloc (.cells #[.int .i64 o.kind, .int .i64 o.sp, .int .i64 o.ak, .bool o.ap, .int .u64 o.av, .int .u8 o.byte, .int .u64 o.va, .int .i64 o.size, .bool o.at_.f0, .bool o.at_.f1, .bool o.at_.f2, .bool o.at_.f3, .bool o.at_.f4, .bool o.at_.f5, .int .i64 o.other, .int .u64 o.too] 36)).alloc (.cells #[.int .i64 0, .int .i64 0, .int .u8 0] 42)) (.cells #[.func (.func 38) #[.pointer (some ⟨B, 0, none⟩)] #[], .func (.func 39) #[.pointer (some ⟨B, 0, none⟩)] #[], .func (.func 40) #[.pointer (some ⟨B, 0, none⟩)] #[], .func (.func 41) #[.pointer (some ⟨B, 0, none⟩)] #[], .func (.func 42) #[.pointer (some ⟨B, 0, none⟩)] #[], .func (.func 43) #[.pointer (some ⟨B, 0, none⟩)] #[], .func (.func 44) #[.pointer (some ⟨B, 0, none⟩)] #[], .func (.func 45) #[.pointer (some ⟨B, 0, none⟩)] #[]] 82)
  have hb : Below w.heap.size w (((w.alloc (.cells #[.int .i64 o.kind, .int .i64 o.sp, .int .i64 o.ak, .bool o.ap, .int .u64 o.av, .int .u8 o.byte, .int .u64 o.va, .int .i64 o.size, .bool o.at_.f0, .bool o.at_.f1, .bool o.at_.f2, .bool o.at_.f3, .bool o.at_.f4, .bool o.at_.f5, .int .i64 o.other, .int .u64 o.too] 36)).alloc (.cells #[.int .i64 0, .int .i64 0, .int .u8 0] 42)).alloc (.cells #[.func (.func 38) #[.pointer (some ⟨B, 0, none⟩)] #[], .func (.func 39) #[.pointer (some ⟨B, 0, none⟩)] #[], .func (.func 40) #[.pointer (some ⟨B, 0, none⟩)] #[], .func (.func 41) #[.pointer (some ⟨B, 0, none⟩)] #[], .func (.func 42) #[.pointer (some ⟨B, 0, none⟩)] #[], .func (.func 43) #[.pointer (some ⟨B, 0, none⟩)] #[], .func (.func 44) #[.pointer (some ⟨B, 0, none⟩)] #[], .func (.func 45) #[.pointer (some ⟨B, 0, none⟩)] #[]] 82)) := (((Below.refl _ w).alloc (Nat.le_refl _) _).alloc (by simp) _).alloc (by simp; omega) _
  have hs1 : (w.alloc (.cells #[.int .i64 o.kind, .int .i64 o.sp, .int .i64 o.ak, .bool o.ap, .int .u64 o.av, .int .u8 o.byte, .int .u64 o.va, .int .i64 o.size, .bool o.at_.f0, .bool o.at_.f1, .bool o.at_.f2, .bool o.at_.f3, .bool o.at_.f4, .bool o.at_.f5, .int .i64 o.other, .int .u64 o.too] 36)).heap.size = D + 1 := by simp [hD]
  have hs2 : ((w.alloc (.cells #[.int .i64 o.kind, .int .i64 o.sp, .int .i64 o.ak, .bool o.ap, .int .u64 o.av, .int .u8 o.byte, .int .u64 o.va, .int .i64 o.size, .bool o.at_.f0, .bool o.at_.f1, .bool o.at_.f2, .bool o.at_.f3, .bool o.at_.f4, .bool o.at_.f5, .int .i64 o.other, .int .u64 o.too] 36)).alloc (.cells #[.int .i64 0, .int .i64 0, .int .u8 0] 42)).heap.size = D + 1 + 1 := by simp [hD]
  rw [hD] at hk
  rw [hs1] at hz
  rw [hs2] at hl
  generalize ((w.alloc (.cells #[.int .i64 o.kind, .int .i64 o.sp, .int .i64 o.ak, .bool o.ap, .int .u64 o.av, .int .u8 o.byte, .int .u64 o.va, .int .i64 o.size, .bool o.at_.f0, .bool o.at_.f1, .bool o.at_.f2, .bool o.at_.f3, .bool o.at_.f4, .bool o.at_.f5, .int .i64 o.other, .int .u64 o.too] 36)).alloc (.cells #[.int .i64 0, .int .i64 0, .int .u8 0] 42)).alloc (.cells #[.func (.func 38) #[.pointer (some ⟨B, 0, none⟩)] #[], .func (.func 39) #[.pointer (some ⟨B, 0, none⟩)] #[], .func (.func 40) #[.pointer (some ⟨B, 0, none⟩)] #[], .func (.func 41) #[.pointer (some ⟨B, 0, none⟩)] #[], .func (.func 42) #[.pointer (some ⟨B, 0, none⟩)] #[], .func (.func 43) #[.pointer (some ⟨B, 0, none⟩)] #[], .func (.func 44) #[.pointer (some ⟨B, 0, none⟩)] #[], .func (.func 45) #[.pointer (some ⟨B, 0, none⟩)] #[]] 82) = w1 at *
  clear hs1 hs2
  obtain ⟨o0, o1, o2, o3, o4, o5, o6, o7, o8, o9, o10, o11, o12, o13, o14, o15⟩ := cells16 hk
  have q0 : w1.cell? ⟨D + 1 + 1, o.kind.toNat, none⟩ = some (.func (.func fv) #[.pointer (some ⟨B, 0, none⟩)] #[]) := by
    refine (blk_cell hl o.kind.toNat).trans ?_
    have e : #[.func (.func 38) #[.pointer (some ⟨B, 0, none⟩)] #[], .func (.func 39) #[.pointer (some ⟨B, 0, none⟩)] #[], .func (.func 40) #[.pointer (some ⟨B, 0, none⟩)] #[], .func (.func 41) #[.pointer (some ⟨B, 0, none⟩)] #[], .func (.func 42) #[.pointer (some ⟨B, 0, none⟩)] #[], .func (.func 43) #[.pointer (some ⟨B, 0, none⟩)] #[], .func (.func 44) #[.pointer (some ⟨B, 0, none⟩)] #[], .func (.func 45) #[.pointer (some ⟨B, 0, none⟩)] #[]] = (doF.map (fun f => Value.func (.func f) #[.pointer (some ⟨B, 0, none⟩)] #[])).toArray := rfl
    rw [e, List.getElem?_toArray, List.getElem?_map, HFV.out]
    rfl
  have hn2 : D + 1 + 1 ∉ [B, pm, bm] := fun hm => by have := HLT.out _ hm; omega
  have hn1 : D + 1 ∉ [B, pm, bm] := fun hm => by have := HLT.out _ hm; omega
  have hn0 : D ∉ [B, pm, bm] := fun hm => by have := HLT.out _ hm; omega
  have HN0 := Aside0.mk hn2
  have HNZ := Aside0.mk hn1
  have HN2 := Aside0.mk hn0
  have HZ := Aside0.mk hz
  have HB := Aside0.mk hb
  clear hk hz hl hb hn0 hn1 hn2 hd0 hd8
  refine start_ (n := 7) (S := fun w' => w'.cell? ⟨D + 1 + 1, o.kind.toNat, none⟩ = some (.func (.func fv) #[.pointer (some ⟨B, 0, none⟩)] #[]) ∧ w'.cell? ⟨D, 0, none⟩ = some (.int .i64 o.kind) ∧ w'.cell? ⟨D, 1, none⟩ = some (.int .i64 o.sp) ∧ w'.cell? ⟨D, 2, none⟩ = some (.int .i64 o.ak) ∧ w'.cell? ⟨D, 3, none⟩ = some (.bool o.ap) ∧ w'.cell? ⟨D, 4, none⟩ = some (.int .u64 o.av) ∧ w'.cell? ⟨D, 5, none⟩ = some (.int .u8 o.byte) ∧ w'.cell? ⟨D, 6, none⟩ = some (.int .u64 o.va) ∧ w'.cell? ⟨D, 7, none⟩ = some (.int .i64 o.size) ∧ w'.cell? ⟨D, 8, none⟩ = some (.bool o.at_.f0) ∧ w'.cell? ⟨D, 9, none⟩ = some (.bool o.at_.f1) ∧ w'.cell? ⟨D, 10, none⟩ = some (.bool o.at_.f2) ∧ w'.cell? ⟨D, 11, none⟩ = some (.bool o.at_.f3) ∧ w'.cell? ⟨D, 12, none⟩ = some (.bool o.at_.f4) ∧ w'.cell? ⟨D, 13, none⟩ = some (.bool o.at_.f5) ∧ w'.cell? ⟨D, 14, none⟩ = some (.int .i64 o.other) ∧ w'.cell? ⟨D, 15, none⟩ = some (.int .u64 o.too)) (ds := [6]) #[false, false, false, false, false, false, false] (by kernel_rfl) rfl rfl ⟨q0, o0, o1, o2, o3, o4, o5, o6, o7, o8, o9, o10, o11, o12, o13, o14, o15⟩ (fun hHeld => ?_)
  refine pure_ (i := 0) (N := some 32) (v := ?_) (a' := ?_) #[true, false, false, false, false, false, false] rfl rfl (by kernel_rfl) (fun _ _ _ h => h) (Or.inl ⟨by rfl, ?_⟩) ?_ ?_
  rotate_left
  · intro w'
    go_simp
    with_reducible rfl
  rotate_left
  · simp only [Act.put, List.setIfInBounds_toArray, List.set_cons_zero, List.set_cons_succ, i64_w, i32_w]
    rfl
  refine take_ (i := 1) (N := some 33) (v := ?_) (a' := ?_) #[true, true, false, false, false, false, false] rfl rfl (by kernel_rfl) (fun _ _ _ h => h) (Or.inl ⟨by rfl, ?_⟩) hHeld ?_ ?_
  rotate_left
  · rintro w' ⟨s0, s1, s2, s3, s4, s5, s6, s7, s8, s9, s10, s11, s12, s13, s14, s15, s16⟩
    go_simp
    with_reducible rfl
  rotate_left
  · simp only [Act.put, List.setIfInBounds_toArray, List.set_cons_zero, List.set_cons_succ, i64_w, i32_w]
    rfl
  refine pure_ (i := 2) (N := some 34) (v := ?_) (a' := ?_) #[true, true, true, false, false, false, false] rfl rfl (by kernel_rfl) (fun _ _ _ h => h) (Or.inl ⟨by rfl, ?_⟩) ?_ ?_
  rotate_left
  · intro w'
    go_simp
    with_reducible rfl
  rotate_left
  · simp only [Act.put, List.setIfInBounds_toArray, List.set_cons_zero, List.set_cons_succ, i64_w, i32_w]
    rfl
  refine take_ (i := 3) (N := some 35) (v := ?_) (a' := ?_) #[true, true, true, true, false, false, false] rfl rfl (by kernel_rfl) (fun _ _ _ h => h) (Or.inl ⟨by rfl, ?_⟩) hHeld ?_ ?_
  rotate_left
  · rintro w' ⟨s0, s1, s2, s3, s4, s5, s6, s7, s8, s9, s10, s11, s12, s13, s14, s15, s16⟩
    go_simp
    with_reducible rfl
  rotate_left
  · simp only [Act.put, List.setIfInBounds_toArray, List.set_cons_zero, List.set_cons_succ, i64_w, i32_w]
    rfl
  refine take_ (i := 4) (N := some 36) (v := ?_) (a' := ?_) #[true, true, true, true, true, false, false] rfl rfl (by kernel_rfl) (fun _ _ _ h => h) (Or.inl ⟨by rfl, ?_⟩) hHeld ?_ ?_
  rotate_left
  · rintro w' ⟨s0, s1, s2, s3, s4, s5, s6, s7, s8, s9, s10, s11, s12, s13, s14, s15, s16⟩
    go_simp
    with_reducible rfl
  rotate_left
  · simp only [Act.put, List.setIfInBounds_toArray, List.set_cons_zero, List.set_cons_succ, i64_w, i32_w]
    rfl
  refine one_ (i := 5) (N := some 37) #[true, true, true, true, true, true, false] rfl rfl (by kernel_rfl) (by decide) (fun K hK => ?_)
  refine goesv_ (f := fv) (first := #[.pointer (some ⟨B, 0, none⟩)]) (caps := #[]) (args := #[.pointer (some ⟨B, 0, none⟩), Value.agg #[.int .i64 o.kind, .int .i64 o.sp, .int .i64 o.ak, .bool o.ap, .int .u64 o.av, .int .u8 o.byte, .int .u64 o.va, .int .i64 o.size, .bool o.at_.f0, .bool o.at_.f1, .bool o.at_.f2, .bool o.at_.f3, .bool o.at_.f4, .bool o.at_.f5, .int .i64 o.other, .int .u64 o.too]]) (by rfl) rfl rfl (by first | rfl | (simp [Act.eval]; done)) HE.out (by (try simp only [List.map_toArray, List.map_cons, List.map_nil]); first | done | rfl) ?_
  refine (HC.out _ (below_step HB.out (Below.refl _ _).drew)).mono ?_
  rintro e w4 ⟨rfl, hm4, hv4⟩
  refine ⟨_, rfl, ?_⟩
  have HM4 := Aside0.mk hm4
  have HV4 := Aside0.mk hv4
  clear hm4 hv4
  have hz4 : w4.heap[D + 1]? = some (.cells #[.int .i64 0, .int .i64 0, .int .u8 0] 42 (0, 0)) := (HV4.out.block _ (blk_lt HZ.out) HNZ.out).trans HZ.out
  have HZ4 := Aside0.mk hz4
  obtain ⟨t0, t1, t2, t3, t4, t5, t6, t7, t8, t9, t10, t11, t12, t13, t14, t15, t16⟩ := hHeld
  refine hK.out _ _ ⟨HV4.out.cell t0 HN0.out, HV4.out.cell t1 HN2.out, HV4.out.cell t2 HN2.out, HV4.out.cell t3 HN2.out, HV4.out.cell t4 HN2.out, HV4.out.cell t5 HN2.out, HV4.out.cell t6 HN2.out, HV4.out.cell t7 HN2.out, HV4.out.cell t8 HN2.out, HV4.out.cell t9 HN2.out, HV4.out.cell t10 HN2.out, HV4.out.cell t11 HN2.out, HV4.out.cell t12 HN2.out, HV4.out.cell t13 HN2.out, HV4.out.cell t14 HN2.out, HV4.out.cell t15 HN2.out, HV4.out.cell t16 HN2.out⟩ (fun hHeld => ?_)
  clear hK K
  refine norm_ (a' := ?_) ?_ ?_
  rotate_left
  · show Act.put _ (some 37) _ = _
    simp only [Act.put, List.setIfInBounds_toArray, List.set_cons_zero, List.set_cons_succ, i64_w, i32_w]
    rfl
  refine last_ (i := 6) (N := none) #[true, true, true, true, true, true, true] rfl rfl (by kernel_rfl) (by decide) (fun K hK => ?_)
  refine skip_ (w1 := _) (by rfl) rfl (run_store_reply rfl rfl rfl hz4) ?_
  refine hK.out _ _ ?_
  clear hK K
  refine done_ (by kernel_rfl) ?_
  (try simp only [Exit.inBlock, Exit.then])
  clear hHeld
  have hv5 := ((Mv.of_below HB.out.drew).then HV4.out : Mv [B, pm, bm] w w4)
  have HV5 := Aside0.mk hv5
  clear hv5
  go_wp2_with fail
  refine bodyPost_ret (results_cell_row rfl _ _ (D + 1) 42 _ (0, 0) _ rfl (sb_same HZ4.out _) Try.underlying42 rfl (by kernel_rfl)) rfl ?_
  exact ⟨rfl, HM4.out.move (fun k hk => sb_other _ (fun e => HNZ.out (e ▸ hk))), HV5.out.setBlock (.inr (by omega)) _⟩
end
end Go.Proofs.Ytalmemcidbmdgaa.PM




import Derived.Test.YtalmemcidbmdgaaZMk3
/- A model (layer 16): mapped: the walk. -/
set_option linter.unusedVariables false
set_option linter.unusedSimpArgs false
namespace Go.Proofs.Ytalmemcidbmdgaa.PM
open Go.RowKit Go.Proofs.YtalmemcidbmdgaaW.PrintWords Go.Proofs.YtalmemcidbmdgaaW.PrintLast Go.Proofs.YtalmemcidbmdgaaW.PrintMore Go.Proofs.Ytalmemcidbmdgaa.PageG
attribute [local go_sem] max2_int min2_int max_two min_two max_three min_three max_four min_four   -- for this text's walks alone
def mapP (s : MS) (o : OpS) : Pg := ⟨o.va, o.size, s.made, o.at_, false, false⟩
def mappedR (s : MS) (o : OpS) : Int × MS :=
  if isAll s.n [o.sp] = true ∧ (0 ≤ o.size ∧ o.size < 4) ∧ o.at_.f4 = false then
    (if (putS s o.sp (mapP s o)).1 = 0 then (0, { (putS s o.sp (mapP s o)).2 with made := s.made + 1 }) else ((putS s o.sp (mapP s o)).1, (putS s o.sp (mapP s o)).2))
  else (1, s)
theorem putS_made (s : MS) (sp : Int) (p : Pg) : (putS s sp p).2.made = s.made ∧ (putS s sp p).2.n = s.n ∧ (putS s sp p).2.by_ = s.by_ := by
  unfold putS
  split
  · exact ⟨rfl, rfl, rfl⟩
  · split
    · exact ⟨rfl, rfl, rfl⟩
    · split
      · exact ⟨rfl, rfl, rfl⟩
      · exact ⟨rfl, rfl, rfl⟩
/-- What an operation is told, and the model behind it. -/
def Rep2 (w : World) (B pm bm : Nat) (r : Int × MS) (e : Ending) (w' : World) : Prop := e = .returned (.agg #[.int .i64 r.1, .int .i64 0, .int .u8 0]) ∧ Mo w' B pm bm r.2 ∧ Mv [B, pm, bm] w w'
section
variable {w w' : World} {B pm bm : Nat} {s : MS}
theorem Rep2.same {r : Int × MS} {n : Int} (h : Mo w B pm bm s) (hb : Below w.heap.size w w') (hr : r = (n, s)) : Rep2 w B pm bm r (.returned (.agg #[.int .i64 n, .int .i64 0, .int .u8 0])) w' := by
  subst hr
  exact ⟨rfl, h.below hb, Mv.of_below hb⟩
theorem Mo.set_made (h : Mo w B pm bm s) (v : Int) : Mo (w.setCell ⟨B, 3, none⟩ (.int .i64 v)) B pm bm { s with made := v } := by
  have hne := h.neB
  have e := setCell_block (cs' := #[.int .i64 s.n, .map (some pm), .map (some bm), .int .i64 v]) h.hb (i := 3) (.int .i64 v) rfl
  rw [e]
  exact ⟨sb_same h.hb _, h.hp.move (sb_other _ hne.1.symm), h.hm.move (sb_other _ hne.2.symm), h.ne⟩
set_option maxHeartbeats 8000000 in
set_option maxRecDepth 100000 in
theorem mapped_calls (h : Mo w B pm bm s) (hw : WfL s.L) (hf : s.L.length ≤ 100000) (o : OpS) (hva : 0 ≤ o.va ∧ o.va < 2 ^ 64) (hn : s.n ≤ 64) (hm0 : 0 ≤ s.made) (hm1 : s.made < 1000000) :
    Calls Try.prog 39 #[.pointer (some ⟨B, 0, none⟩), Value.agg #[.int .i64 o.kind, .int .i64 o.sp, .int .i64 o.ak, .bool o.ap, .int .u64 o.av, .int .u8 o.byte, .int .u64 o.va, .int .i64 o.size, .bool o.at_.f0, .bool o.at_.f1, .bool o.at_.f2, .bool o.at_.f3, .bool o.at_.f4, .bool o.at_.f5, .int .i64 o.other, .int .u64 o.too]] w (Rep2 w B pm bm (mappedR s o)) := by
  have HM := Aside0.mk h
  have HLT := Aside0.mk h.lt
  have HW := Aside0.mk hw
  have HR := Aside0.mk (show mappedR s o = if isAll s.n [o.sp] = true ∧ (0 ≤ o.size ∧ o.size < 4) ∧ o.at_.f4 = false then
    (if (putS s o.sp (mapP s o)).1 = 0 then (0, { (putS s o.sp (mapP s o)).2 with made := s.made + 1 }) else ((putS s o.sp (mapP s o)).1, (putS s o.sp (mapP s o)).2))
  else (1, s) from rfl)
  generalize mappedR s o = res at *
  have HVA := Aside0.mk hva
  clear h hw hva
  obtain ⟨D, hD⟩ : ∃ D, w.heap.size = D := ⟨_, rfl⟩
  go_enter Try.func39, Try.ntmps39
  go_wp2_with fail
  have hk := blk_alloc (blk_alloc (blk_new w (.cells #[.int .i64 o.kind, .int .i64 o.sp, .int .i64 o.ak, .bool o.ap, .int .u64 o.av, .int .u8 o.byte, .int .u64 o.va, .int .i64 o.size, .bool o.at_.f0, .bool o.at_.f1, .bool o.at_.f2, .bool o.at_.f3, .bool o.at_.f4, .bool o.at_.f5, .int .i64 o.other, .int .u64 o.too] 36)) (.cells #[.int .i64 0, .int .i64 0, .int .u8 0] 42)) (.cells #[.int .i64 o.sp] 3)
  have hz := blk_alloc (blk_new (w.alloc (.cells #[.int .i64 o.kind, .int .i64 o.sp, .int .i64 o.ak, .bool o.ap, .int .u64 o.av, .int .u8 o.byte, .int .u64 o.va, .int .i64 o.size, .bool o.at_.f0, .bool o.at_.f1, .bool o.at_.f2, .bool o.at_.f3, .bool o.at_.f4, .bool o.at_.f5, .int .i64 o.other, .int .u64 o.too] 36)) (.cells #[.int .i64 0, .int .i64 0, .int .u8 0] 42)) (.cells #[.int .i64 o.sp] 3)
  have hl := blk_new ((w.alloc (.cells #[.int .i64 o.kind, .int .i64 o.sp, .int .i64 o.ak, .bool o.ap, .int .u64 o.av, .int .u8 o.byte, .int .u64 o.va, .int .i64 o.size, .bool o.at_.f0, .bool o.at_.f1, .bool o.at_.f2, .bool o.at_.f3, .bool o.at_.f4, .bool o.at_.f5, .int .i64 o.other, .int .u64 o.too] 36)).alloc (.cells #[.int .i64 0, .int .i64 0, .int .u8 0] 42)) (.cells #[.int .i64 o.sp] 3)
  have hb : Below w.heap.size w (((w.alloc (.cells #[.int .i64 o.kind, .int .i64 o.sp, .int .i64 o.ak, .bool o.ap, .int .u64 o.av, .int .u8 o.byte, .int .u64 o.va, .int .i64 o.size, .bool o.at_.f0, .bool o.at_.f1, .bool o.at_.f2, .bool o.at_.f3, .bool o.at_.f4, .bool o.at_.f5, .int .i64 o.other, .int .u64 o.too] 36)).alloc (.cells #[.int .i64 0, .int .i64 0, .int .u8 0] 42)).alloc (.cells #[.int .i64 o.sp] 3)) := (((Below.refl _ w).alloc (Nat.le_refl _) _).alloc (by simp) _).alloc (by simp; omega) _
  have hs1 : (w.alloc (.cells #[.int .i64 o.kind, .int .i64 o.sp, .int .i64 o.ak, .bool o.ap, .int .u64 o.av, .int .u8 o.byte, .int .u64 o.va, .int .i64 o.size, .bool o.at_.f0, .bool o.at_.f1, .bool o.at_.f2, .bool o.at_.f3, .bool o.at_.f4, .bool o.at_.f5, .int .i64 o.other, .int .u64 o.too] 36)).heap.size = D + 1 := by simp [hD]
  have hs2 : ((w.alloc (.cells #[.int .i64 o.kind, .int .i64 o.sp, .int .i64 o.ak, .bool o.ap, .int .u64 o.av, .int .u8 o.byte, .int .u64 o.va, .int .i64 o.size, .bool o.at_.f0, .bool o.at_.f1, .bool o.at_.f2, .bool o.at_.f3, .bool o.at_.f4, .bool o.at_.f5, .int .i64 o.other, .int .u64 o.too] 36)).alloc (.cells #[.int .i64 0, .int .i64 0, .int .u8 0] 42)).heap.size = D + 1 + 1 := by simp [hD]
  rw [hD] at hk
  rw [hs1] at hz
  rw [hs2] at hl
  generalize ((w.alloc (.cells #[.int .i64 o.kind, .int .i64 o.sp, .int .i64 o.ak, .bool o.ap, .int .u64 o.av, .int .u8 o.byte, .int .u64 o.va, .int .i64 o.size, .bool o.at_.f0, .bool o.at_.f1, .bool o.at_.f2, .bool o.at_.f3, .bool o.at_.f4, .bool o.at_.f5, .int .i64 o.other, .int .u64 o.too] 36)).alloc (.cells #[.int .i64 0, .int .i64 0, .int .u8 0] 42)).alloc (.cells #[.int .i64 o.sp] 3) = w1 at *
  clear hs1 hs2
  refine (is_calls (HM.out.below hb) [o.sp] (some ⟨D + 1 + 1, 0, none⟩) 1 (c_lit (xs := [o.sp]) hl (by simp)) (by simp)).mono ?_
  rintro e w2 ⟨rfl, rfl⟩
  have hov : o.va = (o.va.toNat : Int) := by have := HVA.out; omega
  obtain ⟨-, o1, -, -, -, -, o6, o7, o8, o9, o10, o11, o12, o13, -, -⟩ := cells16 hk
  have HZ := Aside0.mk hz
  have HB := Aside0.mk hb
  have HK := Aside0.mk hk
  clear hk hz hl hb hov
  generalize hia : isAll s.n [o.sp] = ia at *
  cases ia with
  | false =>
    rw [if_neg (by simp)] at HR
    go_wp2_with fail
    refine (model_told.calls 1 _ _ _ w1 rfl).mono ?_
    rintro e w2z ⟨rfl, hb2⟩
    have hz2 := blk_below HZ.out hb2
    have HB2 := Aside0.mk (below_step HB.out hb2)
    obtain ⟨z0, z1, z2⟩ := cells3 hz2
    have y0 := blk_frozen hz2 0
    have y1 := blk_frozen hz2 1
    have y2 := blk_frozen hz2 2
    clear hb2
    go_wp2_with fail
    rw [set3 hz2]
    refine bodyPost_ret (results_cell_row rfl _ _ (D + 1) 42 _ (0, 0) _ rfl (sb_same hz2 _) Try.underlying42 rfl (by kernel_rfl)) rfl ?_
    exact Rep2.same HM.out (below_sb HB2.out (by omega) _) HR.out
  | true =>
    have HIA := Aside0.mk hia
    clear hia
    have HMY := Aside0.mk (pmay o.size)
    generalize hmy : decide (0 ≤ o.size ∧ o.size < 4) = my at *
    go_wp2_with fail
    refine (page_May.calls o.size my w1 HMY.out).mono ?_
    rintro e w2 ⟨rfl, hd⟩
    have HK2 := Aside0.mk (blk_below HK.out hd.below)
    have HZ2 := Aside0.mk (blk_below HZ.out hd.below)
    have HB2 := Aside0.mk (below_step HB.out hd.below)
    clear hd o1 o6 o7 o8 o9 o10 o11 o12 o13 HB HK HZ
    have HZ := HZ2
    have HB := HB2
    clear HZ2 HB2
    obtain ⟨-, o1, -, -, -, -, o6, o7, o8, o9, o10, o11, o12, o13, -, -⟩ := cells16 HK2.out
    cases my with
    | false =>
      rw [if_neg (by have := of_decide_eq_false hmy; intro h; exact this h.2.1)] at HR
      clear hmy
      go_wp2_with fail
      refine (model_told.calls 1 _ _ _ w2 rfl).mono ?_
      rintro e w2z ⟨rfl, hb2⟩
      have hz2 := blk_below HZ.out hb2
      have HB2 := Aside0.mk (below_step HB.out hb2)
      obtain ⟨z0, z1, z2⟩ := cells3 hz2
      have y0 := blk_frozen hz2 0
      have y1 := blk_frozen hz2 1
      have y2 := blk_frozen hz2 2
      clear hb2
      go_wp2_with fail
      rw [set3 hz2]
      refine bodyPost_ret (results_cell_row rfl _ _ (D + 1) 42 _ (0, 0) _ rfl (sb_same hz2 _) Try.underlying42 rfl (by kernel_rfl)) rfl ?_
      exact Rep2.same HM.out (below_sb HB2.out (by omega) _) HR.out
    | true =>
      have hmz := of_decide_eq_true hmy
      have HMZ := Aside0.mk hmz
      clear hmy hmz
      rcases Bool.eq_false_or_eq_true o.at_.f4 with hag | hag
      · rw [if_neg (by rw [hag]; simp)] at HR
        go_wp2_with fail
        refine (model_told.calls 1 _ _ _ w2 rfl).mono ?_
        rintro e w2z ⟨rfl, hb2⟩
        have hz2 := blk_below HZ.out hb2
        have HB2 := Aside0.mk (below_step HB.out hb2)
        obtain ⟨z0, z1, z2⟩ := cells3 hz2
        have y0 := blk_frozen hz2 0
        have y1 := blk_frozen hz2 1
        have y2 := blk_frozen hz2 2
        clear hb2
        go_wp2_with fail
        rw [set3 hz2]
        refine bodyPost_ret (results_cell_row rfl _ _ (D + 1) 42 _ (0, 0) _ rfl (sb_same hz2 _) Try.underlying42 rfl (by kernel_rfl)) rfl ?_
        exact Rep2.same HM.out (below_sb HB2.out (by omega) _) HR.out
      · rw [if_pos ⟨by trivial, HMZ.out, hag⟩] at HR
        go_upto_region 3 with fail
        clear hag
        have hcv : IntKind.u64.wrap s.made = s.made := by rw [IntKind.wrap_u64]; omega
        have hw2 := (HM.out.below HB.out).below (Below.refl _ w2).drew
        have hoq : OkQ o.sp (mapP s o) := by
          have h1 : ∀ z ∈ [o.sp], 0 ≤ z ∧ z < s.n := by
            have := HIA.out
            unfold isAll at this
            rw [List.all_eq_true] at this
            exact fun z hz => by simpa using this z hz
          have h2 := h1 o.sp (by simp)
          have h3 := HVA.out
          exact ⟨h2.1, by omega, by show o.va = ((o.va.toNat : Nat) : Int); omega, by show o.va.toNat < 2 ^ 64; omega, hm0, hm1⟩
        have HP := Aside0.mk (put_calls hw2 HW.out hf o.sp (mapP s o) hoq)
        have hmd := (putS_made s o.sp (mapP s o)).1
        have HMD := Aside0.mk hmd
        clear hoq hw2 hmd
        have m3 := (HM.out.below HB.out).cells.2.2.2
        generalize putS s o.sp (mapP s o) = r2 at *
        have hnD : D ∉ [B, pm, bm] := fun hm => by have := HLT.out _ hm; omega
        have HND := Aside0.mk hnD
        clear hnD
        refine start_ (n := 17) (S := fun w' => w'.cell? ⟨B, 3, none⟩ = some (.int .i64 s.made) ∧ w'.cell? ⟨D, 1, none⟩ = some (.int .i64 o.sp) ∧ w'.cell? ⟨D, 6, none⟩ = some (.int .u64 o.va) ∧ w'.cell? ⟨D, 7, none⟩ = some (.int .i64 o.size) ∧ w'.cell? ⟨D, 8, none⟩ = some (.bool o.at_.f0) ∧ w'.cell? ⟨D, 9, none⟩ = some (.bool o.at_.f1) ∧ w'.cell? ⟨D, 10, none⟩ = some (.bool o.at_.f2) ∧ w'.cell? ⟨D, 11, none⟩ = some (.bool o.at_.f3) ∧ w'.cell? ⟨D, 12, none⟩ = some (.bool o.at_.f4) ∧ w'.cell? ⟨D, 13, none⟩ = some (.bool o.at_.f5)) (ds := []) #[false, false, false, false, false, false, false, false, false, false, false, false, false, false, false, false, false] (by kernel_rfl) rfl rfl ⟨m3, o1, o6, o7, o8, o9, o10, o11, o12, o13⟩ (fun hHeld => ?_)
        refine pure_ (i := 0) (N := some 24) (v := ?_) (a' := ?_) #[true, false, false, false, false, false, false, false, false, false, false, false, false, false, false, false, false] rfl rfl (by kernel_rfl) (fun _ _ _ h => h) (Or.inl ⟨by rfl, ?_⟩) ?_ ?_
        rotate_left
        · intro w'
          go_simp
          with_reducible rfl
        rotate_left
        · simp only [Act.put, List.setIfInBounds_toArray, List.set_cons_zero, List.set_cons_succ, i64_w, i32_w]
          rfl
        refine pure_ (i := 1) (N := some 25) (v := ?_) (a' := ?_) #[true, true, false, false, false, false, false, false, false, false, false, false, false, false, false, false, false] rfl rfl (by kernel_rfl) (fun _ _ _ h => h) (Or.inl ⟨by rfl, ?_⟩) ?_ ?_
        rotate_left
        · intro w'
          go_simp
          with_reducible rfl
        rotate_left
        · simp only [Act.put, List.setIfInBounds_toArray, List.set_cons_zero, List.set_cons_succ, i64_w, i32_w]
          rfl
        refine pure_ (i := 3) (N := some 27) (v := ?_) (a' := ?_) #[true, true, false, true, false, false, false, false, false, false, false, false, false, false, false, false, false] rfl rfl (by kernel_rfl) (fun _ _ _ h => h) (Or.inl ⟨by rfl, ?_⟩) ?_ ?_
        rotate_left
        · intro w'
          go_simp
          with_reducible rfl
        rotate_left
        · simp only [Act.put, List.setIfInBounds_toArray, List.set_cons_zero, List.set_cons_succ, i64_w, i32_w]
          rfl
        refine pure_ (i := 5) (N := some 29) (v := ?_) (a' := ?_) #[true, true, false, true, false, true, false, false, false, false, false, false, false, false, false, false, false] rfl rfl (by kernel_rfl) (fun _ _ _ h => h) (Or.inl ⟨by rfl, ?_⟩) ?_ ?_
        rotate_left
        · intro w'
          go_simp
          with_reducible rfl
        rotate_left
        · simp only [Act.put, List.setIfInBounds_toArray, List.set_cons_zero, List.set_cons_succ, i64_w, i32_w]
          rfl
        refine pure_ (i := 7) (N := some 31) (v := ?_) (a' := ?_) #[true, true, false, true, false, true, false, true, false, false, false, false, false, false, false, false, false] rfl rfl (by kernel_rfl) (fun _ _ _ h => h) (Or.inl ⟨by rfl, ?_⟩) ?_ ?_
        rotate_left
        · intro w'
          go_simp
          with_reducible rfl
        rotate_left
        · simp only [Act.put, List.setIfInBounds_toArray, List.set_cons_zero, List.set_cons_succ, i64_w, i32_w]
          rfl
        refine pure_ (i := 8) (N := some 32) (v := ?_) (a' := ?_) #[true, true, false, true, false, true, false, true, true, false, false, false, false, false, false, false, false] rfl rfl (by kernel_rfl) (fun _ _ _ h => h) (Or.inl ⟨by rfl, ?_⟩) ?_ ?_
        rotate_left
        · intro w'
          go_simp
          with_reducible rfl
        rotate_left
        · simp only [Act.put, List.setIfInBounds_toArray, List.set_cons_zero, List.set_cons_succ, i64_w, i32_w]
          rfl
        refine pure_ (i := 9) (N := some 33) (v := ?_) (a' := ?_) #[true, true, false, true, false, true, false, true, true, true, false, false, false, false, false, false, false] rfl rfl (by kernel_rfl) (fun _ _ _ h => h) (Or.inl ⟨by rfl, ?_⟩) ?_ ?_
        rotate_left
        · intro w'
          go_simp
          with_reducible rfl
        rotate_left
        · simp only [Act.put, List.setIfInBounds_toArray, List.set_cons_zero, List.set_cons_succ, i64_w, i32_w]
          rfl
        refine pure_ (i := 12) (N := some 36) (v := ?_) (a' := ?_) #[true, true, false, true, false, true, false, true, true, true, false, false, true, false, false, false, false] rfl rfl (by kernel_rfl) (fun _ _ _ h => h) (Or.inl ⟨by rfl, ?_⟩) ?_ ?_
        rotate_left
        · intro w'
          go_simp
          with_reducible rfl
        rotate_left
        · simp only [Act.put, List.setIfInBounds_toArray, List.set_cons_zero, List.set_cons_succ, i64_w, i32_w]
          rfl
        refine take_ (i := 2) (N := some 26) (v := ?_) (a' := ?_) #[true, true, true, true, false, true, false, true, true, true, false, false, true, false, false, false, false] rfl rfl (by kernel_rfl) (fun _ _ _ h => h) (Or.inl ⟨by rfl, ?_⟩) hHeld ?_ ?_
        rotate_left
        · rintro w' ⟨s0, s1, s2, s3, s4, s5, s6, s7, s8, s9⟩
          go_simp
          with_reducible rfl
        rotate_left
        · simp only [Act.put, List.setIfInBounds_toArray, List.set_cons_zero, List.set_cons_succ, i64_w, i32_w]
          rfl
        refine take_ (i := 4) (N := some 28) (v := ?_) (a' := ?_) #[true, true, true, true, true, true, false, true, true, true, false, false, true, false, false, false, false] rfl rfl (by kernel_rfl) (fun _ _ _ h => h) (Or.inl ⟨by rfl, ?_⟩) hHeld ?_ ?_
        rotate_left
        · rintro w' ⟨s0, s1, s2, s3, s4, s5, s6, s7, s8, s9⟩
          go_simp
          with_reducible rfl
        rotate_left
        · simp only [Act.put, List.setIfInBounds_toArray, List.set_cons_zero, List.set_cons_succ, i64_w, i32_w]
          rfl
        refine take_ (i := 6) (N := some 30) (v := ?_) (a' := ?_) #[true, true, true, true, true, true, true, true, true, true, false, false, true, false, false, false, false] rfl rfl (by kernel_rfl) (fun _ _ _ h => h) (Or.inl ⟨by rfl, ?_⟩) hHeld ?_ ?_
        rotate_left
        · rintro w' ⟨s0, s1, s2, s3, s4, s5, s6, s7, s8, s9⟩
          go_simp
          with_reducible rfl
        rotate_left
        · simp only [Act.put, List.setIfInBounds_toArray, List.set_cons_zero, List.set_cons_succ, i64_w, i32_w]
          rfl
        refine take_ (i := 10) (N := some 34) (v := ?_) (a' := ?_) #[true, true, true, true, true, true, true, true, true, true, true, false, true, false, false, false, false] rfl rfl (by kernel_rfl) (fun _ _ _ h => h) (Or.inl ⟨by rfl, ?_⟩) hHeld ?_ ?_
        rotate_left
        · rintro w' ⟨s0, s1, s2, s3, s4, s5, s6, s7, s8, s9⟩
          go_simp
          with_reducible rfl
        rotate_left
        · simp only [Act.put, List.setIfInBounds_toArray, List.set_cons_zero, List.set_cons_succ, i64_w, i32_w]
          rfl
        refine pure_ (i := 11) (N := some 35) (v := ?_) (a' := ?_) #[true, true, true, true, true, true, true, true, true, true, true, true, true, false, false, false, false] rfl rfl (by kernel_rfl) (fun _ _ _ h => h) (Or.inl ⟨by rfl, ?_⟩) ?_ ?_
        rotate_left
        · intro w'
          go_simp
          with_reducible rfl
        rotate_left
        · simp only [Act.put, List.setIfInBounds_toArray, List.set_cons_zero, List.set_cons_succ, i64_w, i32_w]
          rfl
        refine take_ (i := 13) (N := some 37) (v := ?_) (a' := ?_) #[true, true, true, true, true, true, true, true, true, true, true, true, true, true, false, false, false] rfl rfl (by kernel_rfl) (fun _ _ _ h => h) (Or.inl ⟨by rfl, ?_⟩) hHeld ?_ ?_
        rotate_left
        · rintro w' ⟨s0, s1, s2, s3, s4, s5, s6, s7, s8, s9⟩
          go_simp
          with_reducible rfl
        rotate_left
        · simp only [Act.put, List.setIfInBounds_toArray, List.set_cons_zero, List.set_cons_succ, i64_w, i32_w]
          rfl
        refine pure_ (i := 14) (N := some 38) (v := ?_) (a' := ?_) #[true, true, true, true, true, true, true, true, true, true, true, true, true, true, true, false, false] rfl rfl (by kernel_rfl) (fun _ _ _ h => h) (Or.inl ⟨by rfl, ?_⟩) ?_ ?_
        rotate_left
        · intro w'
          go_simp
          with_reducible rfl
        rotate_left
        · simp only [Act.put, List.setIfInBounds_toArray, List.set_cons_zero, List.set_cons_succ, i64_w, i32_w]
          rfl
        refine one_ (i := 15) (N := some 39) #[true, true, true, true, true, true, true, true, true, true, true, true, true, true, true, true, false] rfl rfl (by kernel_rfl) (by decide) (fun K hK => ?_)
        refine goes_ Try.func70 (by kernel_rfl) rfl #[.pointer (some ⟨B, 0, none⟩), .int .i64 o.sp, .agg #[.int .u64 o.va, .int .i64 o.size, .int .u64 s.made, .bool o.at_.f0, .bool o.at_.f1, .bool o.at_.f2, .bool o.at_.f3, .bool o.at_.f4, .bool o.at_.f5, .bool false, .bool false]] (by rfl) rfl rfl (by (try simp only [List.map_toArray, List.map_cons, List.map_nil]); first | done | rfl) ?_
        refine HP.out.mono ?_
        rintro e w4 ⟨rfl, hm4, hv4⟩
        refine ⟨_, rfl, ?_⟩
        have HM4 := Aside0.mk hm4
        have HV4 := Aside0.mk hv4
        have hm3' := hm4.cells.2.2.2
        rw [HMD.out] at hm3'
        have HM3 := Aside0.mk hm3'
        clear hm4 hv4 hm3'
        obtain ⟨t0, t1, t2, t3, t4, t5, t6, t7, t8, t9⟩ := hHeld
        refine hK.out _ _ ⟨HM3.out, HV4.out.cell t1 HND.out, HV4.out.cell t2 HND.out, HV4.out.cell t3 HND.out, HV4.out.cell t4 HND.out, HV4.out.cell t5 HND.out, HV4.out.cell t6 HND.out, HV4.out.cell t7 HND.out, HV4.out.cell t8 HND.out, HV4.out.cell t9 HND.out⟩ (fun hHeld => ?_)
        clear hK K
        refine norm_ (a' := ?_) ?_ ?_
        rotate_left
        · show Act.put _ (some 39) _ = _
          simp only [Act.put, List.setIfInBounds_toArray, List.set_cons_zero, List.set_cons_succ, i64_w, i32_w]
          rfl
        refine pure_ (i := 16) (N := some 5) (v := ?_) (a' := ?_) #[true, true, true, true, true, true, true, true, true, true, true, true, true, true, true, true, true] rfl rfl (by kernel_rfl) (fun _ _ _ h => h) (Or.inl ⟨by rfl, ?_⟩) ?_ ?_
        rotate_left
        · intro w'
          go_simp
          with_reducible rfl
        rotate_left
        · simp only [Act.put, List.setIfInBounds_toArray, List.set_cons_zero, List.set_cons_succ, i64_w, i32_w]
          rfl
        refine done_ (by kernel_rfl) ?_
        (try simp only [Exit.inBlock, Exit.then])
        clear t0 t1 t2 t3 t4 t5 t6 t7 t8 t9 hHeld o1 o6 o7 o8 o9 o10 o11 o12 o13 m3 hcv HP
        have hnZ : D + 1 ∉ [B, pm, bm] := fun hm => by have := HLT.out _ hm; omega
        have hz4 : w4.heap[D + 1]? = some (.cells #[.int .i64 0, .int .i64 0, .int .u8 0] 42 (0, 0)) := (HV4.out.block _ (blk_lt HZ.out) hnZ).trans HZ.out
        have hnB : D + 1 ≠ B := fun e => hnZ (by rw [e]; simp)
        have HVV := Aside0.mk ((Mv.of_below HB.out.drew).then HV4.out)
        have HNZ := Aside0.mk hnZ
        have HZ4 := Aside0.mk hz4
        clear hz4 hnZ
        by_cases hr : r2.1 = 0
        · rw [if_pos hr] at HR
          have hb1 : (r2.1 == 0) = true := beq_iff_eq.2 hr
          have hwm : wrap64 (s.made + 1) = s.made + 1 := by unfold wrap64; omega
          have m3 := HM3.out
          have m3f := blk_frozen HM4.out.hb 3
          have hm5 := HM4.out.set_made (s.made + 1)
          have hv5 := HVV.out.set (p := ⟨B, 3, none⟩) (.inl (by simp)) (.int .i64 (s.made + 1))
          have hz5 := (Below.heap_setCell w4 ⟨B, 3, none⟩ (.int .i64 (s.made + 1)) (D + 1) hnB).trans HZ4.out
          have HM5 := Aside0.mk hm5
          have HV5 := Aside0.mk hv5
          have HZ5 := Aside0.mk hz5
          have HRR := Aside0.mk hr
          clear hm5 hv5 hz5 HZ4 HM4 HV4 HVV hr
          go_wp2_with fail
          generalize w4.setCell ⟨B, 3, none⟩ (.int .i64 (s.made + 1)) = w5 at *
          refine (model_told.calls r2.1 _ _ _ w5 rfl).mono ?_
          rintro e w6 ⟨rfl, hb6⟩
          have hz6 := blk_below HZ5.out hb6
          have HM6 := Aside0.mk (HM5.out.below hb6)
          have HV6 := Aside0.mk (HV5.out.trans (S' := []) (Mv.of_below hb6) (fun _ hk => by simp at hk))
          obtain ⟨z0, z1, z2⟩ := cells3 hz6
          have y0 := blk_frozen hz6 0
          have y1 := blk_frozen hz6 1
          have y2 := blk_frozen hz6 2
          clear hb6
          go_wp2_with fail
          rw [set3 hz6]
          refine bodyPost_ret (results_cell_row rfl _ _ (D + 1) 42 _ (0, 0) _ rfl (sb_same hz6 _) Try.underlying42 rfl (by kernel_rfl)) rfl ?_
          rw [HR.out]
          exact ⟨by rw [HRR.out], HM6.out.move (fun k hk => sb_other _ (fun e => HNZ.out (e ▸ hk))), HV6.out.setBlock (.inr (by omega)) _⟩
        · rw [if_neg hr] at HR
          have hb1 : (r2.1 == 0) = false := beq_eq_false_iff_ne.2 hr
          have HRR := Aside0.mk hr
          clear hr
          go_wp2_with fail
          refine (model_told.calls r2.1 _ _ _ w4 rfl).mono ?_
          rintro e w6 ⟨rfl, hb6⟩
          have hz6 := blk_below HZ4.out hb6
          have HM6 := Aside0.mk (HM4.out.below hb6)
          have HV6 := Aside0.mk (HVV.out.trans (S' := []) (Mv.of_below hb6) (fun _ hk => by simp at hk))
          obtain ⟨z0, z1, z2⟩ := cells3 hz6
          have y0 := blk_frozen hz6 0
          have y1 := blk_frozen hz6 1
          have y2 := blk_frozen hz6 2
          clear hb6
          go_wp2_with fail
          rw [set3 hz6]
          refine bodyPost_ret (results_cell_row rfl _ _ (D + 1) 42 _ (0, 0) _ rfl (sb_same hz6 _) Try.underlying42 rfl (by kernel_rfl)) rfl ?_
          rw [HR.out]
          exact ⟨rfl, HM6.out.move (fun k hk => sb_other _ (fun e => HNZ.out (e ▸ hk))), HV6.out.setBlock (.inr (by omega)) _⟩
end
end Go.Proofs.Ytalmemcidbmdgaa.PM



/- A model (layer 16): destroy: plain, and the walk. -/
set_option linter.unusedVariables false
set_option linter.unusedSimpArgs false
namespace Go.Proofs.Ytalmemcidbmdgaa.PM
open Go.RowKit Go.Proofs.YtalmemcidbmdgaaW.PrintWords Go.Proofs.YtalmemcidbmdgaaW.PrintLast Go.Proofs.YtalmemcidbmdgaaW.PrintMore Go.Proofs.Ytalmemcidbmdgaa.PageG
attribute [local go_sem] max2_int min2_int max_two min_two max_three min_three max_four min_four   -- for this text's walks alone
/-- What is left when the pages l.take j of a space are gone. -/
structure DS (s : MS) (sp : Int) (l : List Pg) (j : Nat) (t : MS) : Prop where
  n : t.n = s.n
  made : t.made = s.made
  rest : (l.drop j).Perm (sel sp t.L)
  keep : t.L.filter (fun y => !(y.f0 == sp)) = s.L.filter (fun y => !(y.f0 == sp))
  wf : WfL t.L
  sub : t.L.Sublist s.L
  by_ : ∀ r o, getB t.by_ r o = if (∃ x ∈ s.L, x.f0 = sp ∧ x.f1.f2 = r) ∧ winN t.L r = 0 then 0 else getB s.by_ r o
  bsub : ∀ b ∈ t.by_, b ∈ s.by_
theorem erase_perm {α : Type} {L : List α} {i : Nat} (h : i < L.length) : L.Perm (L[i] :: L.eraseIdx i) := by
  have hs : L = L.take i ++ L[i] :: L.drop (i + 1) := by
    rw [← List.drop_eq_getElem_cons h, List.take_append_drop]
  rw [List.eraseIdx_eq_take_drop_succ]
  conv => lhs; rw [hs]
  exact List.perm_middle
theorem winN_pos {L : List Ent} {x : Ent} (h : x ∈ L) : winN L x.f1.f2 ≠ 0 := by
  unfold winN
  have := List.countP_pos_iff (p := fun y : Ent => y.f1.f2 == x.f1.f2) (l := L) |>.2 ⟨x, h, by simp⟩
  omega
theorem winN_erase {L : List Ent} {i : Nat} {x : Ent} (h : L[i]? = some x) (r : Int) : winN L r = winN (L.eraseIdx i) r + if x.f1.f2 = r then 1 else 0 := by
  obtain ⟨hlt, he⟩ := List.getElem?_eq_some_iff.1 h
  have hp := erase_perm hlt
  rw [he] at hp
  unfold winN
  rw [hp.countP_eq]
  rw [List.countP_cons]
  by_cases e : x.f1.f2 = r <;> simp [e]
theorem DS.start {s : MS} {sp : Int} {l : List Pg} (hw : WfL s.L) (hp : l.Perm (sel sp s.L)) : DS s sp l 0 s := by
  refine ⟨rfl, rfl, by simpa using hp, rfl, hw, List.Sublist.refl _, fun r o => ?_, fun b hb => hb⟩
  rw [if_neg]
  rintro ⟨⟨x, hx, -, rfl⟩, h0⟩
  exact winN_pos hx h0
theorem DS.next {s t : MS} {sp : Int} {l : List Pg} {j : Nat} {p : Pg} (h : DS s sp l j t) (hj : l[j]? = some p) :
    ∃ i x, t.L[i]? = some x ∧ x.f0 = sp ∧ x.f1 = p ∧ DS s sp l (j + 1) (dropS t i x) := by
  obtain ⟨hlt, hje⟩ := List.getElem?_eq_some_iff.1 hj
  have hd : l.drop j = p :: l.drop (j + 1) := by rw [← hje]; exact List.drop_eq_getElem_cons hlt
  have hm : p ∈ sel sp t.L := h.rest.mem_iff.1 (by rw [hd]; simp)
  unfold sel at hm
  obtain ⟨x, hx, hxp⟩ := List.mem_map.1 hm
  obtain ⟨hx1, hx2⟩ := List.mem_filter.1 hx
  obtain ⟨i, hi, hix⟩ := List.mem_iff_getElem.1 hx1
  have hi2 : t.L[i]? = some x := by rw [List.getElem?_eq_getElem hi, hix]
  have hxs : x.f0 = sp := by simpa using hx2
  have hp := erase_perm hi
  rw [hix] at hp
  refine ⟨i, x, hi2, hxs, hxp, ⟨h.n, h.made, ?_, ?_, h.wf.erase i, (List.eraseIdx_sublist _ _).trans h.sub, fun r o => ?_, fun b hb => ?_⟩⟩
  · have h1 := h.rest
    rw [hd] at h1
    have h2 := sel_perm hp sp
    have h3 : sel sp (x :: t.L.eraseIdx i) = p :: sel sp (t.L.eraseIdx i) := by
      unfold sel
      simp [hxs, hxp]
    rw [h3] at h2
    exact (List.perm_cons p).1 (h1.trans h2)
  · rw [← h.keep]
    show (t.L.eraseIdx i).filter _ = _
    have hs : t.L = t.L.take i ++ x :: t.L.drop (i + 1) := by
      rw [← hix, ← List.drop_eq_getElem_cons hi, List.take_append_drop]
    rw [List.eraseIdx_eq_take_drop_succ]
    conv => rhs; rw [hs]
    simp [List.filter_append, hxs]
  · have hwe := winN_erase hi2 r
    have hb := h.by_ r o
    have hxm : x ∈ s.L := h.sub.subset hx1
    show getB (if winN (t.L.eraseIdx i) x.f1.f2 = 0 then cutB t.by_ x.f1.f2 else t.by_) r o = _
    show _ = if (∃ x ∈ s.L, x.f0 = sp ∧ x.f1.f2 = r) ∧ winN (t.L.eraseIdx i) r = 0 then 0 else getB s.by_ r o
    by_cases hr : x.f1.f2 = r
    · rw [if_pos hr] at hwe
      subst hr
      by_cases h0 : winN (t.L.eraseIdx i) x.f1.f2 = 0
      · rw [if_pos h0, if_pos ⟨⟨x, hxm, hxs, rfl⟩, h0⟩, getB_cut, if_pos rfl]
      · rw [if_neg h0, if_neg (fun h => h0 h.2), hb, if_neg (fun h => by omega)]
    · rw [if_neg hr] at hwe
      rw [show winN (t.L.eraseIdx i) r = winN t.L r by omega, ← hb]
      split
      · rw [getB_cut, if_neg (fun e => hr e.symm)]
      · rfl
  · have hb' : b ∈ (if winN (t.L.eraseIdx i) x.f1.f2 = 0 then cutB t.by_ x.f1.f2 else t.by_) := hb
    split at hb'
    · exact h.bsub b (List.mem_filter.1 hb').1
    · exact h.bsub b hb'
/-- What destroy leaves. -/
structure Gone (s : MS) (sp : Int) (t : MS) : Prop where
  n : t.n = s.n
  made : t.made = s.made
  L : t.L = s.L.filter (fun y => !(y.f0 == sp))
  by_ : ∀ r o, getB t.by_ r o = if (∃ x ∈ s.L, x.f0 = sp ∧ x.f1.f2 = r) ∧ winN t.L r = 0 then 0 else getB s.by_ r o
  bsub : ∀ b ∈ t.by_, b ∈ s.by_
theorem DS.end {s t : MS} {sp : Int} {l : List Pg} (h : DS s sp l l.length t) : Gone s sp t := by
  refine ⟨h.n, h.made, ?_, h.by_, h.bsub⟩
  have h1 := h.rest
  rw [List.drop_length] at h1
  have h2 : sel sp t.L = [] := h1.symm.eq_nil
  rw [← h.keep]
  refine (List.filter_eq_self.2 (fun y hy => ?_)).symm
  unfold sel at h2
  rw [List.map_eq_nil_iff, List.filter_eq_nil_iff] at h2
  simpa using h2 y hy
end Go.Proofs.Ytalmemcidbmdgaa.PM


/- A model (layer 16): destroy: the walk. -/
set_option linter.unusedVariables false
set_option linter.unusedSimpArgs false
namespace Go.Proofs.Ytalmemcidbmdgaa.PM
open Go.RowKit Go.Proofs.YtalmemcidbmdgaaW.PrintWords Go.Proofs.YtalmemcidbmdgaaW.PrintLast Go.Proofs.YtalmemcidbmdgaaW.PrintMore Go.Proofs.Ytalmemcidbmdgaa.PageG
attribute [local go_sem] max2_int min2_int max_two min_two max_three min_three max_four min_four   -- for this text's walks alone
section
variable {w w' : World} {B pm bm : Nat} {s : MS}
def DestP (w : World) (B pm bm : Nat) (s : MS) (o : OpS) (e : Ending) (w' : World) : Prop :=
  ∃ (n : Int) (t : MS), e = .returned (.agg #[.int .i64 n, .int .i64 0, .int .u8 0]) ∧ ((isAll s.n [o.sp] = false ∧ n = 1 ∧ t = s) ∨ (isAll s.n [o.sp] = true ∧ n = 0 ∧ Gone s o.sp t)) ∧ Mo w' B pm bm t ∧ Mv [B, pm, bm] w w'
theorem add_block (ad : Addr) (n : Nat) : (ad.add n).block = ad.block := by
  unfold Addr.add
  (repeat' split) <;> rfl
theorem C_mv {α : Type} {d : Kd α} {A : Option Addr} {l : List α} {S : List Nat} (hd : ∀ w1 w2 x cs, d.K w1 x cs → d.K w2 x cs) (h : Kd.C d w A l.length l) (hm : Mv S w w') (hA : ∀ ad, A = some ad → ad.block ∉ S) : Kd.C d w' A l.length l := by
  refine ⟨h.1, h.2.1, fun hn => ?_⟩
  obtain ⟨ad, e, hc⟩ := h.2.2 hn
  refine ⟨ad, e, fun j p hj => ?_⟩
  obtain ⟨c, hs, hr, hcell⟩ := hc j p hj
  exact ⟨c, hs, hd _ _ _ _ hr, fun i u hu => hm.cell (hcell i u hu) ((add_block ad _).symm ▸ hA ad e)⟩
theorem kP_any (w1 w2 : World) (x : Pg) (cs : List Value) (h : k50.K w1 x cs) : k50.K w2 x cs := by
  rw [k50_open h]
  exact k50_mk w2 x
/-- destroy's loop. -/
structure DW (w W : World) (B pm bm : Nat) (s : MS) (o : OpS) (D : Nat) (A : Option Addr) (l : List Pg) (j : Nat) (t : MS) : Prop where
  ds : DS s o.sp l j t
  mo : Mo W B pm bm t
  mv : Mv [B, pm, bm] w W
  o1 : W.cell? ⟨D, 1, none⟩ = some (.int .i64 o.sp)
  hz : W.heap[D + 1]? = some (.cells #[.int .i64 0, .int .i64 0, .int .u8 0] 42 (0, 0))
  hC : Kd.C k50 W A l.length l
  lt : ∀ k ∈ [B, pm, bm], k < w.heap.size
  hA : ∀ ad, A = some ad → w.heap.size ≤ ad.block
  hD : w.heap.size = D
theorem DW.below {W W' : World} {o : OpS} {D j : Nat} {A : Option Addr} {l : List Pg} {t : MS} (h : DW w W B pm bm s o D A l j t) (hb : Below W.heap.size W W') : DW w W' B pm bm s o D A l j t :=
  ⟨h.ds, h.mo.below hb, h.mv.trans (S' := []) (Mv.of_below hb) (fun _ hk => by simp at hk), cell_up hb h.o1, blk_below h.hz hb, Kd.C_below h.hC hb, h.lt, h.hA, h.hD⟩
theorem DW.step {W W' : World} {o : OpS} {D j j' : Nat} {A : Option Addr} {l : List Pg} {t t' : MS} (h : DW w W B pm bm s o D A l j t) (hd : DS s o.sp l j' t') (hm : Mo W' B pm bm t') (hv : Mv [B, pm, bm] W W') : DW w W' B pm bm s o D A l j' t' := by
  have hn : ∀ k, w.heap.size ≤ k → k ∉ [B, pm, bm] := fun k hk hm => by have := h.lt k hm; omega
  have hD := h.hD
  exact ⟨hd, hm, h.mv.then hv, hv.cell h.o1 (hn D (by omega)), (hv.block _ (blk_lt h.hz) (hn _ (by omega))).trans h.hz, C_mv kP_any h.hC hv (fun ad e => hn _ (h.hA ad e)), h.lt, h.hA, h.hD⟩
set_option maxHeartbeats 8000000 in
set_option maxRecDepth 100000 in
theorem destroy_calls (h : Mo w B pm bm s) (hw : WfL s.L) (hf : s.L.length ≤ 100000) (o : OpS) :
    Calls Try.prog 45 #[.pointer (some ⟨B, 0, none⟩), Value.agg #[.int .i64 o.kind, .int .i64 o.sp, .int .i64 o.ak, .bool o.ap, .int .u64 o.av, .int .u8 o.byte, .int .u64 o.va, .int .i64 o.size, .bool o.at_.f0, .bool o.at_.f1, .bool o.at_.f2, .bool o.at_.f3, .bool o.at_.f4, .bool o.at_.f5, .int .i64 o.other, .int .u64 o.too]] w (DestP w B pm bm s o) := by
  have HM := Aside0.mk h
  have HLT := Aside0.mk h.lt
  have HW := Aside0.mk hw
  clear h hw
  obtain ⟨D, hD⟩ : ∃ D, w.heap.size = D := ⟨_, rfl⟩
  go_enter Try.func45, Try.ntmps45
  go_wp2_with fail
  have hk := blk_alloc (blk_alloc (blk_new w (.cells #[.int .i64 o.kind, .int .i64 o.sp, .int .i64 o.ak, .bool o.ap, .int .u64 o.av, .int .u8 o.byte, .int .u64 o.va, .int .i64 o.size, .bool o.at_.f0, .bool o.at_.f1, .bool o.at_.f2, .bool o.at_.f3, .bool o.at_.f4, .bool o.at_.f5, .int .i64 o.other, .int .u64 o.too] 36)) (.cells #[.int .i64 0, .int .i64 0, .int .u8 0] 42)) (.cells #[.int .i64 o.sp] 3)
  have hz := blk_alloc (blk_new (w.alloc (.cells #[.int .i64 o.kind, .int .i64 o.sp, .int .i64 o.ak, .bool o.ap, .int .u64 o.av, .int .u8 o.byte, .int .u64 o.va, .int .i64 o.size, .bool o.at_.f0, .bool o.at_.f1, .bool o.at_.f2, .bool o.at_.f3, .bool o.at_.f4, .bool o.at_.f5, .int .i64 o.other, .int .u64 o.too] 36)) (.cells #[.int .i64 0, .int .i64 0, .int .u8 0] 42)) (.cells #[.int .i64 o.sp] 3)
  have hl := blk_new ((w.alloc (.cells #[.int .i64 o.kind, .int .i64 o.sp, .int .i64 o.ak, .bool o.ap, .int .u64 o.av, .int .u8 o.byte, .int .u64 o.va, .int .i64 o.size, .bool o.at_.f0, .bool o.at_.f1, .bool o.at_.f2, .bool o.at_.f3, .bool o.at_.f4, .bool o.at_.f5, .int .i64 o.other, .int .u64 o.too] 36)).alloc (.cells #[.int .i64 0, .int .i64 0, .int .u8 0] 42)) (.cells #[.int .i64 o.sp] 3)
  have hb : Below w.heap.size w (((w.alloc (.cells #[.int .i64 o.kind, .int .i64 o.sp, .int .i64 o.ak, .bool o.ap, .int .u64 o.av, .int .u8 o.byte, .int .u64 o.va, .int .i64 o.size, .bool o.at_.f0, .bool o.at_.f1, .bool o.at_.f2, .bool o.at_.f3, .bool o.at_.f4, .bool o.at_.f5, .int .i64 o.other, .int .u64 o.too] 36)).alloc (.cells #[.int .i64 0, .int .i64 0, .int .u8 0] 42)).alloc (.cells #[.int .i64 o.sp] 3)) := (((Below.refl _ w).alloc (Nat.le_refl _) _).alloc (by simp) _).alloc (by simp; omega) _
  have hs1 : (w.alloc (.cells #[.int .i64 o.kind, .int .i64 o.sp, .int .i64 o.ak, .bool o.ap, .int .u64 o.av, .int .u8 o.byte, .int .u64 o.va, .int .i64 o.size, .bool o.at_.f0, .bool o.at_.f1, .bool o.at_.f2, .bool o.at_.f3, .bool o.at_.f4, .bool o.at_.f5, .int .i64 o.other, .int .u64 o.too] 36)).heap.size = D + 1 := by simp [hD]
  have hs2 : ((w.alloc (.cells #[.int .i64 o.kind, .int .i64 o.sp, .int .i64 o.ak, .bool o.ap, .int .u64 o.av, .int .u8 o.byte, .int .u64 o.va, .int .i64 o.size, .bool o.at_.f0, .bool o.at_.f1, .bool o.at_.f2, .bool o.at_.f3, .bool o.at_.f4, .bool o.at_.f5, .int .i64 o.other, .int .u64 o.too] 36)).alloc (.cells #[.int .i64 0, .int .i64 0, .int .u8 0] 42)).heap.size = D + 1 + 1 := by simp [hD]
  rw [hD] at hk
  rw [hs1] at hz
  rw [hs2] at hl
  generalize ((w.alloc (.cells #[.int .i64 o.kind, .int .i64 o.sp, .int .i64 o.ak, .bool o.ap, .int .u64 o.av, .int .u8 o.byte, .int .u64 o.va, .int .i64 o.size, .bool o.at_.f0, .bool o.at_.f1, .bool o.at_.f2, .bool o.at_.f3, .bool o.at_.f4, .bool o.at_.f5, .int .i64 o.other, .int .u64 o.too] 36)).alloc (.cells #[.int .i64 0, .int .i64 0, .int .u8 0] 42)).alloc (.cells #[.int .i64 o.sp] 3) = w1 at *
  clear hs1 hs2
  refine (is_calls (HM.out.below hb) [o.sp] (some ⟨D + 1 + 1, 0, none⟩) 1 (c_lit (xs := [o.sp]) hl (by simp)) (by simp)).mono ?_
  rintro e w2 ⟨rfl, rfl⟩
  obtain ⟨-, o1, -⟩ := cells16 hk
  have HZ := Aside0.mk hz
  have HB := Aside0.mk hb
  have HO1 := Aside0.mk o1
  clear hk hz hl hb
  generalize hia : isAll s.n [o.sp] = ia at *
  cases ia with
  | false =>
    go_wp2_with fail
    refine (model_told.calls 1 _ _ _ w1 rfl).mono ?_
    rintro e w2z ⟨rfl, hb2⟩
    have hz2 := blk_below HZ.out hb2
    have HB2 := Aside0.mk (below_step HB.out hb2)
    obtain ⟨z0, z1, z2⟩ := cells3 hz2
    have y0 := blk_frozen hz2 0
    have y1 := blk_frozen hz2 1
    have y2 := blk_frozen hz2 2
    clear hb2
    go_wp2_with fail
    rw [set3 hz2]
    refine bodyPost_ret (results_cell_row rfl _ _ (D + 1) 42 _ (0, 0) _ rfl (sb_same hz2 _) Try.underlying42 rfl (by kernel_rfl)) rfl ?_
    have hbf := below_sb HB2.out (by omega : w.heap.size ≤ D + 1) (.cells #[.int .i64 1, .int .i64 0, .int .u8 0] 42 (0, 0))
    exact ⟨1, s, rfl, .inl ⟨hia, rfl, rfl⟩, HM.out.below hbf, Mv.of_below hbf⟩
  | true =>
    have HIA := Aside0.mk hia
    clear hia
    go_wp2_with fail
    refine (pages_calls (HM.out.below HB.out) hf o.sp).mono ?_
    rintro e w2 ⟨A, c, l, rfl, -, hperm, -, hC, hb2, hA⟩
    have hll : l.length ≤ 100000 := by
      have h1 := hperm.length_eq
      have h2 := sel_len o.sp s.L
      omega
    have hbs := HB.out.size
    have HDW := Aside0.mk (show DW w w2 B pm bm s o D A l 0 s from ⟨DS.start HW.out hperm, (HM.out.below HB.out).below hb2, Mv.of_below (below_step HB.out hb2), cell_up hb2 HO1.out, blk_below HZ.out hb2, hC, HLT.out, fun ad e => Nat.le_trans hbs (hA ad e), hD⟩)
    clear hperm hC hb2 hA o1 HO1 HZ HB hbs
    go_wp2_with fail
    go_loopg [19] l.length (fun k jv wr => ∃ (j : Nat) (t : MS), jv = .int .i64 (j : Int) ∧ j + k = l.length ∧ Aside0 (DW w wr B pm bm s o D A l j t))
    case atStart => exact ⟨0, s, rfl, by omega, HDW⟩
    case round =>
      clear HDW
      obtain ⟨j, t, rfl, hjk, HDW⟩ := hrel
      by_cases hj : j < l.length
      · have hi0 : (0 : Int) ≤ (j : Int) := by omega
        have hi1 : (j : Int) < (l.length : Int) := by omega
        have hAE := HDW.out.hA
        obtain ⟨ad, hA, y0, y1, y2, y3, y4, y5, y6, y7, y8, y9, y10⟩ := at_T50 HDW.out.hC (j : Int) hi0 hi1
        subst hA
        have hq : rd_T50 l (j : Int) = l[j] := by simp [rd_T50, List.getD_eq_getElem?_getD, hj]
        rw [hq, Int.toNat_natCast] at y0 y1 y2 y3 y4 y5 y6 y7 y8 y9 y10
        obtain ⟨i, x, hti, hxs, hxp, hds⟩ := HDW.out.ds.next (List.getElem?_eq_getElem hj)
        rw [← hxp] at y0 y1 y2 y3 y4 y5 y6 y7 y8 y9 y10
        have HTI := Aside0.mk hti
        have HXS := Aside0.mk hxs
        have HDS := Aside0.mk hds
        have o1 := HDW.out.o1
        rw [← hxs] at o1
        have ho1 : D < wr.heap.size := World.block_lt_of_cell? _ _ o1
        have hon := Nat.ne_of_lt ho1
        have HJK := Aside0.mk hjk
        clear hq hti hxs hxp hds hAE hjk
        have htl : t.L.length ≤ 100000 := Nat.le_trans HDW.out.ds.sub.length_le hf
        go_wp2_with fail
        have HDA := Aside0.mk (HDW.out.below ((Below.refl _ wr).alloc (Nat.le_refl _) (.cells #[.int .u64 x.f1.f0, .int .i64 x.f1.f1, .int .u64 x.f1.f2, .bool x.f1.f3.f0, .bool x.f1.f3.f1, .bool x.f1.f3.f2, .bool x.f1.f3.f3, .bool x.f1.f3.f4, .bool x.f1.f3.f5, .bool x.f1.f4, .bool x.f1.f5] 50)))
        refine (drop_calls HDA.out.mo HDA.out.ds.wf htl HTI.out).mono ?_
        rintro e w4 ⟨rfl, hm4, hv4⟩
        have HD4 := Aside0.mk (HDA.out.step HDS.out hm4 hv4)
        have hwj : wrap64 ((j : Int) + 1) = (j : Int) + 1 := by unfold wrap64; omega
        clear hm4 hv4 y0 y1 y2 y3 y4 y5 y6 y7 y8 y9 y10 o1 ho1 hon htl
        go_wp2_with fail
        clear hwj
        have hjk := HJK.out
        go_roundg (gk - 1)
        case measure => omega
        case rel => exact ⟨j + 1, _, by push_cast; rfl, by omega, HD4⟩
      · have hi1 : ¬ (j : Int) < (l.length : Int) := by omega
        have hd : decide ((j : Int) < (l.length : Int)) = false := decide_eq_false hi1
        have hje : j = l.length := by omega
        have HG := Aside0.mk (show Gone s o.sp t by have := HDW.out.ds; rw [hje] at this; exact this.end)
        have hz2 := HDW.out.hz
        obtain ⟨z0, z1, z2⟩ := cells3 hz2
        have y0 := blk_frozen hz2 0
        have y1 := blk_frozen hz2 1
        have y2 := blk_frozen hz2 2
        clear hje hjk
        go_wp2_with fail
        rw [set3 hz2]
        refine bodyPost_ret (results_cell_row rfl _ _ (D + 1) 42 _ (0, 0) _ rfl (sb_same hz2 _) Try.underlying42 rfl (by kernel_rfl)) rfl ?_
        have hn : D + 1 ∉ [B, pm, bm] := fun hm => by have := HLT.out _ hm; omega
        exact ⟨0, t, rfl, .inr ⟨HIA.out, rfl, HG.out⟩, HDW.out.mo.move (fun k hk => sb_other _ (fun e => hn (e ▸ hk))), HDW.out.mv.setBlock (.inr (by omega)) _⟩
end
end Go.Proofs.Ytalmemcidbmdgaa.PM


/- A model (layer 16): change in one; unmap, protect, clear: the walks. -/
set_option linter.unusedVariables false
set_option linter.unusedSimpArgs false
namespace Go.Proofs.Ytalmemcidbmdgaa.PM
open Go.RowKit Go.Proofs.YtalmemcidbmdgaaW.PrintWords Go.Proofs.YtalmemcidbmdgaaW.PrintLast Go.Proofs.YtalmemcidbmdgaaW.PrintMore Go.Proofs.Ytalmemcidbmdgaa.PageG
attribute [local go_sem] max2_int min2_int max_two min_two max_three min_three max_four min_four   -- for this text's walks alone
/-- What an operation is told, and the model behind it. -/
def Rep (w : World) (B pm bm : Nat) (r : Int × MS) (e : Ending) (w' : World) : Prop := e = .returned (.agg #[.int .i64 r.1, .int .i64 0, .int .u8 0]) ∧ Mo w' B pm bm r.2 ∧ Mv [B, pm, bm] w w'
structure OkO (o : OpS) : Prop where
  sp : W64 o.sp
  va : 0 ≤ o.va ∧ o.va < 2 ^ 64
  to1 : 0 ≤ o.too ∧ o.too < 2 ^ 64
  av : 0 ≤ o.av ∧ o.av < 2 ^ 64
  ot : W64 o.other
  sz : W64 o.size
  by_ : 0 ≤ o.byte ∧ o.byte < 256
def changeR (s : MS) (o : OpS) (f : Nat → MS) : Int × MS := if isAll s.n [o.sp] = true then (match find s.L o.sp o.va.toNat with | none => (10, s) | some i => (0, f i)) else (1, s)
theorem noAt_of {s : MS} (hw : WfL s.L) {sp : Int} {va : Nat} (h : find s.L sp va = none) (i : Nat) : NoAt s sp va i := by
  intro x hx ⟨h1, h2, h3⟩
  have hn := find_none h x hx
  have hs : szN x = i := by unfold szN; omega
  have hv : bs va i = vaN x := by unfold vaN; omega
  rw [hit_iff.2 ⟨h1, by rw [hs]; exact hv⟩] at hn
  cases hn
section
variable {w w' : World} {B pm bm : Nat} {s : MS}
theorem change_calls (h : Mo w B pm bm s) (hw : WfL s.L) (o : OpS) (ho : OkO o) (fv : FuncId) (caps : Array Value) (f : Nat → MS)
    (hd : ∀ i x, s.L[i]? = some x → hit o.sp o.va.toNat x = true → Does w B pm bm s (f i) fv caps x) (hcf : ∀ (args : Array Value) (W : World), (callFunc fv args).run Try.prog W = .ok (.enter fv args) W) :
    Calls Try.prog 71 #[.pointer (some ⟨B, 0, none⟩), Value.agg #[.int .i64 o.kind, .int .i64 o.sp, .int .i64 o.ak, .bool o.ap, .int .u64 o.av, .int .u8 o.byte, .int .u64 o.va, .int .i64 o.size, .bool o.at_.f0, .bool o.at_.f1, .bool o.at_.f2, .bool o.at_.f3, .bool o.at_.f4, .bool o.at_.f5, .int .i64 o.other, .int .u64 o.too], .func (.func fv) #[] caps] w (Rep w B pm bm (changeR s o f)) := by
  have hv := ho.va
  have hva : o.va.toNat < 2 ^ 64 := by omega
  have hov : o.va = (o.va.toNat : Int) := by omega
  cases hi : isAll s.n [o.sp] with
  | false =>
    refine (change_no h o fv caps hi).mono ?_
    rintro e w2 ⟨rfl, hb⟩
    unfold changeR
    rw [hi]
    exact ⟨rfl, h.below hb, Mv.of_below hb⟩
  | true =>
    cases hf : find s.L o.sp o.va.toNat with
    | none =>
      refine (change_none h o fv caps hi ho.sp _ hva hov (fun i _ => noAt_of hw hf i)).mono ?_
      rintro e w2 ⟨rfl, hb⟩
      unfold changeR
      rw [hi, hf]
      exact ⟨rfl, h.below hb, Mv.of_below hb⟩
    | some i =>
      obtain ⟨x, hx, hh⟩ := find_some hf
      refine (change_yes h hw o fv caps hi ho.sp _ hva hov x (List.mem_of_getElem? hx) hh (hd i x hx hh) hcf).mono ?_
      rintro e w2 ⟨rfl, hm, hv⟩
      unfold changeR
      rw [hi, hf]
      exact ⟨rfl, hm, hv⟩
def unmapS (s : MS) (i : Nat) : MS := match s.L[i]? with | some x => dropS s i x | none => s
def protS (s : MS) (a : Atr) (i : Nat) : MS := match s.L[i]? with | some x => { s with L := s.L.set i ⟨x.f0, { x.f1 with f3 := a }⟩ } | none => s
def clearS (s : MS) (i : Nat) : MS := match s.L[i]? with | some x => { s with L := s.L.set i ⟨x.f0, { x.f1 with f4 := false, f5 := false }⟩ } | none => s
set_option maxHeartbeats 8000000 in
set_option maxRecDepth 100000 in
theorem unm1_calls (h : Mo w B pm bm s) (hw : WfL s.L) (hf : s.L.length ≤ 100000) {i : Nat} {x : Ent} (hi : s.L[i]? = some x) (g : Nat) (hg : w.cell? ⟨g, 0, none⟩ = some (.pointer (some ⟨B, 0, none⟩))) :
    Calls Try.prog 72 #[.agg #[.int .i64 x.f0, .int .u64 x.f1.f0, .int .i64 x.f1.f1], .agg #[.int .u64 x.f1.f0, .int .i64 x.f1.f1, .int .u64 x.f1.f2, .bool x.f1.f3.f0, .bool x.f1.f3.f1, .bool x.f1.f3.f2, .bool x.f1.f3.f3, .bool x.f1.f3.f4, .bool x.f1.f3.f5, .bool x.f1.f4, .bool x.f1.f5], .pointer (some ⟨g, 0, none⟩)] w (fun e w' => e = .returned (.tuple #[]) ∧ Mo w' B pm bm (dropS s i x) ∧ Mv [B, pm, bm] w w') := by
  have HM := Aside0.mk h
  have HW := Aside0.mk hw
  have HI := Aside0.mk hi
  have hgl : g < w.heap.size := World.block_lt_of_cell? _ _ hg
  have hgn := Nat.ne_of_lt hgl
  have hgn2 : g ≠ w.heap.size + 1 := by omega
  clear h hw hi
  have hb : Below w.heap.size w ((w.alloc (.cells #[.int .i64 x.f0, .int .u64 x.f1.f0, .int .i64 x.f1.f1] 84)).alloc (.cells #[.int .u64 x.f1.f0, .int .i64 x.f1.f1, .int .u64 x.f1.f2, .bool x.f1.f3.f0, .bool x.f1.f3.f1, .bool x.f1.f3.f2, .bool x.f1.f3.f3, .bool x.f1.f3.f4, .bool x.f1.f3.f5, .bool x.f1.f4, .bool x.f1.f5] 50)) := ((Below.refl _ w).alloc (Nat.le_refl _) _).alloc (by simp) _
  have HB := Aside0.mk hb
  clear hb
  go_enter Try.func72, Try.ntmps72
  go_wp2_with fail
  refine (drop_calls (HM.out.below HB.out) HW.out hf HI.out).mono ?_
  rintro e w2 ⟨rfl, hm, hv⟩
  have HM2 := Aside0.mk hm
  have HV2 := Aside0.mk ((Mv.of_below HB.out).then hv)
  clear hm hv
  go_wp2_with fail
  go_end0
  exact ⟨rfl, HM2.out, HV2.out⟩
set_option maxHeartbeats 8000000 in
set_option maxRecDepth 100000 in
theorem unmap_calls (h : Mo w B pm bm s) (hw : WfL s.L) (hf : s.L.length ≤ 100000) (o : OpS) (ho : OkO o) :
    Calls Try.prog 40 #[.pointer (some ⟨B, 0, none⟩), Value.agg #[.int .i64 o.kind, .int .i64 o.sp, .int .i64 o.ak, .bool o.ap, .int .u64 o.av, .int .u8 o.byte, .int .u64 o.va, .int .i64 o.size, .bool o.at_.f0, .bool o.at_.f1, .bool o.at_.f2, .bool o.at_.f3, .bool o.at_.f4, .bool o.at_.f5, .int .i64 o.other, .int .u64 o.too]] w (Rep w B pm bm (changeR s o (unmapS s))) := by
  have HM := Aside0.mk h
  have HLT := Aside0.mk h.lt
  have HW := Aside0.mk hw
  have HO := Aside0.mk ho
  clear h hw ho
  obtain ⟨D, hD⟩ : ∃ D, w.heap.size = D := ⟨_, rfl⟩
  go_enter Try.func40, Try.ntmps40
  go_upto_region 1 with fail
  have hk := blk_alloc (blk_alloc (blk_new w (.cells #[.pointer (some ⟨B, 0, none⟩)] 24)) (.cells #[.int .i64 o.kind, .int .i64 o.sp, .int .i64 o.ak, .bool o.ap, .int .u64 o.av, .int .u8 o.byte, .int .u64 o.va, .int .i64 o.size, .bool o.at_.f0, .bool o.at_.f1, .bool o.at_.f2, .bool o.at_.f3, .bool o.at_.f4, .bool o.at_.f5, .int .i64 o.other, .int .u64 o.too] 36)) (.cells #[.int .i64 0, .int .i64 0, .int .u8 0] 42)
  have hz := blk_alloc (blk_new (w.alloc (.cells #[.pointer (some ⟨B, 0, none⟩)] 24)) (.cells #[.int .i64 o.kind, .int .i64 o.sp, .int .i64 o.ak, .bool o.ap, .int .u64 o.av, .int .u8 o.byte, .int .u64 o.va, .int .i64 o.size, .bool o.at_.f0, .bool o.at_.f1, .bool o.at_.f2, .bool o.at_.f3, .bool o.at_.f4, .bool o.at_.f5, .int .i64 o.other, .int .u64 o.too] 36)) (.cells #[.int .i64 0, .int .i64 0, .int .u8 0] 42)
  have hl := blk_new ((w.alloc (.cells #[.pointer (some ⟨B, 0, none⟩)] 24)).alloc (.cells #[.int .i64 o.kind, .int .i64 o.sp, .int .i64 o.ak, .bool o.ap, .int .u64 o.av, .int .u8 o.byte, .int .u64 o.va, .int .i64 o.size, .bool o.at_.f0, .bool o.at_.f1, .bool o.at_.f2, .bool o.at_.f3, .bool o.at_.f4, .bool o.at_.f5, .int .i64 o.other, .int .u64 o.too] 36)) (.cells #[.int .i64 0, .int .i64 0, .int .u8 0] 42)
  have hb : Below w.heap.size w (((w.alloc (.cells #[.pointer (some ⟨B, 0, none⟩)] 24)).alloc (.cells #[.int .i64 o.kind, .int .i64 o.sp, .int .i64 o.ak, .bool o.ap, .int .u64 o.av, .int .u8 o.byte, .int .u64 o.va, .int .i64 o.size, .bool o.at_.f0, .bool o.at_.f1, .bool o.at_.f2, .bool o.at_.f3, .bool o.at_.f4, .bool o.at_.f5, .int .i64 o.other, .int .u64 o.too] 36)).alloc (.cells #[.int .i64 0, .int .i64 0, .int .u8 0] 42)) := (((Below.refl _ w).alloc (Nat.le_refl _) _).alloc (by simp) _).alloc (by simp; omega) _
  have hs1 : (w.alloc (.cells #[.pointer (some ⟨B, 0, none⟩)] 24)).heap.size = D + 1 := by simp [hD]
  have hs2 : ((w.alloc (.cells #[.pointer (some ⟨B, 0, none⟩)] 24)).alloc (.cells #[.int .i64 o.kind, .int .i64 o.sp, .int .i64 o.ak, .bool o.ap, .int .u64 o.av, .int .u8 o.byte, .int .u64 o.va, .int .i64 o.size, .bool o.at_.f0, .bool o.at_.f1, .bool o.at_.f2, .bool o.at_.f3, .bool o.at_.f4, .bool o.at_.f5, .int .i64 o.other, .int .u64 o.too] 36)).heap.size = D + 1 + 1 := by simp [hD]
  rw [hD] at hk
  rw [hs1] at hz
  rw [hs2] at hl
  generalize ((w.alloc (.cells #[.pointer (some ⟨B, 0, none⟩)] 24)).alloc (.cells #[.int .i64 o.kind, .int .i64 o.sp, .int .i64 o.ak, .bool o.ap, .int .u64 o.av, .int .u8 o.byte, .int .u64 o.va, .int .i64 o.size, .bool o.at_.f0, .bool o.at_.f1, .bool o.at_.f2, .bool o.at_.f3, .bool o.at_.f4, .bool o.at_.f5, .int .i64 o.other, .int .u64 o.too] 36)).alloc (.cells #[.int .i64 0, .int .i64 0, .int .u8 0] 42) = w1 at *
  clear hs1 hs2
  have m0 : w1.cell? ⟨D, 0, none⟩ = some (Value.pointer (some ⟨B, 0, none⟩)) := (blk_cell hk 0).trans rfl
  obtain ⟨o0, o1, o2, o3, o4, o5, o6, o7, o8, o9, o10, o11, o12, o13, o14, o15⟩ := cells16 hz
  have HB := Aside0.mk hb
  have HK := Aside0.mk hk
  have HOB := Aside0.mk hz
  have HL := Aside0.mk hl
  clear hb hk hz hl
  have HCH := Aside0.mk (change_calls (HM.out.below HB.out) HW.out o HO.out 72 #[.pointer (some ⟨D, 0, none⟩)] (unmapS s)
    (fun i x hi hh W hbW hmW => by
      have hk2 := blk_below HK.out hbW
      have hg2 : W.cell? ⟨D, 0, none⟩ = some (Value.pointer (some ⟨B, 0, none⟩)) := (blk_cell hk2 0).trans rfl
      have he : unmapS s i = dropS s i x := by unfold unmapS; rw [hi]
      rw [he]
      exact unm1_calls hmW HW.out hf hi D hg2)
    (enters_ Try.func72 (by rfl) (by kernel_rfl)))
  go_wp2_with fail
  refine HCH.out.mono ?_
  rintro e w2 ⟨rfl, hm2, hv2⟩
  have hne : D + 1 + 1 ∉ [B, pm, bm] := fun hm => by have := HLT.out _ hm; omega
  have hl2 := (hv2.block _ (blk_lt HL.out) hne).trans HL.out
  obtain ⟨z0, z1, z2⟩ := cells3 hl2
  have y0 := blk_frozen hl2 0
  have y1 := blk_frozen hl2 1
  have y2 := blk_frozen hl2 2
  have HM2 := Aside0.mk hm2
  have HV2 := Aside0.mk hv2
  have HNE := Aside0.mk hne
  clear hm2 hv2 hne m0 o0 o1 o2 o3 o4 o5 o6 o7 o8 o9 o10 o11 o12 o13 o14 o15
  go_wp2_with fail
  rw [set3 hl2]
  refine bodyPost_ret (results_cell_row rfl _ _ (D + 1 + 1) 42 _ (0, 0) _ rfl (sb_same hl2 _) Try.underlying42 rfl (by kernel_rfl)) rfl ?_
  exact ⟨rfl, HM2.out.move (fun k hk => sb_other _ (fun e => HNE.out (e ▸ hk))), ((Mv.of_below HB.out).then HV2.out).setBlock (.inr (by omega)) _⟩
end
end Go.Proofs.Ytalmemcidbmdgaa.PM


/- A model (layer 16): share: the walk. -/
set_option linter.unusedVariables false
set_option linter.unusedSimpArgs false
namespace Go.Proofs.Ytalmemcidbmdgaa.PM
open Go.RowKit Go.Proofs.YtalmemcidbmdgaaW.PrintWords Go.Proofs.YtalmemcidbmdgaaW.PrintLast Go.Proofs.YtalmemcidbmdgaaW.PrintMore Go.Proofs.Ytalmemcidbmdgaa.PageG
attribute [local go_sem] max2_int min2_int max_two min_two max_three min_three max_four min_four   -- for this text's walks alone
def shaP (o : OpS) (x : Ent) : Pg := ⟨o.too, x.f1.f1, x.f1.f2, o.at_, false, false⟩
def shareR (s : MS) (o : OpS) : Int × MS :=
  if isAll s.n [o.sp, o.other] = true ∧ o.at_.f4 = false then
    (match find s.L o.sp o.va.toNat with
     | none => (10, s)
     | some i => (match s.L[i]? with | some x => putS s o.other (shaP o x) | none => (10, s)))
  else (1, s)
section
variable {w w' : World} {B pm bm : Nat} {s : MS}
set_option maxHeartbeats 8000000 in
set_option maxRecDepth 100000 in
theorem share_calls (h : Mo w B pm bm s) (hw : WfL s.L) (hf : s.L.length ≤ 100000) (o : OpS) (ho : OkO o) (hn : s.n ≤ 64) :
    Calls Try.prog 43 #[.pointer (some ⟨B, 0, none⟩), Value.agg #[.int .i64 o.kind, .int .i64 o.sp, .int .i64 o.ak, .bool o.ap, .int .u64 o.av, .int .u8 o.byte, .int .u64 o.va, .int .i64 o.size, .bool o.at_.f0, .bool o.at_.f1, .bool o.at_.f2, .bool o.at_.f3, .bool o.at_.f4, .bool o.at_.f5, .int .i64 o.other, .int .u64 o.too]] w (Rep2 w B pm bm (shareR s o)) := by
  have HM := Aside0.mk h
  have HLT := Aside0.mk h.lt
  have HW := Aside0.mk hw
  have HO := Aside0.mk ho
  have HR := Aside0.mk (show shareR s o = if isAll s.n [o.sp, o.other] = true ∧ o.at_.f4 = false then
    (match find s.L o.sp o.va.toNat with
     | none => (10, s)
     | some i => (match s.L[i]? with | some x => putS s o.other (shaP o x) | none => (10, s)))
  else (1, s) from rfl)
  generalize shareR s o = res at *
  clear h hw ho
  obtain ⟨D, hD⟩ : ∃ D, w.heap.size = D := ⟨_, rfl⟩
  go_enter Try.func43, Try.ntmps43
  go_wp2_with fail
  have hk := blk_alloc (blk_alloc (blk_new w (.cells #[.int .i64 o.kind, .int .i64 o.sp, .int .i64 o.ak, .bool o.ap, .int .u64 o.av, .int .u8 o.byte, .int .u64 o.va, .int .i64 o.size, .bool o.at_.f0, .bool o.at_.f1, .bool o.at_.f2, .bool o.at_.f3, .bool o.at_.f4, .bool o.at_.f5, .int .i64 o.other, .int .u64 o.too] 36)) (.cells #[.int .i64 0, .int .i64 0, .int .u8 0] 42)) (.cells #[.int .i64 o.sp, .int .i64 o.other] 3)
  have hz := blk_alloc (blk_new (w.alloc (.cells #[.int .i64 o.kind, .int .i64 o.sp, .int .i64 o.ak, .bool o.ap, .int .u64 o.av, .int .u8 o.byte, .int .u64 o.va, .int .i64 o.size, .bool o.at_.f0, .bool o.at_.f1, .bool o.at_.f2, .bool o.at_.f3, .bool o.at_.f4, .bool o.at_.f5, .int .i64 o.other, .int .u64 o.too] 36)) (.cells #[.int .i64 0, .int .i64 0, .int .u8 0] 42)) (.cells #[.int .i64 o.sp, .int .i64 o.other] 3)
  have hl := blk_new ((w.alloc (.cells #[.int .i64 o.kind, .int .i64 o.sp, .int .i64 o.ak, .bool o.ap, .int .u64 o.av, .int .u8 o.byte, .int .u64 o.va, .int .i64 o.size, .bool o.at_.f0, .bool o.at_.f1, .bool o.at_.f2, .bool o.at_.f3, .bool o.at_.f4, .bool o.at_.f5, .int .i64 o.other, .int .u64 o.too] 36)).alloc (.cells #[.int .i64 0, .int .i64 0, .int .u8 0] 42)) (.cells #[.int .i64 o.sp, .int .i64 o.other] 3)
  have hb : Below w.heap.size w (((w.alloc (.cells #[.int .i64 o.kind, .int .i64 o.sp, .int .i64 o.ak, .bool o.ap, .int .u64 o.av, .int .u8 o.byte, .int .u64 o.va, .int .i64 o.size, .bool o.at_.f0, .bool o.at_.f1, .bool o.at_.f2, .bool o.at_.f3, .bool o.at_.f4, .bool o.at_.f5, .int .i64 o.other, .int .u64 o.too] 36)).alloc (.cells #[.int .i64 0, .int .i64 0, .int .u8 0] 42)).alloc (.cells #[.int .i64 o.sp, .int .i64 o.other] 3)) := (((Below.refl _ w).alloc (Nat.le_refl _) _).alloc (by simp) _).alloc (by simp; omega) _
  have hs1 : (w.alloc (.cells #[.int .i64 o.kind, .int .i64 o.sp, .int .i64 o.ak, .bool o.ap, .int .u64 o.av, .int .u8 o.byte, .int .u64 o.va, .int .i64 o.size, .bool o.at_.f0, .bool o.at_.f1, .bool o.at_.f2, .bool o.at_.f3, .bool o.at_.f4, .bool o.at_.f5, .int .i64 o.other, .int .u64 o.too] 36)).heap.size = D + 1 := by simp [hD]
  have hs2 : ((w.alloc (.cells #[.int .i64 o.kind, .int .i64 o.sp, .int .i64 o.ak, .bool o.ap, .int .u64 o.av, .int .u8 o.byte, .int .u64 o.va, .int .i64 o.size, .bool o.at_.f0, .bool o.at_.f1, .bool o.at_.f2, .bool o.at_.f3, .bool o.at_.f4, .bool o.at_.f5, .int .i64 o.other, .int .u64 o.too] 36)).alloc (.cells #[.int .i64 0, .int .i64 0, .int .u8 0] 42)).heap.size = D + 1 + 1 := by simp [hD]
  rw [hD] at hk
  rw [hs1] at hz
  rw [hs2] at hl
  generalize ((w.alloc (.cells #[.int .i64 o.kind, .int .i64 o.sp, .int .i64 o.ak, .bool o.ap, .int .u64 o.av, .int .u8 o.byte, .int .u64 o.va, .int .i64 o.size, .bool o.at_.f0, .bool o.at_.f1, .bool o.at_.f2, .bool o.at_.f3, .bool o.at_.f4, .bool o.at_.f5, .int .i64 o.other, .int .u64 o.too] 36)).alloc (.cells #[.int .i64 0, .int .i64 0, .int .u8 0] 42)).alloc (.cells #[.int .i64 o.sp, .int .i64 o.other] 3) = w1 at *
  clear hs1 hs2
  refine (is_calls (HM.out.below hb) [o.sp, o.other] (some ⟨D + 1 + 1, 0, none⟩) 2 (c_lit (xs := [o.sp, o.other]) hl (by simp)) (by simp)).mono ?_
  rintro e w2 ⟨rfl, rfl⟩
  obtain ⟨-, o1, -, -, -, -, o6, -, o8, o9, o10, o11, o12, o13, o14, o15⟩ := cells16 hk
  have HZ := Aside0.mk hz
  have HB := Aside0.mk hb
  have HK := Aside0.mk hk
  clear hk hz hl hb
  generalize hia : isAll s.n [o.sp, o.other] = ia at *
  cases ia with
  | false =>
    rw [if_neg (by simp)] at HR
    go_wp2_with fail
    refine (model_told.calls 1 _ _ _ w1 rfl).mono ?_
    rintro e w2z ⟨rfl, hb2⟩
    have hz2 := blk_below HZ.out hb2
    have HB2 := Aside0.mk (below_step HB.out hb2)
    obtain ⟨z0, z1, z2⟩ := cells3 hz2
    have y0 := blk_frozen hz2 0
    have y1 := blk_frozen hz2 1
    have y2 := blk_frozen hz2 2
    clear hb2
    go_wp2_with fail
    rw [set3 hz2]
    refine bodyPost_ret (results_cell_row rfl _ _ (D + 1) 42 _ (0, 0) _ rfl (sb_same hz2 _) Try.underlying42 rfl (by kernel_rfl)) rfl ?_
    exact Rep2.same HM.out (below_sb HB2.out (by omega) _) HR.out
  | true =>
    have HIA := Aside0.mk hia
    clear hia
    rcases Bool.eq_false_or_eq_true o.at_.f4 with hag | hag
    · rw [if_neg (by rw [hag]; simp)] at HR
      go_wp2_with fail
      refine (model_told.calls 1 _ _ _ w1 rfl).mono ?_
      rintro e w2z ⟨rfl, hb2⟩
      have hz2 := blk_below HZ.out hb2
      have HB2 := Aside0.mk (below_step HB.out hb2)
      obtain ⟨z0, z1, z2⟩ := cells3 hz2
      have y0 := blk_frozen hz2 0
      have y1 := blk_frozen hz2 1
      have y2 := blk_frozen hz2 2
      clear hb2
      go_wp2_with fail
      rw [set3 hz2]
      refine bodyPost_ret (results_cell_row rfl _ _ (D + 1) 42 _ (0, 0) _ rfl (sb_same hz2 _) Try.underlying42 rfl (by kernel_rfl)) rfl ?_
      exact Rep2.same HM.out (below_sb HB2.out (by omega) _) HR.out
    · rw [if_pos ⟨by trivial, hag⟩] at HR
      go_upto_region 3 with fail
      clear hag
      obtain ⟨va, hvd⟩ : ∃ va : Nat, o.va.toNat = va := ⟨_, rfl⟩
      rw [hvd] at HR
      have hva : va < 2 ^ 64 := by have := HO.out.va; omega
      have hov : o.va = (va : Int) := by have := HO.out.va; omega
      rw [hov] at o6
      clear hov hvd
      cases hfd : find s.L o.sp va with
      | none =>
        rw [hfd] at HR
        go_wp2_with fail
        refine (at_no (HM.out.below HB.out) o.sp HO.out.sp _ hva (fun i _ => noAt_of HW.out hfd i)).mono ?_
        rintro e w2 ⟨rfl, hb2⟩
        have hz2 := blk_below HZ.out hb2
        have HB2 := Aside0.mk (below_step HB.out hb2)
        have hz3 := blk_alloc (blk_alloc hz2 (.cells #[.int .u64 0, .int .i64 0, .int .u64 0, .bool false, .bool false, .bool false, .bool false, .bool false, .bool false, .bool false, .bool false] 50)) (.cells #[.int .i64 0, .int .u64 0, .int .i64 0] 84)
        have hb3 := below_step HB2.out (((Below.refl _ w2).alloc (Nat.le_refl _) (.cells #[.int .u64 0, .int .i64 0, .int .u64 0, .bool false, .bool false, .bool false, .bool false, .bool false, .bool false, .bool false, .bool false] 50)).alloc (by simp) (.cells #[.int .i64 0, .int .u64 0, .int .i64 0] 84))
        unfold pgv kyv z0
        clear hb2 hz2 HB HZ HK o1 o6 o8 o9 o10 o11 o12 o13 o14 o15 hfd
        have HZ := Aside0.mk hz3
        have HB := Aside0.mk hb3
        clear hz3 hb3
        go_wp2_with fail
        generalize (w2.alloc (.cells #[.int .u64 0, .int .i64 0, .int .u64 0, .bool false, .bool false, .bool false, .bool false, .bool false, .bool false, .bool false, .bool false] 50)).alloc (.cells #[.int .i64 0, .int .u64 0, .int .i64 0] 84) = w3 at *
        refine (model_told.calls 10 _ _ _ w3 rfl).mono ?_
        rintro e w2z ⟨rfl, hb2⟩
        have hz2 := blk_below HZ.out hb2
        have HB2 := Aside0.mk (below_step HB.out hb2)
        obtain ⟨z0, z1, z2⟩ := cells3 hz2
        have y0 := blk_frozen hz2 0
        have y1 := blk_frozen hz2 1
        have y2 := blk_frozen hz2 2
        clear hb2
        go_wp2_with fail
        rw [set3 hz2]
        refine bodyPost_ret (results_cell_row rfl _ _ (D + 1) 42 _ (0, 0) _ rfl (sb_same hz2 _) Try.underlying42 rfl (by kernel_rfl)) rfl ?_
        exact Rep2.same HM.out (below_sb HB2.out (by omega) _) HR.out
      | some i =>
        obtain ⟨x, hx, hh⟩ := find_some hfd
        rw [hfd] at HR
        simp only [hx] at HR
        have HX := Aside0.mk hx
        have HH := Aside0.mk hh
        clear hfd hx hh
        go_wp2_with fail
        refine (at_yes (HM.out.below HB.out) HW.out o.sp HO.out.sp _ hva x (List.mem_of_getElem? HX.out) HH.out).mono ?_
        rintro e w2 ⟨rfl, hb2⟩
        have hz2 := blk_below HZ.out hb2
        have hk2 := blk_below HK.out hb2
        have HB2 := Aside0.mk (below_step HB.out hb2)
        have hw2s : D + 1 < w2.heap.size := blk_lt hz2
        have hz3 := blk_alloc (blk_alloc hz2 (.cells #[.int .u64 x.f1.f0, .int .i64 x.f1.f1, .int .u64 x.f1.f2, .bool x.f1.f3.f0, .bool x.f1.f3.f1, .bool x.f1.f3.f2, .bool x.f1.f3.f3, .bool x.f1.f3.f4, .bool x.f1.f3.f5, .bool x.f1.f4, .bool x.f1.f5] 50)) (.cells #[.int .i64 x.f0, .int .u64 x.f1.f0, .int .i64 x.f1.f1] 84)
        have hk3 := blk_alloc (blk_alloc hk2 (.cells #[.int .u64 x.f1.f0, .int .i64 x.f1.f1, .int .u64 x.f1.f2, .bool x.f1.f3.f0, .bool x.f1.f3.f1, .bool x.f1.f3.f2, .bool x.f1.f3.f3, .bool x.f1.f3.f4, .bool x.f1.f3.f5, .bool x.f1.f4, .bool x.f1.f5] 50)) (.cells #[.int .i64 x.f0, .int .u64 x.f1.f0, .int .i64 x.f1.f1] 84)
        have hb3 := below_step HB2.out (((Below.refl _ w2).alloc (Nat.le_refl _) (.cells #[.int .u64 x.f1.f0, .int .i64 x.f1.f1, .int .u64 x.f1.f2, .bool x.f1.f3.f0, .bool x.f1.f3.f1, .bool x.f1.f3.f2, .bool x.f1.f3.f3, .bool x.f1.f3.f4, .bool x.f1.f3.f5, .bool x.f1.f4, .bool x.f1.f5] 50)).alloc (by simp) (.cells #[.int .i64 x.f0, .int .u64 x.f1.f0, .int .i64 x.f1.f1] 84))
        have hp3 := blk_alloc (blk_new w2 (.cells #[.int .u64 x.f1.f0, .int .i64 x.f1.f1, .int .u64 x.f1.f2, .bool x.f1.f3.f0, .bool x.f1.f3.f1, .bool x.f1.f3.f2, .bool x.f1.f3.f3, .bool x.f1.f3.f4, .bool x.f1.f3.f5, .bool x.f1.f4, .bool x.f1.f5] 50)) (.cells #[.int .i64 x.f0, .int .u64 x.f1.f0, .int .i64 x.f1.f1] 84)
        unfold pgv kyv
        clear hb2 hz2 hk2 HB HZ HK o1 o6 o8 o9 o10 o11 o12 o13 o14 o15
        have HZ := Aside0.mk hz3
        have HB := Aside0.mk hb3
        have HP3 := Aside0.mk hp3
        have HK3 := Aside0.mk hk3
        clear hz3 hb3 hp3 hk3
        go_upto_region 6 with fail
        generalize (w2.alloc (.cells #[.int .u64 x.f1.f0, .int .i64 x.f1.f1, .int .u64 x.f1.f2, .bool x.f1.f3.f0, .bool x.f1.f3.f1, .bool x.f1.f3.f2, .bool x.f1.f3.f3, .bool x.f1.f3.f4, .bool x.f1.f3.f5, .bool x.f1.f4, .bool x.f1.f5] 50)).alloc (.cells #[.int .i64 x.f0, .int .u64 x.f1.f0, .int .i64 x.f1.f1] 84) = w3 at *
        obtain ⟨-, p1, p2, -⟩ := cells11 HP3.out
        obtain ⟨-, -, -, -, -, -, -, -, o8, o9, o10, o11, o12, o13, o14, o15⟩ := cells16 HK3.out
        have hoq : OkQ o.other (shaP o x) := by
          have h1 : ∀ z ∈ [o.sp, o.other], 0 ≤ z ∧ z < s.n := by
            have := HIA.out
            unfold isAll at this
            rw [List.all_eq_true] at this
            exact fun z hz => by simpa using this z hz
          have h2 := h1 o.other (by simp)
          have h3 := HO.out.to1
          have h4 := HW.out.ok x (List.mem_of_getElem? HX.out)
          exact ⟨h2.1, by omega, by show o.too = ((o.too.toNat : Nat) : Int); omega, by show o.too.toNat < 2 ^ 64; omega, h4.pa0, h4.pa1⟩
        have HP := Aside0.mk (put_calls (HM.out.below HB.out) HW.out hf o.other (shaP o x) hoq)
        clear hoq
        generalize putS s o.other (shaP o x) = r2 at *
        go_wp2_with fail
        refine HP.out.mono ?_
        rintro e w4 ⟨rfl, hm4, hv4⟩
        have hnZ : D + 1 ∉ [B, pm, bm] := fun hm => by have := HLT.out _ hm; omega
        have hz4 : w4.heap[D + 1]? = some (.cells #[.int .i64 0, .int .i64 0, .int .u8 0] 42 (0, 0)) := (hv4.block _ (blk_lt HZ.out) hnZ).trans HZ.out
        have HM4 := Aside0.mk hm4
        have HVV := Aside0.mk ((Mv.of_below HB.out).then hv4)
        have HNZ := Aside0.mk hnZ
        have HZ4 := Aside0.mk hz4
        clear hz4 hnZ hm4 hv4 HP p1 p2 o8 o9 o10 o11 o12 o13 o14 o15
        go_wp2_with fail
        refine (model_told.calls r2.1 _ _ _ w4 rfl).mono ?_
        rintro e w6 ⟨rfl, hb6⟩
        have hz6 := blk_below HZ4.out hb6
        have HM6 := Aside0.mk (HM4.out.below hb6)
        have HV6 := Aside0.mk (HVV.out.trans (S' := []) (Mv.of_below hb6) (fun _ hk => by simp at hk))
        obtain ⟨z0, z1, z2⟩ := cells3 hz6
        have y0 := blk_frozen hz6 0
        have y1 := blk_frozen hz6 1
        have y2 := blk_frozen hz6 2
        clear hb6
        go_wp2_with fail
        rw [set3 hz6]
        refine bodyPost_ret (results_cell_row rfl _ _ (D + 1) 42 _ (0, 0) _ rfl (sb_same hz6 _) Try.underlying42 rfl (by kernel_rfl)) rfl ?_
        rw [HR.out]
        exact ⟨rfl, HM6.out.move (fun k hk => sb_other _ (fun e => HNZ.out (e ▸ hk))), HV6.out.setBlock (.inr (by omega)) _⟩
end
end Go.Proofs.Ytalmemcidbmdgaa.PM


/- A model (layer 16): access: plain. -/
set_option linter.unusedVariables false
set_option linter.unusedSimpArgs false
namespace Go.Proofs.Ytalmemcidbmdgaa.PM
open Go.RowKit Go.Proofs.YtalmemcidbmdgaaW.PrintWords Go.Proofs.YtalmemcidbmdgaaW.PrintLast Go.Proofs.YtalmemcidbmdgaaW.PrintMore Go.Proofs.Ytalmemcidbmdgaa.PageG
attribute [local go_sem] max2_int min2_int max_two min_two max_three min_three max_four min_four   -- for this text's walks alone
/-- What attributes say of an access. -/
def judgeN (a : Atr) (kind : Int) (priv : Bool) : Int := if (a.f1 && !priv) = true then 3 else if (a.f5 && !(kind == 3)) = true then 4 else if (kind == 1 && !a.f0) = true then 5 else if (kind == 2 && !a.f2) = true then 6 else 0
theorem judge_f (a : Atr) (kind va : Int) (priv : Bool) : fault_Judge.f 10 a.f0 a.f1 a.f2 a.f3 a.f4 a.f5 kind priv va = some (judgeN a kind priv) := by
  obtain ⟨a0, a1, a2, a3, a4, a5⟩ := a
  unfold fault_Judge.f judgeN
  by_cases h1 : kind = 1
  · subst h1
    cases a0 <;> cases a1 <;> cases a2 <;> cases a5 <;> cases priv <;> rfl
  · by_cases h2 : kind = 2
    · subst h2
      cases a0 <;> cases a1 <;> cases a2 <;> cases a5 <;> cases priv <;> rfl
    · by_cases h3 : kind = 3
      · subst h3
        cases a0 <;> cases a1 <;> cases a2 <;> cases a5 <;> cases priv <;> rfl
      · have e1 : (kind == 1) = false := beq_eq_false_iff_ne.2 h1
        have e2 : (kind == 2) = false := beq_eq_false_iff_ne.2 h2
        have e3 : (kind == 3) = false := beq_eq_false_iff_ne.2 h3
        cases a0 <;> cases a1 <;> cases a2 <;> cases a5 <;> cases priv <;> simp [fault_Judge.j0, fault_Judge.j1, fault_Judge.j2, e1, e2, e3, h1, h2, h3]
theorem fmay_f (kind va : Int) (priv : Bool) : fault_May.f kind priv va = some (decide (0 ≤ kind ∧ kind < 4)) := by
  unfold fault_May.f
  by_cases h : 0 ≤ kind
  · rw [if_pos h]; simp [h]
  · rw [if_neg h]; simp [h]
/-- access: errno, fault and byte; the model behind it. -/
def accP (p : Pg) (kind : Int) : Pg := { p with f4 := true, f5 := p.f5 || (kind == 1) }
def accessR (s : MS) (o : OpS) : (Int × Int × Int) × MS :=
  if isAll s.n [o.sp] = true ∧ (0 ≤ o.ak ∧ o.ak < 4) then
    (if holeB o.av.toNat = true then ((0, 1, 0), s)
     else match find s.L o.sp o.av.toNat with
      | none => ((0, 2, 0), s)
      | some i => (match s.L[i]? with
        | none => ((0, 2, 0), s)
        | some x => if judgeN x.f1.f3 o.ak o.ap = 0 then
            (if o.ak = 1 then ((0, 0, 0), { s with L := s.L.set i ⟨x.f0, accP x.f1 o.ak⟩, by_ := putB s.by_ x.f1.f2 ((offN x o.av.toNat : Nat) : Int) o.byte })
             else ((0, 0, getB s.by_ x.f1.f2 ((offN x o.av.toNat : Nat) : Int)), { s with L := s.L.set i ⟨x.f0, accP x.f1 o.ak⟩ }))
          else ((0, judgeN x.f1.f3 o.ak o.ap, 0), s)))
  else ((1, 0, 0), s)
end Go.Proofs.Ytalmemcidbmdgaa.PM


/- A model (layer 16): access where no page is there: the walk. -/
set_option linter.unusedVariables false
set_option linter.unusedSimpArgs false
namespace Go.Proofs.Ytalmemcidbmdgaa.PM
open Go.RowKit Go.Proofs.YtalmemcidbmdgaaW.PrintWords Go.Proofs.YtalmemcidbmdgaaW.PrintLast Go.Proofs.YtalmemcidbmdgaaW.PrintMore Go.Proofs.Ytalmemcidbmdgaa.PageG
attribute [local go_sem] max2_int min2_int max_two min_two max_three min_three max_four min_four   -- for this text's walks alone
/-- What an access is told, and the model behind it. -/
def Rep3 (w : World) (B pm bm : Nat) (r : (Int × Int × Int) × MS) (e : Ending) (w' : World) : Prop := e = .returned (.agg #[.int .i64 r.1.1, .int .i64 r.1.2.1, .int .u8 r.1.2.2]) ∧ Mo w' B pm bm r.2 ∧ Mv [B, pm, bm] w w'
section
variable {w w' : World} {B pm bm : Nat} {s : MS}
theorem Rep3.same {r : (Int × Int × Int) × MS} {a b c : Int} (h : Mo w B pm bm s) (hb : Below w.heap.size w w') (hr : r = ((a, b, c), s)) : Rep3 w B pm bm r (.returned (.agg #[.int .i64 a, .int .i64 b, .int .u8 c])) w' := by
  subst hr
  exact ⟨rfl, h.below hb, Mv.of_below hb⟩
set_option maxHeartbeats 8000000 in
set_option maxRecDepth 100000 in
theorem access_none (h : Mo w B pm bm s) (hw : WfL s.L) (o : OpS) (ho : OkO o) (hfd : find s.L o.sp o.av.toNat = none) :
    Calls Try.prog 38 #[.pointer (some ⟨B, 0, none⟩), Value.agg #[.int .i64 o.kind, .int .i64 o.sp, .int .i64 o.ak, .bool o.ap, .int .u64 o.av, .int .u8 o.byte, .int .u64 o.va, .int .i64 o.size, .bool o.at_.f0, .bool o.at_.f1, .bool o.at_.f2, .bool o.at_.f3, .bool o.at_.f4, .bool o.at_.f5, .int .i64 o.other, .int .u64 o.too]] w (Rep3 w B pm bm (accessR s o)) := by
  have HM := Aside0.mk h
  have HR := Aside0.mk (show accessR s o = if isAll s.n [o.sp] = true ∧ (0 ≤ o.ak ∧ o.ak < 4) then (if holeB o.av.toNat = true then ((0, 1, 0), s) else ((0, 2, 0), s)) else ((1, 0, 0), s) by unfold accessR; rw [hfd])
  obtain ⟨res, hres⟩ : ∃ res, accessR s o = res := ⟨_, rfl⟩
  rw [hres] at HR ⊢
  clear hres
  obtain ⟨av, hvd⟩ : ∃ av : Nat, o.av.toNat = av := ⟨_, rfl⟩
  rw [hvd] at HR hfd
  have hva : av < 2 ^ 64 := by have := ho.av; omega
  have HOV := Aside0.mk (show o.av = (av : Int) by have := ho.av; omega)
  have HN := Aside0.mk (show ∀ i, i < 4 → NoAt s o.sp av i from fun i _ => noAt_of hw hfd i)
  have hsp := Aside0.mk ho.sp
  have HJ := Aside0.mk (judge_f ⟨false, false, false, false, false, false⟩ o.ak (av : Int) o.ap)
  have HMY := Aside0.mk (fmay_f o.ak (av : Int) o.ap)
  have HHO := Aside0.mk (hole_f av hva)
  generalize judgeN ⟨false, false, false, false, false, false⟩ o.ak o.ap = jn at *
  generalize hmy : decide (0 ≤ o.ak ∧ o.ak < 4) = my at *
  have HMYD := Aside0.mk hmy
  generalize hho : holeB av = hob at *
  clear h hw ho hvd hfd hmy hho
  obtain ⟨D, hD⟩ : ∃ D, w.heap.size = D := ⟨_, rfl⟩
  go_enter Try.func38, Try.ntmps38
  go_upto_region 2 with fail
  have hk := blk_alloc (blk_alloc (blk_new w (.cells #[.int .i64 o.kind, .int .i64 o.sp, .int .i64 o.ak, .bool o.ap, .int .u64 o.av, .int .u8 o.byte, .int .u64 o.va, .int .i64 o.size, .bool o.at_.f0, .bool o.at_.f1, .bool o.at_.f2, .bool o.at_.f3, .bool o.at_.f4, .bool o.at_.f5, .int .i64 o.other, .int .u64 o.too] 36)) (.cells #[.int .i64 0, .int .i64 0, .int .u8 0] 42)) (.cells #[.int .i64 o.ak, .bool o.ap, .int .u64 o.av] 32)
  have hz := blk_alloc (blk_new (w.alloc (.cells #[.int .i64 o.kind, .int .i64 o.sp, .int .i64 o.ak, .bool o.ap, .int .u64 o.av, .int .u8 o.byte, .int .u64 o.va, .int .i64 o.size, .bool o.at_.f0, .bool o.at_.f1, .bool o.at_.f2, .bool o.at_.f3, .bool o.at_.f4, .bool o.at_.f5, .int .i64 o.other, .int .u64 o.too] 36)) (.cells #[.int .i64 0, .int .i64 0, .int .u8 0] 42)) (.cells #[.int .i64 o.ak, .bool o.ap, .int .u64 o.av] 32)
  have hl := blk_new ((w.alloc (.cells #[.int .i64 o.kind, .int .i64 o.sp, .int .i64 o.ak, .bool o.ap, .int .u64 o.av, .int .u8 o.byte, .int .u64 o.va, .int .i64 o.size, .bool o.at_.f0, .bool o.at_.f1, .bool o.at_.f2, .bool o.at_.f3, .bool o.at_.f4, .bool o.at_.f5, .int .i64 o.other, .int .u64 o.too] 36)).alloc (.cells #[.int .i64 0, .int .i64 0, .int .u8 0] 42)) (.cells #[.int .i64 o.ak, .bool o.ap, .int .u64 o.av] 32)
  have hb : Below w.heap.size w (((w.alloc (.cells #[.int .i64 o.kind, .int .i64 o.sp, .int .i64 o.ak, .bool o.ap, .int .u64 o.av, .int .u8 o.byte, .int .u64 o.va, .int .i64 o.size, .bool o.at_.f0, .bool o.at_.f1, .bool o.at_.f2, .bool o.at_.f3, .bool o.at_.f4, .bool o.at_.f5, .int .i64 o.other, .int .u64 o.too] 36)).alloc (.cells #[.int .i64 0, .int .i64 0, .int .u8 0] 42)).alloc (.cells #[.int .i64 o.ak, .bool o.ap, .int .u64 o.av] 32)) := (((Below.refl _ w).alloc (Nat.le_refl _) _).alloc (by simp) _).alloc (by simp; omega) _
  have hs1 : (w.alloc (.cells #[.int .i64 o.kind, .int .i64 o.sp, .int .i64 o.ak, .bool o.ap, .int .u64 o.av, .int .u8 o.byte, .int .u64 o.va, .int .i64 o.size, .bool o.at_.f0, .bool o.at_.f1, .bool o.at_.f2, .bool o.at_.f3, .bool o.at_.f4, .bool o.at_.f5, .int .i64 o.other, .int .u64 o.too] 36)).heap.size = D + 1 := by simp [hD]
  have hs2 : ((w.alloc (.cells #[.int .i64 o.kind, .int .i64 o.sp, .int .i64 o.ak, .bool o.ap, .int .u64 o.av, .int .u8 o.byte, .int .u64 o.va, .int .i64 o.size, .bool o.at_.f0, .bool o.at_.f1, .bool o.at_.f2, .bool o.at_.f3, .bool o.at_.f4, .bool o.at_.f5, .int .i64 o.other, .int .u64 o.too] 36)).alloc (.cells #[.int .i64 0, .int .i64 0, .int .u8 0] 42)).heap.size = D + 1 + 1 := by simp [hD]
  rw [hD] at hk
  rw [hs1] at hz
  rw [hs2] at hl
  generalize ((w.alloc (.cells #[.int .i64 o.kind, .int .i64 o.sp, .int .i64 o.ak, .bool o.ap, .int .u64 o.av, .int .u8 o.byte, .int .u64 o.va, .int .i64 o.size, .bool o.at_.f0, .bool o.at_.f1, .bool o.at_.f2, .bool o.at_.f3, .bool o.at_.f4, .bool o.at_.f5, .int .i64 o.other, .int .u64 o.too] 36)).alloc (.cells #[.int .i64 0, .int .i64 0, .int .u8 0] 42)).alloc (.cells #[.int .i64 o.ak, .bool o.ap, .int .u64 o.av] 32) = w1 at *
  clear hs1 hs2
  obtain ⟨-, o1, -⟩ := cells16 hk
  obtain ⟨c0, c1, c2⟩ := cells3 hl
  rw [HOV.out] at c2
  have HZ := Aside0.mk hz
  have HB := Aside0.mk hb
  have HK := Aside0.mk hk
  have HL := Aside0.mk hl
  clear hz hb hk hl
  go_wp2_with fail
  refine (at_no (HM.out.below HB.out) o.sp hsp.out av hva HN.out).mono ?_
  rintro e w2 ⟨rfl, hb2⟩
  have hp3 := blk_alloc (blk_new w2 (.cells #[.int .u64 0, .int .i64 0, .int .u64 0, .bool false, .bool false, .bool false, .bool false, .bool false, .bool false, .bool false, .bool false] 50)) (.cells #[.int .i64 0, .int .u64 0, .int .i64 0] 84)
  have hb3 := hb2.trans ((((Below.refl _ w2).alloc (Nat.le_refl _) (.cells #[.int .u64 0, .int .i64 0, .int .u64 0, .bool false, .bool false, .bool false, .bool false, .bool false, .bool false, .bool false, .bool false] 50)).alloc (by simp) (.cells #[.int .i64 0, .int .u64 0, .int .i64 0] 84)).mono hb2.size)
  unfold pgv kyv z0
  have HZ3 := Aside0.mk (blk_below HZ.out hb3)
  have HK3 := Aside0.mk (blk_below HK.out hb3)
  have HL3 := Aside0.mk (blk_below HL.out hb3)
  have HB3 := Aside0.mk (below_step HB.out hb3)
  have HP3 := Aside0.mk hp3
  clear hb2 hb3 hp3 o1 c0 c1 c2 HZ HK HL HB
  go_upto_region 3 with fail
  generalize (w2.alloc (.cells #[.int .u64 0, .int .i64 0, .int .u64 0, .bool false, .bool false, .bool false, .bool false, .bool false, .bool false, .bool false, .bool false] 50)).alloc (.cells #[.int .i64 0, .int .u64 0, .int .i64 0] 84) = w3 at *
  generalize w2.heap.size = G at *
  obtain ⟨-, -, -, p3, p4, p5, p6, p7, p8, -, -⟩ := cells11 HP3.out
  obtain ⟨c0, c1, c2⟩ := cells3 HL3.out
  rw [HOV.out] at c2
  go_wp2_with fail
  refine (fault_Judge.calls 10 false false false false false false o.ak o.ap (av : Int) jn w3 HJ.out).mono ?_
  rintro e w4 ⟨rfl, hb4⟩
  have HZ4 := Aside0.mk (blk_below HZ3.out hb4)
  have HK4 := Aside0.mk (blk_below HK3.out hb4)
  have HL4 := Aside0.mk (blk_below HL3.out hb4)
  have HB4 := Aside0.mk (below_step HB3.out hb4)
  clear hb4 p3 p4 p5 p6 p7 p8 c0 c1 c2 HP3 HZ3 HK3 HL3 HB3
  obtain ⟨-, o1, -⟩ := cells16 HK4.out
  go_wp2_with fail
  have hbn := (Below.refl _ w4).alloc (Nat.le_refl _) (.cells #[.int .i64 o.sp] 3)
  have hl5 := blk_new w4 (.cells #[.int .i64 o.sp] 3)
  have HZ := Aside0.mk (blk_below HZ4.out hbn)
  have HL := Aside0.mk (blk_below HL4.out hbn)
  have HB := Aside0.mk (below_step HB4.out hbn)
  clear hbn o1 HZ4 HK4 HL4 HB4
  generalize w4.alloc (.cells #[.int .i64 o.sp] 3) = w5 at *
  generalize w4.heap.size = G2 at *
  refine (is_calls (HM.out.below HB.out) [o.sp] (some ⟨G2, 0, none⟩) 1 (c_lit (xs := [o.sp]) hl5 (by simp)) (by simp)).mono ?_
  rintro e w6 ⟨rfl, rfl⟩
  clear hl5
  generalize hia : isAll s.n [o.sp] = ia at *
  cases ia with
  | false =>
    rw [if_neg (by simp)] at HR
    go_wp2_with fail
    refine (model_told.calls 1 _ _ _ w5 rfl).mono ?_
    rintro e w2z ⟨rfl, hb2⟩
    have hz2 := blk_below HZ.out hb2
    have HB2 := Aside0.mk (below_step HB.out hb2)
    obtain ⟨z0, z1, z2⟩ := cells3 hz2
    have y0 := blk_frozen hz2 0
    have y1 := blk_frozen hz2 1
    have y2 := blk_frozen hz2 2
    clear hb2
    go_wp2_with fail
    rw [set3 hz2]
    refine bodyPost_ret (results_cell_row rfl _ _ (D + 1) 42 _ (0, 0) _ rfl (sb_same hz2 _) Try.underlying42 rfl (by kernel_rfl)) rfl ?_
    exact Rep3.same HM.out (below_sb HB2.out (by omega) _) HR.out
  | true =>
    clear hia
    obtain ⟨c0, c1, c2⟩ := cells3 HL.out
    rw [HOV.out] at c2
    go_wp2_with fail
    refine (fault_May.calls o.ak o.ap (av : Int) my w5 HMY.out).mono ?_
    rintro e w6 ⟨rfl, hb6⟩
    have HZ6 := Aside0.mk (blk_below HZ.out hb6)
    have HL6 := Aside0.mk (blk_below HL.out hb6)
    have HB6 := Aside0.mk (below_step HB.out hb6)
    clear hb6 c0 c1 c2 HZ HL HB
    have HZ := HZ6
    have HB := HB6
    clear HZ6 HB6
    cases my with
    | false =>
      rw [if_neg (by have := of_decide_eq_false HMYD.out; intro h; exact this h.2)] at HR
      go_wp2_with fail
      refine (model_told.calls 1 _ _ _ w6 rfl).mono ?_
      rintro e w2z ⟨rfl, hb2⟩
      have hz2 := blk_below HZ.out hb2
      have HB2 := Aside0.mk (below_step HB.out hb2)
      obtain ⟨z0, z1, z2⟩ := cells3 hz2
      have y0 := blk_frozen hz2 0
      have y1 := blk_frozen hz2 1
      have y2 := blk_frozen hz2 2
      clear hb2
      go_wp2_with fail
      rw [set3 hz2]
      refine bodyPost_ret (results_cell_row rfl _ _ (D + 1) 42 _ (0, 0) _ rfl (sb_same hz2 _) Try.underlying42 rfl (by kernel_rfl)) rfl ?_
      exact Rep3.same HM.out (below_sb HB2.out (by omega) _) HR.out
    | true =>
      rw [if_pos ⟨by trivial, of_decide_eq_true HMYD.out⟩] at HR
      obtain ⟨c0, c1, c2⟩ := cells3 HL6.out
      rw [HOV.out] at c2
      go_wp2_with fail
      refine (page_Hole.calls (av : Int) hob w6 HHO.out).mono ?_
      rintro e w7 ⟨rfl, hd⟩
      have HZ7 := Aside0.mk (blk_below HZ.out hd.below)
      have HB7 := Aside0.mk (below_step HB.out hd.below)
      clear hd c0 c1 c2 HZ HB HL6
      have HZ := HZ7
      have HB := HB7
      clear HZ7 HB7
      cases hob with
      | true =>
        rw [if_pos rfl] at HR
        obtain ⟨z0, z1, z2⟩ := cells3 HZ.out
        have y0 := blk_frozen HZ.out 0
        have y1 := blk_frozen HZ.out 1
        have y2 := blk_frozen HZ.out 2
        go_wp2_with fail
        rw [set3 HZ.out]
        refine bodyPost_ret (results_cell_row rfl _ _ (D + 1) 42 _ (0, 0) _ rfl (sb_same HZ.out _) Try.underlying42 rfl (by kernel_rfl)) rfl ?_
        exact Rep3.same HM.out (below_sb HB.out (by omega) _) HR.out
      | false =>
        rw [if_neg (by simp)] at HR
        obtain ⟨z0, z1, z2⟩ := cells3 HZ.out
        have y0 := blk_frozen HZ.out 0
        have y1 := blk_frozen HZ.out 1
        have y2 := blk_frozen HZ.out 2
        go_wp2_with fail
        rw [set3 HZ.out]
        refine bodyPost_ret (results_cell_row rfl _ _ (D + 1) 42 _ (0, 0) _ rfl (sb_same HZ.out _) Try.underlying42 rfl (by kernel_rfl)) rfl ?_
        exact Rep3.same HM.out (below_sb HB.out (by omega) _) HR.out
end
end Go.Proofs.Ytalmemcidbmdgaa.PM


/- A model (layer 16): access where a page is there, and a fault: the walk. -/
set_option linter.unusedVariables false
set_option linter.unusedSimpArgs false
namespace Go.Proofs.Ytalmemcidbmdgaa.PM
open Go.RowKit Go.Proofs.YtalmemcidbmdgaaW.PrintWords Go.Proofs.YtalmemcidbmdgaaW.PrintLast Go.Proofs.YtalmemcidbmdgaaW.PrintMore Go.Proofs.Ytalmemcidbmdgaa.PageG
attribute [local go_sem] max2_int min2_int max_two min_two max_three min_three max_four min_four   -- for this text's walks alone
section
variable {w w' : World} {B pm bm : Nat} {s : MS}
set_option maxHeartbeats 8000000 in
set_option maxRecDepth 100000 in
theorem access_fault (h : Mo w B pm bm s) (hw : WfL s.L) (o : OpS) (ho : OkO o) {i : Nat} {x : Ent} (hfd : find s.L o.sp o.av.toNat = some i) (hx : s.L[i]? = some x) (hbad : ¬ (isAll s.n [o.sp] = true ∧ (0 ≤ o.ak ∧ o.ak < 4) ∧ holeB o.av.toNat = false ∧ judgeN x.f1.f3 o.ak o.ap = 0)) :
    Calls Try.prog 38 #[.pointer (some ⟨B, 0, none⟩), Value.agg #[.int .i64 o.kind, .int .i64 o.sp, .int .i64 o.ak, .bool o.ap, .int .u64 o.av, .int .u8 o.byte, .int .u64 o.va, .int .i64 o.size, .bool o.at_.f0, .bool o.at_.f1, .bool o.at_.f2, .bool o.at_.f3, .bool o.at_.f4, .bool o.at_.f5, .int .i64 o.other, .int .u64 o.too]] w (Rep3 w B pm bm (accessR s o)) := by
  have HM := Aside0.mk h
  have HR := Aside0.mk (show accessR s o = if isAll s.n [o.sp] = true ∧ (0 ≤ o.ak ∧ o.ak < 4) then (if holeB o.av.toNat = true then ((0, 1, 0), s) else ((0, judgeN x.f1.f3 o.ak o.ap, 0), s)) else ((1, 0, 0), s) by
    unfold accessR
    rw [hfd]
    simp only [hx]
    by_cases h1 : isAll s.n [o.sp] = true ∧ (0 ≤ o.ak ∧ o.ak < 4)
    · rw [if_pos h1, if_pos h1]
      cases hh : holeB o.av.toNat with
      | true => rfl
      | false =>
        have hj0 : ¬ judgeN x.f1.f3 o.ak o.ap = 0 := fun hj => hbad ⟨h1.1, h1.2, hh, hj⟩
        simp [hj0]
    · rw [if_neg h1, if_neg h1])
  obtain ⟨res, hres⟩ : ∃ res, accessR s o = res := ⟨_, rfl⟩
  rw [hres] at HR ⊢
  clear hres
  obtain ⟨av, hvd⟩ : ∃ av : Nat, o.av.toNat = av := ⟨_, rfl⟩
  have hh0 : hit o.sp o.av.toNat x = true := by
    obtain ⟨y, hy, hh⟩ := find_some hfd
    rw [hx] at hy
    cases hy
    exact hh
  rw [hvd] at HR hh0 hbad
  have hva : av < 2 ^ 64 := by have := ho.av; omega
  have HOV := Aside0.mk (show o.av = (av : Int) by have := ho.av; omega)
  have HW := Aside0.mk hw
  have HX := Aside0.mk (List.mem_of_getElem? hx)
  have HH := Aside0.mk hh0
  have hsp := Aside0.mk ho.sp
  have HJ := Aside0.mk (judge_f x.f1.f3 o.ak (av : Int) o.ap)
  have HMY := Aside0.mk (fmay_f o.ak (av : Int) o.ap)
  have HHO := Aside0.mk (hole_f av hva)
  generalize judgeN x.f1.f3 o.ak o.ap = jn at *
  generalize hmy : decide (0 ≤ o.ak ∧ o.ak < 4) = my at *
  have HMYD := Aside0.mk hmy
  generalize hho : holeB av = hob at *
  have HBAD := Aside0.mk hbad
  clear h hw ho hvd hfd hmy hho hx hh0 hbad
  obtain ⟨D, hD⟩ : ∃ D, w.heap.size = D := ⟨_, rfl⟩
  go_enter Try.func38, Try.ntmps38
  go_upto_region 2 with fail
  have hk := blk_alloc (blk_alloc (blk_new w (.cells #[.int .i64 o.kind, .int .i64 o.sp, .int .i64 o.ak, .bool o.ap, .int .u64 o.av, .int .u8 o.byte, .int .u64 o.va, .int .i64 o.size, .bool o.at_.f0, .bool o.at_.f1, .bool o.at_.f2, .bool o.at_.f3, .bool o.at_.f4, .bool o.at_.f5, .int .i64 o.other, .int .u64 o.too] 36)) (.cells #[.int .i64 0, .int .i64 0, .int .u8 0] 42)) (.cells #[.int .i64 o.ak, .bool o.ap, .int .u64 o.av] 32)
  have hz := blk_alloc (blk_new (w.alloc (.cells #[.int .i64 o.kind, .int .i64 o.sp, .int .i64 o.ak, .bool o.ap, .int .u64 o.av, .int .u8 o.byte, .int .u64 o.va, .int .i64 o.size, .bool o.at_.f0, .bool o.at_.f1, .bool o.at_.f2, .bool o.at_.f3, .bool o.at_.f4, .bool o.at_.f5, .int .i64 o.other, .int .u64 o.too] 36)) (.cells #[.int .i64 0, .int .i64 0, .int .u8 0] 42)) (.cells #[.int .i64 o.ak, .bool o.ap, .int .u64 o.av] 32)
  have hl := blk_new ((w.alloc (.cells #[.int .i64 o.kind, .int .i64 o.sp, .int .i64 o.ak, .bool o.ap, .int .u64 o.av, .int .u8 o.byte, .int .u64 o.va, .int .i64 o.size, .bool o.at_.f0, .bool o.at_.f1, .bool o.at_.f2, .bool o.at_.f3, .bool o.at_.f4, .bool o.at_.f5, .int .i64 o.other, .int .u64 o.too] 36)).alloc (.cells #[.int .i64 0, .int .i64 0, .int .u8 0] 42)) (.cells #[.int .i64 o.ak, .bool o.ap, .int .u64 o.av] 32)
  have hb : Below w.heap.size w (((w.alloc (.cells #[.int .i64 o.kind, .int .i64 o.sp, .int .i64 o.ak, .bool o.ap, .int .u64 o.av, .int .u8 o.byte, .int .u64 o.va, .int .i64 o.size, .bool o.at_.f0, .bool o.at_.f1, .bool o.at_.f2, .bool o.at_.f3, .bool o.at_.f4, .bool o.at_.f5, .int .i64 o.other, .int .u64 o.too] 36)).alloc (.cells #[.int .i64 0, .int .i64 0, .int .u8 0] 42)).alloc (.cells #[.int .i64 o.ak, .bool o.ap, .int .u64 o.av] 32)) := (((Below.refl _ w).alloc (Nat.le_refl _) _).alloc (by simp) _).alloc (by simp; omega) _
  have hs1 : (w.alloc (.cells #[.int .i64 o.kind, .int .i64 o.sp, .int .i64 o.ak, .bool o.ap, .int .u64 o.av, .int .u8 o.byte, .int .u64 o.va, .int .i64 o.size, .bool o.at_.f0, .bool o.at_.f1, .bool o.at_.f2, .bool o.at_.f3, .bool o.at_.f4, .bool o.at_.f5, .int .i64 o.other, .int .u64 o.too] 36)).heap.size = D + 1 := by simp [hD]
  have hs2 : ((w.alloc (.cells #[.int .i64 o.kind, .int .i64 o.sp, .int .i64 o.ak, .bool o.ap, .int .u64 o.av, .int .u8 o.byte, .int .u64 o.va, .int .i64 o.size, .bool o.at_.f0, .bool o.at_.f1, .bool o.at_.f2, .bool o.at_.f3, .bool o.at_.f4, .bool o.at_.f5, .int .i64 o.other, .int .u64 o.too] 36)).alloc (.cells #[.int .i64 0, .int .i64 0, .int .u8 0] 42)).heap.size = D + 1 + 1 := by simp [hD]
  rw [hD] at hk
  rw [hs1] at hz
  rw [hs2] at hl
  generalize ((w.alloc (.cells #[.int .i64 o.kind, .int .i64 o.sp, .int .i64 o.ak, .bool o.ap, .int .u64 o.av, .int .u8 o.byte, .int .u64 o.va, .int .i64 o.size, .bool o.at_.f0, .bool o.at_.f1, .bool o.at_.f2, .bool o.at_.f3, .bool o.at_.f4, .bool o.at_.f5, .int .i64 o.other, .int .u64 o.too] 36)).alloc (.cells #[.int .i64 0, .int .i64 0, .int .u8 0] 42)).alloc (.cells #[.int .i64 o.ak, .bool o.ap, .int .u64 o.av] 32) = w1 at *
  clear hs1 hs2
  obtain ⟨-, o1, -⟩ := cells16 hk
  obtain ⟨c0, c1, c2⟩ := cells3 hl
  rw [HOV.out] at c2
  have HZ := Aside0.mk hz
  have HB := Aside0.mk hb
  have HK := Aside0.mk hk
  have HL := Aside0.mk hl
  clear hz hb hk hl
  go_wp2_with fail
  refine (at_yes (HM.out.below HB.out) HW.out o.sp hsp.out av hva x HX.out HH.out).mono ?_
  rintro e w2 ⟨rfl, hb2⟩
  have hp3 := blk_alloc (blk_new w2 (.cells #[.int .u64 x.f1.f0, .int .i64 x.f1.f1, .int .u64 x.f1.f2, .bool x.f1.f3.f0, .bool x.f1.f3.f1, .bool x.f1.f3.f2, .bool x.f1.f3.f3, .bool x.f1.f3.f4, .bool x.f1.f3.f5, .bool x.f1.f4, .bool x.f1.f5] 50)) (.cells #[.int .i64 x.f0, .int .u64 x.f1.f0, .int .i64 x.f1.f1] 84)
  have hb3 := hb2.trans ((((Below.refl _ w2).alloc (Nat.le_refl _) (.cells #[.int .u64 x.f1.f0, .int .i64 x.f1.f1, .int .u64 x.f1.f2, .bool x.f1.f3.f0, .bool x.f1.f3.f1, .bool x.f1.f3.f2, .bool x.f1.f3.f3, .bool x.f1.f3.f4, .bool x.f1.f3.f5, .bool x.f1.f4, .bool x.f1.f5] 50)).alloc (by simp) (.cells #[.int .i64 x.f0, .int .u64 x.f1.f0, .int .i64 x.f1.f1] 84)).mono hb2.size)
  unfold pgv kyv
  have HZ3 := Aside0.mk (blk_below HZ.out hb3)
  have HK3 := Aside0.mk (blk_below HK.out hb3)
  have HL3 := Aside0.mk (blk_below HL.out hb3)
  have HB3 := Aside0.mk (below_step HB.out hb3)
  have HP3 := Aside0.mk hp3
  clear hb2 hb3 hp3 o1 c0 c1 c2 HZ HK HL HB
  go_upto_region 3 with fail
  generalize (w2.alloc (.cells #[.int .u64 x.f1.f0, .int .i64 x.f1.f1, .int .u64 x.f1.f2, .bool x.f1.f3.f0, .bool x.f1.f3.f1, .bool x.f1.f3.f2, .bool x.f1.f3.f3, .bool x.f1.f3.f4, .bool x.f1.f3.f5, .bool x.f1.f4, .bool x.f1.f5] 50)).alloc (.cells #[.int .i64 x.f0, .int .u64 x.f1.f0, .int .i64 x.f1.f1] 84) = w3 at *
  generalize w2.heap.size = G at *
  obtain ⟨-, -, -, p3, p4, p5, p6, p7, p8, -, -⟩ := cells11 HP3.out
  obtain ⟨c0, c1, c2⟩ := cells3 HL3.out
  rw [HOV.out] at c2
  go_wp2_with fail
  refine (fault_Judge.calls 10 x.f1.f3.f0 x.f1.f3.f1 x.f1.f3.f2 x.f1.f3.f3 x.f1.f3.f4 x.f1.f3.f5 o.ak o.ap (av : Int) jn w3 HJ.out).mono ?_
  rintro e w4 ⟨rfl, hb4⟩
  have HZ4 := Aside0.mk (blk_below HZ3.out hb4)
  have HK4 := Aside0.mk (blk_below HK3.out hb4)
  have HL4 := Aside0.mk (blk_below HL3.out hb4)
  have HB4 := Aside0.mk (below_step HB3.out hb4)
  clear hb4 p3 p4 p5 p6 p7 p8 c0 c1 c2 HP3 HZ3 HK3 HL3 HB3
  obtain ⟨-, o1, -⟩ := cells16 HK4.out
  go_wp2_with fail
  have hbn := (Below.refl _ w4).alloc (Nat.le_refl _) (.cells #[.int .i64 o.sp] 3)
  have hl5 := blk_new w4 (.cells #[.int .i64 o.sp] 3)
  have HZ := Aside0.mk (blk_below HZ4.out hbn)
  have HL := Aside0.mk (blk_below HL4.out hbn)
  have HB := Aside0.mk (below_step HB4.out hbn)
  clear hbn o1 HZ4 HK4 HL4 HB4
  generalize w4.alloc (.cells #[.int .i64 o.sp] 3) = w5 at *
  generalize w4.heap.size = G2 at *
  refine (is_calls (HM.out.below HB.out) [o.sp] (some ⟨G2, 0, none⟩) 1 (c_lit (xs := [o.sp]) hl5 (by simp)) (by simp)).mono ?_
  rintro e w6 ⟨rfl, rfl⟩
  clear hl5
  generalize hia : isAll s.n [o.sp] = ia at *
  cases ia with
  | false =>
    rw [if_neg (by simp)] at HR
    go_wp2_with fail
    refine (model_told.calls 1 _ _ _ w5 rfl).mono ?_
    rintro e w2z ⟨rfl, hb2⟩
    have hz2 := blk_below HZ.out hb2
    have HB2 := Aside0.mk (below_step HB.out hb2)
    obtain ⟨z0, z1, z2⟩ := cells3 hz2
    have y0 := blk_frozen hz2 0
    have y1 := blk_frozen hz2 1
    have y2 := blk_frozen hz2 2
    clear hb2
    go_wp2_with fail
    rw [set3 hz2]
    refine bodyPost_ret (results_cell_row rfl _ _ (D + 1) 42 _ (0, 0) _ rfl (sb_same hz2 _) Try.underlying42 rfl (by kernel_rfl)) rfl ?_
    exact Rep3.same HM.out (below_sb HB2.out (by omega) _) HR.out
  | true =>
    have HIA := Aside0.mk (show true = true from rfl)
    clear hia
    obtain ⟨c0, c1, c2⟩ := cells3 HL.out
    rw [HOV.out] at c2
    go_wp2_with fail
    refine (fault_May.calls o.ak o.ap (av : Int) my w5 HMY.out).mono ?_
    rintro e w6 ⟨rfl, hb6⟩
    have HZ6 := Aside0.mk (blk_below HZ.out hb6)
    have HL6 := Aside0.mk (blk_below HL.out hb6)
    have HB6 := Aside0.mk (below_step HB.out hb6)
    clear hb6 c0 c1 c2 HZ HL HB
    have HZ := HZ6
    have HB := HB6
    clear HZ6 HB6
    cases my with
    | false =>
      rw [if_neg (by have := of_decide_eq_false HMYD.out; intro h; exact this h.2)] at HR
      go_wp2_with fail
      refine (model_told.calls 1 _ _ _ w6 rfl).mono ?_
      rintro e w2z ⟨rfl, hb2⟩
      have hz2 := blk_below HZ.out hb2
      have HB2 := Aside0.mk (below_step HB.out hb2)
      obtain ⟨z0, z1, z2⟩ := cells3 hz2
      have y0 := blk_frozen hz2 0
      have y1 := blk_frozen hz2 1
      have y2 := blk_frozen hz2 2
      clear hb2
      go_wp2_with fail
      rw [set3 hz2]
      refine bodyPost_ret (results_cell_row rfl _ _ (D + 1) 42 _ (0, 0) _ rfl (sb_same hz2 _) Try.underlying42 rfl (by kernel_rfl)) rfl ?_
      exact Rep3.same HM.out (below_sb HB2.out (by omega) _) HR.out
    | true =>
      rw [if_pos ⟨by trivial, of_decide_eq_true HMYD.out⟩] at HR
      obtain ⟨c0, c1, c2⟩ := cells3 HL6.out
      rw [HOV.out] at c2
      go_wp2_with fail
      refine (page_Hole.calls (av : Int) hob w6 HHO.out).mono ?_
      rintro e w7 ⟨rfl, hd⟩
      have HZ7 := Aside0.mk (blk_below HZ.out hd.below)
      have HB7 := Aside0.mk (below_step HB.out hd.below)
      clear hd c0 c1 c2 HZ HB HL6
      have HZ := HZ7
      have HB := HB7
      clear HZ7 HB7
      cases hob with
      | true =>
        rw [if_pos rfl] at HR
        obtain ⟨z0, z1, z2⟩ := cells3 HZ.out
        have y0 := blk_frozen HZ.out 0
        have y1 := blk_frozen HZ.out 1
        have y2 := blk_frozen HZ.out 2
        go_wp2_with fail
        rw [set3 HZ.out]
        refine bodyPost_ret (results_cell_row rfl _ _ (D + 1) 42 _ (0, 0) _ rfl (sb_same HZ.out _) Try.underlying42 rfl (by kernel_rfl)) rfl ?_
        exact Rep3.same HM.out (below_sb HB.out (by omega) _) HR.out
      | false =>
        rw [if_neg (by simp)] at HR
        have hjn : jn ≠ 0 := fun hj => HBAD.out ⟨HIA.out, of_decide_eq_true HMYD.out, rfl, hj⟩
        have hjb : (jn != 0) = true := by simp [hjn]
        obtain ⟨z0, z1, z2⟩ := cells3 HZ.out
        have y0 := blk_frozen HZ.out 0
        have y1 := blk_frozen HZ.out 1
        have y2 := blk_frozen HZ.out 2
        go_wp2_with fail
        rw [set3 HZ.out]
        refine bodyPost_ret (results_cell_row rfl _ _ (D + 1) 42 _ (0, 0) _ rfl (sb_same HZ.out _) Try.underlying42 rfl (by kernel_rfl)) rfl ?_
        exact Rep3.same HM.out (below_sb HB.out (by omega) _) HR.out
end
end Go.Proofs.Ytalmemcidbmdgaa.PM


/- A model (layer 16): access where a page is there, and no fault: the walk (under way). -/
set_option linter.unusedVariables false
set_option linter.unusedSimpArgs false
namespace Go.Proofs.Ytalmemcidbmdgaa.PM
open Go.RowKit Go.Proofs.YtalmemcidbmdgaaW.PrintWords Go.Proofs.YtalmemcidbmdgaaW.PrintLast Go.Proofs.YtalmemcidbmdgaaW.PrintMore Go.Proofs.Ytalmemcidbmdgaa.PageG
attribute [local go_sem] max2_int min2_int max_two min_two max_three min_three max_four min_four   -- for this text's walks alone
section
variable {w w' : World} {B pm bm : Nat} {s : MS}
set_option maxHeartbeats 8000000 in
set_option maxRecDepth 100000 in
theorem access_ok (h : Mo w B pm bm s) (hw : WfL s.L) (o : OpS) (ho : OkO o) {i : Nat} {x : Ent} (hfd : find s.L o.sp o.av.toNat = some i) (hx : s.L[i]? = some x) (hia : isAll s.n [o.sp] = true) (hak : 0 ≤ o.ak ∧ o.ak < 4) (hho0 : holeB o.av.toNat = false) (hjn : judgeN x.f1.f3 o.ak o.ap = 0) :
    Calls Try.prog 38 #[.pointer (some ⟨B, 0, none⟩), Value.agg #[.int .i64 o.kind, .int .i64 o.sp, .int .i64 o.ak, .bool o.ap, .int .u64 o.av, .int .u8 o.byte, .int .u64 o.va, .int .i64 o.size, .bool o.at_.f0, .bool o.at_.f1, .bool o.at_.f2, .bool o.at_.f3, .bool o.at_.f4, .bool o.at_.f5, .int .i64 o.other, .int .u64 o.too]] w (Rep3 w B pm bm (accessR s o)) := by
  have HM := Aside0.mk h
  have hr : accessR s o = (if o.ak = 1 then ((0, 0, 0), { s with L := s.L.set i ⟨x.f0, accP x.f1 o.ak⟩, by_ := putB s.by_ x.f1.f2 ((offN x o.av.toNat : Nat) : Int) o.byte }) else ((0, 0, getB s.by_ x.f1.f2 ((offN x o.av.toNat : Nat) : Int)), { s with L := s.L.set i ⟨x.f0, accP x.f1 o.ak⟩ })) := by
    unfold accessR
    rw [if_pos ⟨hia, hak⟩, if_neg (by rw [hho0]; simp), hfd]
    simp only [hx]
    rw [if_pos hjn]
  obtain ⟨res, hres⟩ : ∃ res, accessR s o = res := ⟨_, rfl⟩
  rw [hres] at hr ⊢
  clear hres
  obtain ⟨av, hvd⟩ : ∃ av : Nat, o.av.toNat = av := ⟨_, rfl⟩
  rw [hvd] at hr
  have HR := Aside0.mk hr
  clear hr
  have hh0 : hit o.sp o.av.toNat x = true := by
    obtain ⟨y, hy, hh⟩ := find_some hfd
    rw [hx] at hy
    cases hy
    exact hh
  rw [hvd] at hh0 hho0
  have hva : av < 2 ^ 64 := by have := ho.av; omega
  have HOV := Aside0.mk (show o.av = (av : Int) by have := ho.av; omega)
  have HW := Aside0.mk hw
  have HX := Aside0.mk (List.mem_of_getElem? hx)
  have HXI := Aside0.mk hx
  have HBY := Aside0.mk ho.by_
  have HFD := Aside0.mk hfd
  have HH := Aside0.mk hh0
  have hsp := Aside0.mk ho.sp
  have HJ := Aside0.mk (judge_f x.f1.f3 o.ak (av : Int) o.ap)
  have HMY := Aside0.mk (fmay_f o.ak (av : Int) o.ap)
  have HHO := Aside0.mk (hole_f av hva)
  rw [hjn] at HJ
  clear hjn
  rw [decide_eq_true hak] at HMY
  rw [hho0] at HHO
  have HIA := Aside0.mk hia
  have HLT := Aside0.mk h.lt
  have HVD := Aside0.mk hvd
  have HAK := Aside0.mk hak
  clear h hw ho hfd hho0 hx hh0 hia hvd hak
  obtain ⟨D, hD⟩ : ∃ D, w.heap.size = D := ⟨_, rfl⟩
  go_enter Try.func38, Try.ntmps38
  go_upto_region 2 with fail
  have hk := blk_alloc (blk_alloc (blk_new w (.cells #[.int .i64 o.kind, .int .i64 o.sp, .int .i64 o.ak, .bool o.ap, .int .u64 o.av, .int .u8 o.byte, .int .u64 o.va, .int .i64 o.size, .bool o.at_.f0, .bool o.at_.f1, .bool o.at_.f2, .bool o.at_.f3, .bool o.at_.f4, .bool o.at_.f5, .int .i64 o.other, .int .u64 o.too] 36)) (.cells #[.int .i64 0, .int .i64 0, .int .u8 0] 42)) (.cells #[.int .i64 o.ak, .bool o.ap, .int .u64 o.av] 32)
  have hz := blk_alloc (blk_new (w.alloc (.cells #[.int .i64 o.kind, .int .i64 o.sp, .int .i64 o.ak, .bool o.ap, .int .u64 o.av, .int .u8 o.byte, .int .u64 o.va, .int .i64 o.size, .bool o.at_.f0, .bool o.at_.f1, .bool o.at_.f2, .bool o.at_.f3, .bool o.at_.f4, .bool o.at_.f5, .int .i64 o.other, .int .u64 o.too] 36)) (.cells #[.int .i64 0, .int .i64 0, .int .u8 0] 42)) (.cells #[.int .i64 o.ak, .bool o.ap, .int .u64 o.av] 32)
  have hl := blk_new ((w.alloc (.cells #[.int .i64 o.kind, .int .i64 o.sp, .int .i64 o.ak, .bool o.ap, .int .u64 o.av, .int .u8 o.byte, .int .u64 o.va, .int .i64 o.size, .bool o.at_.f0, .bool o.at_.f1, .bool o.at_.f2, .bool o.at_.f3, .bool o.at_.f4, .bool o.at_.f5, .int .i64 o.other, .int .u64 o.too] 36)).alloc (.cells #[.int .i64 0, .int .i64 0, .int .u8 0] 42)) (.cells #[.int .i64 o.ak, .bool o.ap, .int .u64 o.av] 32)
  have hb : Below w.heap.size w (((w.alloc (.cells #[.int .i64 o.kind, .int .i64 o.sp, .int .i64 o.ak, .bool o.ap, .int .u64 o.av, .int .u8 o.byte, .int .u64 o.va, .int .i64 o.size, .bool o.at_.f0, .bool o.at_.f1, .bool o.at_.f2, .bool o.at_.f3, .bool o.at_.f4, .bool o.at_.f5, .int .i64 o.other, .int .u64 o.too] 36)).alloc (.cells #[.int .i64 0, .int .i64 0, .int .u8 0] 42)).alloc (.cells #[.int .i64 o.ak, .bool o.ap, .int .u64 o.av] 32)) := (((Below.refl _ w).alloc (Nat.le_refl _) _).alloc (by simp) _).alloc (by simp; omega) _
  have hs1 : (w.alloc (.cells #[.int .i64 o.kind, .int .i64 o.sp, .int .i64 o.ak, .bool o.ap, .int .u64 o.av, .int .u8 o.byte, .int .u64 o.va, .int .i64 o.size, .bool o.at_.f0, .bool o.at_.f1, .bool o.at_.f2, .bool o.at_.f3, .bool o.at_.f4, .bool o.at_.f5, .int .i64 o.other, .int .u64 o.too] 36)).heap.size = D + 1 := by simp [hD]
  have hs2 : ((w.alloc (.cells #[.int .i64 o.kind, .int .i64 o.sp, .int .i64 o.ak, .bool o.ap, .int .u64 o.av, .int .u8 o.byte, .int .u64 o.va, .int .i64 o.size, .bool o.at_.f0, .bool o.at_.f1, .bool o.at_.f2, .bool o.at_.f3, .bool o.at_.f4, .bool o.at_.f5, .int .i64 o.other, .int .u64 o.too] 36)).alloc (.cells #[.int .i64 0, .int .i64 0, .int .u8 0] 42)).heap.size = D + 1 + 1 := by simp [hD]
  rw [hD] at hk
  rw [hs1] at hz
  rw [hs2] at hl
  generalize ((w.alloc (.cells #[.int .i64 o.kind, .int .i64 o.sp, .int .i64 o.ak, .bool o.ap, .int .u64 o.av, .int .u8 o.byte, .int .u64 o.va, .int .i64 o.size, .bool o.at_.f0, .bool o.at_.f1, .bool o.at_.f2, .bool o.at_.f3, .bool o.at_.f4, .bool o.at_.f5, .int .i64 o.other, .int .u64 o.too] 36)).alloc (.cells #[.int .i64 0, .int .i64 0, .int .u8 0] 42)).alloc (.cells #[.int .i64 o.ak, .bool o.ap, .int .u64 o.av] 32) = w1 at *
  clear hs1 hs2
  obtain ⟨-, o1, -⟩ := cells16 hk
  obtain ⟨c0, c1, c2⟩ := cells3 hl
  rw [HOV.out] at c2
  have HZ := Aside0.mk hz
  have HB := Aside0.mk hb
  have HK := Aside0.mk hk
  have HL := Aside0.mk hl
  clear hz hb hk hl
  go_wp2_with fail
  refine (at_yes (HM.out.below HB.out) HW.out o.sp hsp.out av hva x HX.out HH.out).mono ?_
  rintro e w2 ⟨rfl, hb2⟩
  have hp3 := blk_alloc (blk_new w2 (.cells #[.int .u64 x.f1.f0, .int .i64 x.f1.f1, .int .u64 x.f1.f2, .bool x.f1.f3.f0, .bool x.f1.f3.f1, .bool x.f1.f3.f2, .bool x.f1.f3.f3, .bool x.f1.f3.f4, .bool x.f1.f3.f5, .bool x.f1.f4, .bool x.f1.f5] 50)) (.cells #[.int .i64 x.f0, .int .u64 x.f1.f0, .int .i64 x.f1.f1] 84)
  have hb3 := hb2.trans ((((Below.refl _ w2).alloc (Nat.le_refl _) (.cells #[.int .u64 x.f1.f0, .int .i64 x.f1.f1, .int .u64 x.f1.f2, .bool x.f1.f3.f0, .bool x.f1.f3.f1, .bool x.f1.f3.f2, .bool x.f1.f3.f3, .bool x.f1.f3.f4, .bool x.f1.f3.f5, .bool x.f1.f4, .bool x.f1.f5] 50)).alloc (by simp) (.cells #[.int .i64 x.f0, .int .u64 x.f1.f0, .int .i64 x.f1.f1] 84)).mono hb2.size)
  unfold pgv kyv
  have HZ3 := Aside0.mk (blk_below HZ.out hb3)
  have HK3 := Aside0.mk (blk_below HK.out hb3)
  have HL3 := Aside0.mk (blk_below HL.out hb3)
  have HB3 := Aside0.mk (below_step HB.out hb3)
  have HP3 := Aside0.mk hp3
  have hy3 := blk_new (w2.alloc (.cells #[.int .u64 x.f1.f0, .int .i64 x.f1.f1, .int .u64 x.f1.f2, .bool x.f1.f3.f0, .bool x.f1.f3.f1, .bool x.f1.f3.f2, .bool x.f1.f3.f3, .bool x.f1.f3.f4, .bool x.f1.f3.f5, .bool x.f1.f4, .bool x.f1.f5] 50)) (.cells #[.int .i64 x.f0, .int .u64 x.f1.f0, .int .i64 x.f1.f1] 84)
  rw [World.size_alloc] at hy3
  have HY3 := Aside0.mk hy3
  clear hy3
  have HGD := Aside0.mk (show D + 1 + 1 < w2.heap.size from Nat.lt_of_lt_of_le (blk_lt HL.out) hb2.size)
  clear hb2 hb3 hp3 o1 c0 c1 c2 HZ HK HL HB
  go_upto_region 3 with fail
  generalize (w2.alloc (.cells #[.int .u64 x.f1.f0, .int .i64 x.f1.f1, .int .u64 x.f1.f2, .bool x.f1.f3.f0, .bool x.f1.f3.f1, .bool x.f1.f3.f2, .bool x.f1.f3.f3, .bool x.f1.f3.f4, .bool x.f1.f3.f5, .bool x.f1.f4, .bool x.f1.f5] 50)).alloc (.cells #[.int .i64 x.f0, .int .u64 x.f1.f0, .int .i64 x.f1.f1] 84) = w3 at *
  generalize w2.heap.size = G at *
  obtain ⟨-, -, -, p3, p4, p5, p6, p7, p8, -, -⟩ := cells11 HP3.out
  obtain ⟨c0, c1, c2⟩ := cells3 HL3.out
  rw [HOV.out] at c2
  go_wp2_with fail
  refine (fault_Judge.calls 10 x.f1.f3.f0 x.f1.f3.f1 x.f1.f3.f2 x.f1.f3.f3 x.f1.f3.f4 x.f1.f3.f5 o.ak o.ap (av : Int) 0 w3 HJ.out).mono ?_
  rintro e w4 ⟨rfl, hb4⟩
  have HZ4 := Aside0.mk (blk_below HZ3.out hb4)
  have HK4 := Aside0.mk (blk_below HK3.out hb4)
  have HL4 := Aside0.mk (blk_below HL3.out hb4)
  have HP4 := Aside0.mk (blk_below HP3.out hb4)
  have HY4 := Aside0.mk (blk_below HY3.out hb4)
  have HB4 := Aside0.mk (below_step HB3.out hb4)
  clear hb4 p3 p4 p5 p6 p7 p8 c0 c1 c2 HP3 HY3 HZ3 HK3 HL3 HB3
  obtain ⟨-, o1, -⟩ := cells16 HK4.out
  go_wp2_with fail
  have hbn := (Below.refl _ w4).alloc (Nat.le_refl _) (.cells #[.int .i64 o.sp] 3)
  have hl5 := blk_new w4 (.cells #[.int .i64 o.sp] 3)
  have HZ := Aside0.mk (blk_below HZ4.out hbn)
  have HL := Aside0.mk (blk_below HL4.out hbn)
  have HP := Aside0.mk (blk_below HP4.out hbn)
  have HY := Aside0.mk (blk_below HY4.out hbn)
  have HK := Aside0.mk (blk_below HK4.out hbn)
  have HB := Aside0.mk (below_step HB4.out hbn)
  clear hbn o1 HZ4 HK4 HL4 HB4 HP4 HY4
  generalize w4.alloc (.cells #[.int .i64 o.sp] 3) = w5 at *
  generalize w4.heap.size = G2 at *
  refine (is_calls (HM.out.below HB.out) [o.sp] (some ⟨G2, 0, none⟩) 1 (c_lit (xs := [o.sp]) hl5 (by simp)) (by simp)).mono ?_
  rintro e w6 ⟨rfl, rfl⟩
  clear hl5
  rw [HIA.out]
  obtain ⟨c0, c1, c2⟩ := cells3 HL.out
  rw [HOV.out] at c2
  go_wp2_with fail
  refine (fault_May.calls o.ak o.ap (av : Int) true w5 HMY.out).mono ?_
  rintro e w6 ⟨rfl, hb6⟩
  have HL6 := Aside0.mk (blk_below HL.out hb6)
  have HP6 := Aside0.mk (blk_below HP.out hb6)
  have HY6 := Aside0.mk (blk_below HY.out hb6)
  have HK6 := Aside0.mk (blk_below HK.out hb6)
  have HB6 := Aside0.mk (below_step HB.out hb6)
  have HZ6 := Aside0.mk (blk_below HZ.out hb6)
  clear hb6 c0 c1 c2 HL HB HZ HP HY HK
  obtain ⟨c0, c1, c2⟩ := cells3 HL6.out
  rw [HOV.out] at c2
  go_wp2_with fail
  refine (page_Hole.calls (av : Int) false w6 HHO.out).mono ?_
  rintro e w7 ⟨rfl, hd⟩
  have HZ7 := Aside0.mk (blk_below HZ6.out hd.below)
  have HL7 := Aside0.mk (blk_below HL6.out hd.below)
  have HP7 := Aside0.mk (blk_below HP6.out hd.below)
  have HY7 := Aside0.mk (blk_below HY6.out hd.below)
  have HK7 := Aside0.mk (blk_below HK6.out hd.below)
  have HB7 := Aside0.mk (below_step HB6.out hd.below)
  clear hd c0 c1 c2 HZ6 HL6 HB6 HP6 HY6 HK6
  go_upto_region 12 with fail
  obtain ⟨-, -, -, -, -, -, -, -, -, p4, p5⟩ := cells11 HP7.out
  have f4 := blk_frozen HP7.out 9
  have f5 := blk_frozen HP7.out 10
  obtain ⟨c0, -, -⟩ := cells3 HL7.out
  have hgd : D + 1 + 1 ≠ G := by have := HGD.out; omega
  rcases Bool.eq_false_or_eq_true x.f1.f5 with hf5 | hf5
  · rw [hf5] at p5
    refine start_ (n := 11) (S := fun w' => w'.cell? ⟨G, 10, none⟩ = some (.bool true) ∧ w'.cell? ⟨D + 1 + 1, 0, none⟩ = some (.int .i64 o.ak)) (ds := [10]) #[false, false, false, false, false, false, false, false, false, false, false] (by kernel_rfl) rfl rfl ⟨p5, c0⟩ (fun hHeld => ?_)
    refine pure_ (i := 0) (N := some 50) (v := ?_) (a' := ?_) #[true, false, false, false, false, false, false, false, false, false, false] rfl rfl (by kernel_rfl) (fun _ _ _ h => h) (Or.inl ⟨by rfl, ?_⟩) ?_ ?_
    rotate_left
    · intro w'
      go_simp
      with_reducible rfl
    rotate_left
    · simp only [Act.put, List.setIfInBounds_toArray, List.set_cons_zero, List.set_cons_succ, i64_w, i32_w]
      rfl
    refine take_ (i := 1) (N := some 51) (v := ?_) (a' := ?_) #[true, true, false, false, false, false, false, false, false, false, false] rfl rfl (by kernel_rfl) (fun _ _ _ h => h) (Or.inl ⟨by rfl, ?_⟩) hHeld ?_ ?_
    rotate_left
    · rintro w' ⟨s0, s1⟩
      go_simp
      with_reducible rfl
    rotate_left
    · simp only [Act.put, List.setIfInBounds_toArray, List.set_cons_zero, List.set_cons_succ, i64_w, i32_w]
      rfl
    refine pure_ (i := 2) (N := some 52) (v := ?_) (a' := ?_) #[true, true, true, false, false, false, false, false, false, false, false] rfl rfl (by kernel_rfl) (fun _ _ _ h => h) (Or.inl ⟨by rfl, ?_⟩) ?_ ?_
    rotate_left
    · intro w'
      go_simp
      with_reducible rfl
    rotate_left
    · simp only [Act.put, List.setIfInBounds_toArray, List.set_cons_zero, List.set_cons_succ, i64_w, i32_w]
      rfl
    refine pure_ (i := 3) (N := some 53) (v := undef) (a' := ?_) #[true, true, true, true, false, false, false, false, false, false, false] rfl rfl (by kernel_rfl) (fun _ _ _ h => h) (Or.inr ⟨by rfl, rfl⟩) ?_ ?_
    rotate_left
    · simp only [Act.put, List.setIfInBounds_toArray, List.set_cons_zero, List.set_cons_succ, i64_w, i32_w]
      rfl
    refine pure_ (i := 4) (N := some 54) (v := undef) (a' := ?_) #[true, true, true, true, true, false, false, false, false, false, false] rfl rfl (by kernel_rfl) (fun _ _ _ h => h) (Or.inr ⟨by rfl, rfl⟩) ?_ ?_
    rotate_left
    · simp only [Act.put, List.setIfInBounds_toArray, List.set_cons_zero, List.set_cons_succ, i64_w, i32_w]
      rfl
    refine pure_ (i := 5) (N := some 55) (v := undef) (a' := ?_) #[true, true, true, true, true, true, false, false, false, false, false] rfl rfl (by kernel_rfl) (fun _ _ _ h => h) (Or.inr ⟨by rfl, rfl⟩) ?_ ?_
    rotate_left
    · simp only [Act.put, List.setIfInBounds_toArray, List.set_cons_zero, List.set_cons_succ, i64_w, i32_w]
      rfl
    refine pure_ (i := 6) (N := some 56) (v := ?_) (a' := ?_) #[true, true, true, true, true, true, true, false, false, false, false] rfl rfl (by kernel_rfl) (fun _ _ _ h => h) (Or.inl ⟨by rfl, ?_⟩) ?_ ?_
    rotate_left
    · intro w'
      go_simp
      with_reducible rfl
    rotate_left
    · simp only [Act.put, List.setIfInBounds_toArray, List.set_cons_zero, List.set_cons_succ, i64_w, i32_w]
      rfl
    refine pure_ (i := 7) (N := some 57) (v := ?_) (a' := ?_) #[true, true, true, true, true, true, true, true, false, false, false] rfl rfl (by kernel_rfl) (fun _ _ _ h => h) (Or.inl ⟨by rfl, ?_⟩) ?_ ?_
    rotate_left
    · intro w'
      go_simp
      with_reducible rfl
    rotate_left
    · simp only [Act.put, List.setIfInBounds_toArray, List.set_cons_zero, List.set_cons_succ, i64_w, i32_w]
      rfl
    refine one_ (i := 8) (N := none) #[true, true, true, true, true, true, true, true, true, false, false] rfl rfl (by kernel_rfl) (by decide) (fun K hK => ?_)
    refine skip_ (w1 := ?_) (by rfl) rfl ?_ ?_
    rotate_left
    · go_simp
      with_reducible rfl
    refine hK.out _ _ (by obtain ⟨s0, s1⟩ := hHeld; constructor <;> go_simp) (fun hHeld => ?_)
    clear hK K
    refine pure_ (i := 9) (N := some 58) (v := ?_) (a' := ?_) #[true, true, true, true, true, true, true, true, true, true, false] rfl rfl (by kernel_rfl) (fun _ _ _ h => h) (Or.inl ⟨by rfl, ?_⟩) ?_ ?_
    rotate_left
    · intro w'
      go_simp
      with_reducible rfl
    rotate_left
    · simp only [Act.put, List.setIfInBounds_toArray, List.set_cons_zero, List.set_cons_succ, i64_w, i32_w]
      rfl
    refine last_ (i := 10) (N := none) #[true, true, true, true, true, true, true, true, true, true, true] rfl rfl (by kernel_rfl) (by decide) (fun K hK => ?_)
    refine skip_ (w1 := ?_) (by rfl) rfl ?_ ?_
    rotate_left
    · go_simp
      with_reducible rfl
    refine hK.out _ _ ?_
    clear hK K
    refine done_ (by kernel_rfl) ?_
    (try simp only [Exit.inBlock, Exit.then])
    have s9 := setCell_block (t := 50) (i := 9) (cs' := #[.int .u64 x.f1.f0, .int .i64 x.f1.f1, .int .u64 x.f1.f2, .bool x.f1.f3.f0, .bool x.f1.f3.f1, .bool x.f1.f3.f2, .bool x.f1.f3.f3, .bool x.f1.f3.f4, .bool x.f1.f3.f5, .bool true, Value.bool true]) HP7.out (.bool true) (by rw [hf5]; rfl)
    have s10 := sb_put (t := 50) (i := 10) (cs := #[.int .u64 x.f1.f0, .int .i64 x.f1.f1, .int .u64 x.f1.f2, .bool x.f1.f3.f0, .bool x.f1.f3.f1, .bool x.f1.f3.f2, .bool x.f1.f3.f3, .bool x.f1.f3.f4, .bool x.f1.f3.f5, .bool true, Value.bool true]) (cs' := #[.int .u64 x.f1.f0, .int .i64 x.f1.f1, .int .u64 x.f1.f2, .bool x.f1.f3.f0, .bool x.f1.f3.f1, .bool x.f1.f3.f2, .bool x.f1.f3.f3, .bool x.f1.f3.f4, .bool x.f1.f3.f5, .bool true, .bool (x.f1.f5 || (o.ak == 1))]) HP7.out (.bool true) (by rw [hf5]; rfl)
    rw [s9, s10]
    clear s9 s10
    have h8b := sb_same HP7.out (.cells #[.int .u64 x.f1.f0, .int .i64 x.f1.f1, .int .u64 x.f1.f2, .bool x.f1.f3.f0, .bool x.f1.f3.f1, .bool x.f1.f3.f2, .bool x.f1.f3.f3, .bool x.f1.f3.f4, .bool x.f1.f3.f5, .bool true, .bool (x.f1.f5 || (o.ak == 1))] 50 (0, 0))
    have h8y := (sb_other (W := w7) (b := G) (k := G + 1) (.cells #[.int .u64 x.f1.f0, .int .i64 x.f1.f1, .int .u64 x.f1.f2, .bool x.f1.f3.f0, .bool x.f1.f3.f1, .bool x.f1.f3.f2, .bool x.f1.f3.f3, .bool x.f1.f3.f4, .bool x.f1.f3.f5, .bool true, .bool (x.f1.f5 || (o.ak == 1))] 50 (0, 0)) (by omega)).trans HY7.out
    have h8l := (sb_other (W := w7) (b := G) (k := D + 1 + 1) (.cells #[.int .u64 x.f1.f0, .int .i64 x.f1.f1, .int .u64 x.f1.f2, .bool x.f1.f3.f0, .bool x.f1.f3.f1, .bool x.f1.f3.f2, .bool x.f1.f3.f3, .bool x.f1.f3.f4, .bool x.f1.f3.f5, .bool true, .bool (x.f1.f5 || (o.ak == 1))] 50 (0, 0)) hgd).trans HL7.out
    have h8z := (sb_other (W := w7) (b := G) (k := D + 1) (.cells #[.int .u64 x.f1.f0, .int .i64 x.f1.f1, .int .u64 x.f1.f2, .bool x.f1.f3.f0, .bool x.f1.f3.f1, .bool x.f1.f3.f2, .bool x.f1.f3.f3, .bool x.f1.f3.f4, .bool x.f1.f3.f5, .bool true, .bool (x.f1.f5 || (o.ak == 1))] 50 (0, 0)) (by have := HGD.out; omega)).trans HZ7.out
    have h8k := (sb_other (W := w7) (b := G) (k := D) (.cells #[.int .u64 x.f1.f0, .int .i64 x.f1.f1, .int .u64 x.f1.f2, .bool x.f1.f3.f0, .bool x.f1.f3.f1, .bool x.f1.f3.f2, .bool x.f1.f3.f3, .bool x.f1.f3.f4, .bool x.f1.f3.f5, .bool true, .bool (x.f1.f5 || (o.ak == 1))] 50 (0, 0)) (by have := HGD.out; omega)).trans HK7.out
    have h8w := below_sb HB7.out (g := G) (by have := HGD.out; omega) (.cells #[.int .u64 x.f1.f0, .int .i64 x.f1.f1, .int .u64 x.f1.f2, .bool x.f1.f3.f0, .bool x.f1.f3.f1, .bool x.f1.f3.f2, .bool x.f1.f3.f3, .bool x.f1.f3.f4, .bool x.f1.f3.f5, .bool true, .bool (x.f1.f5 || (o.ak == 1))] 50 (0, 0))
    generalize ChangeMaps.setBlock w7 G (.cells #[.int .u64 x.f1.f0, .int .i64 x.f1.f1, .int .u64 x.f1.f2, .bool x.f1.f3.f0, .bool x.f1.f3.f1, .bool x.f1.f3.f2, .bool x.f1.f3.f3, .bool x.f1.f3.f4, .bool x.f1.f3.f5, .bool true, .bool (x.f1.f5 || (o.ak == 1))] 50 (0, 0)) = w8 at *
    obtain ⟨p, hp⟩ : ∃ p : Pg, accP x.f1 o.ak = p := ⟨_, rfl⟩
    have HP := Aside0.mk hp
    have h8p : (w8.drew).heap[G]? = some (.cells #[.int .u64 p.f0, .int .i64 p.f1, .int .u64 p.f2, .bool p.f3.f0, .bool p.f3.f1, .bool p.f3.f2, .bool p.f3.f3, .bool p.f3.f4, .bool p.f3.f5, .bool p.f4, .bool p.f5] 50 (0, 0)) := by subst hp; exact h8b
    clear h8b hp p4 p5 f4 f5 c0 hHeld HP7
    have HP8 := Aside0.mk h8p
    have HY8 := Aside0.mk (show (w8.drew).heap[G + 1]? = _ from h8y)
    have HL8 := Aside0.mk (show (w8.drew).heap[D + 1 + 1]? = _ from h8l)
    have HZ8 := Aside0.mk (show (w8.drew).heap[D + 1]? = _ from h8z)
    have HK8 := Aside0.mk (show (w8.drew).heap[D]? = _ from h8k)
    have HB8 := Aside0.mk h8w.drew
    clear h8p h8y h8l h8z h8k h8w HY7 HL7 HZ7 HK7 HB7
    generalize w8.drew = w9 at *
    go_upto_region 13 with fail
    have hm9 := HM.out.below HB8.out
    obtain ⟨-, m1, -, -⟩ := hm9.cells
    obtain ⟨k0, k1, k2⟩ := cells3 HY8.out
    obtain ⟨p0, p1, p2, p3, p4, p5, p6, p7, p8, p9, p10⟩ := cells11 HP8.out
    obtain ⟨ob, hrun, hmo⟩ := (hm9.below (Below.refl _ w9).drew).set_page HW.out HXI.out p (by rw [← HP.out]; rfl) (by rw [← HP.out]; rfl)
    have HMO := Aside0.mk hmo
    unfold kyv pgv at hrun
    clear hm9 hmo
    refine start_ (n := 7) (S := fun w' => w'.cell? ⟨B, 1, none⟩ = some (.map (some pm)) ∧ w'.cell? ⟨G + 1, 0, none⟩ = some (.int .i64 x.f0) ∧ w'.cell? ⟨G + 1, 1, none⟩ = some (.int .u64 x.f1.f0) ∧ w'.cell? ⟨G + 1, 2, none⟩ = some (.int .i64 x.f1.f1) ∧ w'.cell? ⟨G, 0, none⟩ = some (.int .u64 p.f0) ∧ w'.cell? ⟨G, 1, none⟩ = some (.int .i64 p.f1) ∧ w'.cell? ⟨G, 2, none⟩ = some (.int .u64 p.f2) ∧ w'.cell? ⟨G, 3, none⟩ = some (.bool p.f3.f0) ∧ w'.cell? ⟨G, 4, none⟩ = some (.bool p.f3.f1) ∧ w'.cell? ⟨G, 5, none⟩ = some (.bool p.f3.f2) ∧ w'.cell? ⟨G, 6, none⟩ = some (.bool p.f3.f3) ∧ w'.cell? ⟨G, 7, none⟩ = some (.bool p.f3.f4) ∧ w'.cell? ⟨G, 8, none⟩ = some (.bool p.f3.f5) ∧ w'.cell? ⟨G, 9, none⟩ = some (.bool p.f4) ∧ w'.cell? ⟨G, 10, none⟩ = some (.bool p.f5)) (ds := [6]) #[false, false, false, false, false, false, false] (by kernel_rfl) rfl rfl ⟨m1, k0, k1, k2, p0, p1, p2, p3, p4, p5, p6, p7, p8, p9, p10⟩ (fun hHeld => ?_)
    refine pure_ (i := 0) (N := some 59) (v := ?_) (a' := ?_) #[true, false, false, false, false, false, false] rfl rfl (by kernel_rfl) (fun _ _ _ h => h) (Or.inl ⟨by rfl, ?_⟩) ?_ ?_
    rotate_left
    · intro w'
      go_simp
      with_reducible rfl
    rotate_left
    · simp only [Act.put, List.setIfInBounds_toArray, List.set_cons_zero, List.set_cons_succ, i64_w, i32_w]
      rfl
    refine pure_ (i := 1) (N := some 60) (v := ?_) (a' := ?_) #[true, true, false, false, false, false, false] rfl rfl (by kernel_rfl) (fun _ _ _ h => h) (Or.inl ⟨by rfl, ?_⟩) ?_ ?_
    rotate_left
    · intro w'
      go_simp
      with_reducible rfl
    rotate_left
    · simp only [Act.put, List.setIfInBounds_toArray, List.set_cons_zero, List.set_cons_succ, i64_w, i32_w]
      rfl
    refine pure_ (i := 2) (N := some 61) (v := ?_) (a' := ?_) #[true, true, true, false, false, false, false] rfl rfl (by kernel_rfl) (fun _ _ _ h => h) (Or.inl ⟨by rfl, ?_⟩) ?_ ?_
    rotate_left
    · intro w'
      go_simp
      with_reducible rfl
    rotate_left
    · simp only [Act.put, List.setIfInBounds_toArray, List.set_cons_zero, List.set_cons_succ, i64_w, i32_w]
      rfl
    refine take_ (i := 3) (N := some 62) (v := ?_) (a' := ?_) #[true, true, true, true, false, false, false] rfl rfl (by kernel_rfl) (fun _ _ _ h => h) (Or.inl ⟨by rfl, ?_⟩) hHeld ?_ ?_
    rotate_left
    · rintro w' ⟨s0, s1, s2, s3, s4, s5, s6, s7, s8, s9, s10, s11, s12, s13, s14⟩
      go_simp
      with_reducible rfl
    rotate_left
    · simp only [Act.put, List.setIfInBounds_toArray, List.set_cons_zero, List.set_cons_succ, i64_w, i32_w]
      rfl
    refine take_ (i := 4) (N := some 63) (v := ?_) (a' := ?_) #[true, true, true, true, true, false, false] rfl rfl (by kernel_rfl) (fun _ _ _ h => h) (Or.inl ⟨by rfl, ?_⟩) hHeld ?_ ?_
    rotate_left
    · rintro w' ⟨s0, s1, s2, s3, s4, s5, s6, s7, s8, s9, s10, s11, s12, s13, s14⟩
      go_simp
      with_reducible rfl
    rotate_left
    · simp only [Act.put, List.setIfInBounds_toArray, List.set_cons_zero, List.set_cons_succ, i64_w, i32_w]
      rfl
    refine take_ (i := 5) (N := some 64) (v := ?_) (a' := ?_) #[true, true, true, true, true, true, false] rfl rfl (by kernel_rfl) (fun _ _ _ h => h) (Or.inl ⟨by rfl, ?_⟩) hHeld ?_ ?_
    rotate_left
    · rintro w' ⟨s0, s1, s2, s3, s4, s5, s6, s7, s8, s9, s10, s11, s12, s13, s14⟩
      go_simp
      with_reducible rfl
    rotate_left
    · simp only [Act.put, List.setIfInBounds_toArray, List.set_cons_zero, List.set_cons_succ, i64_w, i32_w]
      rfl
    refine last_ (i := 6) (N := none) #[true, true, true, true, true, true, true] rfl rfl (by kernel_rfl) (by decide) (fun K hK => ?_)
    refine skip_ (w1 := _) (by rfl) rfl (run_mapUpdate rfl rfl rfl rfl hrun) ?_
    refine hK.out _ _ ?_
    clear hK K
    refine done_ (by kernel_rfl) ?_
    (try simp only [Exit.inBlock, Exit.then])
    clear m1 k0 k1 k2 p0 p1 p2 p3 p4 p5 p6 p7 p8 p9 p10 hHeld hrun
    have hpm : pm < D := by have := HLT.out pm (by simp); omega
    have h10p := (sb_other (W := w9.drew) (b := pm) (k := G) ob (by have := HGD.out; omega)).trans (show (w9.drew).heap[G]? = _ from HP8.out)
    have h10l := (sb_other (W := w9.drew) (b := pm) (k := D + 1 + 1) ob (by omega)).trans (show (w9.drew).heap[D + 1 + 1]? = _ from HL8.out)
    have h10z := (sb_other (W := w9.drew) (b := pm) (k := D + 1) ob (by omega)).trans (show (w9.drew).heap[D + 1]? = _ from HZ8.out)
    have h10k := (sb_other (W := w9.drew) (b := pm) (k := D) ob (by omega)).trans (show (w9.drew).heap[D]? = _ from HK8.out)
    have HV := Aside0.mk ((Mv.of_below HB8.out.drew : Mv [B, pm, bm] w _).setBlock (b := pm) (.inl (by simp)) ob)
    generalize ChangeMaps.setBlock w9.drew pm ob = w10 at *
    have HP10 := Aside0.mk h10p
    have HL10 := Aside0.mk h10l
    have HZ10 := Aside0.mk h10z
    have HK10 := Aside0.mk h10k
    obtain ⟨c0, -, -⟩ := cells3 h10l
    clear h10p h10l h10z h10k HP8 HY8 HL8 HZ8 HK8 HB8
    have hok := HW.out.ok x HX.out
    have hsf : model_spotOf.f p.f0 p.f1 p.f2 p.f3.f0 p.f3.f1 p.f3.f2 p.f3.f3 p.f3.f4 p.f3.f5 p.f4 p.f5 (av : Int) = some (x.f1.f2, ((offN x av : Nat) : Int)) := by rw [← HP.out]; exact spot_f (p := accP x.f1 o.ak) hok.pa0 hok.pa1 (off_f hok hva)
    have HSF := Aside0.mk hsf
    have h1 : W64 x.f1.f2 := ⟨by have := hok.pa0; omega, by have := hok.pa1; omega⟩
    have h2 : U64 ((offN x av : Nat) : Int) := ⟨by omega, by have := offN_lt (x := x) hva; omega⟩
    have HRG := Aside0.mk h1
    have HOF := Aside0.mk h2
    clear hsf hok h1 h2
    by_cases hak1 : o.ak = 1
    · have hr := HR.out
      rw [if_pos hak1] at hr
      have HR1 := Aside0.mk hr
      clear hr
      have hb1 : (o.ak == 1) = true := beq_iff_eq.2 hak1
      have hb2 : (o.ak != 1) = false := by simp [hak1]
      have HAK1 := Aside0.mk hak1
      clear hak1
      go_upto_region 16 with fail
      clear hb1 hb2 c0
      have HH := Aside0.mk (show ∀ W, Below w10.heap.size w10 W → (W.cell? ⟨B, 2, none⟩ = some (.map (some bm)) ∧ W.cell? ⟨D + 1 + 1, 2, none⟩ = some (.int .u64 (av : Int)) ∧ W.cell? ⟨D, 5, none⟩ = some (.int .u8 o.byte) ∧ W.cell? ⟨G, 0, none⟩ = some (.int .u64 p.f0) ∧ W.cell? ⟨G, 1, none⟩ = some (.int .i64 p.f1) ∧ W.cell? ⟨G, 2, none⟩ = some (.int .u64 p.f2) ∧ W.cell? ⟨G, 3, none⟩ = some (.bool p.f3.f0) ∧ W.cell? ⟨G, 4, none⟩ = some (.bool p.f3.f1) ∧ W.cell? ⟨G, 5, none⟩ = some (.bool p.f3.f2) ∧ W.cell? ⟨G, 6, none⟩ = some (.bool p.f3.f3) ∧ W.cell? ⟨G, 7, none⟩ = some (.bool p.f3.f4) ∧ W.cell? ⟨G, 8, none⟩ = some (.bool p.f3.f5) ∧ W.cell? ⟨G, 9, none⟩ = some (.bool p.f4) ∧ W.cell? ⟨G, 10, none⟩ = some (.bool p.f5)) from fun W hb => by
        obtain ⟨-, -, m2, -⟩ := (HMO.out.below hb).cells
        obtain ⟨-, -, c2⟩ := cells3 (blk_below HL10.out hb)
        rw [HOV.out] at c2
        obtain ⟨-, -, -, -, -, o5, -, -, -, -, -, -, -, -, -, -⟩ := cells16 (blk_below HK10.out hb)
        obtain ⟨p0, p1, p2, p3, p4, p5, p6, p7, p8, p9, p10⟩ := cells11 (blk_below HP10.out hb)
        exact ⟨m2, c2, o5, p0, p1, p2, p3, p4, p5, p6, p7, p8, p9, p10⟩)
      refine start_ (n := 11) (S := fun w' => w'.cell? ⟨B, 2, none⟩ = some (.map (some bm)) ∧ w'.cell? ⟨D + 1 + 1, 2, none⟩ = some (.int .u64 (av : Int)) ∧ w'.cell? ⟨D, 5, none⟩ = some (.int .u8 o.byte) ∧ w'.cell? ⟨G, 0, none⟩ = some (.int .u64 p.f0) ∧ w'.cell? ⟨G, 1, none⟩ = some (.int .i64 p.f1) ∧ w'.cell? ⟨G, 2, none⟩ = some (.int .u64 p.f2) ∧ w'.cell? ⟨G, 3, none⟩ = some (.bool p.f3.f0) ∧ w'.cell? ⟨G, 4, none⟩ = some (.bool p.f3.f1) ∧ w'.cell? ⟨G, 5, none⟩ = some (.bool p.f3.f2) ∧ w'.cell? ⟨G, 6, none⟩ = some (.bool p.f3.f3) ∧ w'.cell? ⟨G, 7, none⟩ = some (.bool p.f3.f4) ∧ w'.cell? ⟨G, 8, none⟩ = some (.bool p.f3.f5) ∧ w'.cell? ⟨G, 9, none⟩ = some (.bool p.f4) ∧ w'.cell? ⟨G, 10, none⟩ = some (.bool p.f5)) (ds := [10]) #[false, false, false, false, false, false, false, false, false, false, false] (by kernel_rfl) rfl rfl (by first | exact HH.out _ (Below.refl _ _) | exact HH.out _ (Below.refl _ _).drew) (fun hHeld => ?_)
      refine pure_ (i := 0) (N := some 78) (v := ?_) (a' := ?_) #[true, false, false, false, false, false, false, false, false, false, false] rfl rfl (by kernel_rfl) (fun _ _ _ h => h) (Or.inl ⟨by rfl, ?_⟩) ?_ ?_
      rotate_left
      · intro w'
        go_simp
        with_reducible rfl
      rotate_left
      · simp only [Act.put, List.setIfInBounds_toArray, List.set_cons_zero, List.set_cons_succ, i64_w, i32_w]
        rfl
      refine pure_ (i := 1) (N := some 79) (v := ?_) (a' := ?_) #[true, true, false, false, false, false, false, false, false, false, false] rfl rfl (by kernel_rfl) (fun _ _ _ h => h) (Or.inl ⟨by rfl, ?_⟩) ?_ ?_
      rotate_left
      · intro w'
        go_simp
        with_reducible rfl
      rotate_left
      · simp only [Act.put, List.setIfInBounds_toArray, List.set_cons_zero, List.set_cons_succ, i64_w, i32_w]
        rfl
      refine pure_ (i := 2) (N := some 80) (v := ?_) (a' := ?_) #[true, true, true, false, false, false, false, false, false, false, false] rfl rfl (by kernel_rfl) (fun _ _ _ h => h) (Or.inl ⟨by rfl, ?_⟩) ?_ ?_
      rotate_left
      · intro w'
        go_simp
        with_reducible rfl
      rotate_left
      · simp only [Act.put, List.setIfInBounds_toArray, List.set_cons_zero, List.set_cons_succ, i64_w, i32_w]
        rfl
      refine pure_ (i := 5) (N := some 83) (v := ?_) (a' := ?_) #[true, true, true, false, false, true, false, false, false, false, false] rfl rfl (by kernel_rfl) (fun _ _ _ h => h) (Or.inl ⟨by rfl, ?_⟩) ?_ ?_
      rotate_left
      · intro w'
        go_simp
        with_reducible rfl
      rotate_left
      · simp only [Act.put, List.setIfInBounds_toArray, List.set_cons_zero, List.set_cons_succ, i64_w, i32_w]
        rfl
      refine pure_ (i := 8) (N := some 86) (v := ?_) (a' := ?_) #[true, true, true, false, false, true, false, false, true, false, false] rfl rfl (by kernel_rfl) (fun _ _ _ h => h) (Or.inl ⟨by rfl, ?_⟩) ?_ ?_
      rotate_left
      · intro w'
        go_simp
        with_reducible rfl
      rotate_left
      · simp only [Act.put, List.setIfInBounds_toArray, List.set_cons_zero, List.set_cons_succ, i64_w, i32_w]
        rfl
      refine take_ (i := 3) (N := some 81) (v := ?_) (a' := ?_) #[true, true, true, true, false, true, false, false, true, false, false] rfl rfl (by kernel_rfl) (fun _ _ _ h => h) (Or.inl ⟨by rfl, ?_⟩) hHeld ?_ ?_
      rotate_left
      · rintro w' ⟨s0, s1, s2, s3, s4, s5, s6, s7, s8, s9, s10, s11, s12, s13⟩
        go_simp
        with_reducible rfl
      rotate_left
      · simp only [Act.put, List.setIfInBounds_toArray, List.set_cons_zero, List.set_cons_succ, i64_w, i32_w]
        rfl
      refine take_ (i := 4) (N := some 82) (v := ?_) (a' := ?_) #[true, true, true, true, true, true, false, false, true, false, false] rfl rfl (by kernel_rfl) (fun _ _ _ h => h) (Or.inl ⟨by rfl, ?_⟩) hHeld ?_ ?_
      rotate_left
      · rintro w' ⟨s0, s1, s2, s3, s4, s5, s6, s7, s8, s9, s10, s11, s12, s13⟩
        go_simp
        with_reducible rfl
      rotate_left
      · simp only [Act.put, List.setIfInBounds_toArray, List.set_cons_zero, List.set_cons_succ, i64_w, i32_w]
        rfl
      refine take_ (i := 6) (N := some 84) (v := ?_) (a' := ?_) #[true, true, true, true, true, true, true, false, true, false, false] rfl rfl (by kernel_rfl) (fun _ _ _ h => h) (Or.inl ⟨by rfl, ?_⟩) hHeld ?_ ?_
      rotate_left
      · rintro w' ⟨s0, s1, s2, s3, s4, s5, s6, s7, s8, s9, s10, s11, s12, s13⟩
        go_simp
        with_reducible rfl
      rotate_left
      · simp only [Act.put, List.setIfInBounds_toArray, List.set_cons_zero, List.set_cons_succ, i64_w, i32_w]
        rfl
      refine take_ (i := 9) (N := some 87) (v := ?_) (a' := ?_) #[true, true, true, true, true, true, true, false, true, true, false] rfl rfl (by kernel_rfl) (fun _ _ _ h => h) (Or.inl ⟨by rfl, ?_⟩) hHeld ?_ ?_
      rotate_left
      · rintro w' ⟨s0, s1, s2, s3, s4, s5, s6, s7, s8, s9, s10, s11, s12, s13⟩
        go_simp
        with_reducible rfl
      rotate_left
      · simp only [Act.put, List.setIfInBounds_toArray, List.set_cons_zero, List.set_cons_succ, i64_w, i32_w]
        rfl
      refine one_ (i := 7) (N := some 85) #[true, true, true, true, true, true, true, true, true, true, false] rfl rfl (by kernel_rfl) (by decide) (fun K hK => ?_)
      refine goes_ Try.func52 (by kernel_rfl) rfl #[.agg #[.int .u64 p.f0, .int .i64 p.f1, .int .u64 p.f2, .bool p.f3.f0, .bool p.f3.f1, .bool p.f3.f2, .bool p.f3.f3, .bool p.f3.f4, .bool p.f3.f5, .bool p.f4, .bool p.f5], .int .u64 (av : Int)] (by rfl) rfl rfl (by (try simp only [List.map_toArray, List.map_cons, List.map_nil]); first | done | rfl) ?_
      refine (model_spotOf.calls p.f0 p.f1 p.f2 p.f3.f0 p.f3.f1 p.f3.f2 p.f3.f3 p.f3.f4 p.f3.f5 p.f4 p.f5 (av : Int) _ _ _ HSF.out).mono ?_
      rintro e w11 ⟨rfl, hbel⟩
      refine ⟨_, rfl, ?_⟩
      have hb11 := (Below.refl _ w10).drew.trans hbel
      have HB11 := Aside0.mk hb11
      obtain ⟨ob2, hrun2, hmo2⟩ := (HMO.out.below hb11).set_byte HRG.out HOF.out HBY.out.1 HBY.out.2
      unfold spv at hrun2
      have HMO2 := Aside0.mk hmo2
      clear hbel hb11 hmo2
      refine hK.out _ _ (HH.out _ HB11.out) (fun hHeld => ?_)
      clear hK K
      refine norm_ (a' := ?_) ?_ ?_
      rotate_left
      · show Act.put _ (some 85) _ = _
        simp only [Act.put, List.setIfInBounds_toArray, List.set_cons_zero, List.set_cons_succ, i64_w, i32_w]
        rfl
      refine last_ (i := 10) (N := none) #[true, true, true, true, true, true, true, true, true, true, true] rfl rfl (by kernel_rfl) (by decide) (fun K hK => ?_)
      refine skip_ (w1 := _) (by rfl) rfl (run_mapUpdate rfl rfl rfl rfl hrun2) ?_
      refine hK.out _ _ ?_
      clear hK K
      refine done_ (by kernel_rfl) ?_
      (try simp only [Exit.inBlock, Exit.then])
      clear hHeld hrun2
      have hnZ : D + 1 ∉ [B, pm, bm] := fun hm => by have := HLT.out _ hm; omega
      have hbm : D + 1 ≠ bm := fun e => hnZ (by rw [e]; simp)
      have hz12 := (sb_other (W := w11) (b := bm) ob2 hbm).trans (blk_below HZ10.out HB11.out)
      have HV12 := Aside0.mk (((HV.out.trans (S' := []) (Mv.of_below HB11.out) (fun _ hk => by simp at hk)) : Mv [B, pm, bm] w w11).setBlock (b := bm) (.inl (by simp)) ob2)
      generalize ChangeMaps.setBlock w11 bm ob2 = w12 at *
      have HNZ := Aside0.mk hnZ
      obtain ⟨z0, z1, z2⟩ := cells3 hz12
      have y0 := blk_frozen hz12 0
      have y1 := blk_frozen hz12 1
      have y2 := blk_frozen hz12 2
      have HZ12 := Aside0.mk hz12
      clear hz12 hnZ hbm
      go_wp2_with fail
      rw [set3 HZ12.out]
      refine bodyPost_ret (results_cell_row rfl _ _ (D + 1) 42 _ (0, 0) _ rfl (sb_same HZ12.out _) Try.underlying42 rfl (by kernel_rfl)) rfl ?_
      rw [HR1.out, HP.out]
      exact ⟨rfl, HMO2.out.move (fun k hk => sb_other _ (fun e => HNZ.out (e ▸ hk))), HV12.out.setBlock (.inr (by omega)) _⟩
    · have hr := HR.out
      rw [if_neg hak1] at hr
      have HR1 := Aside0.mk hr
      clear hr
      have hb1 : (o.ak == 1) = false := beq_eq_false_iff_ne.2 hak1
      have hb2 : (o.ak != 1) = true := by simp [hak1]
      have HAK1 := Aside0.mk hak1
      clear hak1
      go_upto_region 15 with fail
      clear hb1 hb2 c0
      have HH := Aside0.mk (show ∀ W, Below w10.heap.size w10 W → (W.cell? ⟨B, 2, none⟩ = some (.map (some bm)) ∧ W.cell? ⟨D + 1 + 1, 2, none⟩ = some (.int .u64 (av : Int)) ∧ W.cell? ⟨G, 0, none⟩ = some (.int .u64 p.f0) ∧ W.cell? ⟨G, 1, none⟩ = some (.int .i64 p.f1) ∧ W.cell? ⟨G, 2, none⟩ = some (.int .u64 p.f2) ∧ W.cell? ⟨G, 3, none⟩ = some (.bool p.f3.f0) ∧ W.cell? ⟨G, 4, none⟩ = some (.bool p.f3.f1) ∧ W.cell? ⟨G, 5, none⟩ = some (.bool p.f3.f2) ∧ W.cell? ⟨G, 6, none⟩ = some (.bool p.f3.f3) ∧ W.cell? ⟨G, 7, none⟩ = some (.bool p.f3.f4) ∧ W.cell? ⟨G, 8, none⟩ = some (.bool p.f3.f5) ∧ W.cell? ⟨G, 9, none⟩ = some (.bool p.f4) ∧ W.cell? ⟨G, 10, none⟩ = some (.bool p.f5) ∧ (Instr.lookup 73 (.map (some bm)) (.agg #[.int .i64 x.f1.f2, .int .u64 ((offN x av : Nat) : Int)]) false).run Try.prog W = .ok (.int .u8 (getB s.by_ x.f1.f2 ((offN x av : Nat) : Int))) W) from fun W hb => by
        obtain ⟨-, -, m2, -⟩ := (HMO.out.below hb).cells
        obtain ⟨-, -, c2⟩ := cells3 (blk_below HL10.out hb)
        rw [HOV.out] at c2
        obtain ⟨p0, p1, p2, p3, p4, p5, p6, p7, p8, p9, p10⟩ := cells11 (blk_below HP10.out hb)
        exact ⟨m2, c2, p0, p1, p2, p3, p4, p5, p6, p7, p8, p9, p10, (HMO.out.below hb).look_b HRG.out HOF.out⟩)
      refine start_ (n := 11) (S := fun w' => w'.cell? ⟨B, 2, none⟩ = some (.map (some bm)) ∧ w'.cell? ⟨D + 1 + 1, 2, none⟩ = some (.int .u64 (av : Int)) ∧ w'.cell? ⟨G, 0, none⟩ = some (.int .u64 p.f0) ∧ w'.cell? ⟨G, 1, none⟩ = some (.int .i64 p.f1) ∧ w'.cell? ⟨G, 2, none⟩ = some (.int .u64 p.f2) ∧ w'.cell? ⟨G, 3, none⟩ = some (.bool p.f3.f0) ∧ w'.cell? ⟨G, 4, none⟩ = some (.bool p.f3.f1) ∧ w'.cell? ⟨G, 5, none⟩ = some (.bool p.f3.f2) ∧ w'.cell? ⟨G, 6, none⟩ = some (.bool p.f3.f3) ∧ w'.cell? ⟨G, 7, none⟩ = some (.bool p.f3.f4) ∧ w'.cell? ⟨G, 8, none⟩ = some (.bool p.f3.f5) ∧ w'.cell? ⟨G, 9, none⟩ = some (.bool p.f4) ∧ w'.cell? ⟨G, 10, none⟩ = some (.bool p.f5) ∧ (Instr.lookup 73 (.map (some bm)) (.agg #[.int .i64 x.f1.f2, .int .u64 ((offN x av : Nat) : Int)]) false).run Try.prog w' = .ok (.int .u8 (getB s.by_ x.f1.f2 ((offN x av : Nat) : Int))) w') (ds := [10]) #[false, false, false, false, false, false, false, false, false, false, false] (by kernel_rfl) rfl rfl (by first | exact HH.out _ (Below.refl _ _) | exact HH.out _ (Below.refl _ _).drew) (fun hHeld => ?_)
      refine pure_ (i := 0) (N := some 68) (v := ?_) (a' := ?_) #[true, false, false, false, false, false, false, false, false, false, false] rfl rfl (by kernel_rfl) (fun _ _ _ h => h) (Or.inl ⟨by rfl, ?_⟩) ?_ ?_
      rotate_left
      · intro w'
        go_simp
        with_reducible rfl
      rotate_left
      · simp only [Act.put, List.setIfInBounds_toArray, List.set_cons_zero, List.set_cons_succ, i64_w, i32_w]
        rfl
      refine pure_ (i := 1) (N := some 69) (v := ?_) (a' := ?_) #[true, true, false, false, false, false, false, false, false, false, false] rfl rfl (by kernel_rfl) (fun _ _ _ h => h) (Or.inl ⟨by rfl, ?_⟩) ?_ ?_
      rotate_left
      · intro w'
        go_simp
        with_reducible rfl
      rotate_left
      · simp only [Act.put, List.setIfInBounds_toArray, List.set_cons_zero, List.set_cons_succ, i64_w, i32_w]
        rfl
      refine pure_ (i := 2) (N := some 70) (v := ?_) (a' := ?_) #[true, true, true, false, false, false, false, false, false, false, false] rfl rfl (by kernel_rfl) (fun _ _ _ h => h) (Or.inl ⟨by rfl, ?_⟩) ?_ ?_
      rotate_left
      · intro w'
        go_simp
        with_reducible rfl
      rotate_left
      · simp only [Act.put, List.setIfInBounds_toArray, List.set_cons_zero, List.set_cons_succ, i64_w, i32_w]
        rfl
      refine pure_ (i := 5) (N := some 73) (v := ?_) (a' := ?_) #[true, true, true, false, false, true, false, false, false, false, false] rfl rfl (by kernel_rfl) (fun _ _ _ h => h) (Or.inl ⟨by rfl, ?_⟩) ?_ ?_
      rotate_left
      · intro w'
        go_simp
        with_reducible rfl
      rotate_left
      · simp only [Act.put, List.setIfInBounds_toArray, List.set_cons_zero, List.set_cons_succ, i64_w, i32_w]
        rfl
      refine take_ (i := 3) (N := some 71) (v := ?_) (a' := ?_) #[true, true, true, true, false, true, false, false, false, false, false] rfl rfl (by kernel_rfl) (fun _ _ _ h => h) (Or.inl ⟨by rfl, ?_⟩) hHeld ?_ ?_
      rotate_left
      · rintro w' ⟨s0, s1, s2, s3, s4, s5, s6, s7, s8, s9, s10, s11, s12, s13⟩
        go_simp
        with_reducible rfl
      rotate_left
      · simp only [Act.put, List.setIfInBounds_toArray, List.set_cons_zero, List.set_cons_succ, i64_w, i32_w]
        rfl
      refine take_ (i := 4) (N := some 72) (v := ?_) (a' := ?_) #[true, true, true, true, true, true, false, false, false, false, false] rfl rfl (by kernel_rfl) (fun _ _ _ h => h) (Or.inl ⟨by rfl, ?_⟩) hHeld ?_ ?_
      rotate_left
      · rintro w' ⟨s0, s1, s2, s3, s4, s5, s6, s7, s8, s9, s10, s11, s12, s13⟩
        go_simp
        with_reducible rfl
      rotate_left
      · simp only [Act.put, List.setIfInBounds_toArray, List.set_cons_zero, List.set_cons_succ, i64_w, i32_w]
        rfl
      refine take_ (i := 6) (N := some 74) (v := ?_) (a' := ?_) #[true, true, true, true, true, true, true, false, false, false, false] rfl rfl (by kernel_rfl) (fun _ _ _ h => h) (Or.inl ⟨by rfl, ?_⟩) hHeld ?_ ?_
      rotate_left
      · rintro w' ⟨s0, s1, s2, s3, s4, s5, s6, s7, s8, s9, s10, s11, s12, s13⟩
        go_simp
        with_reducible rfl
      rotate_left
      · simp only [Act.put, List.setIfInBounds_toArray, List.set_cons_zero, List.set_cons_succ, i64_w, i32_w]
        rfl
      refine one_ (i := 7) (N := some 75) #[true, true, true, true, true, true, true, true, false, false, false] rfl rfl (by kernel_rfl) (by decide) (fun K hK => ?_)
      refine goes_ Try.func52 (by kernel_rfl) rfl #[.agg #[.int .u64 p.f0, .int .i64 p.f1, .int .u64 p.f2, .bool p.f3.f0, .bool p.f3.f1, .bool p.f3.f2, .bool p.f3.f3, .bool p.f3.f4, .bool p.f3.f5, .bool p.f4, .bool p.f5], .int .u64 (av : Int)] (by rfl) rfl rfl (by (try simp only [List.map_toArray, List.map_cons, List.map_nil]); first | done | rfl) ?_
      refine (model_spotOf.calls p.f0 p.f1 p.f2 p.f3.f0 p.f3.f1 p.f3.f2 p.f3.f3 p.f3.f4 p.f3.f5 p.f4 p.f5 (av : Int) _ _ _ HSF.out).mono ?_
      rintro e w11 ⟨rfl, hbel⟩
      refine ⟨_, rfl, ?_⟩
      have hb11 := (Below.refl _ w10).drew.trans hbel
      have HB11 := Aside0.mk hb11
      have HZ11 := Aside0.mk (blk_below HZ10.out hb11)
      clear hbel hb11
      refine hK.out _ _ (HH.out _ HB11.out) (fun hHeld => ?_)
      clear hK K
      refine norm_ (a' := ?_) ?_ ?_
      rotate_left
      · show Act.put _ (some 75) _ = _
        simp only [Act.put, List.setIfInBounds_toArray, List.set_cons_zero, List.set_cons_succ, i64_w, i32_w]
        rfl
      refine take_ (i := 8) (N := some 76) (v := ?_) (a' := ?_) #[true, true, true, true, true, true, true, true, true, false, false] rfl rfl (by kernel_rfl) (fun _ _ _ h => h) (Or.inl ⟨by rfl, ?_⟩) hHeld ?_ ?_
      rotate_left
      · rintro w' ⟨s0, s1, s2, s3, s4, s5, s6, s7, s8, s9, s10, s11, s12, s13⟩
        go_simp
        with_reducible rfl
      rotate_left
      · simp only [Act.put, List.setIfInBounds_toArray, List.set_cons_zero, List.set_cons_succ, i64_w, i32_w]
        rfl
      refine pure_ (i := 9) (N := some 77) (v := ?_) (a' := ?_) #[true, true, true, true, true, true, true, true, true, true, false] rfl rfl (by kernel_rfl) (fun _ _ _ h => h) (Or.inl ⟨by rfl, ?_⟩) ?_ ?_
      rotate_left
      · intro w'
        go_simp
        with_reducible rfl
      rotate_left
      · simp only [Act.put, List.setIfInBounds_toArray, List.set_cons_zero, List.set_cons_succ, i64_w, i32_w]
        rfl
      refine last_ (i := 10) (N := none) #[true, true, true, true, true, true, true, true, true, true, true] rfl rfl (by kernel_rfl) (by decide) (fun K hK => ?_)
      refine skip_ (w1 := _) (by rfl) rfl (run_store_reply rfl rfl rfl HZ11.out) ?_
      refine hK.out _ _ ?_
      clear hK K
      refine done_ (by kernel_rfl) ?_
      (try simp only [Exit.inBlock, Exit.then])
      clear hHeld
      have hnZ : D + 1 ∉ [B, pm, bm] := fun hm => by have := HLT.out _ hm; omega
      have HNZ := Aside0.mk hnZ
      have HV11 := Aside0.mk ((HV.out.trans (S' := []) (Mv.of_below HB11.out) (fun _ hk => by simp at hk)) : Mv [B, pm, bm] w w11)
      have HM11 := Aside0.mk (HMO.out.below HB11.out)
      go_wp2_with fail
      refine bodyPost_ret (results_cell_row rfl _ _ (D + 1) 42 _ (0, 0) _ rfl (sb_same HZ11.out _) Try.underlying42 rfl (by kernel_rfl)) rfl ?_
      rw [HR1.out, HP.out]
      exact ⟨rfl, HM11.out.move (fun k hk => sb_other _ (fun e => HNZ.out (e ▸ hk))), HV11.out.setBlock (.inr (by omega)) _⟩
  · rw [hf5] at p5
    refine start_ (n := 11) (S := fun w' => w'.cell? ⟨G, 10, none⟩ = some (.bool false) ∧ w'.cell? ⟨D + 1 + 1, 0, none⟩ = some (.int .i64 o.ak)) (ds := [10]) #[false, false, false, false, false, false, false, false, false, false, false] (by kernel_rfl) rfl rfl ⟨p5, c0⟩ (fun hHeld => ?_)
    refine pure_ (i := 0) (N := some 50) (v := ?_) (a' := ?_) #[true, false, false, false, false, false, false, false, false, false, false] rfl rfl (by kernel_rfl) (fun _ _ _ h => h) (Or.inl ⟨by rfl, ?_⟩) ?_ ?_
    rotate_left
    · intro w'
      go_simp
      with_reducible rfl
    rotate_left
    · simp only [Act.put, List.setIfInBounds_toArray, List.set_cons_zero, List.set_cons_succ, i64_w, i32_w]
      rfl
    refine take_ (i := 1) (N := some 51) (v := ?_) (a' := ?_) #[true, true, false, false, false, false, false, false, false, false, false] rfl rfl (by kernel_rfl) (fun _ _ _ h => h) (Or.inl ⟨by rfl, ?_⟩) hHeld ?_ ?_
    rotate_left
    · rintro w' ⟨s0, s1⟩
      go_simp
      with_reducible rfl
    rotate_left
    · simp only [Act.put, List.setIfInBounds_toArray, List.set_cons_zero, List.set_cons_succ, i64_w, i32_w]
      rfl
    refine pure_ (i := 2) (N := some 52) (v := ?_) (a' := ?_) #[true, true, true, false, false, false, false, false, false, false, false] rfl rfl (by kernel_rfl) (fun _ _ _ h => h) (Or.inl ⟨by rfl, ?_⟩) ?_ ?_
    rotate_left
    · intro w'
      go_simp
      with_reducible rfl
    rotate_left
    · simp only [Act.put, List.setIfInBounds_toArray, List.set_cons_zero, List.set_cons_succ, i64_w, i32_w]
      rfl
    refine pure_ (i := 3) (N := some 53) (v := ?_) (a' := ?_) #[true, true, true, true, false, false, false, false, false, false, false] rfl rfl (by kernel_rfl) (fun _ _ _ h => h) (Or.inl ⟨by rfl, ?_⟩) ?_ ?_
    rotate_left
    · intro w'
      go_simp
      with_reducible rfl
    rotate_left
    · simp only [Act.put, List.setIfInBounds_toArray, List.set_cons_zero, List.set_cons_succ, i64_w, i32_w]
      rfl
    refine pure_ (i := 7) (N := some 57) (v := ?_) (a' := ?_) #[true, true, true, true, false, false, false, true, false, false, false] rfl rfl (by kernel_rfl) (fun _ _ _ h => h) (Or.inl ⟨by rfl, ?_⟩) ?_ ?_
    rotate_left
    · intro w'
      go_simp
      with_reducible rfl
    rotate_left
    · simp only [Act.put, List.setIfInBounds_toArray, List.set_cons_zero, List.set_cons_succ, i64_w, i32_w]
      rfl
    refine take_ (i := 4) (N := some 54) (v := ?_) (a' := ?_) #[true, true, true, true, true, false, false, true, false, false, false] rfl rfl (by kernel_rfl) (fun _ _ _ h => h) (Or.inl ⟨by rfl, ?_⟩) hHeld ?_ ?_
    rotate_left
    · rintro w' ⟨s0, s1⟩
      go_simp
      with_reducible rfl
    rotate_left
    · simp only [Act.put, List.setIfInBounds_toArray, List.set_cons_zero, List.set_cons_succ, i64_w, i32_w]
      rfl
    refine pure_ (i := 5) (N := some 55) (v := ?_) (a' := ?_) #[true, true, true, true, true, true, false, true, false, false, false] rfl rfl (by kernel_rfl) (fun _ _ _ h => h) (Or.inl ⟨by rfl, ?_⟩) ?_ ?_
    rotate_left
    · intro w'
      go_simp
      with_reducible rfl
    rotate_left
    · simp only [Act.put, List.setIfInBounds_toArray, List.set_cons_zero, List.set_cons_succ, i64_w, i32_w]
      rfl
    refine pure_ (i := 6) (N := some 56) (v := ?_) (a' := ?_) #[true, true, true, true, true, true, true, true, false, false, false] rfl rfl (by kernel_rfl) (fun _ _ _ h => h) (Or.inl ⟨by rfl, ?_⟩) ?_ ?_
    rotate_left
    · intro w'
      go_simp
      with_reducible rfl
    rotate_left
    · simp only [Act.put, List.setIfInBounds_toArray, List.set_cons_zero, List.set_cons_succ, i64_w, i32_w]
      rfl
    refine one_ (i := 8) (N := none) #[true, true, true, true, true, true, true, true, true, false, false] rfl rfl (by kernel_rfl) (by decide) (fun K hK => ?_)
    refine skip_ (w1 := ?_) (by rfl) rfl ?_ ?_
    rotate_left
    · go_simp
      with_reducible rfl
    refine hK.out _ _ (by obtain ⟨s0, s1⟩ := hHeld; constructor <;> go_simp) (fun hHeld => ?_)
    clear hK K
    refine pure_ (i := 9) (N := some 58) (v := ?_) (a' := ?_) #[true, true, true, true, true, true, true, true, true, true, false] rfl rfl (by kernel_rfl) (fun _ _ _ h => h) (Or.inl ⟨by rfl, ?_⟩) ?_ ?_
    rotate_left
    · intro w'
      go_simp
      with_reducible rfl
    rotate_left
    · simp only [Act.put, List.setIfInBounds_toArray, List.set_cons_zero, List.set_cons_succ, i64_w, i32_w]
      rfl
    refine last_ (i := 10) (N := none) #[true, true, true, true, true, true, true, true, true, true, true] rfl rfl (by kernel_rfl) (by decide) (fun K hK => ?_)
    refine skip_ (w1 := ?_) (by rfl) rfl ?_ ?_
    rotate_left
    · go_simp
      with_reducible rfl
    refine hK.out _ _ ?_
    clear hK K
    refine done_ (by kernel_rfl) ?_
    (try simp only [Exit.inBlock, Exit.then])
    have s9 := setCell_block (t := 50) (i := 9) (cs' := #[.int .u64 x.f1.f0, .int .i64 x.f1.f1, .int .u64 x.f1.f2, .bool x.f1.f3.f0, .bool x.f1.f3.f1, .bool x.f1.f3.f2, .bool x.f1.f3.f3, .bool x.f1.f3.f4, .bool x.f1.f3.f5, .bool true, Value.bool false]) HP7.out (.bool true) (by rw [hf5]; rfl)
    have s10 := sb_put (t := 50) (i := 10) (cs := #[.int .u64 x.f1.f0, .int .i64 x.f1.f1, .int .u64 x.f1.f2, .bool x.f1.f3.f0, .bool x.f1.f3.f1, .bool x.f1.f3.f2, .bool x.f1.f3.f3, .bool x.f1.f3.f4, .bool x.f1.f3.f5, .bool true, Value.bool false]) (cs' := #[.int .u64 x.f1.f0, .int .i64 x.f1.f1, .int .u64 x.f1.f2, .bool x.f1.f3.f0, .bool x.f1.f3.f1, .bool x.f1.f3.f2, .bool x.f1.f3.f3, .bool x.f1.f3.f4, .bool x.f1.f3.f5, .bool true, .bool (x.f1.f5 || (o.ak == 1))]) HP7.out (.bool (o.ak == 1)) (by rw [hf5]; rfl)
    rw [s9, s10]
    clear s9 s10
    have h8b := sb_same HP7.out (.cells #[.int .u64 x.f1.f0, .int .i64 x.f1.f1, .int .u64 x.f1.f2, .bool x.f1.f3.f0, .bool x.f1.f3.f1, .bool x.f1.f3.f2, .bool x.f1.f3.f3, .bool x.f1.f3.f4, .bool x.f1.f3.f5, .bool true, .bool (x.f1.f5 || (o.ak == 1))] 50 (0, 0))
    have h8y := (sb_other (W := w7) (b := G) (k := G + 1) (.cells #[.int .u64 x.f1.f0, .int .i64 x.f1.f1, .int .u64 x.f1.f2, .bool x.f1.f3.f0, .bool x.f1.f3.f1, .bool x.f1.f3.f2, .bool x.f1.f3.f3, .bool x.f1.f3.f4, .bool x.f1.f3.f5, .bool true, .bool (x.f1.f5 || (o.ak == 1))] 50 (0, 0)) (by omega)).trans HY7.out
    have h8l := (sb_other (W := w7) (b := G) (k := D + 1 + 1) (.cells #[.int .u64 x.f1.f0, .int .i64 x.f1.f1, .int .u64 x.f1.f2, .bool x.f1.f3.f0, .bool x.f1.f3.f1, .bool x.f1.f3.f2, .bool x.f1.f3.f3, .bool x.f1.f3.f4, .bool x.f1.f3.f5, .bool true, .bool (x.f1.f5 || (o.ak == 1))] 50 (0, 0)) hgd).trans HL7.out
    have h8z := (sb_other (W := w7) (b := G) (k := D + 1) (.cells #[.int .u64 x.f1.f0, .int .i64 x.f1.f1, .int .u64 x.f1.f2, .bool x.f1.f3.f0, .bool x.f1.f3.f1, .bool x.f1.f3.f2, .bool x.f1.f3.f3, .bool x.f1.f3.f4, .bool x.f1.f3.f5, .bool true, .bool (x.f1.f5 || (o.ak == 1))] 50 (0, 0)) (by have := HGD.out; omega)).trans HZ7.out
    have h8k := (sb_other (W := w7) (b := G) (k := D) (.cells #[.int .u64 x.f1.f0, .int .i64 x.f1.f1, .int .u64 x.f1.f2, .bool x.f1.f3.f0, .bool x.f1.f3.f1, .bool x.f1.f3.f2, .bool x.f1.f3.f3, .bool x.f1.f3.f4, .bool x.f1.f3.f5, .bool true, .bool (x.f1.f5 || (o.ak == 1))] 50 (0, 0)) (by have := HGD.out; omega)).trans HK7.out
    have h8w := below_sb HB7.out (g := G) (by have := HGD.out; omega) (.cells #[.int .u64 x.f1.f0, .int .i64 x.f1.f1, .int .u64 x.f1.f2, .bool x.f1.f3.f0, .bool x.f1.f3.f1, .bool x.f1.f3.f2, .bool x.f1.f3.f3, .bool x.f1.f3.f4, .bool x.f1.f3.f5, .bool true, .bool (x.f1.f5 || (o.ak == 1))] 50 (0, 0))
    generalize ChangeMaps.setBlock w7 G (.cells #[.int .u64 x.f1.f0, .int .i64 x.f1.f1, .int .u64 x.f1.f2, .bool x.f1.f3.f0, .bool x.f1.f3.f1, .bool x.f1.f3.f2, .bool x.f1.f3.f3, .bool x.f1.f3.f4, .bool x.f1.f3.f5, .bool true, .bool (x.f1.f5 || (o.ak == 1))] 50 (0, 0)) = w8 at *
    obtain ⟨p, hp⟩ : ∃ p : Pg, accP x.f1 o.ak = p := ⟨_, rfl⟩
    have HP := Aside0.mk hp
    have h8p : (w8.drew).heap[G]? = some (.cells #[.int .u64 p.f0, .int .i64 p.f1, .int .u64 p.f2, .bool p.f3.f0, .bool p.f3.f1, .bool p.f3.f2, .bool p.f3.f3, .bool p.f3.f4, .bool p.f3.f5, .bool p.f4, .bool p.f5] 50 (0, 0)) := by subst hp; exact h8b
    clear h8b hp p4 p5 f4 f5 c0 hHeld HP7
    have HP8 := Aside0.mk h8p
    have HY8 := Aside0.mk (show (w8.drew).heap[G + 1]? = _ from h8y)
    have HL8 := Aside0.mk (show (w8.drew).heap[D + 1 + 1]? = _ from h8l)
    have HZ8 := Aside0.mk (show (w8.drew).heap[D + 1]? = _ from h8z)
    have HK8 := Aside0.mk (show (w8.drew).heap[D]? = _ from h8k)
    have HB8 := Aside0.mk h8w.drew
    clear h8p h8y h8l h8z h8k h8w HY7 HL7 HZ7 HK7 HB7
    generalize w8.drew = w9 at *
    go_upto_region 13 with fail
    have hm9 := HM.out.below HB8.out
    obtain ⟨-, m1, -, -⟩ := hm9.cells
    obtain ⟨k0, k1, k2⟩ := cells3 HY8.out
    obtain ⟨p0, p1, p2, p3, p4, p5, p6, p7, p8, p9, p10⟩ := cells11 HP8.out
    obtain ⟨ob, hrun, hmo⟩ := (hm9.below (Below.refl _ w9).drew).set_page HW.out HXI.out p (by rw [← HP.out]; rfl) (by rw [← HP.out]; rfl)
    have HMO := Aside0.mk hmo
    unfold kyv pgv at hrun
    clear hm9 hmo
    refine start_ (n := 7) (S := fun w' => w'.cell? ⟨B, 1, none⟩ = some (.map (some pm)) ∧ w'.cell? ⟨G + 1, 0, none⟩ = some (.int .i64 x.f0) ∧ w'.cell? ⟨G + 1, 1, none⟩ = some (.int .u64 x.f1.f0) ∧ w'.cell? ⟨G + 1, 2, none⟩ = some (.int .i64 x.f1.f1) ∧ w'.cell? ⟨G, 0, none⟩ = some (.int .u64 p.f0) ∧ w'.cell? ⟨G, 1, none⟩ = some (.int .i64 p.f1) ∧ w'.cell? ⟨G, 2, none⟩ = some (.int .u64 p.f2) ∧ w'.cell? ⟨G, 3, none⟩ = some (.bool p.f3.f0) ∧ w'.cell? ⟨G, 4, none⟩ = some (.bool p.f3.f1) ∧ w'.cell? ⟨G, 5, none⟩ = some (.bool p.f3.f2) ∧ w'.cell? ⟨G, 6, none⟩ = some (.bool p.f3.f3) ∧ w'.cell? ⟨G, 7, none⟩ = some (.bool p.f3.f4) ∧ w'.cell? ⟨G, 8, none⟩ = some (.bool p.f3.f5) ∧ w'.cell? ⟨G, 9, none⟩ = some (.bool p.f4) ∧ w'.cell? ⟨G, 10, none⟩ = some (.bool p.f5)) (ds := [6]) #[false, false, false, false, false, false, false] (by kernel_rfl) rfl rfl ⟨m1, k0, k1, k2, p0, p1, p2, p3, p4, p5, p6, p7, p8, p9, p10⟩ (fun hHeld => ?_)
    refine pure_ (i := 0) (N := some 59) (v := ?_) (a' := ?_) #[true, false, false, false, false, false, false] rfl rfl (by kernel_rfl) (fun _ _ _ h => h) (Or.inl ⟨by rfl, ?_⟩) ?_ ?_
    rotate_left
    · intro w'
      go_simp
      with_reducible rfl
    rotate_left
    · simp only [Act.put, List.setIfInBounds_toArray, List.set_cons_zero, List.set_cons_succ, i64_w, i32_w]
      rfl
    refine pure_ (i := 1) (N := some 60) (v := ?_) (a' := ?_) #[true, true, false, false, false, false, false] rfl rfl (by kernel_rfl) (fun _ _ _ h => h) (Or.inl ⟨by rfl, ?_⟩) ?_ ?_
    rotate_left
    · intro w'
      go_simp
      with_reducible rfl
    rotate_left
    · simp only [Act.put, List.setIfInBounds_toArray, List.set_cons_zero, List.set_cons_succ, i64_w, i32_w]
      rfl
    refine pure_ (i := 2) (N := some 61) (v := ?_) (a' := ?_) #[true, true, true, false, false, false, false] rfl rfl (by kernel_rfl) (fun _ _ _ h => h) (Or.inl ⟨by rfl, ?_⟩) ?_ ?_
    rotate_left
    · intro w'
      go_simp
      with_reducible rfl
    rotate_left
    · simp only [Act.put, List.setIfInBounds_toArray, List.set_cons_zero, List.set_cons_succ, i64_w, i32_w]
      rfl
    refine take_ (i := 3) (N := some 62) (v := ?_) (a' := ?_) #[true, true, true, true, false, false, false] rfl rfl (by kernel_rfl) (fun _ _ _ h => h) (Or.inl ⟨by rfl, ?_⟩) hHeld ?_ ?_
    rotate_left
    · rintro w' ⟨s0, s1, s2, s3, s4, s5, s6, s7, s8, s9, s10, s11, s12, s13, s14⟩
      go_simp
      with_reducible rfl
    rotate_left
    · simp only [Act.put, List.setIfInBounds_toArray, List.set_cons_zero, List.set_cons_succ, i64_w, i32_w]
      rfl
    refine take_ (i := 4) (N := some 63) (v := ?_) (a' := ?_) #[true, true, true, true, true, false, false] rfl rfl (by kernel_rfl) (fun _ _ _ h => h) (Or.inl ⟨by rfl, ?_⟩) hHeld ?_ ?_
    rotate_left
    · rintro w' ⟨s0, s1, s2, s3, s4, s5, s6, s7, s8, s9, s10, s11, s12, s13, s14⟩
      go_simp
      with_reducible rfl
    rotate_left
    · simp only [Act.put, List.setIfInBounds_toArray, List.set_cons_zero, List.set_cons_succ, i64_w, i32_w]
      rfl
    refine take_ (i := 5) (N := some 64) (v := ?_) (a' := ?_) #[true, true, true, true, true, true, false] rfl rfl (by kernel_rfl) (fun _ _ _ h => h) (Or.inl ⟨by rfl, ?_⟩) hHeld ?_ ?_
    rotate_left
    · rintro w' ⟨s0, s1, s2, s3, s4, s5, s6, s7, s8, s9, s10, s11, s12, s13, s14⟩
      go_simp
      with_reducible rfl
    rotate_left
    · simp only [Act.put, List.setIfInBounds_toArray, List.set_cons_zero, List.set_cons_succ, i64_w, i32_w]
      rfl
    refine last_ (i := 6) (N := none) #[true, true, true, true, true, true, true] rfl rfl (by kernel_rfl) (by decide) (fun K hK => ?_)
    refine skip_ (w1 := _) (by rfl) rfl (run_mapUpdate rfl rfl rfl rfl hrun) ?_
    refine hK.out _ _ ?_
    clear hK K
    refine done_ (by kernel_rfl) ?_
    (try simp only [Exit.inBlock, Exit.then])
    clear m1 k0 k1 k2 p0 p1 p2 p3 p4 p5 p6 p7 p8 p9 p10 hHeld hrun
    have hpm : pm < D := by have := HLT.out pm (by simp); omega
    have h10p := (sb_other (W := w9.drew) (b := pm) (k := G) ob (by have := HGD.out; omega)).trans (show (w9.drew).heap[G]? = _ from HP8.out)
    have h10l := (sb_other (W := w9.drew) (b := pm) (k := D + 1 + 1) ob (by omega)).trans (show (w9.drew).heap[D + 1 + 1]? = _ from HL8.out)
    have h10z := (sb_other (W := w9.drew) (b := pm) (k := D + 1) ob (by omega)).trans (show (w9.drew).heap[D + 1]? = _ from HZ8.out)
    have h10k := (sb_other (W := w9.drew) (b := pm) (k := D) ob (by omega)).trans (show (w9.drew).heap[D]? = _ from HK8.out)
    have HV := Aside0.mk ((Mv.of_below HB8.out.drew : Mv [B, pm, bm] w _).setBlock (b := pm) (.inl (by simp)) ob)
    generalize ChangeMaps.setBlock w9.drew pm ob = w10 at *
    have HP10 := Aside0.mk h10p
    have HL10 := Aside0.mk h10l
    have HZ10 := Aside0.mk h10z
    have HK10 := Aside0.mk h10k
    obtain ⟨c0, -, -⟩ := cells3 h10l
    clear h10p h10l h10z h10k HP8 HY8 HL8 HZ8 HK8 HB8
    have hok := HW.out.ok x HX.out
    have hsf : model_spotOf.f p.f0 p.f1 p.f2 p.f3.f0 p.f3.f1 p.f3.f2 p.f3.f3 p.f3.f4 p.f3.f5 p.f4 p.f5 (av : Int) = some (x.f1.f2, ((offN x av : Nat) : Int)) := by rw [← HP.out]; exact spot_f (p := accP x.f1 o.ak) hok.pa0 hok.pa1 (off_f hok hva)
    have HSF := Aside0.mk hsf
    have h1 : W64 x.f1.f2 := ⟨by have := hok.pa0; omega, by have := hok.pa1; omega⟩
    have h2 : U64 ((offN x av : Nat) : Int) := ⟨by omega, by have := offN_lt (x := x) hva; omega⟩
    have HRG := Aside0.mk h1
    have HOF := Aside0.mk h2
    clear hsf hok h1 h2
    by_cases hak1 : o.ak = 1
    · have hr := HR.out
      rw [if_pos hak1] at hr
      have HR1 := Aside0.mk hr
      clear hr
      have hb1 : (o.ak == 1) = true := beq_iff_eq.2 hak1
      have hb2 : (o.ak != 1) = false := by simp [hak1]
      have HAK1 := Aside0.mk hak1
      clear hak1
      go_upto_region 16 with fail
      clear hb1 hb2 c0
      have HH := Aside0.mk (show ∀ W, Below w10.heap.size w10 W → (W.cell? ⟨B, 2, none⟩ = some (.map (some bm)) ∧ W.cell? ⟨D + 1 + 1, 2, none⟩ = some (.int .u64 (av : Int)) ∧ W.cell? ⟨D, 5, none⟩ = some (.int .u8 o.byte) ∧ W.cell? ⟨G, 0, none⟩ = some (.int .u64 p.f0) ∧ W.cell? ⟨G, 1, none⟩ = some (.int .i64 p.f1) ∧ W.cell? ⟨G, 2, none⟩ = some (.int .u64 p.f2) ∧ W.cell? ⟨G, 3, none⟩ = some (.bool p.f3.f0) ∧ W.cell? ⟨G, 4, none⟩ = some (.bool p.f3.f1) ∧ W.cell? ⟨G, 5, none⟩ = some (.bool p.f3.f2) ∧ W.cell? ⟨G, 6, none⟩ = some (.bool p.f3.f3) ∧ W.cell? ⟨G, 7, none⟩ = some (.bool p.f3.f4) ∧ W.cell? ⟨G, 8, none⟩ = some (.bool p.f3.f5) ∧ W.cell? ⟨G, 9, none⟩ = some (.bool p.f4) ∧ W.cell? ⟨G, 10, none⟩ = some (.bool p.f5)) from fun W hb => by
        obtain ⟨-, -, m2, -⟩ := (HMO.out.below hb).cells
        obtain ⟨-, -, c2⟩ := cells3 (blk_below HL10.out hb)
        rw [HOV.out] at c2
        obtain ⟨-, -, -, -, -, o5, -, -, -, -, -, -, -, -, -, -⟩ := cells16 (blk_below HK10.out hb)
        obtain ⟨p0, p1, p2, p3, p4, p5, p6, p7, p8, p9, p10⟩ := cells11 (blk_below HP10.out hb)
        exact ⟨m2, c2, o5, p0, p1, p2, p3, p4, p5, p6, p7, p8, p9, p10⟩)
      refine start_ (n := 11) (S := fun w' => w'.cell? ⟨B, 2, none⟩ = some (.map (some bm)) ∧ w'.cell? ⟨D + 1 + 1, 2, none⟩ = some (.int .u64 (av : Int)) ∧ w'.cell? ⟨D, 5, none⟩ = some (.int .u8 o.byte) ∧ w'.cell? ⟨G, 0, none⟩ = some (.int .u64 p.f0) ∧ w'.cell? ⟨G, 1, none⟩ = some (.int .i64 p.f1) ∧ w'.cell? ⟨G, 2, none⟩ = some (.int .u64 p.f2) ∧ w'.cell? ⟨G, 3, none⟩ = some (.bool p.f3.f0) ∧ w'.cell? ⟨G, 4, none⟩ = some (.bool p.f3.f1) ∧ w'.cell? ⟨G, 5, none⟩ = some (.bool p.f3.f2) ∧ w'.cell? ⟨G, 6, none⟩ = some (.bool p.f3.f3) ∧ w'.cell? ⟨G, 7, none⟩ = some (.bool p.f3.f4) ∧ w'.cell? ⟨G, 8, none⟩ = some (.bool p.f3.f5) ∧ w'.cell? ⟨G, 9, none⟩ = some (.bool p.f4) ∧ w'.cell? ⟨G, 10, none⟩ = some (.bool p.f5)) (ds := [10]) #[false, false, false, false, false, false, false, false, false, false, false] (by kernel_rfl) rfl rfl (by first | exact HH.out _ (Below.refl _ _) | exact HH.out _ (Below.refl _ _).drew) (fun hHeld => ?_)
      refine pure_ (i := 0) (N := some 78) (v := ?_) (a' := ?_) #[true, false, false, false, false, false, false, false, false, false, false] rfl rfl (by kernel_rfl) (fun _ _ _ h => h) (Or.inl ⟨by rfl, ?_⟩) ?_ ?_
      rotate_left
      · intro w'
        go_simp
        with_reducible rfl
      rotate_left
      · simp only [Act.put, List.setIfInBounds_toArray, List.set_cons_zero, List.set_cons_succ, i64_w, i32_w]
        rfl
      refine pure_ (i := 1) (N := some 79) (v := ?_) (a' := ?_) #[true, true, false, false, false, false, false, false, false, false, false] rfl rfl (by kernel_rfl) (fun _ _ _ h => h) (Or.inl ⟨by rfl, ?_⟩) ?_ ?_
      rotate_left
      · intro w'
        go_simp
        with_reducible rfl
      rotate_left
      · simp only [Act.put, List.setIfInBounds_toArray, List.set_cons_zero, List.set_cons_succ, i64_w, i32_w]
        rfl
      refine pure_ (i := 2) (N := some 80) (v := ?_) (a' := ?_) #[true, true, true, false, false, false, false, false, false, false, false] rfl rfl (by kernel_rfl) (fun _ _ _ h => h) (Or.inl ⟨by rfl, ?_⟩) ?_ ?_
      rotate_left
      · intro w'
        go_simp
        with_reducible rfl
      rotate_left
      · simp only [Act.put, List.setIfInBounds_toArray, List.set_cons_zero, List.set_cons_succ, i64_w, i32_w]
        rfl
      refine pure_ (i := 5) (N := some 83) (v := ?_) (a' := ?_) #[true, true, true, false, false, true, false, false, false, false, false] rfl rfl (by kernel_rfl) (fun _ _ _ h => h) (Or.inl ⟨by rfl, ?_⟩) ?_ ?_
      rotate_left
      · intro w'
        go_simp
        with_reducible rfl
      rotate_left
      · simp only [Act.put, List.setIfInBounds_toArray, List.set_cons_zero, List.set_cons_succ, i64_w, i32_w]
        rfl
      refine pure_ (i := 8) (N := some 86) (v := ?_) (a' := ?_) #[true, true, true, false, false, true, false, false, true, false, false] rfl rfl (by kernel_rfl) (fun _ _ _ h => h) (Or.inl ⟨by rfl, ?_⟩) ?_ ?_
      rotate_left
      · intro w'
        go_simp
        with_reducible rfl
      rotate_left
      · simp only [Act.put, List.setIfInBounds_toArray, List.set_cons_zero, List.set_cons_succ, i64_w, i32_w]
        rfl
      refine take_ (i := 3) (N := some 81) (v := ?_) (a' := ?_) #[true, true, true, true, false, true, false, false, true, false, false] rfl rfl (by kernel_rfl) (fun _ _ _ h => h) (Or.inl ⟨by rfl, ?_⟩) hHeld ?_ ?_
      rotate_left
      · rintro w' ⟨s0, s1, s2, s3, s4, s5, s6, s7, s8, s9, s10, s11, s12, s13⟩
        go_simp
        with_reducible rfl
      rotate_left
      · simp only [Act.put, List.setIfInBounds_toArray, List.set_cons_zero, List.set_cons_succ, i64_w, i32_w]
        rfl
      refine take_ (i := 4) (N := some 82) (v := ?_) (a' := ?_) #[true, true, true, true, true, true, false, false, true, false, false] rfl rfl (by kernel_rfl) (fun _ _ _ h => h) (Or.inl ⟨by rfl, ?_⟩) hHeld ?_ ?_
      rotate_left
      · rintro w' ⟨s0, s1, s2, s3, s4, s5, s6, s7, s8, s9, s10, s11, s12, s13⟩
        go_simp
        with_reducible rfl
      rotate_left
      · simp only [Act.put, List.setIfInBounds_toArray, List.set_cons_zero, List.set_cons_succ, i64_w, i32_w]
        rfl
      refine take_ (i := 6) (N := some 84) (v := ?_) (a' := ?_) #[true, true, true, true, true, true, true, false, true, false, false] rfl rfl (by kernel_rfl) (fun _ _ _ h => h) (Or.inl ⟨by rfl, ?_⟩) hHeld ?_ ?_
      rotate_left
      · rintro w' ⟨s0, s1, s2, s3, s4, s5, s6, s7, s8, s9, s10, s11, s12, s13⟩
        go_simp
        with_reducible rfl
      rotate_left
      · simp only [Act.put, List.setIfInBounds_toArray, List.set_cons_zero, List.set_cons_succ, i64_w, i32_w]
        rfl
      refine take_ (i := 9) (N := some 87) (v := ?_) (a' := ?_) #[true, true, true, true, true, true, true, false, true, true, false] rfl rfl (by kernel_rfl) (fun _ _ _ h => h) (Or.inl ⟨by rfl, ?_⟩) hHeld ?_ ?_
      rotate_left
      · rintro w' ⟨s0, s1, s2, s3, s4, s5, s6, s7, s8, s9, s10, s11, s12, s13⟩
        go_simp
        with_reducible rfl
      rotate_left
      · simp only [Act.put, List.setIfInBounds_toArray, List.set_cons_zero, List.set_cons_succ, i64_w, i32_w]
        rfl
      refine one_ (i := 7) (N := some 85) #[true, true, true, true, true, true, true, true, true, true, false] rfl rfl (by kernel_rfl) (by decide) (fun K hK => ?_)
      refine goes_ Try.func52 (by kernel_rfl) rfl #[.agg #[.int .u64 p.f0, .int .i64 p.f1, .int .u64 p.f2, .bool p.f3.f0, .bool p.f3.f1, .bool p.f3.f2, .bool p.f3.f3, .bool p.f3.f4, .bool p.f3.f5, .bool p.f4, .bool p.f5], .int .u64 (av : Int)] (by rfl) rfl rfl (by (try simp only [List.map_toArray, List.map_cons, List.map_nil]); first | done | rfl) ?_
      refine (model_spotOf.calls p.f0 p.f1 p.f2 p.f3.f0 p.f3.f1 p.f3.f2 p.f3.f3 p.f3.f4 p.f3.f5 p.f4 p.f5 (av : Int) _ _ _ HSF.out).mono ?_
      rintro e w11 ⟨rfl, hbel⟩
      refine ⟨_, rfl, ?_⟩
      have hb11 := (Below.refl _ w10).drew.trans hbel
      have HB11 := Aside0.mk hb11
      obtain ⟨ob2, hrun2, hmo2⟩ := (HMO.out.below hb11).set_byte HRG.out HOF.out HBY.out.1 HBY.out.2
      unfold spv at hrun2
      have HMO2 := Aside0.mk hmo2
      clear hbel hb11 hmo2
      refine hK.out _ _ (HH.out _ HB11.out) (fun hHeld => ?_)
      clear hK K
      refine norm_ (a' := ?_) ?_ ?_
      rotate_left
      · show Act.put _ (some 85) _ = _
        simp only [Act.put, List.setIfInBounds_toArray, List.set_cons_zero, List.set_cons_succ, i64_w, i32_w]
        rfl
      refine last_ (i := 10) (N := none) #[true, true, true, true, true, true, true, true, true, true, true] rfl rfl (by kernel_rfl) (by decide) (fun K hK => ?_)
      refine skip_ (w1 := _) (by rfl) rfl (run_mapUpdate rfl rfl rfl rfl hrun2) ?_
      refine hK.out _ _ ?_
      clear hK K
      refine done_ (by kernel_rfl) ?_
      (try simp only [Exit.inBlock, Exit.then])
      clear hHeld hrun2
      have hnZ : D + 1 ∉ [B, pm, bm] := fun hm => by have := HLT.out _ hm; omega
      have hbm : D + 1 ≠ bm := fun e => hnZ (by rw [e]; simp)
      have hz12 := (sb_other (W := w11) (b := bm) ob2 hbm).trans (blk_below HZ10.out HB11.out)
      have HV12 := Aside0.mk (((HV.out.trans (S' := []) (Mv.of_below HB11.out) (fun _ hk => by simp at hk)) : Mv [B, pm, bm] w w11).setBlock (b := bm) (.inl (by simp)) ob2)
      generalize ChangeMaps.setBlock w11 bm ob2 = w12 at *
      have HNZ := Aside0.mk hnZ
      obtain ⟨z0, z1, z2⟩ := cells3 hz12
      have y0 := blk_frozen hz12 0
      have y1 := blk_frozen hz12 1
      have y2 := blk_frozen hz12 2
      have HZ12 := Aside0.mk hz12
      clear hz12 hnZ hbm
      go_wp2_with fail
      rw [set3 HZ12.out]
      refine bodyPost_ret (results_cell_row rfl _ _ (D + 1) 42 _ (0, 0) _ rfl (sb_same HZ12.out _) Try.underlying42 rfl (by kernel_rfl)) rfl ?_
      rw [HR1.out, HP.out]
      exact ⟨rfl, HMO2.out.move (fun k hk => sb_other _ (fun e => HNZ.out (e ▸ hk))), HV12.out.setBlock (.inr (by omega)) _⟩
    · have hr := HR.out
      rw [if_neg hak1] at hr
      have HR1 := Aside0.mk hr
      clear hr
      have hb1 : (o.ak == 1) = false := beq_eq_false_iff_ne.2 hak1
      have hb2 : (o.ak != 1) = true := by simp [hak1]
      have HAK1 := Aside0.mk hak1
      clear hak1
      go_upto_region 15 with fail
      clear hb1 hb2 c0
      have HH := Aside0.mk (show ∀ W, Below w10.heap.size w10 W → (W.cell? ⟨B, 2, none⟩ = some (.map (some bm)) ∧ W.cell? ⟨D + 1 + 1, 2, none⟩ = some (.int .u64 (av : Int)) ∧ W.cell? ⟨G, 0, none⟩ = some (.int .u64 p.f0) ∧ W.cell? ⟨G, 1, none⟩ = some (.int .i64 p.f1) ∧ W.cell? ⟨G, 2, none⟩ = some (.int .u64 p.f2) ∧ W.cell? ⟨G, 3, none⟩ = some (.bool p.f3.f0) ∧ W.cell? ⟨G, 4, none⟩ = some (.bool p.f3.f1) ∧ W.cell? ⟨G, 5, none⟩ = some (.bool p.f3.f2) ∧ W.cell? ⟨G, 6, none⟩ = some (.bool p.f3.f3) ∧ W.cell? ⟨G, 7, none⟩ = some (.bool p.f3.f4) ∧ W.cell? ⟨G, 8, none⟩ = some (.bool p.f3.f5) ∧ W.cell? ⟨G, 9, none⟩ = some (.bool p.f4) ∧ W.cell? ⟨G, 10, none⟩ = some (.bool p.f5) ∧ (Instr.lookup 73 (.map (some bm)) (.agg #[.int .i64 x.f1.f2, .int .u64 ((offN x av : Nat) : Int)]) false).run Try.prog W = .ok (.int .u8 (getB s.by_ x.f1.f2 ((offN x av : Nat) : Int))) W) from fun W hb => by
        obtain ⟨-, -, m2, -⟩ := (HMO.out.below hb).cells
        obtain ⟨-, -, c2⟩ := cells3 (blk_below HL10.out hb)
        rw [HOV.out] at c2
        obtain ⟨p0, p1, p2, p3, p4, p5, p6, p7, p8, p9, p10⟩ := cells11 (blk_below HP10.out hb)
        exact ⟨m2, c2, p0, p1, p2, p3, p4, p5, p6, p7, p8, p9, p10, (HMO.out.below hb).look_b HRG.out HOF.out⟩)
      refine start_ (n := 11) (S := fun w' => w'.cell? ⟨B, 2, none⟩ = some (.map (some bm)) ∧ w'.cell? ⟨D + 1 + 1, 2, none⟩ = some (.int .u64 (av : Int)) ∧ w'.cell? ⟨G, 0, none⟩ = some (.int .u64 p.f0) ∧ w'.cell? ⟨G, 1, none⟩ = some (.int .i64 p.f1) ∧ w'.cell? ⟨G, 2, none⟩ = some (.int .u64 p.f2) ∧ w'.cell? ⟨G, 3, none⟩ = some (.bool p.f3.f0) ∧ w'.cell? ⟨G, 4, none⟩ = some (.bool p.f3.f1) ∧ w'.cell? ⟨G, 5, none⟩ = some (.bool p.f3.f2) ∧ w'.cell? ⟨G, 6, none⟩ = some (.bool p.f3.f3) ∧ w'.cell? ⟨G, 7, none⟩ = some (.bool p.f3.f4) ∧ w'.cell? ⟨G, 8, none⟩ = some (.bool p.f3.f5) ∧ w'.cell? ⟨G, 9, none⟩ = some (.bool p.f4) ∧ w'.cell? ⟨G, 10, none⟩ = some (.bool p.f5) ∧ (Instr.lookup 73 (.map (some bm)) (.agg #[.int .i64 x.f1.f2, .int .u64 ((offN x av : Nat) : Int)]) false).run Try.prog w' = .ok (.int .u8 (getB s.by_ x.f1.f2 ((offN x av : Nat) : Int))) w') (ds := [10]) #[false, false, false, false, false, false, false, false, false, false, false] (by kernel_rfl) rfl rfl (by first | exact HH.out _ (Below.refl _ _) | exact HH.out _ (Below.refl _ _).drew) (fun hHeld => ?_)
      refine pure_ (i := 0) (N := some 68) (v := ?_) (a' := ?_) #[true, false, false, false, false, false, false, false, false, false, false] rfl rfl (by kernel_rfl) (fun _ _ _ h => h) (Or.inl ⟨by rfl, ?_⟩) ?_ ?_
      rotate_left
      · intro w'
        go_simp
        with_reducible rfl
      rotate_left
      · simp only [Act.put, List.setIfInBounds_toArray, List.set_cons_zero, List.set_cons_succ, i64_w, i32_w]
        rfl
      refine pure_ (i := 1) (N := some 69) (v := ?_) (a' := ?_) #[true, true, false, false, false, false, false, false, false, false, false] rfl rfl (by kernel_rfl) (fun _ _ _ h => h) (Or.inl ⟨by rfl, ?_⟩) ?_ ?_
      rotate_left
      · intro w'
        go_simp
        with_reducible rfl
      rotate_left
      · simp only [Act.put, List.setIfInBounds_toArray, List.set_cons_zero, List.set_cons_succ, i64_w, i32_w]
        rfl
      refine pure_ (i := 2) (N := some 70) (v := ?_) (a' := ?_) #[true, true, true, false, false, false, false, false, false, false, false] rfl rfl (by kernel_rfl) (fun _ _ _ h => h) (Or.inl ⟨by rfl, ?_⟩) ?_ ?_
      rotate_left
      · intro w'
        go_simp
        with_reducible rfl
      rotate_left
      · simp only [Act.put, List.setIfInBounds_toArray, List.set_cons_zero, List.set_cons_succ, i64_w, i32_w]
        rfl
      refine pure_ (i := 5) (N := some 73) (v := ?_) (a' := ?_) #[true, true, true, false, false, true, false, false, false, false, false] rfl rfl (by kernel_rfl) (fun _ _ _ h => h) (Or.inl ⟨by rfl, ?_⟩) ?_ ?_
      rotate_left
      · intro w'
        go_simp
        with_reducible rfl
      rotate_left
      · simp only [Act.put, List.setIfInBounds_toArray, List.set_cons_zero, List.set_cons_succ, i64_w, i32_w]
        rfl
      refine take_ (i := 3) (N := some 71) (v := ?_) (a' := ?_) #[true, true, true, true, false, true, false, false, false, false, false] rfl rfl (by kernel_rfl) (fun _ _ _ h => h) (Or.inl ⟨by rfl, ?_⟩) hHeld ?_ ?_
      rotate_left
      · rintro w' ⟨s0, s1, s2, s3, s4, s5, s6, s7, s8, s9, s10, s11, s12, s13⟩
        go_simp
        with_reducible rfl
      rotate_left
      · simp only [Act.put, List.setIfInBounds_toArray, List.set_cons_zero, List.set_cons_succ, i64_w, i32_w]
        rfl
      refine take_ (i := 4) (N := some 72) (v := ?_) (a' := ?_) #[true, true, true, true, true, true, false, false, false, false, false] rfl rfl (by kernel_rfl) (fun _ _ _ h => h) (Or.inl ⟨by rfl, ?_⟩) hHeld ?_ ?_
      rotate_left
      · rintro w' ⟨s0, s1, s2, s3, s4, s5, s6, s7, s8, s9, s10, s11, s12, s13⟩
        go_simp
        with_reducible rfl
      rotate_left
      · simp only [Act.put, List.setIfInBounds_toArray, List.set_cons_zero, List.set_cons_succ, i64_w, i32_w]
        rfl
      refine take_ (i := 6) (N := some 74) (v := ?_) (a' := ?_) #[true, true, true, true, true, true, true, false, false, false, false] rfl rfl (by kernel_rfl) (fun _ _ _ h => h) (Or.inl ⟨by rfl, ?_⟩) hHeld ?_ ?_
      rotate_left
      · rintro w' ⟨s0, s1, s2, s3, s4, s5, s6, s7, s8, s9, s10, s11, s12, s13⟩
        go_simp
        with_reducible rfl
      rotate_left
      · simp only [Act.put, List.setIfInBounds_toArray, List.set_cons_zero, List.set_cons_succ, i64_w, i32_w]
        rfl
      refine one_ (i := 7) (N := some 75) #[true, true, true, true, true, true, true, true, false, false, false] rfl rfl (by kernel_rfl) (by decide) (fun K hK => ?_)
      refine goes_ Try.func52 (by kernel_rfl) rfl #[.agg #[.int .u64 p.f0, .int .i64 p.f1, .int .u64 p.f2, .bool p.f3.f0, .bool p.f3.f1, .bool p.f3.f2, .bool p.f3.f3, .bool p.f3.f4, .bool p.f3.f5, .bool p.f4, .bool p.f5], .int .u64 (av : Int)] (by rfl) rfl rfl (by (try simp only [List.map_toArray, List.map_cons, List.map_nil]); first | done | rfl) ?_
      refine (model_spotOf.calls p.f0 p.f1 p.f2 p.f3.f0 p.f3.f1 p.f3.f2 p.f3.f3 p.f3.f4 p.f3.f5 p.f4 p.f5 (av : Int) _ _ _ HSF.out).mono ?_
      rintro e w11 ⟨rfl, hbel⟩
      refine ⟨_, rfl, ?_⟩
      have hb11 := (Below.refl _ w10).drew.trans hbel
      have HB11 := Aside0.mk hb11
      have HZ11 := Aside0.mk (blk_below HZ10.out hb11)
      clear hbel hb11
      refine hK.out _ _ (HH.out _ HB11.out) (fun hHeld => ?_)
      clear hK K
      refine norm_ (a' := ?_) ?_ ?_
      rotate_left
      · show Act.put _ (some 75) _ = _
        simp only [Act.put, List.setIfInBounds_toArray, List.set_cons_zero, List.set_cons_succ, i64_w, i32_w]
        rfl
      refine take_ (i := 8) (N := some 76) (v := ?_) (a' := ?_) #[true, true, true, true, true, true, true, true, true, false, false] rfl rfl (by kernel_rfl) (fun _ _ _ h => h) (Or.inl ⟨by rfl, ?_⟩) hHeld ?_ ?_
      rotate_left
      · rintro w' ⟨s0, s1, s2, s3, s4, s5, s6, s7, s8, s9, s10, s11, s12, s13⟩
        go_simp
        with_reducible rfl
      rotate_left
      · simp only [Act.put, List.setIfInBounds_toArray, List.set_cons_zero, List.set_cons_succ, i64_w, i32_w]
        rfl
      refine pure_ (i := 9) (N := some 77) (v := ?_) (a' := ?_) #[true, true, true, true, true, true, true, true, true, true, false] rfl rfl (by kernel_rfl) (fun _ _ _ h => h) (Or.inl ⟨by rfl, ?_⟩) ?_ ?_
      rotate_left
      · intro w'
        go_simp
        with_reducible rfl
      rotate_left
      · simp only [Act.put, List.setIfInBounds_toArray, List.set_cons_zero, List.set_cons_succ, i64_w, i32_w]
        rfl
      refine last_ (i := 10) (N := none) #[true, true, true, true, true, true, true, true, true, true, true] rfl rfl (by kernel_rfl) (by decide) (fun K hK => ?_)
      refine skip_ (w1 := _) (by rfl) rfl (run_store_reply rfl rfl rfl HZ11.out) ?_
      refine hK.out _ _ ?_
      clear hK K
      refine done_ (by kernel_rfl) ?_
      (try simp only [Exit.inBlock, Exit.then])
      clear hHeld
      have hnZ : D + 1 ∉ [B, pm, bm] := fun hm => by have := HLT.out _ hm; omega
      have HNZ := Aside0.mk hnZ
      have HV11 := Aside0.mk ((HV.out.trans (S' := []) (Mv.of_below HB11.out) (fun _ hk => by simp at hk)) : Mv [B, pm, bm] w w11)
      have HM11 := Aside0.mk (HMO.out.below HB11.out)
      go_wp2_with fail
      refine bodyPost_ret (results_cell_row rfl _ _ (D + 1) 42 _ (0, 0) _ rfl (sb_same HZ11.out _) Try.underlying42 rfl (by kernel_rfl)) rfl ?_
      rw [HR1.out, HP.out]
      exact ⟨rfl, HM11.out.move (fun k hk => sb_other _ (fun e => HNZ.out (e ▸ hk))), HV11.out.setBlock (.inr (by omega)) _⟩
end
end Go.Proofs.Ytalmemcidbmdgaa.PM



/- A model (layer 16): access, in one. -/
set_option linter.unusedVariables false
set_option linter.unusedSimpArgs false
namespace Go.Proofs.Ytalmemcidbmdgaa.PM
open Go.RowKit Go.Proofs.YtalmemcidbmdgaaW.PrintWords Go.Proofs.YtalmemcidbmdgaaW.PrintLast Go.Proofs.YtalmemcidbmdgaaW.PrintMore Go.Proofs.Ytalmemcidbmdgaa.PageG
attribute [local go_sem] max2_int min2_int max_two min_two max_three min_three max_four min_four   -- for this text's walks alone
section
variable {w w' : World} {B pm bm : Nat} {s : MS}
theorem access_calls (h : Mo w B pm bm s) (hw : WfL s.L) (o : OpS) (ho : OkO o) :
    Calls Try.prog 38 #[.pointer (some ⟨B, 0, none⟩), Value.agg #[.int .i64 o.kind, .int .i64 o.sp, .int .i64 o.ak, .bool o.ap, .int .u64 o.av, .int .u8 o.byte, .int .u64 o.va, .int .i64 o.size, .bool o.at_.f0, .bool o.at_.f1, .bool o.at_.f2, .bool o.at_.f3, .bool o.at_.f4, .bool o.at_.f5, .int .i64 o.other, .int .u64 o.too]] w (Rep3 w B pm bm (accessR s o)) := by
  cases hf : find s.L o.sp o.av.toNat with
  | none => exact access_none h hw o ho hf
  | some i =>
    obtain ⟨x, hx, hh⟩ := find_some hf
    by_cases hg : isAll s.n [o.sp] = true ∧ (0 ≤ o.ak ∧ o.ak < 4) ∧ holeB o.av.toNat = false ∧ judgeN x.f1.f3 o.ak o.ap = 0
    · exact access_ok h hw o ho hf hx hg.1 hg.2.1 hg.2.2.1 hg.2.2.2
    · exact access_fault h hw o ho hf hx hg
end
end Go.Proofs.Ytalmemcidbmdgaa.PM


/- A model (layer 16): clear: the walk. -/
set_option linter.unusedVariables false
set_option linter.unusedSimpArgs false
namespace Go.Proofs.Ytalmemcidbmdgaa.PM
open Go.RowKit Go.Proofs.YtalmemcidbmdgaaW.PrintWords Go.Proofs.YtalmemcidbmdgaaW.PrintLast Go.Proofs.YtalmemcidbmdgaaW.PrintMore Go.Proofs.Ytalmemcidbmdgaa.PageG
attribute [local go_sem] max2_int min2_int max_two min_two max_three min_three max_four min_four   -- for this text's walks alone
section
variable {w w' : World} {B pm bm : Nat} {s : MS}
set_option maxHeartbeats 8000000 in
set_option maxRecDepth 100000 in
theorem clear_calls (h : Mo w B pm bm s) (hw : WfL s.L) (hf : s.L.length ≤ 100000) (o : OpS) (ho : OkO o) :
    Calls Try.prog 42 #[.pointer (some ⟨B, 0, none⟩), Value.agg #[.int .i64 o.kind, .int .i64 o.sp, .int .i64 o.ak, .bool o.ap, .int .u64 o.av, .int .u8 o.byte, .int .u64 o.va, .int .i64 o.size, .bool o.at_.f0, .bool o.at_.f1, .bool o.at_.f2, .bool o.at_.f3, .bool o.at_.f4, .bool o.at_.f5, .int .i64 o.other, .int .u64 o.too]] w (Rep w B pm bm (changeR s o (clearS s))) := by
  have HM := Aside0.mk h
  have HLT := Aside0.mk h.lt
  have HW := Aside0.mk hw
  have HO := Aside0.mk ho
  clear h hw ho
  obtain ⟨D, hD⟩ : ∃ D, w.heap.size = D := ⟨_, rfl⟩
  go_enter Try.func42, Try.ntmps42
  go_upto_region 1 with fail
  have hk := blk_alloc (blk_alloc (blk_new w (.cells #[.pointer (some ⟨B, 0, none⟩)] 24)) (.cells #[.int .i64 o.kind, .int .i64 o.sp, .int .i64 o.ak, .bool o.ap, .int .u64 o.av, .int .u8 o.byte, .int .u64 o.va, .int .i64 o.size, .bool o.at_.f0, .bool o.at_.f1, .bool o.at_.f2, .bool o.at_.f3, .bool o.at_.f4, .bool o.at_.f5, .int .i64 o.other, .int .u64 o.too] 36)) (.cells #[.int .i64 0, .int .i64 0, .int .u8 0] 42)
  have hz := blk_alloc (blk_new (w.alloc (.cells #[.pointer (some ⟨B, 0, none⟩)] 24)) (.cells #[.int .i64 o.kind, .int .i64 o.sp, .int .i64 o.ak, .bool o.ap, .int .u64 o.av, .int .u8 o.byte, .int .u64 o.va, .int .i64 o.size, .bool o.at_.f0, .bool o.at_.f1, .bool o.at_.f2, .bool o.at_.f3, .bool o.at_.f4, .bool o.at_.f5, .int .i64 o.other, .int .u64 o.too] 36)) (.cells #[.int .i64 0, .int .i64 0, .int .u8 0] 42)
  have hl := blk_new ((w.alloc (.cells #[.pointer (some ⟨B, 0, none⟩)] 24)).alloc (.cells #[.int .i64 o.kind, .int .i64 o.sp, .int .i64 o.ak, .bool o.ap, .int .u64 o.av, .int .u8 o.byte, .int .u64 o.va, .int .i64 o.size, .bool o.at_.f0, .bool o.at_.f1, .bool o.at_.f2, .bool o.at_.f3, .bool o.at_.f4, .bool o.at_.f5, .int .i64 o.other, .int .u64 o.too] 36)) (.cells #[.int .i64 0, .int .i64 0, .int .u8 0] 42)
  have hb : Below w.heap.size w (((w.alloc (.cells #[.pointer (some ⟨B, 0, none⟩)] 24)).alloc (.cells #[.int .i64 o.kind, .int .i64 o.sp, .int .i64 o.ak, .bool o.ap, .int .u64 o.av, .int .u8 o.byte, .int .u64 o.va, .int .i64 o.size, .bool o.at_.f0, .bool o.at_.f1, .bool o.at_.f2, .bool o.at_.f3, .bool o.at_.f4, .bool o.at_.f5, .int .i64 o.other, .int .u64 o.too] 36)).alloc (.cells #[.int .i64 0, .int .i64 0, .int .u8 0] 42)) := (((Below.refl _ w).alloc (Nat.le_refl _) _).alloc (by simp) _).alloc (by simp; omega) _
  have hs1 : (w.alloc (.cells #[.pointer (some ⟨B, 0, none⟩)] 24)).heap.size = D + 1 := by simp [hD]
  have hs2 : ((w.alloc (.cells #[.pointer (some ⟨B, 0, none⟩)] 24)).alloc (.cells #[.int .i64 o.kind, .int .i64 o.sp, .int .i64 o.ak, .bool o.ap, .int .u64 o.av, .int .u8 o.byte, .int .u64 o.va, .int .i64 o.size, .bool o.at_.f0, .bool o.at_.f1, .bool o.at_.f2, .bool o.at_.f3, .bool o.at_.f4, .bool o.at_.f5, .int .i64 o.other, .int .u64 o.too] 36)).heap.size = D + 1 + 1 := by simp [hD]
  rw [hD] at hk
  rw [hs1] at hz
  rw [hs2] at hl
  generalize ((w.alloc (.cells #[.pointer (some ⟨B, 0, none⟩)] 24)).alloc (.cells #[.int .i64 o.kind, .int .i64 o.sp, .int .i64 o.ak, .bool o.ap, .int .u64 o.av, .int .u8 o.byte, .int .u64 o.va, .int .i64 o.size, .bool o.at_.f0, .bool o.at_.f1, .bool o.at_.f2, .bool o.at_.f3, .bool o.at_.f4, .bool o.at_.f5, .int .i64 o.other, .int .u64 o.too] 36)).alloc (.cells #[.int .i64 0, .int .i64 0, .int .u8 0] 42) = w1 at *
  clear hs1 hs2
  have m0 : w1.cell? ⟨D, 0, none⟩ = some (Value.pointer (some ⟨B, 0, none⟩)) := (blk_cell hk 0).trans rfl
  obtain ⟨o0, o1, o2, o3, o4, o5, o6, o7, o8, o9, o10, o11, o12, o13, o14, o15⟩ := cells16 hz
  have HB := Aside0.mk hb
  have HK := Aside0.mk hk
  have HOB := Aside0.mk hz
  have HL := Aside0.mk hl
  clear hb hk hz hl
  have HCH := Aside0.mk (change_calls (HM.out.below HB.out) HW.out o HO.out 75 #[.pointer (some ⟨D, 0, none⟩)] (clearS s)
    (fun i x hi hh W hbW hmW => by
      have hk2 := blk_below HK.out hbW
      have hg2 : W.cell? ⟨D, 0, none⟩ = some (Value.pointer (some ⟨B, 0, none⟩)) := (blk_cell hk2 0).trans rfl
      have he : clearS s i = { s with L := s.L.set i ⟨x.f0, { x.f1 with f4 := false, f5 := false }⟩ } := by unfold clearS; rw [hi]
      rw [he]
      exact clr_calls hmW HW.out hi D hg2)
    (enters_ Try.func75 (by rfl) (by kernel_rfl)))
  go_wp2_with fail
  refine HCH.out.mono ?_
  rintro e w2 ⟨rfl, hm2, hv2⟩
  have hne : D + 1 + 1 ∉ [B, pm, bm] := fun hm => by have := HLT.out _ hm; omega
  have hl2 := (hv2.block _ (blk_lt HL.out) hne).trans HL.out
  obtain ⟨z0, z1, z2⟩ := cells3 hl2
  have y0 := blk_frozen hl2 0
  have y1 := blk_frozen hl2 1
  have y2 := blk_frozen hl2 2
  have HM2 := Aside0.mk hm2
  have HV2 := Aside0.mk hv2
  have HNE := Aside0.mk hne
  clear hm2 hv2 hne m0 o0 o1 o2 o3 o4 o5 o6 o7 o8 o9 o10 o11 o12 o13 o14 o15
  go_wp2_with fail
  rw [set3 hl2]
  refine bodyPost_ret (results_cell_row rfl _ _ (D + 1 + 1) 42 _ (0, 0) _ rfl (sb_same hl2 _) Try.underlying42 rfl (by kernel_rfl)) rfl ?_
  exact ⟨rfl, HM2.out.move (fun k hk => sb_other _ (fun e => HNE.out (e ▸ hk))), ((Mv.of_below HB.out).then HV2.out).setBlock (.inr (by omega)) _⟩
end
end Go.Proofs.Ytalmemcidbmdgaa.PM


/- A model (layer 16): protect: the walk. -/
set_option linter.unusedVariables false
set_option linter.unusedSimpArgs false
namespace Go.Proofs.Ytalmemcidbmdgaa.PM
open Go.RowKit Go.Proofs.YtalmemcidbmdgaaW.PrintWords Go.Proofs.YtalmemcidbmdgaaW.PrintLast Go.Proofs.YtalmemcidbmdgaaW.PrintMore Go.Proofs.Ytalmemcidbmdgaa.PageG
attribute [local go_sem] max2_int min2_int max_two min_two max_three min_three max_four min_four   -- for this text's walks alone
section
variable {w w' : World} {B pm bm : Nat} {s : MS}
set_option maxHeartbeats 8000000 in
set_option maxRecDepth 100000 in
theorem protect_calls (h : Mo w B pm bm s) (hw : WfL s.L) (hf : s.L.length ≤ 100000) (o : OpS) (ho : OkO o) :
    Calls Try.prog 41 #[.pointer (some ⟨B, 0, none⟩), Value.agg #[.int .i64 o.kind, .int .i64 o.sp, .int .i64 o.ak, .bool o.ap, .int .u64 o.av, .int .u8 o.byte, .int .u64 o.va, .int .i64 o.size, .bool o.at_.f0, .bool o.at_.f1, .bool o.at_.f2, .bool o.at_.f3, .bool o.at_.f4, .bool o.at_.f5, .int .i64 o.other, .int .u64 o.too]] w (Rep w B pm bm (if o.at_.f4 = true then (1, s) else changeR s o (protS s o.at_))) := by
  obtain ⟨res, hres⟩ : ∃ res, (if o.at_.f4 = true then (1, s) else changeR s o (protS s o.at_)) = res := ⟨_, rfl⟩
  rw [hres]
  have HRES := Aside0.mk hres
  clear hres
  have HM := Aside0.mk h
  have HLT := Aside0.mk h.lt
  have HW := Aside0.mk hw
  have HO := Aside0.mk ho
  clear h hw ho
  obtain ⟨D, hD⟩ : ∃ D, w.heap.size = D := ⟨_, rfl⟩
  go_enter Try.func41, Try.ntmps41
  go_upto_region 1 with fail
  have hk := blk_alloc (blk_alloc (blk_new w (.cells #[.pointer (some ⟨B, 0, none⟩)] 24)) (.cells #[.int .i64 o.kind, .int .i64 o.sp, .int .i64 o.ak, .bool o.ap, .int .u64 o.av, .int .u8 o.byte, .int .u64 o.va, .int .i64 o.size, .bool o.at_.f0, .bool o.at_.f1, .bool o.at_.f2, .bool o.at_.f3, .bool o.at_.f4, .bool o.at_.f5, .int .i64 o.other, .int .u64 o.too] 36)) (.cells #[.int .i64 0, .int .i64 0, .int .u8 0] 42)
  have hz := blk_alloc (blk_new (w.alloc (.cells #[.pointer (some ⟨B, 0, none⟩)] 24)) (.cells #[.int .i64 o.kind, .int .i64 o.sp, .int .i64 o.ak, .bool o.ap, .int .u64 o.av, .int .u8 o.byte, .int .u64 o.va, .int .i64 o.size, .bool o.at_.f0, .bool o.at_.f1, .bool o.at_.f2, .bool o.at_.f3, .bool o.at_.f4, .bool o.at_.f5, .int .i64 o.other, .int .u64 o.too] 36)) (.cells #[.int .i64 0, .int .i64 0, .int .u8 0] 42)
  have hl := blk_new ((w.alloc (.cells #[.pointer (some ⟨B, 0, none⟩)] 24)).alloc (.cells #[.int .i64 o.kind, .int .i64 o.sp, .int .i64 o.ak, .bool o.ap, .int .u64 o.av, .int .u8 o.byte, .int .u64 o.va, .int .i64 o.size, .bool o.at_.f0, .bool o.at_.f1, .bool o.at_.f2, .bool o.at_.f3, .bool o.at_.f4, .bool o.at_.f5, .int .i64 o.other, .int .u64 o.too] 36)) (.cells #[.int .i64 0, .int .i64 0, .int .u8 0] 42)
  have hb : Below w.heap.size w (((w.alloc (.cells #[.pointer (some ⟨B, 0, none⟩)] 24)).alloc (.cells #[.int .i64 o.kind, .int .i64 o.sp, .int .i64 o.ak, .bool o.ap, .int .u64 o.av, .int .u8 o.byte, .int .u64 o.va, .int .i64 o.size, .bool o.at_.f0, .bool o.at_.f1, .bool o.at_.f2, .bool o.at_.f3, .bool o.at_.f4, .bool o.at_.f5, .int .i64 o.other, .int .u64 o.too] 36)).alloc (.cells #[.int .i64 0, .int .i64 0, .int .u8 0] 42)) := (((Below.refl _ w).alloc (Nat.le_refl _) _).alloc (by simp) _).alloc (by simp; omega) _
  have hs1 : (w.alloc (.cells #[.pointer (some ⟨B, 0, none⟩)] 24)).heap.size = D + 1 := by simp [hD]
  have hs2 : ((w.alloc (.cells #[.pointer (some ⟨B, 0, none⟩)] 24)).alloc (.cells #[.int .i64 o.kind, .int .i64 o.sp, .int .i64 o.ak, .bool o.ap, .int .u64 o.av, .int .u8 o.byte, .int .u64 o.va, .int .i64 o.size, .bool o.at_.f0, .bool o.at_.f1, .bool o.at_.f2, .bool o.at_.f3, .bool o.at_.f4, .bool o.at_.f5, .int .i64 o.other, .int .u64 o.too] 36)).heap.size = D + 1 + 1 := by simp [hD]
  rw [hD] at hk
  rw [hs1] at hz
  rw [hs2] at hl
  generalize ((w.alloc (.cells #[.pointer (some ⟨B, 0, none⟩)] 24)).alloc (.cells #[.int .i64 o.kind, .int .i64 o.sp, .int .i64 o.ak, .bool o.ap, .int .u64 o.av, .int .u8 o.byte, .int .u64 o.va, .int .i64 o.size, .bool o.at_.f0, .bool o.at_.f1, .bool o.at_.f2, .bool o.at_.f3, .bool o.at_.f4, .bool o.at_.f5, .int .i64 o.other, .int .u64 o.too] 36)).alloc (.cells #[.int .i64 0, .int .i64 0, .int .u8 0] 42) = w1 at *
  clear hs1 hs2
  have m0 : w1.cell? ⟨D, 0, none⟩ = some (Value.pointer (some ⟨B, 0, none⟩)) := (blk_cell hk 0).trans rfl
  obtain ⟨o0, o1, o2, o3, o4, o5, o6, o7, o8, o9, o10, o11, o12, o13, o14, o15⟩ := cells16 hz
  have HB := Aside0.mk hb
  have HK := Aside0.mk hk
  have HOB := Aside0.mk hz
  have HL := Aside0.mk hl
  clear hb hk hz hl
  have HCH := Aside0.mk (change_calls (HM.out.below HB.out) HW.out o HO.out 74 #[.pointer (some ⟨D + 1, 0, none⟩), .pointer (some ⟨D, 0, none⟩)] (protS s o.at_)
    (fun i x hi hh W hbW hmW => by
      have hk2 := blk_below HK.out hbW
      have hg2 : W.cell? ⟨D, 0, none⟩ = some (Value.pointer (some ⟨B, 0, none⟩)) := (blk_cell hk2 0).trans rfl
      have he : protS s o.at_ i = { s with L := s.L.set i ⟨x.f0, { x.f1 with f3 := o.at_ }⟩ } := by unfold protS; rw [hi]
      rw [he]
      obtain ⟨q0, q1, q2, q3, q4, q5, q6, q7, q8, q9, q10, q11, q12, q13, q14, q15⟩ := cells16 (blk_below HOB.out hbW)
      exact pro_calls hmW o.at_ HW.out hi (D + 1) D ⟨q8, q9, q10, q11, q12, q13⟩ hg2)
    (enters_ Try.func74 (by rfl) (by kernel_rfl)))
  have hres := HRES.out
  rcases Bool.eq_false_or_eq_true o.at_.f4 with hag | hag
  · rw [if_pos hag] at hres
    subst hres
    clear HCH HRES
    go_wp2_with fail
    refine (model_told.calls 1 _ _ _ w1 rfl).mono ?_
    rintro e w2 ⟨rfl, hb2⟩
    have hz2 := blk_below HL.out hb2
    have HB2 := Aside0.mk (below_step HB.out hb2)
    obtain ⟨z0, z1, z2⟩ := cells3 hz2
    have y0 := blk_frozen hz2 0
    have y1 := blk_frozen hz2 1
    have y2 := blk_frozen hz2 2
    clear hb2 m0 o0 o1 o2 o3 o4 o5 o6 o7 o8 o9 o10 o11 o12 o13 o14 o15
    go_wp2_with fail
    rw [set3 hz2]
    refine bodyPost_ret (results_cell_row rfl _ _ (D + 1 + 1) 42 _ (0, 0) _ rfl (sb_same hz2 _) Try.underlying42 rfl (by kernel_rfl)) rfl ?_
    have hbf := below_sb HB2.out (by omega : w.heap.size ≤ D + 1 + 1) (.cells #[.int .i64 1, .int .i64 0, .int .u8 0] 42 (0, 0))
    exact ⟨rfl, HM.out.below hbf, Mv.of_below hbf⟩
  rw [if_neg (by rw [hag]; simp)] at hres
  subst hres
  have hch := HCH.out
  rw [hag] at hch o12
  clear HCH
  have HCH := Aside0.mk hch
  have HAG := Aside0.mk hag
  clear hch hag HRES
  go_wp2_with fail
  refine HCH.out.mono ?_
  rintro e w2 ⟨rfl, hm2, hv2⟩
  have hne : D + 1 + 1 ∉ [B, pm, bm] := fun hm => by have := HLT.out _ hm; omega
  have hl2 := (hv2.block _ (blk_lt HL.out) hne).trans HL.out
  obtain ⟨z0, z1, z2⟩ := cells3 hl2
  have y0 := blk_frozen hl2 0
  have y1 := blk_frozen hl2 1
  have y2 := blk_frozen hl2 2
  have HM2 := Aside0.mk hm2
  have HV2 := Aside0.mk hv2
  have HNE := Aside0.mk hne
  clear hm2 hv2 hne m0 o0 o1 o2 o3 o4 o5 o6 o7 o8 o9 o10 o11 o12 o13 o14 o15
  go_wp2_with fail
  rw [set3 hl2]
  refine bodyPost_ret (results_cell_row rfl _ _ (D + 1 + 1) 42 _ (0, 0) _ rfl (sb_same hl2 _) Try.underlying42 rfl (by kernel_rfl)) rfl ?_
  refine ⟨rfl, HM2.out.move (fun k hk => ?_), ((Mv.of_below HB.out).then HV2.out).setBlock (.inr (by omega)) _⟩
  exact sb_other _ (fun e => HNE.out (by rw [← e]; exact hk))
end
end Go.Proofs.Ytalmemcidbmdgaa.PM



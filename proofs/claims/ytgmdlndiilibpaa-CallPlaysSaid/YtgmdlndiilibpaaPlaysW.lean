/- CallPlays: its walk. Written by mkce.py over ce.txt. -/
import Derived.Test.YtgmdlndiilibpaaCallR
import Derived.Test.YtgmdlndiilibpaaArgs2
namespace Go.Proofs.Ytgmdlndiilibpaa.PC
open Go.RowKit Go.Proofs.YtgmdlndiilibpaaW.PrintWords Go.Proofs.YtgmdlndiilibpaaW.PrintLast Go.Proofs.YtgmdlndiilibpaaW.PrintMore Go.Proofs.Ytgmdlndiilibpaa.Tab Go.Proofs.Ytgmdlndiilibpaa.CallK
attribute [local go_sem] max2_int min2_int max_two min_two max_three min_three max_four min_four   -- for this text's walks alone
set_option linter.unusedVariables false
set_option linter.unusedSimpArgs false
theorem cell_mv {S : List Nat} {w w' : World} {p : Addr} {v : Value} (hm : Mv S w w') (hc : w.cell? p = some v) (hn : p.block ∉ S) : w'.cell? p = some v :=
  (World.cell?_of_block (hm.block _ (World.block_lt_of_cell? _ _ hc) hn)).trans hc
/-- A deed. -/
structure S83 where
  f0 : Int
  f1 : Int
  m : S35
  ts : List Int
def z83 : S83 := ⟨0, 0, z35, []⟩
def k83 : Kd S83 := Kd.iso (Kd.pair (Kd.int .i64) (Kd.pair (Kd.int .i64) (Kd.pair k35 (Kd.slice 3 (Kd.int .i64))))) (fun x : S83 => (x.f0, x.f1, x.m, x.ts))
theorem k83_open {w : World} {x : S83} {cs : List Value} (h : k83.K w x cs) : ∃ A c, cs = [.int .i64 x.f0, .int .i64 x.f1, .int .i64 x.m.f0, .int .i64 x.m.f1, .int .u64 x.m.f2, .slice A x.ts.length c] ∧ x.ts.length ≤ c ∧ (Kd.int .i64).C w A x.ts.length x.ts := by
  obtain ⟨_, _, rfl, rfl, _, _, rfl, rfl, c1, c2, rfl, h1, A, c, rfl, h2, h3⟩ := h
  rw [k35_open h1]
  exact ⟨A, c, rfl, h2, h3⟩
theorem k83_mk (w : World) (x : S83) {A : Option Addr} {c : Nat} (h2 : x.ts.length ≤ c) (h3 : (Kd.int .i64).C w A x.ts.length x.ts) : k83.K w x [.int .i64 x.f0, .int .i64 x.f1, .int .i64 x.m.f0, .int .i64 x.m.f1, .int .u64 x.m.f2, .slice A x.ts.length c] :=
  ⟨_, _, rfl, rfl, _, _, rfl, rfl, _, _, rfl, k35_mk w x.m, A, c, rfl, h2, h3⟩
def rd_T83 (xs : List S83) (i : Int) : S83 := xs.getD i.toNat z83
theorem at_T83 {w : World} {A : Option Addr} {n : Nat} {xs : List S83} (h : Kd.C k83 w A n xs) (i : Int) (h0 : 0 ≤ i) (h1 : i < n) : ∃ ad A' c', A = some ad ∧ w.cell? (ad.add (i.toNat * 6)) = some (.int .i64 (rd_T83 xs i).f0) ∧ w.cell? ⟨(ad.add (i.toNat * 6)).block, (ad.add (i.toNat * 6)).off + 1, none⟩ = some (.int .i64 (rd_T83 xs i).f1) ∧ w.cell? ⟨(ad.add (i.toNat * 6)).block, (ad.add (i.toNat * 6)).off + 2, none⟩ = some (.int .i64 (rd_T83 xs i).m.f0) ∧
    w.cell? ⟨(ad.add (i.toNat * 6)).block, (ad.add (i.toNat * 6)).off + 3, none⟩ = some (.int .i64 (rd_T83 xs i).m.f1) ∧ w.cell? ⟨(ad.add (i.toNat * 6)).block, (ad.add (i.toNat * 6)).off + 4, none⟩ = some (.int .u64 (rd_T83 xs i).m.f2) ∧ w.cell? ⟨(ad.add (i.toNat * 6)).block, (ad.add (i.toNat * 6)).off + 5, none⟩ = some (.slice A' (rd_T83 xs i).ts.length c') ∧ (rd_T83 xs i).ts.length ≤ c' ∧ (Kd.int .i64).C w A' (rd_T83 xs i).ts.length (rd_T83 xs i).ts := by
  obtain ⟨ad, c, e, _, hK, hc0⟩ := Kd.C_get h z83 i h0 h1
  have hc : ∀ j u, c[j]? = some u → w.cell? (ad.add (i.toNat * 6 + j)) = some u := hc0
  obtain ⟨A', c', rfl, h2, h3⟩ := k83_open hK
  exact ⟨ad, A', c', e, hc 0 _ rfl, by rw [← add_field _ _ 1 (by omega)]; exact hc 1 _ rfl, by rw [← add_field _ _ 2 (by omega)]; exact hc 2 _ rfl, by rw [← add_field _ _ 3 (by omega)]; exact hc 3 _ rfl, by rw [← add_field _ _ 4 (by omega)]; exact hc 4 _ rfl, by rw [← add_field _ _ 5 (by omega)]; exact hc 5 _ rfl, h2, h3⟩
set_option maxHeartbeats 8000000 in
set_option maxRecDepth 100000 in
theorem plays_calls (w : World) (cpus : Int) (A0 : Option Addr) (c0 : Nat) (xs : List S83) (hr0 : Kd.C k83 w A0 xs.length xs) (hc0 : xs.length ≤ c0) :
    Calls Try.prog 10 #[.int .i64 cpus, .slice A0 xs.length c0] w fun e w' => e = .returned (.bool true) ∧ Below w.heap.size w w' := by
  have HR := Aside0.mk hr0
  clear hr0
  obtain ⟨q, hq⟩ : ∃ q : Nat, (q : Int) = min (max cpus 1) 8 := ⟨(min (max cpus 1) 8).toNat, by omega⟩
  have hq8 : q ≤ 8 := by omega
  have hnew := new_calls w cpus q hq
  have HNEW := Aside0.mk hnew
  have hnr : PR.lookasideref15_New.f cpus = some ((q : Int), []) := by
    have e : mn (mx cpus 1) 8 = (q : Int) := by
      unfold mn mx
      rw [hq]
      (repeat' split) <;> omega
    unfold PR.lookasideref15_New.f
    rw [e]
  have HNR := Aside0.mk hnr
  clear hnew hq hnr
  go_enter Try.func10, Try.ntmps10
  go_wp2_with fail
  refine HNEW.out.mono ?_
  rintro e w1 ⟨B, gw, rfl, h1, hb1⟩
  have H1 := Aside0.mk h1
  have HB1 := Aside0.mk hb1
  clear h1 hb1 HNEW
  go_wp2_with fail
  refine (PR.lookasideref15_New.calls cpus q [] w1 HNR.out).mono ?_
  rintro e w2 ⟨v2, rfl, hs2, hb2⟩
  obtain ⟨A2, c2, hv2⟩ := Kd.V_slice (Kd.S_V (base' := 0) hs2)
  subst hv2
  have hst : St (w2.alloc (.cells #[.int .i64 q, .slice A2 ([] : List PR.S104).length c2] 41)) w.heap.size B gw (List.replicate q (.slice none 0 0)) (.slice none 0 0) q (List.replicate q []) [] [] (.slice A2 ([] : List PR.S104).length c2) (fun k => k = w2.heap.size) :=
    St.of (fun k hk => by rw [hk]; simp) ((H1.out.below hb2).below ((Below.refl _ w2).alloc (Nat.le_refl _) _)) (PR.Rel.new q) (Kd.V_alloc (Kd.S_V (base' := 0) (Kd.S_bound hs2)) _) (fun k hk => ⟨fun hm => absurd (CA_ids_lt H1.out k hm) (Nat.not_lt.2 hk.2.1), Nat.ne_of_lt hk.2.2.1⟩)
  have hk3 := blk_new w2 (.cells #[.int .i64 q, .slice A2 ([] : List PR.S104).length c2] 41)
  have hB3 : Below w.heap.size w (w2.alloc (.cells #[.int .i64 q, .slice A2 ([] : List PR.S104).length c2] 41)) := (below_step HB1.out hb2).alloc (Nat.le_trans HB1.out.size hb2.size) _
  have hg3 : w.heap.size ≤ w2.heap.size := Nat.le_trans HB1.out.size hb2.size
  have x0 := (blk_cell hk3 0).trans rfl
  have x1 := (blk_cell hk3 1).trans rfl
  have HST := Aside0.mk hst
  have HK := Aside0.mk hk3
  have HB := Aside0.mk hB3
  clear hst hk3 hB3 hs2 hb2 H1 HB1 HNR
  go_wp2_with fail
  generalize w2.alloc (.cells #[.int .i64 q, .slice A2 ([] : List PR.S104).length c2] 41) = w3 at *
  generalize w2.heap.size = g6 at *
  refine (like_calls HST.out hq8 (by simp)).mono ?_
  rintro e w4 ⟨rfl, hb4⟩
  have HST4 := Aside0.mk (HST.out.below hb4)
  have HK4 := Aside0.mk (blk_below HK.out hb4)
  have HB4 := Aside0.mk (HB.out.trans (hb4.mono HB.out.size))
  clear HST HK HB x0 x1 hb4
  go_wp2_with fail
  go_loopw [7] (fun iv wr => ∃ (i : Nat) (A : Option Addr) (c : Nat) (L : List PR.S104) (qs : List (List Sn)) (left : List Int) (vs : List Value) (lv : Value), iv = .int .i64 i ∧ i ≤ xs.length ∧ i ≤ 30 ∧ L.length ≤ i ∧ Aside0 (St wr w.heap.size B gw vs lv q qs left L (.slice A L.length c) (fun k => k = g6)) ∧ Aside0 (wr.heap[g6]? = some (.cells #[.int .i64 q, .slice A L.length c] 41 (0, 0))) ∧ Aside0 (Below w.heap.size w wr)) (fun iv _ => xs.length - (intOf iv).toNat)
  case atStart => exact ⟨0, _, _, [], _, _, _, _, rfl, by omega, by omega, by simp, HST4, HK4, HB4⟩
  case round =>
    clear HST4 HK4 HB4
    obtain ⟨i, A, c, L, qs, left, vs, lv, rfl, hi, hi30, hLi, HST, HK, HB⟩ := hrel
    by_cases hcond : (i : Int) < (xs.length : Int) ∧ (i : Int) < 30
    · obtain ⟨hil, hi29⟩ := hcond
      have hil' : i < xs.length := by omega
      have hi0 : (0 : Int) ≤ (i : Int) := by omega
      obtain ⟨ad, A', c', ead, y0, y1, y2, y3, y4, y5, hdc, hdC⟩ := at_T83 HR.out i hi0 hil
      subst ead
      obtain ⟨d, hd⟩ : ∃ d, rd_T83 xs i = d := ⟨_, rfl⟩
      rw [hd, Int.toNat_natCast] at y0 y1 y2 y3 y4 y5
      rw [hd] at hdc hdC
      have hDF := Kd.C_F (Kd.heap_int .i64) hdC
      have z0 := (HB.out.cell (World.block_lt_of_cell? _ _ y0)).trans y0
      have z1 := (HB.out.cell (World.block_lt_of_cell? _ _ y1)).trans y1
      have z2 := (HB.out.cell (World.block_lt_of_cell? _ _ y2)).trans y2
      have z3 := (HB.out.cell (World.block_lt_of_cell? _ _ y3)).trans y3
      have z4 := (HB.out.cell (World.block_lt_of_cell? _ _ y4)).trans y4
      have z5 := (HB.out.cell (World.block_lt_of_cell? _ _ y5)).trans y5
      obtain ⟨x0, x1⟩ : wr.cell? ⟨g6, 0, none⟩ = some (.int .i64 q) ∧ wr.cell? ⟨g6, 1, none⟩ = some (.slice A L.length c) := ⟨(blk_cell HK.out 0).trans rfl, (blk_cell HK.out 1).trans rfl⟩
      have hdoes : ∀ (W : World) (X : Nat → Prop), St W w.heap.size B gw vs lv q qs left L (.slice A L.length c) X → (∀ k, X k → w.heap.size ≤ k) → Below w.heap.size w W → Calls Try.prog 44 #[.pointer (some ⟨B, 0, none⟩), .agg #[.int .i64 q, .slice A L.length c], .agg #[.int .i64 d.f0, .int .i64 d.f1, .int .i64 d.m.f0, .int .i64 d.m.f1, .int .u64 d.m.f2, .slice A' d.ts.length c']] W (Res W (ids B gw vs lv) w w.heap.size B gw q L.length X) := fun W X hs hx hb => by
        by_cases h0 : d.f0 = 0
        · rw [h0]
          exact does_send hs hx hq8 (by omega) d.f1 d.m.f0 d.m.f1 d.m.f2 A' c' d.ts hdc hDF hb (Nat.le_refl _)
        · by_cases h1 : d.f0 = 1
          · rw [h1]
            exact does_take hs hx hq8 (by omega) 0 d.f1 d.m.f0 d.m.f1 d.m.f2 A' c' d.ts hb (Nat.le_refl _)
          · exact does_peek hs hx hq8 (by omega) d.f0 d.f1 d.m.f0 d.m.f1 d.m.f2 h0 h1 A' c' d.ts hb (Nat.le_refl _)
      have hni6 := not_ids HST.out.ca HK.out (by decide)
      have hge := ids_ge HST.out.ca
      have hnia : (ad.add (i * 6)).block ∉ CallK.ids B gw vs lv := fun hm => Nat.not_lt.2 (hge _ hm) (World.block_lt_of_cell? _ _ y0)
      have hg6l : g6 < wr.heap.size := blk_lt HK.out
      have HLT := Aside0.mk (CA_ids_lt HST.out.ca)
      have HDO := Aside0.mk hdoes
      clear hdoes hDF hdC hdc hd y0 y1 y2 y3 y4 y5 hge
      go_wp2_with fail
      refine start_ (n := 13) (S := fun w' => w'.cell? ⟨g6, 0, none⟩ = some (.int .i64 q) ∧ w'.cell? ⟨g6, 1, none⟩ = some (.slice A L.length c) ∧ w'.cell? (ad.add (i * 6)) = some (.int .i64 d.f0) ∧ w'.cell? ⟨(ad.add (i * 6)).block, (ad.add (i * 6)).off + 1, none⟩ = some (.int .i64 d.f1) ∧ w'.cell? ⟨(ad.add (i * 6)).block, (ad.add (i * 6)).off + 2, none⟩ = some (.int .i64 d.m.f0) ∧ w'.cell? ⟨(ad.add (i * 6)).block, (ad.add (i * 6)).off + 3, none⟩ = some (.int .i64 d.m.f1) ∧ w'.cell? ⟨(ad.add (i * 6)).block, (ad.add (i * 6)).off + 4, none⟩ = some (.int .u64 d.m.f2) ∧ w'.cell? ⟨(ad.add (i * 6)).block, (ad.add (i * 6)).off + 5, none⟩ = some (.slice A' d.ts.length c')) (ds := [11]) #[false, false, false, false, false, false, false, false, false, false, false, false, false] (by kernel_rfl) rfl rfl ⟨x0, x1, z0, z1, z2, z3, z4, z5⟩ (fun hHeld => ?_)
      refine pure_ (i := 0) (N := some 31) (v := ?_) (a' := ?_) #[true, false, false, false, false, false, false, false, false, false, false, false, false] rfl rfl (by kernel_rfl) (fun _ _ _ h => h) (Or.inl ⟨by rfl, ?_⟩) ?_ ?_
      rotate_left
      · intro w'
        go_simp
        with_reducible rfl
      rotate_left
      · simp only [Act.put, List.setIfInBounds_toArray, List.set_cons_zero, List.set_cons_succ, i64_w, i32_w]
        rfl
      refine pure_ (i := 2) (N := some 33) (v := ?_) (a' := ?_) #[true, false, true, false, false, false, false, false, false, false, false, false, false] rfl rfl (by kernel_rfl) (fun _ _ _ h => h) (Or.inl ⟨by rfl, ?_⟩) ?_ ?_
      rotate_left
      · intro w'
        go_simp
        with_reducible rfl
      rotate_left
      · simp only [Act.put, List.setIfInBounds_toArray, List.set_cons_zero, List.set_cons_succ, i64_w, i32_w]
        rfl
      refine pure_ (i := 3) (N := some 34) (v := ?_) (a' := ?_) #[true, false, true, true, false, false, false, false, false, false, false, false, false] rfl rfl (by kernel_rfl) (fun _ _ _ h => h) (Or.inl ⟨by rfl, ?_⟩) ?_ ?_
      rotate_left
      · intro w'
        go_simp
        with_reducible rfl
      rotate_left
      · simp only [Act.put, List.setIfInBounds_toArray, List.set_cons_zero, List.set_cons_succ, i64_w, i32_w]
        rfl
      refine pure_ (i := 4) (N := some 35) (v := ?_) (a' := ?_) #[true, false, true, true, true, false, false, false, false, false, false, false, false] rfl rfl (by kernel_rfl) (fun _ _ _ h => h) (Or.inl ⟨by rfl, ?_⟩) ?_ ?_
      rotate_left
      · intro w'
        go_simp
        with_reducible rfl
      rotate_left
      · simp only [Act.put, List.setIfInBounds_toArray, List.set_cons_zero, List.set_cons_succ, i64_w, i32_w]
        rfl
      refine take_ (i := 1) (N := some 32) (v := ?_) (a' := ?_) #[true, true, true, true, true, false, false, false, false, false, false, false, false] rfl rfl (by kernel_rfl) (fun _ _ _ h => h) (Or.inl ⟨by rfl, ?_⟩) hHeld ?_ ?_
      rotate_left
      · rintro w' ⟨s0, s1, s2, s3, s4, s5, s6, s7⟩
        go_simp
        with_reducible rfl
      rotate_left
      · simp only [Act.put, List.setIfInBounds_toArray, List.set_cons_zero, List.set_cons_succ, i64_w, i32_w]
        rfl
      refine take_ (i := 5) (N := some 36) (v := ?_) (a' := ?_) #[true, true, true, true, true, true, false, false, false, false, false, false, false] rfl rfl (by kernel_rfl) (fun _ _ _ h => h) (Or.inl ⟨by rfl, ?_⟩) hHeld ?_ ?_
      rotate_left
      · rintro w' ⟨s0, s1, s2, s3, s4, s5, s6, s7⟩
        go_simp
        with_reducible rfl
      rotate_left
      · simp only [Act.put, List.setIfInBounds_toArray, List.set_cons_zero, List.set_cons_succ, i64_w, i32_w]
        rfl
      refine join_ (σ := Nat × Option Addr × Nat × List PR.S104 × List (List Sn) × List Int × List Value × Value) 2 #[true, true, true, true, true, true, true, true, true, true, true, false, false] (fun s => [(37, .tuple #[.agg #[.int .i64 q, .slice s.2.1 s.2.2.2.1.length s.2.2.1], .bool true]), (30, .tuple #[.agg #[.int .i64 q, .slice s.2.1 s.2.2.2.1.length s.2.2.1], .bool true]), (38, .agg #[.int .i64 q, .slice s.2.1 s.2.2.2.1.length s.2.2.1]), (39, .bool true), (8, .pointer (some ⟨s.1, 0, none⟩))]) (fun s w' => St w' w.heap.size B gw s.2.2.2.2.2.2.1 s.2.2.2.2.2.2.2 q s.2.2.2.2.1 s.2.2.2.2.2.1 s.2.2.2.1 (.slice s.2.1 s.2.2.2.1.length s.2.2.1) (fun k => k = g6 ∨ k = s.1) ∧ Below w.heap.size w w' ∧ s.2.2.2.1.length ≤ L.length + 1 ∧ w'.heap[s.1]? = some (.cells #[.int .i64 0, .slice none 0 0] 41 (0, 0)) ∧ w'.heap[g6]? = some (.cells #[.int .i64 q, .slice A L.length c] 41 (0, 0)) ∧ wr.heap.size ≤ s.1) (fun s w' hF => ?_) (fun hjoin => ?_)
      rotate_left
      · refine two_ (i := 6) (j := 10) (Ni := some 37) (Nj := some 8) #[true, true, true, true, true, true, true, false, false, false, false, false, false] #[true, true, true, true, true, true, false, false, false, false, true, false, false] rfl rfl rfl rfl (by kernel_rfl) (by decide) (by decide) (fun K hK => ?_) (fun K hK => ?_)
        · refine goes_ Try.func44 (by kernel_rfl) rfl #[.pointer (some ⟨B, 0, none⟩), .agg #[.int .i64 q, .slice A L.length c], .agg #[.int .i64 d.f0, .int .i64 d.f1, .int .i64 d.m.f0, .int .i64 d.m.f1, .int .u64 d.m.f2, .slice A' d.ts.length c']] (by rfl) rfl rfl (by (try simp only [List.map_toArray, List.map_cons, List.map_nil]); first | done | rfl) ?_
          refine (HDO.out wr.drew _ (HST.out.below (Below.refl _ wr).drew) (fun k hk => by rw [hk]; exact hg3) (HB.out.trans ((Below.refl _ wr).drew.mono HB.out.size))).mono ?_
          rintro e wd1 ⟨Ad1, cd1, Ld1, qd1, ld1, vd1, xd1, rfl, hsd1, hbd1, hle1, hmd1⟩
          refine ⟨_, rfl, ?_⟩
          obtain ⟨s0, s1, s2, s3, s4, s5, s6, s7⟩ := hHeld
          refine hK.out _ _ ⟨cell_mv hmd1 s0 hni6, cell_mv hmd1 s1 hni6, cell_mv hmd1 s2 hnia, cell_mv hmd1 s3 hnia, cell_mv hmd1 s4 hnia, cell_mv hmd1 s5 hnia, cell_mv hmd1 s6 hnia, cell_mv hmd1 s7 hnia⟩ (fun hHeld => ?_)
          clear hK K
          refine norm_ (a' := ?_) ?_ ?_
          rotate_left
          · show Act.put _ (some 37) _ = _
            simp only [Act.put, List.setIfInBounds_toArray, List.set_cons_zero, List.set_cons_succ, i64_w, i32_w]
            rfl
          refine pure_ (i := 7) (N := some 30) (v := ?_) (a' := ?_) #[true, true, true, true, true, true, true, true, false, false, false, false, false] rfl rfl (by kernel_rfl) (fun _ _ _ h => h) (Or.inl ⟨by rfl, ?_⟩) ?_ ?_
          rotate_left
          · intro w'
            go_simp
            with_reducible rfl
          rotate_left
          · simp only [Act.put, List.setIfInBounds_toArray, List.set_cons_zero, List.set_cons_succ, i64_w, i32_w]
            rfl
          refine pure_ (i := 8) (N := some 38) (v := ?_) (a' := ?_) #[true, true, true, true, true, true, true, true, true, false, false, false, false] rfl rfl (by kernel_rfl) (fun _ _ _ h => h) (Or.inl ⟨by rfl, ?_⟩) ?_ ?_
          rotate_left
          · intro w'
            go_simp
            with_reducible rfl
          rotate_left
          · simp only [Act.put, List.setIfInBounds_toArray, List.set_cons_zero, List.set_cons_succ, i64_w, i32_w]
            rfl
          refine pure_ (i := 9) (N := some 39) (v := ?_) (a' := ?_) #[true, true, true, true, true, true, true, true, true, true, false, false, false] rfl rfl (by kernel_rfl) (fun _ _ _ h => h) (Or.inl ⟨by rfl, ?_⟩) ?_ ?_
          rotate_left
          · intro w'
            go_simp
            with_reducible rfl
          rotate_left
          · simp only [Act.put, List.setIfInBounds_toArray, List.set_cons_zero, List.set_cons_succ, i64_w, i32_w]
            rfl
          refine one_ (i := 10) (N := some 8) #[true, true, true, true, true, true, true, true, true, true, true, false, false] rfl rfl (by kernel_rfl) (by decide) (fun K hK => ?_)
          refine value_ (v := .pointer (some ⟨(wd1).heap.size, 0, none⟩)) (w1 := (wd1).alloc (.cells #[.int .i64 0, .slice none 0 0] 41)) (by rfl) rfl ?_ ?_
          · go_simp
          have hg2 := blk_new (wd1) (.cells #[.int .i64 0, .slice none 0 0] 41)
          have hc2 := (Below.refl _ (wd1)).alloc (Nat.le_refl _) (.cells #[.int .i64 0, .slice none 0 0] 41)
          obtain ⟨s0, s1, s2, s3, s4, s5, s6, s7⟩ := hHeld
          have hst2 := hsd1.below hc2
          have hbt2 := hbd1.trans (hc2.mono hbd1.size)
          refine hK.out _ _ ⟨(hc2.cell (World.block_lt_of_cell? _ _ s0)).trans s0, (hc2.cell (World.block_lt_of_cell? _ _ s1)).trans s1, (hc2.cell (World.block_lt_of_cell? _ _ s2)).trans s2, (hc2.cell (World.block_lt_of_cell? _ _ s3)).trans s3, (hc2.cell (World.block_lt_of_cell? _ _ s4)).trans s4, (hc2.cell (World.block_lt_of_cell? _ _ s5)).trans s5, (hc2.cell (World.block_lt_of_cell? _ _ s6)).trans s6, (hc2.cell (World.block_lt_of_cell? _ _ s7)).trans s7⟩ (fun hHeld => ?_)
          clear hK K
          refine norm_ (a' := ?_) ?_ ?_
          rotate_left
          · show Act.put _ (some 8) _ = _
            simp only [Act.put, List.setIfInBounds_toArray, List.set_cons_zero, List.set_cons_succ, i64_w, i32_w]
            rfl
          have hj := hjoin ((wd1).heap.size, Ad1, cd1, Ld1, qd1, ld1, vd1, xd1) ((wd1).alloc (.cells #[.int .i64 0, .slice none 0 0] 41)) ⟨St.of (fun k hk => by rcases hk with h | h; exact hst2.gl k h; rw [h]; exact blk_lt hg2) hst2.ca hst2.rel (Kd.V_below (Kd.V_bound hsd1.rv) hc2) (fun k hk => ⟨hk.1.1, fun h => by rcases h with h | h; exact hk.1.2 h; exact Nat.lt_irrefl _ (Nat.lt_of_lt_of_le hk.2 (Nat.le_of_eq h.symm))⟩), hbt2, hle1, hg2, (hc2.block _ (Nat.lt_of_lt_of_le hg6l hmd1.size)).trans ((hmd1.block _ hg6l hni6).trans HK.out), hmd1.size⟩
          simp only [putAll, Act.put, List.setIfInBounds_toArray, List.set_cons_zero, List.set_cons_succ] at hj
          exact hj
        · refine value_ (v := .pointer (some ⟨(wr.drew).heap.size, 0, none⟩)) (w1 := (wr.drew).alloc (.cells #[.int .i64 0, .slice none 0 0] 41)) (by rfl) rfl ?_ ?_
          · go_simp
          have hg3 := blk_new (wr.drew) (.cells #[.int .i64 0, .slice none 0 0] 41)
          have hc3 := (Below.refl _ (wr.drew)).alloc (Nat.le_refl _) (.cells #[.int .i64 0, .slice none 0 0] 41)
          obtain ⟨s0, s1, s2, s3, s4, s5, s6, s7⟩ := hHeld
          have hpre3 : Below wr.heap.size wr (wr.drew.alloc (.cells #[.int .i64 0, .slice none 0 0] 41)) := (Below.refl _ wr).drew.alloc (Nat.le_refl wr.heap.size) (.cells #[.int .i64 0, .slice none 0 0] 41)
          have hlp3 : wr.heap.size ≤ wr.drew.heap.size := Nat.le_refl _
          have hsp3 : St (wr.drew.alloc (.cells #[.int .i64 0, .slice none 0 0] 41)) w.heap.size B gw vs lv q qs left L (.slice A L.length c) (fun k => k = g6 ∨ k = wr.drew.heap.size) := St.of (fun k hk => by rcases hk with rfl | rfl; exact Nat.lt_of_lt_of_le hg6l hpre3.size; exact blk_lt hg3) (HST.out.ca.below hpre3) HST.out.rel (Kd.V_below (Kd.V_bound HST.out.rv) hpre3) (fun k hk => ⟨hk.1.1, fun h => by rcases h with h | h; exact hk.1.2 h; exact Nat.lt_irrefl _ (Nat.lt_of_lt_of_le hk.2 (Nat.le_of_eq h.symm))⟩)
          refine hK.out _ _ ⟨(hc3.cell (World.block_lt_of_cell? _ _ s0)).trans s0, (hc3.cell (World.block_lt_of_cell? _ _ s1)).trans s1, (hc3.cell (World.block_lt_of_cell? _ _ s2)).trans s2, (hc3.cell (World.block_lt_of_cell? _ _ s3)).trans s3, (hc3.cell (World.block_lt_of_cell? _ _ s4)).trans s4, (hc3.cell (World.block_lt_of_cell? _ _ s5)).trans s5, (hc3.cell (World.block_lt_of_cell? _ _ s6)).trans s6, (hc3.cell (World.block_lt_of_cell? _ _ s7)).trans s7⟩ (fun hHeld => ?_)
          clear hK K
          refine norm_ (a' := ?_) ?_ ?_
          rotate_left
          · show Act.put _ (some 8) _ = _
            simp only [Act.put, List.setIfInBounds_toArray, List.set_cons_zero, List.set_cons_succ, i64_w, i32_w]
            rfl
          refine one_ (i := 6) (N := some 37) #[true, true, true, true, true, true, true, false, false, false, true, false, false] rfl rfl (by kernel_rfl) (by decide) (fun K hK => ?_)
          refine goes_ Try.func44 (by kernel_rfl) rfl #[.pointer (some ⟨B, 0, none⟩), .agg #[.int .i64 q, .slice A L.length c], .agg #[.int .i64 d.f0, .int .i64 d.f1, .int .i64 d.m.f0, .int .i64 d.m.f1, .int .u64 d.m.f2, .slice A' d.ts.length c']] (by rfl) rfl rfl (by (try simp only [List.map_toArray, List.map_cons, List.map_nil]); first | done | rfl) ?_
          refine (HDO.out ((wr.drew).alloc (.cells #[.int .i64 0, .slice none 0 0] 41)) _ hsp3 (fun k hk => by rcases hk with rfl | rfl; exact hg3; exact Nat.le_trans HB.out.size hlp3) (HB.out.trans (hpre3.mono HB.out.size))).mono ?_
          rintro e wd4 ⟨Ad4, cd4, Ld4, qd4, ld4, vd4, xd4, rfl, hsd4, hbd4, hle4, hmd4⟩
          refine ⟨_, rfl, ?_⟩
          obtain ⟨s0, s1, s2, s3, s4, s5, s6, s7⟩ := hHeld
          refine hK.out _ _ ⟨cell_mv hmd4 s0 hni6, cell_mv hmd4 s1 hni6, cell_mv hmd4 s2 hnia, cell_mv hmd4 s3 hnia, cell_mv hmd4 s4 hnia, cell_mv hmd4 s5 hnia, cell_mv hmd4 s6 hnia, cell_mv hmd4 s7 hnia⟩ (fun hHeld => ?_)
          clear hK K
          refine norm_ (a' := ?_) ?_ ?_
          rotate_left
          · show Act.put _ (some 37) _ = _
            simp only [Act.put, List.setIfInBounds_toArray, List.set_cons_zero, List.set_cons_succ, i64_w, i32_w]
            rfl
          refine pure_ (i := 7) (N := some 30) (v := ?_) (a' := ?_) #[true, true, true, true, true, true, true, true, false, false, true, false, false] rfl rfl (by kernel_rfl) (fun _ _ _ h => h) (Or.inl ⟨by rfl, ?_⟩) ?_ ?_
          rotate_left
          · intro w'
            go_simp
            with_reducible rfl
          rotate_left
          · simp only [Act.put, List.setIfInBounds_toArray, List.set_cons_zero, List.set_cons_succ, i64_w, i32_w]
            rfl
          refine pure_ (i := 8) (N := some 38) (v := ?_) (a' := ?_) #[true, true, true, true, true, true, true, true, true, false, true, false, false] rfl rfl (by kernel_rfl) (fun _ _ _ h => h) (Or.inl ⟨by rfl, ?_⟩) ?_ ?_
          rotate_left
          · intro w'
            go_simp
            with_reducible rfl
          rotate_left
          · simp only [Act.put, List.setIfInBounds_toArray, List.set_cons_zero, List.set_cons_succ, i64_w, i32_w]
            rfl
          refine pure_ (i := 9) (N := some 39) (v := ?_) (a' := ?_) #[true, true, true, true, true, true, true, true, true, true, true, false, false] rfl rfl (by kernel_rfl) (fun _ _ _ h => h) (Or.inl ⟨by rfl, ?_⟩) ?_ ?_
          rotate_left
          · intro w'
            go_simp
            with_reducible rfl
          rotate_left
          · simp only [Act.put, List.setIfInBounds_toArray, List.set_cons_zero, List.set_cons_succ, i64_w, i32_w]
            rfl
          have hj := hjoin ((wr.drew).heap.size, Ad4, cd4, Ld4, qd4, ld4, vd4, xd4) wd4 ⟨St.of (fun k hk => hsd4.gl k hk) hsd4.ca hsd4.rel hsd4.rv (fun k hk => hk), hbd4, hle4, (hmd4.block _ (blk_lt hg3) (fun hm => Nat.lt_irrefl _ (HLT.out _ hm))).trans hg3, (hmd4.block _ (Nat.lt_of_lt_of_le hg6l hpre3.size) hni6).trans (blk_below HK.out hpre3), Nat.le_refl _⟩
          simp only [putAll, Act.put, List.setIfInBounds_toArray, List.set_cons_zero, List.set_cons_succ] at hj
          exact hj
      clear hHeld
      obtain ⟨hsT, hbT, hlT, hg, hk6, hgl⟩ := hF
      simp only [putAll, Act.put, List.setIfInBounds_toArray, List.set_cons_zero, List.set_cons_succ]
      refine last_ (i := 11) (N := none) #[true, true, true, true, true, true, true, true, true, true, true, true, false] rfl rfl (by kernel_rfl) (by decide) (fun K hK => ?_)
      have r0 := (blk_cell hg 0).trans rfl
      have r1 := (blk_cell hg 1).trans rfl
      have f0 := blk_frozen hg 0
      have f1 := blk_frozen hg 1
      refine skip_ (w1 := ?_) (by rfl) rfl ?_ ?_
      rotate_left
      · go_simp
        with_reducible rfl
      refine hK.out _ _ ?_
      clear hK K
      refine pure_ (i := 12) (N := some 9) (v := ?_) (a' := ?_) #[true, true, true, true, true, true, true, true, true, true, true, true, true] rfl rfl (by kernel_rfl) (fun _ _ _ h => h) (Or.inl ⟨by rfl, ?_⟩) ?_ ?_
      rotate_left
      · intro w'
        go_simp
        with_reducible rfl
      rotate_left
      · simp only [Act.put, List.setIfInBounds_toArray, List.set_cons_zero, List.set_cons_succ, i64_w, i32_w]
        rfl
      refine done_ (by kernel_rfl) ?_
      obtain ⟨g9, A3, c3, L3, qs3, left3, vs3, lv3⟩ := s
      simp only at hsT hbT hlT hg hk6 hgl r0 r1 f0 f1 ⊢
      have hne : g6 ≠ g9 := Nat.ne_of_lt (Nat.lt_of_lt_of_le hg6l hgl)
      have hwg : w.heap.size ≤ g9 := Nat.le_trans HB.out.size hgl
      have hn9 := not_ids hsT.ca hg (by decide)
      have hn6 := not_ids hsT.ca hk6 (by decide)
      have hne9 : ∀ k ∈ ids B gw vs3 lv3, k ≠ g9 := fun k hk e => hn9 (e ▸ hk)
      have hne6 : ∀ k ∈ ids B gw vs3 lv3, k ≠ g6 := fun k hk e => hn6 (e ▸ hk)
      have hk9 := blk_put (blk_put hg 0 (.int .i64 q) rfl) 1 (.slice A3 L3.length c3) rfl
      have hk6b : ((w'.setCell ⟨g9, 0, none⟩ (.int .i64 q)).setCell ⟨g9, 1, none⟩ (.slice A3 L3.length c3)).heap[g6]? = some (.cells #[.int .i64 q, .slice A L.length c] 41 (0, 0)) := (Below.heap_setCell _ _ _ g6 hne).trans ((Below.heap_setCell _ _ _ g6 hne).trans hk6)
      have hk6' := blk_put (blk_put hk6b 0 (.int .i64 q) rfl) 1 (.slice A3 L3.length c3) rfl
      have hst5 : St ((((w'.setCell ⟨g9, 0, none⟩ (.int .i64 q)).setCell ⟨g9, 1, none⟩ (.slice A3 L3.length c3)).setCell ⟨g6, 0, none⟩ (.int .i64 q)).setCell ⟨g6, 1, none⟩ (.slice A3 L3.length c3)) w.heap.size B gw vs3 lv3 q qs3 left3 L3 (.slice A3 L3.length c3) (fun k => k = g6) :=
        St.of (fun k hk => by rw [hk]; exact blk_lt hk6') (hsT.ca.step (fun k hk => (Below.heap_setCell _ _ _ k (hne6 k hk)).trans ((Below.heap_setCell _ _ _ k (hne6 k hk)).trans ((Below.heap_setCell _ _ _ k (hne9 k hk)).trans (Below.heap_setCell _ _ _ k (hne9 k hk)))))) hsT.rel
          (Kd.V_far (p := ⟨g6, 1, none⟩) (Kd.V_far (p := ⟨g6, 0, none⟩) (Kd.V_far (p := ⟨g9, 1, none⟩) (Kd.V_far (p := ⟨g9, 0, none⟩) hsT.rv (fun k hk e => hk.2 (.inr e)) _) (fun k hk e => hk.2 (.inr e)) _) (fun k hk e => hk.2 (.inl e)) _) (fun k hk e => hk.2 (.inl e)) _) (fun k hk => ⟨hk.1, fun h => hk.2 (.inl h)⟩)
      have hB5 := (((hbT.setCell (p := ⟨g9, 0, none⟩) hwg (.int .i64 q)).setCell (p := ⟨g9, 1, none⟩) hwg (.slice A3 L3.length c3)).setCell (p := ⟨g6, 0, none⟩) hg3 (.int .i64 q)).setCell (p := ⟨g6, 1, none⟩) hg3 (.slice A3 L3.length c3)
      have HST5 := Aside0.mk hst5
      have HK5 := Aside0.mk hk6'
      have HB5 := Aside0.mk hB5
      clear r0 r1 f0 f1 x0 x1 z0 z1 z2 z3 z4 z5
      obtain ⟨r0, r1⟩ : ((w'.setCell ⟨g9, 0, none⟩ (.int .i64 q)).setCell ⟨g9, 1, none⟩ (.slice A3 L3.length c3)).cell? ⟨g9, 0, none⟩ = some (.int .i64 q) ∧ ((w'.setCell ⟨g9, 0, none⟩ (.int .i64 q)).setCell ⟨g9, 1, none⟩ (.slice A3 L3.length c3)).cell? ⟨g9, 1, none⟩ = some (.slice A3 L3.length c3) := ⟨(blk_cell hk9 0).trans rfl, (blk_cell hk9 1).trans rfl⟩
      obtain ⟨x0, x1⟩ : ((w'.setCell ⟨g9, 0, none⟩ (.int .i64 q)).setCell ⟨g9, 1, none⟩ (.slice A3 L3.length c3)).cell? ⟨g6, 0, none⟩ = some (.int .i64 q) ∧ ((w'.setCell ⟨g9, 0, none⟩ (.int .i64 q)).setCell ⟨g9, 1, none⟩ (.slice A3 L3.length c3)).cell? ⟨g6, 1, none⟩ = some (.slice A L.length c) := ⟨(blk_cell hk6b 0).trans rfl, (blk_cell hk6b 1).trans rfl⟩
      have f6 := blk_frozen hk6b
      have hlT2 : L3.length ≤ i + 1 := by omega
      clear hst5 hk6' hB5 hk6b hk9 hne9 hne6 hn9 hn6 hwg hne hsT hbT hlT hg hk6 hgl HST HK HB HDO HLT hni6 hnia hg6l
      generalize (w'.setCell ⟨g9, 0, none⟩ (.int .i64 q)).setCell ⟨g9, 1, none⟩ (.slice A3 L3.length c3) = w5 at *
      (try simp only [Exit.inBlock, Exit.then])
      go_wp2_with fail
      refine (like_calls HST5.out hq8 (by omega)).mono ?_
      rintro e w6 ⟨rfl, hb6⟩
      have HST6 := Aside0.mk (HST5.out.below hb6)
      have HK6 := Aside0.mk (blk_below HK5.out hb6)
      have HB6 := Aside0.mk (HB5.out.trans (hb6.mono HB5.out.size))
      clear HST5 HK5 HB5 hb6 x0 x1 r0 r1 f6
      go_wp2
      go_roundw
      case rel => exact ⟨i + 1, A3, c3, L3, qs3, left3, vs3, lv3, by go_num, by omega, by omega, hlT2, HST6, HK6, HB6⟩
      case measure => simp [intOf]; omega
    · have hex : ¬ (i : Int) < (xs.length : Int) ∨ ((i : Int) < (xs.length : Int) ∧ ¬ (i : Int) < 30) := by omega
      clear hcond
      rcases hex with hl | ⟨hl, h30⟩
      all_goals
        go_wp2_with fail
        refine (lives_calls _).mono ?_
        rintro e w5 ⟨rfl, hb5⟩
        have HB5 := Aside0.mk (below_step HB.out hb5)
        clear hb5
        go_wp2
        go_ret
        exact ⟨rfl, HB5.out⟩

end Go.Proofs.Ytgmdlndiilibpaa.PC

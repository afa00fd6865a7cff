import Derived.Test.YtgmdlndiilibpaaTab
import Derived.Test.YtgmdlndiilibpaaTabK
import Derived.Test.YtgmdlndiilibpaaTabL
import Derived.Test.YtgmdlndiilibpaaPHx6
namespace Go.Proofs.Ytgmdlndiilibpaa.PH
open Go.RowKit Go.Proofs.YtgmdlndiilibpaaW.PrintWords Go.Proofs.YtgmdlndiilibpaaW.PrintLast Go.Proofs.YtgmdlndiilibpaaW.PrintMore Go.Proofs.Ytgmdlndiilibpaa.Tab
attribute [local go_sem] max2_int min2_int max_two min_two max_three min_three max_four min_four   -- for this text's walks alone
set_option linter.unusedVariables false
set_option linter.unusedSimpArgs false
open Go.Proofs.Ytgmdlndiilibpaa.KeyG
attribute [local go_sem high] eqA27
set_option maxHeartbeats 8000000 in
set_option maxRecDepth 100000 in
theorem rows_calls (w : World) (A0 : Option Addr) (c0 : Nat) (l0 : List S24) (chains : Int) (hr0 : Kd.C k24 w A0 l0.length l0) (hc0 : l0.length ≤ c0) (hok : ∀ x ∈ l0, Ok24 x)
    (hch : -9223372036854775808 ≤ chains ∧ chains ≤ 9223372036854775807) :
    Calls Try.prog 8 #[.slice A0 l0.length c0, .int .i64 chains] w fun e w' => e = .returned (.bool true) ∧ Below w.heap.size w w' := by
  have HR0 := Aside0.mk hr0
  have HC0 := Aside0.mk hc0
  have HOK := Aside0.mk hok
  clear hr0 hc0 hok
  have h20 : ∀ q : Nat, wrap64 (1 + Int.tmod (q : Int) 10) = ((1 + q % 10 : Nat) : Int) := fun q => by
    rw [show (10 : Int) = ((10 : Nat) : Int) from rfl, tmod_nat, wi _ (by omega) (by omega)]; omega
  have H20 := Aside0.mk h20
  clear h20
  have hcc : ∃ m : Nat, m < 2 ^ 63 ∧ ((0 ≤ chains ∧ chains = (m : Int)) ∨ (chains < 0 ∧ -(chains + 1) = (m : Int))) := by
    by_cases h : chains < 0
    · exact ⟨(-(chains + 1)).toNat, by omega, Or.inr ⟨h, by omega⟩⟩
    · exact ⟨chains.toNat, by omega, Or.inl ⟨by omega, by omega⟩⟩
  obtain ⟨q, hq2, (⟨h2, hq⟩ | ⟨h2, hq⟩)⟩ := hcc
  all_goals
    go_enter Try.func8, Try.ntmps8
    go_wp2_with fail
    (try rw [hq])
    first | rw [H20.out] | rw [show 1 + (q : Int) % 10 = ((1 + q % 10 : Nat) : Int) from by omega]
    clear hq h2 hch
    obtain ⟨N, hN, hN0, hN1⟩ : ∃ N : Nat, 1 + q % 10 = N ∧ 0 < N ∧ N ≤ 10 := ⟨_, rfl, by omega, by omega⟩
    rw [hN]
    clear hN hq2
    refine (new_calls w 20 N N (by omega) (by omega)).mono ?_
    rintro e w1 ⟨b, c, rfl, hT1, hb1, hc1, hB1⟩
    rw [show max (20 : Int) 0 = 20 from rfl] at hT1
    have HH : ∃ (L : List (List Nd)) (k : Nat), Aside0 (At 116 120 123 w1 b c L (20 - (k : Int)) k ∧ L.length = N ∧ (∀ l ∈ L, l.length ≤ k) ∧ (∀ k ∈ ids b c L, w.heap.size ≤ k)) ∧ k = 0 :=
      ⟨_, 0, ⟨hT1, by simp, fun l hl => by rw [(List.mem_replicate.1 hl).2]; simp, fun k hk => by simp [ids] at hk; rcases hk with rfl | rfl <;> assumption⟩, rfl⟩
    have HB1 := Aside0.mk hB1
    clear hT1 hb1 hc1 hB1
    obtain ⟨L1, k1, H1, hk1⟩ := HH
    go_wp2_with fail
    go_loopw [7] (fun iv wr => ∃ (L : List (List Nd)) (k : Nat) (i : Nat), iv = .int .i64 i ∧ i ≤ 12 ∧ k ≤ i ∧ Aside0 (At 116 120 123 wr b c L (20 - (k : Int)) k ∧ L.length = N ∧ (∀ l ∈ L, l.length ≤ k) ∧ (∀ k ∈ ids b c L, w.heap.size ≤ k)) ∧
      Aside0 (Below w.heap.size w wr)) (fun iv _ => 12 - (intOf iv).toNat)
    case atStart => exact ⟨L1, k1, 0, rfl, by omega, by omega, H1, HB1⟩
    case round =>
      clear H1 hk1 HB1
      obtain ⟨L, k, i, rfl, hi, hki, HT, HB⟩ := hrel
      by_cases hcond : (i : Int) < (l0.length : Int) ∧ (i : Int) < 12
      · obtain ⟨hl, h12⟩ := hcond
        have hl' : i < l0.length := by omega
        obtain ⟨ad, ead, x0, x1, x2⟩ := at_T24 HR0.out i (by omega) hl
        cases ead
        replace x0 := (HB.out.cell (World.block_lt_of_cell? w _ x0)).trans x0
        replace x1 := (HB.out.cell (World.block_lt_of_cell? w _ x1)).trans x1
        replace x2 := (HB.out.cell (World.block_lt_of_cell? w _ x2)).trans x2
        obtain ⟨x, hx, hgx⟩ : ∃ x, rd_T24 l0 i = x ∧ Ok24 x := by
          refine ⟨_, rfl, HOK.out _ ?_⟩
          simp [rd_T24, List.getD_eq_getElem?_getD, List.getElem?_eq_getElem hl', List.getElem_mem]
        rw [hx] at x0 x1 x2
        rw [Int.toNat_natCast] at x0 x1 x2
        clear hx
        obtain ⟨y, hy, hgy⟩ := good24 hgx
        have HY := Aside0.mk hy
        have HG := Aside0.mk hgy
        clear hy hgy hgx
        go_wp2_with fail
        refine (lookasideref11_Good.calls _ _ _ _ _ _ _ HY.out).mono ?_
        rintro e w2 ⟨rfl, hb2⟩
        have hb02 := below_step HB.out hb2
        obtain ⟨hT, hLN, hfew, hbase⟩ := HT.out
        have hT2 := hT.below hb2
        have HT2 := Aside0.mk hT2
        have HB2 := Aside0.mk hb02
        have HFEW := Aside0.mk hfew
        have HBS := Aside0.mk hbase
        clear hb2 hb02 hT hfew hbase hT2 HT HB x0 x1 x2
        go_wp2_with fail
        refine (lookasidelaw11_key.calls y.f0 y.f1 y.f2 y.f0 y.f1 y.f2 _ rfl).mono ?_
        rintro e w3 ⟨rfl, hb3⟩
        have HT3 := Aside0.mk (HT2.out.below hb3)
        have HB3 := Aside0.mk (below_step HB2.out hb3)
        clear hb3 HT2 HB2
        go_wp2_with fail
        refine (hash_Chain.calls y.f0 y.f1 y.f2 N (cN y N) _ (HG.out.ch hN0 (by omega))).mono ?_
        rintro e w4 ⟨rfl, hb4⟩
        have hgl : w3.heap.size < w4.heap.size := Nat.lt_of_lt_of_le (by simp) hb4.size
        have hg4 : w4.heap[w3.heap.size]? = some (.cells #[.int .i64 y.f0, .int .u64 y.f1, .int .i64 y.f2] 27 (0, 0)) := (hb4.block _ (by simp)).trans (heap_alloc_new w3 _)
        have hb34 := box_below hb4
        have hgn : w3.heap.size ∉ ids b c L := fun hm => Nat.lt_irrefl _ (HT3.out.lt _ hm)
        have HT4 := Aside0.mk (HT3.out.below hb34)
        have HB4 := Aside0.mk (below_step HB3.out hb34)
        have hgw : w.heap.size ≤ w3.heap.size := HB3.out.size
        clear hb4 hb34 HT3 HB3
        generalize w3.heap.size = g0 at *
        have hcL : cN y N < L.length := by rw [hLN]; exact cN_lt y hN0
        obtain ⟨l, hll⟩ : ∃ l, L[cN y N]? = some l := ⟨_, List.getElem?_eq_getElem hcL⟩
        have HL := Aside0.mk hll
        have HG4 := Aside0.mk hg4
        have HGN := Aside0.mk hgn
        clear hll hg4 hgn
        go_wp2_with fail
        refine (row_calls w4 b c L _ _ HT4.out (cN y N) l HL.out).mono ?_
        rintro e w5 ⟨vr, rfl, hr5, hb5⟩
        obtain ⟨A5, c5, hvr, hc5, -⟩ := Kd.R_reads hr5
        subst hvr
        have hg5 := (hb5.block g0 hgl).trans HG4.out
        have hgl5 : g0 < w5.heap.size := Nat.lt_of_lt_of_le hgl hb5.size
        have HT5 := Aside0.mk (HT4.out.below hb5)
        have HB5 := Aside0.mk (below_step HB4.out hb5)
        have hidl : ∀ k ∈ ids b c L, k < w4.heap.size := HT4.out.lt
        have HIDL := Aside0.mk hidl
        have HR5 := Aside0.mk hr5
        have HG5 := Aside0.mk hg5
        have y0 : w5.cell? ⟨g0, 0, none⟩ = some (.int .i64 y.f0) := by rw [Lib.cell_of_heap hg5]; rfl
        have y1 : w5.cell? ⟨g0, 1, none⟩ = some (.int .u64 y.f1) := by rw [Lib.cell_of_heap hg5]; rfl
        have y2 : w5.cell? ⟨g0, 2, none⟩ = some (.int .i64 y.f2) := by rw [Lib.cell_of_heap hg5]; rfl
        clear hidl hr5 hg5 hb5 HT4 HB4 HG4
        go_wp2_with fail
        have hmay := HG.out.may
        have hch' : hash_Chain.f y.f0 y.f1 y.f2 (L.length : Int) = some ((cN y N : Nat) : Int) := by rw [hLN]; exact HG.out.ch hN0 (by omega)
        have HM := Aside0.mk hmay
        have HC := Aside0.mk hch'
        clear hmay hch'
        by_cases hlt : pos (y.f0, y.f1, y.f2) l < l.length
        · refine (put_exist w5 b c L _ _ HT5.out y.f0 y.f1 y.f2 i (cN y N) l HL.out HM.out HC.out hlt).mono ?_
          rintro e w6 ⟨rfl, hb6⟩
          have HTx := Aside0.mk (HT5.out.below hb6)
          have HBx := Aside0.mk (below_step HB5.out hb6)
          clear hb6 y0 y1 y2
          go_wp2
          go_roundw
          case rel => exact ⟨L, k, i + 1, by go_num, by omega, by omega, ⟨HTx.out, hLN, HFEW.out, HBS.out⟩, HBx⟩
          case measure => simp [intOf]; omega
        · have hfl := HFEW.out l (List.mem_of_getElem? HL.out)
          refine (put_ok w5 b c L _ _ HT5.out y.f0 y.f1 y.f2 i (cN y N) l HL.out HM.out HC.out hlt (by omega) (by omega) (by omega) (by omega) (by omega)).mono ?_
          rintro e w6 ⟨rfl, g, hg, hT6, hM6⟩
          have hg6 := (hM6.block g0 hgl5 HGN.out).trans HG5.out
          have hL6 : (L.set (cN y N) (⟨g, y.f0, y.f1, y.f2, (i : Int)⟩ :: l))[cN y N]? = some (⟨g, y.f0, y.f1, y.f2, (i : Int)⟩ :: l) := List.getElem?_set_self hcL
          have hLN6 : (L.set (cN y N) (⟨g, y.f0, y.f1, y.f2, (i : Int)⟩ :: l)).length = N := by rw [List.length_set]; exact hLN
          have hsub : ∀ k ∈ ids b c (L.set (cN y N) (⟨g, y.f0, y.f1, y.f2, (i : Int)⟩ :: l)), k ∈ ids b c L ∨ w5.heap.size ≤ k := fun k hk => by
            rcases ids_set hk with hk | hk
            · exact Or.inl hk
            · rw [List.map_cons, List.mem_cons] at hk
              rcases hk with rfl | hk
              · exact Or.inr hg
              · obtain ⟨m', hm', rfl⟩ := List.mem_map.1 hk
                exact Or.inl (mem_ids HL.out hm')
          have hbs6 : ∀ k ∈ ids b c (L.set (cN y N) (⟨g, y.f0, y.f1, y.f2, (i : Int)⟩ :: l)), w.heap.size ≤ k := fun k hk => (hsub k hk).elim (HBS.out k) (fun h => Nat.le_trans HB5.out.size h)
          have hfew6 : ∀ l' ∈ (L.set (cN y N) (⟨g, y.f0, y.f1, y.f2, (i : Int)⟩ :: l)), l'.length ≤ k + 1 := fun l' hl' => by
            rcases List.mem_or_eq_of_mem_set hl' with hl' | rfl
            · exact Nat.le_succ_of_le (HFEW.out l' hl')
            · rw [List.length_cons]; omega
          have hr6 : Kd.R k24 27 w6 w4.heap.size (fun _ => True) (.slice A5 (l.map nk).length c5) (l.map nk) :=
            Kd.R_mono (Kd.R_move (Kd.R_bound HR5.out) (fun k hk => hM6.block k hk.2.2.1 (fun hm => by have := HIDL.out k hm; have := hk.2.1; omega))) (fun _ _ => trivial)
          have HB6 := Aside0.mk (Below.trans HB5.out (hM6.below HB5.out.size HBS.out))
          generalize L.set (cN y N) (⟨g, y.f0, y.f1, y.f2, (i : Int)⟩ :: l) = L6 at *
          have e1 : (20 - (k : Int)) - 1 = 20 - ((k + 1 : Nat) : Int) := by omega
          have e2 : (k : Int) + 1 = ((k + 1 : Nat) : Int) := by omega
          rw [e1, e2] at hT6
          have HT6 := Aside0.mk hT6
          have HBS6 := Aside0.mk hbs6
          have HFEW6 := Aside0.mk hfew6
          have HL6 := Aside0.mk hL6
          have HR6 := Aside0.mk hr6
          have HG6 := Aside0.mk hg6
          have hgl6 : g0 < w6.heap.size := Nat.lt_of_lt_of_le hgl5 hM6.size
          clear hT6 hbs6 hfew6 hL6 hr6 hg6 hM6 hsub e1 e2 y0 y1 y2 hlt
          go_wp2_with fail
          refine (row_calls w6 b c L6 _ _ HT6.out (cN y N) _ HL6.out).mono ?_
          rintro e w7 ⟨vn, rfl, hr7, hb7⟩
          obtain ⟨A7, c7, hvn, hc7, -⟩ := Kd.R_reads hr7
          subst hvn
          have hg7 := (hb7.block g0 hgl6).trans HG6.out
          have y0 : w7.cell? ⟨g0, 0, none⟩ = some (.int .i64 y.f0) := by rw [Lib.cell_of_heap hg7]; rfl
          have y1 : w7.cell? ⟨g0, 1, none⟩ = some (.int .u64 y.f1) := by rw [Lib.cell_of_heap hg7]; rfl
          have y2 : w7.cell? ⟨g0, 2, none⟩ = some (.int .i64 y.f2) := by rw [Lib.cell_of_heap hg7]; rfl
          have hn7 : ((⟨g, y.f0, y.f1, y.f2, (i : Int)⟩ :: l : List Nd).map nk) = y :: l.map nk := by rw [List.map_cons]; rfl
          rw [hn7] at hr7 hc7 ⊢
          obtain ⟨A8, c8, he8, hc8, hcr8⟩ := Kd.R_reads hr7
          injection he8 with he8 hlen8 he8'
          subst he8 he8'
          obtain ⟨ad7, ead7, z0, z1, z2⟩ := at_T24 hcr8 0 (by omega) (by rw [List.length_cons]; omega)
          cases ead7
          rw [show rd_T24 (y :: l.map nk) 0 = y from rfl] at z0 z1 z2
          obtain ⟨gn, rfl⟩ := Kd.R_head hr7
          replace z0 : w7.cell? ⟨gn, 0, none⟩ = some (.int .i64 y.f0) := z0
          replace z1 : w7.cell? ⟨gn, 1, none⟩ = some (.int .u64 y.f1) := z1
          replace z2 : w7.cell? ⟨gn, 2, none⟩ = some (.int .i64 y.f2) := z2
          have HT7 := Aside0.mk (HT6.out.below hb7)
          have HB7 := Aside0.mk (below_step HB6.out hb7)
          have HRN := Aside0.mk hr7
          have HRW := Aside0.mk (Kd.R_below HR6.out hb7)
          clear hg7 hr7 hb7 hcr8 hn7 hlen8 HT6 HB6 HR6 HG6
          rw [List.length_cons, List.length_map] at *
          go_wp2_with fail
          go_quiet (fail)
          have HT8 := Aside0.mk (HT7.out.move (w' := w7.drewN nq) (fun _ _ => rfl))
          have HB8 := Aside0.mk (pw_below_drewN HB7.out nq)
          have HRN8 := Aside0.mk (Kd.R_drewN HRN.out nq)
          have HRW8 := Aside0.mk (Kd.R_drewN HRW.out nq)
          clear HT7 HB7 HRN HRW
          go_wp2_with fail
          go_loopw [12] (fun jv wr => ∃ j : Nat, jv = .int .i64 j ∧ j ≤ l.length ∧ Aside0 (At 116 120 123 wr b c L6 (20 - ((k + 1 : Nat) : Int)) ((k + 1 : Nat) : Int)) ∧ Aside0 (Below w.heap.size w wr) ∧
            Aside0 (Kd.R k24 27 wr w6.heap.size (fun _ => True) (.slice (some ⟨gn, 0, none⟩) (l.length + 1) c7) (y :: l.map nk)) ∧ Aside0 (Kd.R k24 27 wr w4.heap.size (fun _ => True) (.slice A5 l.length c5) (l.map nk))) (fun jv _ => l.length - (intOf jv).toNat)
          case atStart => exact ⟨0, rfl, by omega, HT8, HB8, HRN8, HRW8⟩
          case round =>
            clear HT8 HB8 HRN8 HRW8
            obtain ⟨j, rfl, hj, HT8, HB8, HRN8, HRW8⟩ := hrel
            by_cases hjl : (j : Int) < (l.length : Int)
            · obtain ⟨Z, hZ⟩ : ∃ Z, rd_T24 (l.map nk) j = Z := ⟨_, rfl⟩
              have hZ2 : rd_T24 (y :: l.map nk) ((j : Int) + 1) = Z := by
                rw [← hZ]
                unfold rd_T24
                rw [show ((j : Int) + 1).toNat = j + 1 from by omega, Int.toNat_natCast]
                rfl
              obtain ⟨A9, c9, he9, hc9, hcr9⟩ := Kd.R_reads HRN8.out
              injection he9 with he9 hlen9 he9'
              subst he9 he9'
              obtain ⟨ad9, ead9, z0, z1, z2⟩ := at_T24 hcr9 ((j : Int) + 1) (by omega) (by rw [List.length_cons, List.length_map]; omega)
              injection ead9 with ead9
              subst ead9
              rw [hZ2, show ((j : Int) + 1).toNat = j + 1 from by omega] at z0 z1 z2
              obtain ⟨A10, c10, he10, hc10, hcr10⟩ := Kd.R_reads HRW8.out
              injection he10 with he10 hlen10 he10'
              subst he10 he10'
              obtain ⟨ad10, ead10, v0, v1, v2⟩ := at_T24 hcr10 j (by omega) (by rw [List.length_map]; exact hjl)
              subst ead10
              obtain ⟨gw, rfl⟩ := Kd.R_head HRW8.out
              rw [hZ, Int.toNat_natCast] at v0 v1 v2
              simp only [Go.Proofs.YtgmdlndiilibpaaW.PrintWords.add_plain, Nat.zero_add] at z0 z1 z2 v0 v1 v2
              clear hcr9 hcr10 hZ hZ2 hc9 hc10 hlen9 hlen10
              have hjl2 : (j : Int) + 1 < ((l.length + 1 : Nat) : Int) := by omega
              have hjl3 : (j : Int) + 1 < (l.length : Int) + 1 := by omega
              have hj0 : 0 ≤ (j : Int) + 1 := by omega
              have hjt : ((j : Int) + 1).toNat = j + 1 := by omega
              have hjw : IntKind.i64.wrap ((j : Int) + 1) = (j : Int) + 1 := by rw [IntKind.wrap_i64]; omega
              go_wp2_with fail
              go_quiet (fail)
              have HT9 := Aside0.mk (HT8.out.move (w' := wr.drewN nq) (fun _ _ => rfl))
              have HB9 := Aside0.mk (pw_below_drewN HB8.out nq)
              have HRN9 := Aside0.mk (Kd.R_drewN HRN8.out nq)
              have HRW9 := Aside0.mk (Kd.R_drewN HRW8.out nq)
              clear HT8 HB8 HRN8 HRW8 z0 z1 z2 v0 v1 v2
              go_wp2
              go_roundw
              case rel => exact ⟨j + 1, by go_num, by omega, HT9, HB9, HRN9, HRW9⟩
              case measure => simp [intOf]; omega
            · go_wp2
              go_roundw
              case rel => exact ⟨L6, k + 1, i + 1, by go_num, by omega, by omega, ⟨HT8.out, hLN6, HFEW6.out, HBS6.out⟩, HB8⟩
              case measure => simp [intOf]; omega
      · have hcond2 : ¬ (i : Int) < (l0.length : Int) ∨ ((i : Int) < (l0.length : Int) ∧ ¬ (i : Int) < 12) := by omega
        clear hcond
        rcases hcond2 with hl | ⟨hl, h12⟩
        all_goals
          go_wp2_with fail
          refine (lookasidelaw11_lives.calls true _ rfl).mono ?_
          rintro e w2 ⟨rfl, hb2⟩
          have HBz := below_step HB.out hb2
          go_wp2
          go_ret
          exact ⟨rfl, HBz⟩
end Go.Proofs.Ytgmdlndiilibpaa.PH

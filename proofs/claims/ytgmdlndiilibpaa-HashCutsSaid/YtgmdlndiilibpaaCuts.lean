import Derived.Test.YtgmdlndiilibpaaTab
import Derived.Test.YtgmdlndiilibpaaTabK
import Derived.Test.YtgmdlndiilibpaaPHx6
namespace Go.Proofs.Ytgmdlndiilibpaa.PH
open Go.RowKit Go.Proofs.YtgmdlndiilibpaaW.PrintWords Go.Proofs.YtgmdlndiilibpaaW.PrintLast Go.Proofs.YtgmdlndiilibpaaW.PrintMore Go.Proofs.Ytgmdlndiilibpaa.Tab
attribute [local go_sem] max2_int min2_int max_two min_two max_three min_three max_four min_four   -- for this text's walks alone
set_option linter.unusedVariables false
set_option linter.unusedSimpArgs false
open Go.Proofs.Ytgmdlndiilibpaa.KeyG
attribute [local go_sem high] eqA27
set_option maxHeartbeats 8000000 in
set_option maxRecDepth 100000 in
theorem cuts_calls (w : World) (A0 : Option Addr) (c0 : Nat) (l0 : List S24) (n chains : Int) (hr0 : Kd.C k24 w A0 l0.length l0) (hc0 : l0.length ≤ c0) (hok : ∀ x ∈ l0, Ok24 x)
    (hn : -9223372036854775808 ≤ n ∧ n ≤ 9223372036854775807) (hch : -9223372036854775808 ≤ chains ∧ chains ≤ 9223372036854775807) :
    Calls Try.prog 7 #[.slice A0 l0.length c0, .int .i64 n, .int .i64 chains] w fun e w' => e = .returned (.bool true) ∧ Below w.heap.size w w' := by
  have HR0 := Aside0.mk hr0
  have HC0 := Aside0.mk hc0
  have HOK := Aside0.mk hok
  clear hr0 hc0 hok
  have h20 : ∀ q : Nat, wrap64 (1 + Int.tmod (q : Int) 20) = ((1 + q % 20 : Nat) : Int) := fun q => by
    rw [show (20 : Int) = ((20 : Nat) : Int) from rfl, tmod_nat, wi _ (by omega) (by omega)]; omega
  have H20 := Aside0.mk h20
  clear h20
  have hnn : ∃ m : Nat, m < 2 ^ 63 ∧ ((0 ≤ n ∧ n = (m : Int)) ∨ (n < 0 ∧ -(n + 1) = (m : Int))) := by
    by_cases h : n < 0
    · exact ⟨(-(n + 1)).toNat, by omega, Or.inr ⟨h, by omega⟩⟩
    · exact ⟨n.toNat, by omega, Or.inl ⟨by omega, by omega⟩⟩
  have hcc : ∃ m : Nat, m < 2 ^ 63 ∧ ((0 ≤ chains ∧ chains = (m : Int)) ∨ (chains < 0 ∧ -(chains + 1) = (m : Int))) := by
    by_cases h : chains < 0
    · exact ⟨(-(chains + 1)).toNat, by omega, Or.inr ⟨h, by omega⟩⟩
    · exact ⟨chains.toNat, by omega, Or.inl ⟨by omega, by omega⟩⟩
  obtain ⟨m, hm2, (⟨h1, hm⟩ | ⟨h1, hm⟩)⟩ := hnn <;> obtain ⟨q, hq2, (⟨h2, hq⟩ | ⟨h2, hq⟩)⟩ := hcc
  all_goals
    go_enter Try.func7, Try.ntmps7
    go_wp2_with fail
    (try rw [hm]); (try rw [hq])
    first | rw [H20.out] | rw [show 1 + (q : Int) % 20 = ((1 + q % 20 : Nat) : Int) from by omega]
    clear hm hq h1 h2 hn hch
    obtain ⟨N, hN, hN0, hN1⟩ : ∃ N : Nat, 1 + q % 20 = N ∧ 0 < N ∧ N ≤ 20 := ⟨_, rfl, by omega, by omega⟩
    rw [hN]
    clear hN hq2
    refine (new_calls w 20 N N (by omega) (by omega)).mono ?_
    rintro e w1 ⟨b, c, rfl, hT1, hb1, hc1, hB1⟩
    rw [show max (20 : Int) 0 = 20 from rfl] at hT1
    have HH : ∃ (L : List (List Nd)) (xs : List S24), Aside0 (At 116 120 123 w1 b c L (20 - (xs.length : Int)) xs.length ∧ Has N L xs ∧ (∀ k ∈ ids b c L, w.heap.size ≤ k)) ∧ xs = [] :=
      ⟨_, [], ⟨hT1, Has.new N, fun k hk => by simp [ids] at hk; rcases hk with rfl | rfl <;> assumption⟩, rfl⟩
    have HB1 := Aside0.mk hB1
    clear hT1 hb1 hc1 hB1
    obtain ⟨L1, xs1, H1, hxs1⟩ := HH
    go_wp2_with fail
    go_loopw [8, 9] (fun ov iv wr => ∃ (L : List (List Nd)) (xs : List S24) (i : Nat), iv = .int .i64 i ∧ i ≤ 12 ∧ xs.length ≤ i ∧ Aside0 (At 116 120 123 wr b c L (20 - (xs.length : Int)) xs.length ∧ Has N L xs ∧ (∀ k ∈ ids b c L, w.heap.size ≤ k)) ∧
      Aside0 (Kd.R k24 24 wr w.heap.size (fun k => k ∉ ids b c L) ov xs) ∧ Aside0 (Below w.heap.size w wr)) (fun _ iv _ => 12 - (intOf iv).toNat)
    case atStart => exact ⟨L1, xs1, 0, rfl, by omega, by rw [hxs1]; simp, H1, ⟨by rw [hxs1]; exact Kd.R_nil _ _ _ _ _⟩, HB1⟩
    case round =>
      clear H1 hxs1 HB1
      obtain ⟨L, xs, i, rfl, hi, hxi, HT, HO, HB⟩ := hrel
      obtain ⟨A, cc, hov, hcc, hcr⟩ := Kd.R_reads HO.out
      have HCR := Aside0.mk hcr
      clear hcr
      subst hov
      by_cases hcond : (i : Int) < (l0.length : Int) ∧ (i : Int) < 12
      · obtain ⟨hl, h12⟩ := hcond
        have hl' : i < l0.length := by omega
        obtain ⟨ad, ead, x0, x1, x2⟩ := at_T24 HR0.out i (by omega) hl
        cases ead
        replace x0 := (HB.out.cell (World.block_lt_of_cell? w _ x0)).trans x0
        replace x1 := (HB.out.cell (World.block_lt_of_cell? w _ x1)).trans x1
        replace x2 := (HB.out.cell (World.block_lt_of_cell? w _ x2)).trans x2
        obtain ⟨x, hx, hgx⟩ : ∃ x, rd_T24 l0 i = x ∧ Ok24 x := by
          refine ⟨_, rfl, HOK.out _ ?_⟩
          simp [rd_T24, List.getD_eq_getElem?_getD, List.getElem?_eq_getElem hl', List.getElem_mem]
        rw [hx] at x0 x1 x2
        rw [Int.toNat_natCast] at x0 x1 x2
        clear hx
        obtain ⟨y, hy, hgy⟩ := good24 hgx
        have HY := Aside0.mk hy
        have HG := Aside0.mk hgy
        clear hy hgy hgx
        go_wp2_with fail
        refine (lookasideref11_Good.calls _ _ _ _ _ _ _ HY.out).mono ?_
        rintro e w2 ⟨rfl, hb2⟩
        go_wp2_with fail
        refine (lookasidelaw11_key.calls y.f0 y.f1 y.f2 y.f0 y.f1 y.f2 _ rfl).mono ?_
        rintro e w3 ⟨rfl, hb3⟩
        have hg3 : w3.heap[w2.heap.size]? = some (.cells #[.int .i64 y.f0, .int .u64 y.f1, .int .i64 y.f2] 24 (0, 0)) := (hb3.block _ (by simp)).trans (heap_alloc_new w2 _)
        have hgge : wr.heap.size ≤ w2.heap.size := hb2.size
        have hB3 : Below wr.heap.size wr w3 := below_then hb2 hb2.size (box_below hb3)
        have hlt3 : w2.heap.size < w3.heap.size := Nat.lt_of_lt_of_le (by simp) hb3.size
        generalize w2.heap.size = g0 at *
        obtain ⟨hT, hH, hbase⟩ := HT.out
        have hcL : cN y N < L.length := by rw [hH.len]; exact cN_lt y hN0
        obtain ⟨l, hll⟩ : ∃ l, L[cN y N]? = some l := ⟨_, List.getElem?_eq_getElem hcL⟩
        have hmay := HG.out.may
        have hch' : hash_Chain.f y.f0 y.f1 y.f2 (L.length : Int) = some ((cN y N : Nat) : Int) := by rw [hH.len]; exact HG.out.ch hN0 (by omega)
        have hT3 := hT.below hB3
        have hsz3 := hB3.size
        have hB0 := below_then HB.out HB.out.size hB3
        have ho3 := Kd.R_below HO.out hB3
        have hgn : g0 ∉ ids b c L := fun hm => by have := hT.lt _ hm; omega
        clear hb2 hb3 hB3 x0 x1 x2
        have HT3 := Aside0.mk hT3
        have HH := Aside0.mk hH
        have HBS := Aside0.mk hbase
        have HB0 := Aside0.mk hB0
        have HO3 := Aside0.mk ho3
        have HM := Aside0.mk hmay
        have HC := Aside0.mk hch'
        have HL := Aside0.mk hll
        have HG3 := Aside0.mk hg3
        have HGN := Aside0.mk hgn
        clear hT hH hbase hT3 hB0 ho3 hmay hch' hll hg3 hgn HT HO HB HCR
        go_wp2_with fail
        by_cases hyx : y ∈ xs
        · obtain ⟨j, hjl, hj⟩ := List.getElem_of_mem hyx
          have hv := HH.out.yes j y l (by rw [List.getElem?_eq_getElem hjl, hj]) HL.out
          have hlt : pos (k3 y) l < l.length := (val_some hv).elim fun h _ => h
          refine (put_exist w3 b c L _ _ HT3.out y.f0 y.f1 y.f2 xs.length (cN y N) l HL.out HM.out HC.out hlt).mono ?_
          rintro e w4 ⟨rfl, hb4⟩
          clear hlt hv hj
          have HBx := Aside0.mk (below_step HB0.out hb4)
          have HTx := Aside0.mk (HT3.out.below hb4)
          have HOx := Aside0.mk (Kd.R_below HO3.out hb4)
          clear hb4
          go_wp2
          go_roundw
          case rel => exact ⟨L, xs, i + 1, by go_num, by omega, by omega, ⟨HTx.out, HH.out, HBS.out⟩, HOx, HBx⟩
          case measure => simp [intOf]; omega
        · have hv := HH.out.no y l HG.out hyx HL.out
          have hlt : ¬ pos (k3 y) l < l.length := by rw [val_none hv]; omega
          have hfl := HH.out.few l (List.mem_of_getElem? HL.out)
          refine (put_ok w3 b c L _ _ HT3.out y.f0 y.f1 y.f2 xs.length (cN y N) l HL.out HM.out HC.out hlt (by omega) (by omega) (by omega) (by omega) (by omega)).mono ?_
          rintro e w4 ⟨rfl, g, hg, hT4, hM4⟩
          clear hlt hv
          have hg4 := (hM4.block g0 hlt3 HGN.out).trans HG3.out
          have hsub : ∀ k ∈ ids b c (L.set (cN y N) (⟨g, y.f0, y.f1, y.f2, (xs.length : Int)⟩ :: l)), k ∈ ids b c L ∨ w3.heap.size ≤ k := fun k hk => by
            rcases ids_set hk with hk | hk
            · exact Or.inl hk
            · rw [List.map_cons, List.mem_cons] at hk
              rcases hk with rfl | hk
              · exact Or.inr hg
              · obtain ⟨m', hm', rfl⟩ := List.mem_map.1 hk
                exact Or.inl (mem_ids HL.out hm')
          have ho4 := own_mv HO3.out hM4 hsub
          have hB4 := Below.trans HB0.out (hM4.below HB0.out.size HBS.out)
          have hbs4 : ∀ k ∈ ids b c (L.set (cN y N) (⟨g, y.f0, y.f1, y.f2, (xs.length : Int)⟩ :: l)), w.heap.size ≤ k := fun k hk => (hsub k hk).elim (HBS.out k) (fun h => Nat.le_trans HB0.out.size h)
          have hH4 := HH.out.push HG.out hyx HL.out g
          generalize L.set (cN y N) (⟨g, y.f0, y.f1, y.f2, (xs.length : Int)⟩ :: l) = L4 at *
          have e1 : (20 - (xs.length : Int)) - 1 = 20 - ((xs ++ [y]).length : Int) := by rw [List.length_append, List.length_singleton]; omega
          have e2 : (xs.length : Int) + 1 = ((xs ++ [y]).length : Int) := by rw [List.length_append, List.length_singleton]; omega
          rw [e1, e2] at hT4
          have y0 : w4.cell? ⟨g0, 0, none⟩ = some (.int .i64 y.f0) := by rw [Lib.cell_of_heap hg4]; rfl
          have y1 : w4.cell? ⟨g0, 1, none⟩ = some (.int .u64 y.f1) := by rw [Lib.cell_of_heap hg4]; rfl
          have y2 : w4.cell? ⟨g0, 2, none⟩ = some (.int .i64 y.f2) := by rw [Lib.cell_of_heap hg4]; rfl
          have hTlt := hT4.lt
          have HT4 := Aside0.mk hT4
          have HO4 := Aside0.mk ho4
          have HB4 := Aside0.mk hB4
          have HBS4 := Aside0.mk hbs4
          have HH4 := Aside0.mk hH4
          have HLT := Aside0.mk hTlt
          clear hT4 ho4 hB4 hbs4 hH4 hM4 hsub hg4 hTlt e1 e2
          go_wp2_with (first | ((with_reducible refine gate_builtin (b := .append) (xs := #[.tmp 54, .tmp 56]) rfl ?_); at_builtin; refine Kd.R_append k24 (w0 := w) w.heap.size rfl (.tmp 54) (.tmp 56) 57 24 (.agg #[(.int .i64 0), (.int .u64 0), (.int .i64 0)]) 24 rfl Try.underlying57 info24 rfl (by decide) (by omega) (.slice A xs.length cc) xs y [.int .i64 y.f0, .int .u64 y.f1, .int .i64 y.f2] (fun k => k ∉ ids b c L4) (fun _ => False) rfl rfl ?aP (fun _ hk => hk.elim) ?aF ?aO ?aB ?aS ?aL ?_; (case aP => exact k24_mkM _ _ _ y); (case aB => exact HB4.out); (case aF => exact (fun k hk hm => absurd (HLT.out k hm) (Nat.not_lt.2 hk))); (case aO => exact HO4.out); (case aS => exact HB4.out.size); (case aL => omega); intro v5 w5 ho5 hb5 hg5 hat5))
          have hT5 : At 116 120 123 w5 b c L4 (20 - ((xs ++ [y]).length : Int)) ((xs ++ [y]).length : Int) := HT4.out.move (fun k hk => hg5.block k (HLT.out k hk) (fun e => HO4.out.1 k e.symm hk))
          go_wp2
          go_roundw
          case rel => exact ⟨L4, xs ++ [y], i + 1, by go_num, by omega, by rw [List.length_append, List.length_singleton]; omega, ⟨hT5, HH4.out, HBS4.out⟩, ⟨ho5⟩, ⟨hb5⟩⟩
          case measure => simp [intOf]; omega
      · have hcond2 : ¬ (i : Int) < (l0.length : Int) ∨ ((i : Int) < (l0.length : Int) ∧ ¬ (i : Int) < 12) := by omega
        clear hcond
        by_cases hxe : xs.length = 0
        · rcases hcond2 with hl | ⟨hl, h12⟩
          all_goals
            go_wp2_with fail
            refine (lookasidelaw11_lives.calls true _ rfl).mono ?_
            rintro e w2 ⟨rfl, hb2⟩
            have HBz := below_step HB.out hb2
            go_wp2
            go_ret
            exact ⟨rfl, HBz⟩
        · rcases hcond2 with hl | ⟨hl, h12⟩
          all_goals
            obtain ⟨kk, hkI, hkl⟩ : ∃ kk : Nat, (m : Int) % (xs.length : Int) = (kk : Int) ∧ kk < xs.length := ⟨m % xs.length, by omega, Nat.mod_lt _ (by omega)⟩
            have hkl2 : (kk : Int) < (xs.length : Int) := by omega
            obtain ⟨X, hX, hXk⟩ : ∃ X, rd_T24 xs kk = X ∧ xs[kk]? = some X := ⟨_, rfl, by simp [rd_T24, List.getD_eq_getElem?_getD, List.getElem?_eq_getElem hkl]⟩
            obtain ⟨ad2, ead2, x0, x1, x2⟩ := at_T24 HCR.out kk (by omega) hkl2
            cases ead2
            rw [hX, Int.toNat_natCast] at x0 x1 x2
            go_wp2_with fail
            refine (lookasidelaw11_key.calls X.f0 X.f1 X.f2 X.f0 X.f1 X.f2 _ rfl).mono ?_
            rintro e w2 ⟨rfl, hb2⟩
            obtain ⟨hT, hH, hbase⟩ := HT.out
            have hgX := hH.gk X (List.mem_of_getElem? hXk)
            have hcL : cN X N < L.length := by rw [hH.len]; exact cN_lt X hN0
            obtain ⟨l, hll⟩ : ∃ l, L[cN X N]? = some l := ⟨_, List.getElem?_eq_getElem hcL⟩
            have hmay := hgX.may
            have hch' : ∀ M : Nat, M = N → hash_Chain.f X.f0 X.f1 X.f2 (M : Int) = some ((cN X N : Nat) : Int) := fun M hM => by rw [hM]; exact hgX.ch hN0 (by omega)
            have hvX := hH.yes kk X l hXk hll
            have hlt : pos (k3 X) l < l.length := (val_some hvX).elim fun h _ => h
            have hT2 := hT.below hb2
            have hB2 := below_step HB.out hb2
            have ho2 := Kd.R_below HO.out hb2
            have hLN := hH.len
            have hnd := hH.nd l (List.mem_of_getElem? hll)
            have hcut := fun j z l' => hH.cut hXk hll j z l'
            have HH := Aside0.mk hH
            have HBS := Aside0.mk hbase
            have HM := Aside0.mk hmay
            have HC := Aside0.mk hch'
            have HL := Aside0.mk hll
            have HCUT := Aside0.mk hcut
            have HB2 := Aside0.mk hB2
            have HO2 := Aside0.mk ho2
            have HT2 := Aside0.mk hT2
            have HXk := Aside0.mk hXk
            have HX := Aside0.mk hX
            clear hT hH hbase hgX hmay hch' hvX hll hcut hB2 ho2 hT2 hXk hX HB HO HT HCR x0 x1 x2 hb2
            go_wp2_with fail
            refine (cut_ok w2 b c L _ _ HT2.out X.f0 X.f1 X.f2 (cN X N) l HL.out HM.out (HC.out _ hLN) hlt (by omega) (by omega) (by omega) (by omega)).mono ?_
            rintro e w3 ⟨rfl, hT3, hM3⟩
            have hL3 : (L.set (cN X N) (l.eraseIdx (pos (k3 X) l)))[cN X N]? = some (l.eraseIdx (pos (k3 X) l)) := List.getElem?_set_self hcL
            have hLN3 : (L.set (cN X N) (l.eraseIdx (pos (k3 X) l))).length = N := by rw [List.length_set]; exact hLN
            have hsub : ∀ k ∈ ids b c (L.set (cN X N) (l.eraseIdx (pos (k3 X) l))), k ∈ ids b c L := fun k hk => by
              rcases ids_set hk with hk | hk
              · exact hk
              · obtain ⟨m', hm', rfl⟩ := List.mem_map.1 hk
                exact mem_ids HL.out (List.mem_of_mem_eraseIdx hm')
            have ho3 := own_mv HO2.out hM3 (fun k hk => Or.inl (hsub k hk))
            have hB3 := Below.trans HB2.out (hM3.below HB2.out.size HBS.out)
            have hv3 : val (k3 X) (l.eraseIdx (pos (k3 X) l)) = none := val_erase_self l hnd
            have hT3' : At 116 120 123 w3 b c (L.set (cN X N) (l.eraseIdx (pos (k3 X) l))) (20 - (xs.length : Int) + 1) ((xs.length : Int) - 1) := hT3
            clear hT3 hM3 hsub hlt hnd
            generalize L.set (cN X N) (l.eraseIdx (pos (k3 X) l)) = L3 at *
            generalize l.eraseIdx (pos (k3 X) l) = l3 at *
            obtain ⟨A3, c3, he3, hc3, hcr3⟩ := Kd.R_reads ho3
            injection he3 with he3 _ he3'
            subst he3 he3'
            obtain ⟨ad3, ead3, x0, x1, x2⟩ := at_T24 hcr3 kk (by omega) hkl2
            cases ead3
            rw [HX.out, Int.toNat_natCast] at x0 x1 x2
            have hlt3 : ¬ pos (k3 X) l3 < l3.length := by rw [val_none hv3]; omega
            have HT3 := Aside0.mk hT3'
            have HB3 := Aside0.mk hB3
            have HO3 := Aside0.mk ho3
            have HL3 := Aside0.mk hL3
            clear hT3' hB3 ho3 hL3 hv3 hcr3 HB2 HO2 HT2
            go_wp2_with fail
            refine (lookasidelaw11_key.calls X.f0 X.f1 X.f2 X.f0 X.f1 X.f2 _ rfl).mono ?_
            rintro e w4 ⟨rfl, hb4⟩
            go_wp2_with fail
            refine (cut_none w4 b c L3 _ _ (HT3.out.below hb4) X.f0 X.f1 X.f2 (cN X N) l3 HL3.out HM.out (HC.out _ hLN3) hlt3).mono ?_
            rintro e w5 ⟨rfl, hb5⟩
            replace x0 := pw_cell_below hb5 (pw_cell_below hb4 x0)
            replace x1 := pw_cell_below hb5 (pw_cell_below hb4 x1)
            replace x2 := pw_cell_below hb5 (pw_cell_below hb4 x2)
            have hb45 := below_step hb4 hb5
            clear hb4 hb5
            go_wp2_with fail
            refine (lookasidelaw11_key.calls X.f0 X.f1 X.f2 X.f0 X.f1 X.f2 _ rfl).mono ?_
            rintro e w6 ⟨rfl, hb6⟩
            have hb46 := below_step hb45 hb6
            clear hb45 hb6
            go_wp2_with fail
            refine (set_none w6 b c L3 _ _ (HT3.out.below hb46) X.f0 X.f1 X.f2 5 (cN X N) l3 HL3.out HM.out (HC.out _ hLN3) hlt3).mono ?_
            rintro e w7 ⟨rfl, hb7⟩
            have hb47 := below_step hb46 hb7
            have HT7 := Aside0.mk (HT3.out.below hb47)
            have HB7 := Aside0.mk (below_step HB3.out hb47)
            have HO7 := Aside0.mk (Kd.R_below HO3.out hb47)
            clear hb46 hb7 hb47 x0 x1 x2 HT3 HB3 HO3
            clear hl
            try clear h12
            go_wp2_with fail
            go_loopw [12] (fun iv wr => ∃ i2 : Nat, iv = .int .i64 i2 ∧ i2 ≤ xs.length ∧ Aside0 (At 116 120 123 wr b c L3 (20 - (xs.length : Int) + 1) ((xs.length : Int) - 1)) ∧
              Aside0 (Kd.R k24 24 wr w.heap.size (fun k => k ∉ ids b c L3) (.slice (some ad2) xs.length cc) xs) ∧ Aside0 (Below w.heap.size w wr)) (fun iv _ => xs.length - (intOf iv).toNat)
            case atStart => exact ⟨0, rfl, by omega, HT7, HO7, HB7⟩
            case round =>
              clear HT7 HO7 HB7
              obtain ⟨i2, rfl, hi2, HT7, HO7, HB7⟩ := hrel
              by_cases hlt : (i2 : Int) < (xs.length : Int)
              · have hlt' : i2 < xs.length := by omega
                obtain ⟨Z, hZ, hZk⟩ : ∃ Z, rd_T24 xs i2 = Z ∧ xs[i2]? = some Z := ⟨_, rfl, by simp [rd_T24, List.getD_eq_getElem?_getD, List.getElem?_eq_getElem hlt']⟩
                obtain ⟨A3, c3, he3, hc3, hcr3⟩ := Kd.R_reads HO7.out
                injection he3 with he3 _ he3'
                subst he3 he3'
                obtain ⟨ad3, ead3, x0, x1, x2⟩ := at_T24 hcr3 i2 (by omega) hlt
                cases ead3
                rw [hZ, Int.toNat_natCast] at x0 x1 x2
                have hgZ := HH.out.gk Z (List.mem_of_getElem? hZk)
                have hcZ : cN Z N < L3.length := by rw [hLN3]; exact cN_lt Z hN0
                obtain ⟨l', hll'⟩ : ∃ l', L3[cN Z N]? = some l' := ⟨_, List.getElem?_eq_getElem hcZ⟩
                have hvZ := HCUT.out i2 Z l' hZk hll'
                have hmZ := Aside0.mk hgZ.may
                have hcZ' : hash_Chain.f Z.f0 Z.f1 Z.f2 (L3.length : Int) = some ((cN Z N : Nat) : Int) := by rw [hLN3]; exact hgZ.ch hN0 (by omega)
                have HcZ := Aside0.mk hcZ'
                have HlZ := Aside0.mk hll'
                have HvZ := Aside0.mk hvZ
                clear hgZ hcZ hll' hvZ hcZ' hZ hZk hcr3
                go_wp2_with fail
                refine (lookasidelaw11_key.calls Z.f0 Z.f1 Z.f2 Z.f0 Z.f1 Z.f2 _ rfl).mono ?_
                rintro e w8 ⟨rfl, hb8⟩
                go_wp2_with fail
                refine (get_yes w8 b c L3 _ _ (HT7.out.below hb8) Z.f0 Z.f1 Z.f2 (cN Z N) l' HlZ.out hmZ.out HcZ.out).mono ?_
                rintro e w9 ⟨rfl, hb9⟩
                have hb79 := below_step hb8 hb9
                have HT9 := Aside0.mk (HT7.out.below hb79)
                have HB9 := Aside0.mk (below_step HB7.out hb79)
                have HO9 := Aside0.mk (Kd.R_below HO7.out hb79)
                clear hb8 hb9 hb79 x0 x1 x2 HT7 HB7 HO7
                by_cases hik : i2 = kk
                · have hv := HvZ.out
                  rw [if_pos hik] at hv
                  rw [show getN (Z.f0, Z.f1, Z.f2) l' = (0, l'.length, false) from getN_none hv]
                  clear hv
                  subst hik
                  go_wp2
                  go_roundw
                  case rel => exact ⟨i2 + 1, by go_num, by omega, HT9, HO9, HB9⟩
                  case measure => simp [intOf]; omega
                · have hv := HvZ.out
                  rw [if_neg hik] at hv
                  rw [show getN (Z.f0, Z.f1, Z.f2) l' = ((i2 : Int), pos (k3 Z) l' + 1, true) from getN_some hv]
                  clear hv
                  have hik2 : ((i2 : Int) != (kk : Int)) = true := by rw [bne_iff_ne]; omega
                  go_wp2
                  all_goals
                    go_roundw
                    case rel => exact ⟨i2 + 1, by go_num, by omega, HT9, HO9, HB9⟩
                    case measure => simp [intOf]; omega
              · have hi2e : i2 = xs.length := by omega
                go_wp2_with fail
                refine (len_calls _ b c L3 _ _ HT7.out).mono ?_
                rintro e w8 ⟨rfl, rfl⟩
                go_wp2_with fail
                refine (free_calls _ b c L3 _ _ HT7.out).mono ?_
                rintro e w9 ⟨rfl, rfl⟩
                have hfr : ((20 - (xs.length : Int) + 1) == (21 - (xs.length : Int))) = true := by rw [beq_iff_eq]; omega
                go_wp2_with fail
                refine (lookasidelaw11_lives.calls true _ rfl).mono ?_
                rintro e w10 ⟨rfl, hb10⟩
                have HBz := below_step HB7.out hb10
                go_wp2
                go_ret
                exact ⟨rfl, HBz⟩
end Go.Proofs.Ytgmdlndiilibpaa.PH

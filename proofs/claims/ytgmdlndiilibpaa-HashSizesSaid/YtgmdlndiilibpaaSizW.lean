/- HashSizes: the walk. -/
import Derived.Test.YtgmdlndiilibpaaSizP
import Derived.Test.YtgmdlndiilibpaaTab
import Derived.Test.YtgmdlndiilibpaaPHx6
import Derived.Deep.DeepCutAuto
import Derived.Deep.Light
namespace Go.Proofs.Ytgmdlndiilibpaa.PH
open Go.RowKit Go.Proofs.YtgmdlndiilibpaaW.PrintWords Go.Proofs.YtgmdlndiilibpaaW.PrintLast Go.Proofs.YtgmdlndiilibpaaW.PrintMore Go.Proofs.Ytgmdlndiilibpaa.Tab
attribute [local go_sem] max2_int min2_int max_two min_two max_three min_three max_four min_four   -- for this text's walks alone
set_option linter.unusedVariables false
set_option linter.unusedSimpArgs false
open Go.Proofs.Ytgmdlndiilibpaa.KeyG
attribute [local go_sem high] eqA27
theorem le_fmax : ∀ (l : List Nat) (a : Nat), a ≤ l.foldl max a ∧ ∀ x ∈ l, x ≤ l.foldl max a
  | [], a => ⟨Nat.le_refl _, fun x hx => by cases hx⟩
  | y :: l, a => by
    obtain ⟨h1, h2⟩ := le_fmax l (max a y)
    refine ⟨Nat.le_trans (Nat.le_max_left _ _) h1, fun x hx => ?_⟩
    rcases List.mem_cons.1 hx with rfl | hx
    · exact Nat.le_trans (Nat.le_max_right _ _) h1
    · exact h2 x hx
theorem longL_ge {L : List (List Nd)} {l : List Nd} (h : l ∈ L) : l.length ≤ longL L L.length := by
  unfold longL
  rw [List.take_length]
  exact (le_fmax _ 0).2 _ (List.mem_map_of_mem h)
theorem longL_le {L : List (List Nd)} {K : Nat} (h : ∀ l ∈ L, l.length ≤ K) : longL L L.length ≤ K := by
  unfold longL
  rw [List.take_length]
  refine foldl_max_le (Nat.zero_le _) (fun x hx => ?_)
  obtain ⟨l, hl, rfl⟩ := List.mem_map.1 hx
  exact h l hl
theorem neg_nn {n : Int} (hn : -9223372036854775808 ≤ n ∧ n ≤ 9223372036854775807) : (n < 0 → ∃ q : Nat, -(n + 1) = (q : Int)) ∧ (¬ n < 0 → ∃ q : Nat, n = (q : Int)) :=
  ⟨fun h => ⟨(-(n + 1)).toNat, by omega⟩, fun h => ⟨n.toNat, by omega⟩⟩
theorem forty (q : Nat) : ∃ N : Nat, 1 ≤ N ∧ N ≤ 40 ∧ 1 + (q : Int) % 40 = (N : Int) := ⟨1 + q % 40, by omega, by omega, by omega⟩
/-- The state of HashSizes' first loop. -/
structure SzS (w : World) (b c N : Nat) (ov : Value) (wr : World) (L : List (List Nd)) (xs : List S24) : Prop where
  hT : At 116 120 123 wr b c L (20 - (xs.length : Int)) xs.length
  hH : Has N L xs
  hb : ∀ k ∈ ids b c L, w.heap.size ≤ k
  hp : PF L xs
  ho : Kd.R k24 24 wr w.heap.size (fun k => k ∉ ids b c L) ov xs
  hw : Below w.heap.size w wr
set_option maxHeartbeats 8000000 in
set_option maxRecDepth 100000 in
theorem sizes_calls (w : World) (A0 : Option Addr) (c0 : Nat) (l0 : List S24) (a1 a2 : Int) (hr0 : Kd.C k24 w A0 l0.length l0) (hc0 : l0.length ≤ c0) (hok : ∀ x ∈ l0, Ok24 x)
    (hn : -9223372036854775808 ≤ a1 ∧ a1 ≤ 9223372036854775807) (hm : -9223372036854775808 ≤ a2 ∧ a2 ≤ 9223372036854775807) :
    Calls Try.prog 12 #[.slice A0 l0.length c0, .int .i64 a1, .int .i64 a2] w fun e w' => e = .returned (.bool true) ∧ Below w.heap.size w w' := by
  have HR0 := Aside0.mk hr0
  have HC0 := Aside0.mk hc0
  have HOK := Aside0.mk hok
  clear hr0 hc0 hok
  go_enter Try.func12, Try.ntmps12
  go_upto_if 16 with fail
  go_cut [1] (fun v wx => (∃ q : Nat, v = .int .i64 q) ∧ wx = w)
  case first =>
    by_cases h1 : a1 < 0
    · have d1 : decide (a1 < 0) = true := decide_eq_true h1
      obtain ⟨q, hq⟩ := (neg_nn hn).1 h1
      have HQ := Aside0.mk hq
      clear hq
      go_wp2
      go_meet
      case rel => exact ⟨⟨q, by rw [HQ.out]⟩, rfl⟩
    · have d1 : decide (a1 < 0) = false := decide_eq_false h1
      obtain ⟨q, hq⟩ := (neg_nn hn).2 h1
      go_wp2
      go_meet
      case rel => exact ⟨⟨q, rfl⟩, rfl⟩
  case rest =>
  obtain ⟨⟨q1, rfl⟩, hw0⟩ := hcut
  replace hw0 := hw0.symm
  subst hw0
  clear hn
  go_upto_if 21 with fail
  go_cut [2] (fun v wx => (∃ q : Nat, v = .int .i64 q) ∧ wx = w)
  case first =>
    by_cases h1 : a2 < 0
    · have d1 : decide (a2 < 0) = true := decide_eq_true h1
      obtain ⟨q, hq⟩ := (neg_nn hm).1 h1
      have HQ := Aside0.mk hq
      clear hq
      go_wp2
      go_meet
      case rel => exact ⟨⟨q, by rw [HQ.out]⟩, rfl⟩
    · have d1 : decide (a2 < 0) = false := decide_eq_false h1
      obtain ⟨q, hq⟩ := (neg_nn hm).2 h1
      go_wp2
      go_meet
      case rel => exact ⟨⟨q, rfl⟩, rfl⟩
  case rest =>
  obtain ⟨⟨q2, rfl⟩, hw0⟩ := hcut
  replace hw0 := hw0.symm
  subst hw0
  clear hm
  obtain ⟨N, hN0, hN1, hN⟩ := forty q1
  have HN := Aside0.mk hN
  clear hN
  go_wp2_with fail
  rw [HN.out]
  clear HN
  refine (new_calls w 20 N N (by omega) (by omega)).mono ?_
  rintro e w1 ⟨b, c, rfl, hT1, hb1, hc1, hB1⟩
  rw [show max (20 : Int) 0 = 20 from rfl] at hT1
  have HS1 : Aside0 (SzS w b c N (.slice none 0 0) w1 (List.replicate N []) []) := ⟨⟨hT1, Has.new N, fun k hk => by simp [ids] at hk; rcases hk with rfl | rfl <;> assumption, PF.new N, Kd.R_nil _ _ _ _ _, hB1⟩⟩
  clear hT1 hb1 hc1 hB1
  go_upto_block 0 with fail
  go_cut [8, 9, 10] (fun ov iv gv wx => ∃ (L : List (List Nd)) (xs : List S24), xs.length ≤ 15 ∧ Aside0 (SzS w b c N ov wx L xs))
  case first =>
    go_wp2_with fail
    go_loopw [8, 9] (fun ov iv wr => ∃ (L : List (List Nd)) (xs : List S24) (i : Nat), iv = .int .i64 i ∧ i ≤ 15 ∧ xs.length ≤ i ∧ Aside0 (SzS w b c N ov wr L xs)) (fun _ iv _ => 15 - (intOf iv).toNat)
    case atStart => exact ⟨_, [], 0, rfl, by omega, by simp, HS1⟩
    case round =>
      clear HS1
      obtain ⟨L, xs, i, rfl, hi, hxi, HS⟩ := hrel
      obtain ⟨A, cc, hov, hcc, hcr⟩ := Kd.R_reads HS.out.ho
      have HCR := Aside0.mk hcr
      clear hcr
      subst hov
      by_cases hcond : (i : Int) < (l0.length : Int) ∧ (i : Int) < 15
      · obtain ⟨hl, h12⟩ := hcond
        have hl' : i < l0.length := by omega
        obtain ⟨ad, ead, x0, x1, x2⟩ := at_T24 HR0.out i (by omega) hl
        cases ead
        replace x0 := (HS.out.hw.cell (World.block_lt_of_cell? w _ x0)).trans x0
        replace x1 := (HS.out.hw.cell (World.block_lt_of_cell? w _ x1)).trans x1
        replace x2 := (HS.out.hw.cell (World.block_lt_of_cell? w _ x2)).trans x2
        obtain ⟨x, hx, hgx⟩ : ∃ x, rd_T24 l0 i = x ∧ Ok24 x := by
          refine ⟨_, rfl, HOK.out _ ?_⟩
          simp [rd_T24, List.getD_eq_getElem?_getD, List.getElem?_eq_getElem hl', List.getElem_mem]
        rw [hx] at x0 x1 x2
        rw [Int.toNat_natCast] at x0 x1 x2
        clear hx
        obtain ⟨y, hy, hgy⟩ := good24 hgx
        have HY := Aside0.mk hy
        have HG := Aside0.mk hgy
        clear hy hgy hgx
        go_wp2_with fail
        refine (lookasideref11_Good.calls _ _ _ _ _ _ _ HY.out).mono ?_
        rintro e w2 ⟨rfl, hb2⟩
        go_wp2_with fail
        refine (lookasidelaw11_key.calls y.f0 y.f1 y.f2 y.f0 y.f1 y.f2 _ rfl).mono ?_
        rintro e w3 ⟨rfl, hb3⟩
        have hg3 : w3.heap[w2.heap.size]? = some (.cells #[.int .i64 y.f0, .int .u64 y.f1, .int .i64 y.f2] 24 (0, 0)) := (hb3.block _ (by simp)).trans (heap_alloc_new w2 _)
        have hgge : wr.heap.size ≤ w2.heap.size := hb2.size
        have hB3 : Below wr.heap.size wr w3 := below_then hb2 hb2.size (box_below hb3)
        have hlt3 : w2.heap.size < w3.heap.size := Nat.lt_of_lt_of_le (by simp) hb3.size
        generalize w2.heap.size = g0 at *
        have hT := HS.out.hT
        have hH := HS.out.hH
        have hbase := HS.out.hb
        have HB := Aside0.mk HS.out.hw
        have HPF := Aside0.mk HS.out.hp
        have hcL : cN y N < L.length := by rw [hH.len]; exact cN_lt y hN0
        obtain ⟨l, hll⟩ : ∃ l, L[cN y N]? = some l := ⟨_, List.getElem?_eq_getElem hcL⟩
        have hmay := HG.out.may
        have hch' : hash_Chain.f y.f0 y.f1 y.f2 (L.length : Int) = some ((cN y N : Nat) : Int) := by rw [hH.len]; exact HG.out.ch hN0 (by omega)
        have hT3 := hT.below hB3
        have hsz3 := hB3.size
        have hB0 := below_then HB.out HB.out.size hB3
        have ho3 := Kd.R_below HS.out.ho hB3
        have hgn : g0 ∉ ids b c L := fun hm => by have := hT.lt _ hm; omega
        clear hb2 hb3 hB3 x0 x1 x2
        have HT3 := Aside0.mk hT3
        have HH := Aside0.mk hH
        have HBS := Aside0.mk hbase
        have HB0 := Aside0.mk hB0
        have HO3 := Aside0.mk ho3
        have HM := Aside0.mk hmay
        have HC := Aside0.mk hch'
        have HL := Aside0.mk hll
        have HG3 := Aside0.mk hg3
        have HGN := Aside0.mk hgn
        clear hT hH hbase hT3 hB0 ho3 hmay hch' hll hg3 hgn HS HB HCR
        go_wp2_with fail
        by_cases hyx : y ∈ xs
        · obtain ⟨j, hjl, hj⟩ := List.getElem_of_mem hyx
          have hv := HH.out.yes j y l (by rw [List.getElem?_eq_getElem hjl, hj]) HL.out
          have hlt : pos (k3 y) l < l.length := (val_some hv).elim fun h _ => h
          refine (put_exist w3 b c L _ _ HT3.out y.f0 y.f1 y.f2 xs.length (cN y N) l HL.out HM.out HC.out hlt).mono ?_
          rintro e w4 ⟨rfl, hb4⟩
          clear hlt hv hj
          have HBx := Aside0.mk (below_step HB0.out hb4)
          have HTx := Aside0.mk (HT3.out.below hb4)
          have HOx := Aside0.mk (Kd.R_below HO3.out hb4)
          clear hb4
          go_wp2
          go_roundw
          case rel => exact ⟨L, xs, i + 1, by go_num, by omega, by omega, ⟨⟨HTx.out, HH.out, HBS.out, HPF.out, HOx.out, HBx.out⟩⟩⟩
          case measure => simp [intOf]; omega
        · have hv := HH.out.no y l HG.out hyx HL.out
          have hlt : ¬ pos (k3 y) l < l.length := by rw [val_none hv]; omega
          have hfl := HH.out.few l (List.mem_of_getElem? HL.out)
          refine (put_ok w3 b c L _ _ HT3.out y.f0 y.f1 y.f2 xs.length (cN y N) l HL.out HM.out HC.out hlt (by omega) (by omega) (by omega) (by omega) (by omega)).mono ?_
          rintro e w4 ⟨rfl, g, hg, hT4, hM4⟩
          clear hlt hv
          have hg4 := (hM4.block g0 hlt3 HGN.out).trans HG3.out
          have hsub : ∀ k ∈ ids b c (L.set (cN y N) (⟨g, y.f0, y.f1, y.f2, (xs.length : Int)⟩ :: l)), k ∈ ids b c L ∨ w3.heap.size ≤ k := fun k hk => by
            rcases ids_set hk with hk | hk
            · exact Or.inl hk
            · rw [List.map_cons, List.mem_cons] at hk
              rcases hk with rfl | hk
              · exact Or.inr hg
              · obtain ⟨m', hm', rfl⟩ := List.mem_map.1 hk
                exact Or.inl (mem_ids HL.out hm')
          have ho4 := own_mv HO3.out hM4 hsub
          have hB4 := Below.trans HB0.out (hM4.below HB0.out.size HBS.out)
          have hbs4 : ∀ k ∈ ids b c (L.set (cN y N) (⟨g, y.f0, y.f1, y.f2, (xs.length : Int)⟩ :: l)), w.heap.size ≤ k := fun k hk => (hsub k hk).elim (HBS.out k) (fun h => Nat.le_trans HB0.out.size h)
          have hH4 := HH.out.push HG.out hyx HL.out g
          have hp4 := HPF.out.push (g := g) y HL.out
          generalize L.set (cN y N) (⟨g, y.f0, y.f1, y.f2, (xs.length : Int)⟩ :: l) = L4 at *
          have e1 : (20 - (xs.length : Int)) - 1 = 20 - ((xs ++ [y]).length : Int) := by rw [List.length_append, List.length_singleton]; omega
          have e2 : (xs.length : Int) + 1 = ((xs ++ [y]).length : Int) := by rw [List.length_append, List.length_singleton]; omega
          rw [e1, e2] at hT4
          have y0 : w4.cell? ⟨g0, 0, none⟩ = some (.int .i64 y.f0) := by rw [Lib.cell_of_heap hg4]; rfl
          have y1 : w4.cell? ⟨g0, 1, none⟩ = some (.int .u64 y.f1) := by rw [Lib.cell_of_heap hg4]; rfl
          have y2 : w4.cell? ⟨g0, 2, none⟩ = some (.int .i64 y.f2) := by rw [Lib.cell_of_heap hg4]; rfl
          have hTlt := hT4.lt
          have HT4 := Aside0.mk hT4
          have HO4 := Aside0.mk ho4
          have HB4 := Aside0.mk hB4
          have HBS4 := Aside0.mk hbs4
          have HH4 := Aside0.mk hH4
          have HLT := Aside0.mk hTlt
          have HP4 := Aside0.mk hp4
          clear hp4 hT4 ho4 hB4 hbs4 hH4 hM4 hsub hg4 hTlt e1 e2
          go_wp2_with (first | ((with_reducible refine gate_builtin (b := .append) (xs := #[.tmp 53, .tmp 55]) rfl ?_); at_builtin; refine Kd.R_append k24 (w0 := w) w.heap.size rfl (.tmp 53) (.tmp 55) 57 24 (.agg #[(.int .i64 0), (.int .u64 0), (.int .i64 0)]) 24 rfl Try.underlying57 info24 rfl (by decide) (by omega) (.slice A xs.length cc) xs y [.int .i64 y.f0, .int .u64 y.f1, .int .i64 y.f2] (fun k => k ∉ ids b c L4) (fun _ => False) rfl rfl ?aP (fun _ hk => hk.elim) ?aF ?aO ?aB ?aS ?aL ?_; (case aP => exact k24_mkM _ _ _ y); (case aB => exact HB4.out); (case aF => exact (fun k hk hm => absurd (HLT.out k hm) (Nat.not_lt.2 hk))); (case aO => exact HO4.out); (case aS => exact HB4.out.size); (case aL => omega); intro v5 w5 ho5 hb5 hg5 hat5))
          have hT5 : At 116 120 123 w5 b c L4 (20 - ((xs ++ [y]).length : Int)) ((xs ++ [y]).length : Int) := HT4.out.move (fun k hk => hg5.block k (HLT.out k hk) (fun e => HO4.out.1 k e.symm hk))
          go_wp2
          go_roundw
          case rel => exact ⟨L4, xs ++ [y], i + 1, by go_num, by omega, by rw [List.length_append, List.length_singleton]; omega, ⟨⟨hT5, HH4.out, HBS4.out, HP4.out, ho5, hb5⟩⟩⟩
          case measure => simp [intOf]; omega
      · have hcond2 : ¬ (i : Int) < (l0.length : Int) ∨ ((i : Int) < (l0.length : Int) ∧ ¬ (i : Int) < 15) := by omega
        clear hcond
        rcases hcond2 with hl | ⟨hl, h12⟩
        all_goals
          go_wp2
          go_meet
          case rel => exact ⟨L, xs, by omega, HS⟩
  case rest =>
  obtain ⟨L, xs, hx15, HS⟩ := hcut
  clear HS1
  obtain ⟨A, cc, hov, hcc, hcr⟩ := Kd.R_reads HS.out.ho
  subst hov
  clear hcr
  obtain ⟨N2, hM0, hM1, hM⟩ := forty q2
  have HM := Aside0.mk hM
  clear hM
  go_wp2_with fail
  rw [HM.out]
  have hbs : w.heap.size ≤ wc.heap.size := HS.out.hw.size
  refine (resize_calls wc b c L _ _ HS.out.hT (by rw [HS.out.hp.len]; omega) N2 hM0 (by omega) (chK N2) (HS.out.hp.ch HS.out.hH.gk hM0 (by omega))).mono ?_
  rintro e w2 ⟨rfl, c', L', hr, hA, hid, hMv⟩
  have h2 : Has N2 L' xs := has_redo HS.out.hH HS.out.hp hN0 hM0 hr
  have ho2 : Kd.R k24 24 w2 w.heap.size (fun k => k ∉ ids b c' L') (.slice A xs.length cc) xs := own_mv HS.out.ho (mv_of1 hMv (show b ∈ ids b c L by simp [ids])) (fun k hk => (hid k hk).elim (fun e => .inl (by rw [e]; simp [ids])) .inr)
  have hw2 : Below w.heap.size w w2 := HS.out.hw.trans (hMv.below hbs (fun k hk => by rw [List.mem_singleton.1 hk]; exact HS.out.hb b (by simp [ids])))
  have hLN : (L'.length : Int) = (N2 : Int) := by rw [h2.len]
  have HLN := Aside0.mk hLN
  have HA := Aside0.mk hA
  have H2 := Aside0.mk h2
  have HO := Aside0.mk ho2
  have HB := Aside0.mk hw2
  clear hr hA hid hMv h2 ho2 hw2 HS hbs hLN
  go_wp2_with fail
  refine (chains_calls w2 b c' L' _ _ HA.out).mono ?_
  rintro e w3 ⟨rfl, hw3⟩
  replace hw3 := hw3.symm
  subst hw3
  rw [HLN.out]
  have hne : ((N2 : Int) != 1 + (q2 : Int) % 40) = false := by rw [HM.out]; simp
  go_wp2_with fail
  refine (len_calls w3 b c' L' _ _ HA.out).mono ?_
  rintro e w4 ⟨rfl, hw4⟩
  replace hw4 := hw4.symm
  subst hw4
  clear hne HM
  go_wp2_with fail
  go_loopw [11] (fun iv wr => ∃ i2 : Nat, iv = .int .i64 i2 ∧ i2 ≤ xs.length ∧ Aside0 (At 116 120 123 wr b c' L' (20 - (xs.length : Int)) (xs.length : Int)) ∧
    Aside0 (Kd.R k24 24 wr w.heap.size (fun k => k ∉ ids b c' L') (.slice A xs.length cc) xs) ∧ Aside0 (Below w.heap.size w wr)) (fun iv _ => xs.length - (intOf iv).toNat)
  case atStart => exact ⟨0, rfl, by omega, HA, HO, HB⟩
  case round =>
    clear HA HO HB
    obtain ⟨i2, rfl, hi2, HA, HO, HB⟩ := hrel
    by_cases hlt : (i2 : Int) < (xs.length : Int)
    · have hlt' : i2 < xs.length := by omega
      obtain ⟨Z, hZ, hZk⟩ : ∃ Z, rd_T24 xs i2 = Z ∧ xs[i2]? = some Z := ⟨_, rfl, by simp [rd_T24, List.getD_eq_getElem?_getD, List.getElem?_eq_getElem hlt']⟩
      obtain ⟨A3, c3, he3, hc3, hcr3⟩ := Kd.R_reads HO.out
      injection he3 with he3 _ he3'
      subst he3 he3'
      obtain ⟨ad3, ead3, x0, x1, x2⟩ := at_T24 hcr3 i2 (by omega) hlt
      cases ead3
      rw [hZ, Int.toNat_natCast] at x0 x1 x2
      have hgZ := H2.out.gk Z (List.mem_of_getElem? hZk)
      have hcZ : cN Z N2 < L'.length := by rw [H2.out.len]; exact cN_lt Z hM0
      obtain ⟨l', hll'⟩ : ∃ l', L'[cN Z N2]? = some l' := ⟨_, List.getElem?_eq_getElem hcZ⟩
      have hvZ := H2.out.yes i2 Z l' hZk hll'
      have hpl : pos (k3 Z) l' < l'.length := (val_some hvZ).elim fun h _ => h
      have hlG := longL_ge (List.mem_of_getElem? hll')
      have hGx := longL_le H2.out.few
      have hmZ := Aside0.mk hgZ.may
      have hcZ' : hash_Chain.f Z.f0 Z.f1 Z.f2 (L'.length : Int) = some ((cN Z N2 : Nat) : Int) := by rw [H2.out.len]; exact hgZ.ch hM0 (by omega)
      have HcZ := Aside0.mk hcZ'
      have HlZ := Aside0.mk hll'
      have HvZ := Aside0.mk hvZ
      obtain ⟨P, hP⟩ : ∃ P, pos (k3 Z) l' = P := ⟨_, rfl⟩
      obtain ⟨G, hG⟩ : ∃ G, longL L' L'.length = G := ⟨_, rfl⟩
      rw [hP] at hpl
      rw [hG] at hlG hGx
      have hPG : P + 1 ≤ G := by omega
      have HP := Aside0.mk hP
      have HG := Aside0.mk hG
      clear hgZ hcZ hll' hvZ hcZ' hZ hZk hcr3 hlG hpl hP hG
      go_wp2_with fail
      refine (lookasidelaw11_key.calls Z.f0 Z.f1 Z.f2 Z.f0 Z.f1 Z.f2 _ rfl).mono ?_
      rintro e w8 ⟨rfl, hb8⟩
      go_wp2_with fail
      refine (get_yes w8 b c' L' _ _ (HA.out.below hb8) Z.f0 Z.f1 Z.f2 (cN Z N2) l' HlZ.out hmZ.out HcZ.out).mono ?_
      rintro e w9 ⟨rfl, hb9⟩
      have hb79 := below_step hb8 hb9
      have hA9 := HA.out.below hb79
      have HB9 := Aside0.mk (below_step HB.out hb79)
      have HO9 := Aside0.mk (Kd.R_below HO.out hb79)
      rw [show getN (Z.f0, Z.f1, Z.f2) l' = ((i2 : Int), pos (k3 Z) l' + 1, true) from getN_some HvZ.out, HP.out]
      have HA9 := Aside0.mk hA9
      clear hb8 hb9 hb79 x0 x1 x2 HA HB HO hA9
      have hp1 : decide ((P : Int) + 1 < 1) = false := by simp; omega
      have hp2 : decide ((P : Int) + 1 > (G : Int)) = false := by simp; omega
      have hp3 : decide (((G : Nat) : Int) > (xs.length : Int)) = false := by simp; omega
      go_wp2_with fail
      refine (longest_calls w9 b c' L' _ _ HA9.out).mono ?_
      rintro e w10 ⟨rfl, hb10⟩
      rw [HG.out]
      go_wp2_with fail
      refine (longest_calls w10 b c' L' _ _ (HA9.out.below hb10)).mono ?_
      rintro e w11 ⟨rfl, hb11⟩
      rw [HG.out]
      have hb12 := below_step hb10 hb11
      have HA12 := Aside0.mk (HA9.out.below hb12)
      have HB12 := Aside0.mk (below_step HB9.out hb12)
      have HO12 := Aside0.mk (Kd.R_below HO9.out hb12)
      clear hb10 hb11 hb12 HA9 HB9 HO9
      go_wp2
      go_roundw
      case rel => exact ⟨i2 + 1, by go_num, by omega, HA12, HO12, HB12⟩
      case measure => simp [intOf]; omega
    · have hi2e : i2 = xs.length := by omega
      go_wp2_with fail
      refine (lookasidelaw11_lives.calls true _ rfl).mono ?_
      rintro e w2 ⟨rfl, hb2⟩
      have HBz := below_step HB.out hb2
      go_wp2
      go_ret
      exact ⟨rfl, HBz⟩
end Go.Proofs.Ytgmdlndiilibpaa.PH


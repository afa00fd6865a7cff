/- HashAll's walk: the table, the document's table, and all. -/
import Derived.Test.YtgmdlndiilibpaaTab
import Derived.Test.YtgmdlndiilibpaaTabK
import Derived.Test.YtgmdlndiilibpaaPHx6
import Derived.Test.YtgmdlndiilibpaaRefV
namespace Go.Proofs.Ytgmdlndiilibpaa.PH
open Go.RowKit Go.Proofs.YtgmdlndiilibpaaW.PrintWords Go.Proofs.YtgmdlndiilibpaaW.PrintLast Go.Proofs.YtgmdlndiilibpaaW.PrintMore Go.Proofs.Ytgmdlndiilibpaa.Tab
attribute [local go_sem] max2_int min2_int max_two min_two max_three min_three max_four min_four   -- for this text's walks alone
set_option linter.unusedVariables false
set_option linter.unusedSimpArgs false
open Go.Proofs.Ytgmdlndiilibpaa.KeyG
attribute [local go_sem high] eqA27
theorem tmod20 (a : Int) : -20 < Int.tmod a 20 ∧ Int.tmod a 20 < 20 := by
  rcases Int.le_total 0 a with h | h
  · obtain ⟨n, rfl⟩ := Int.eq_ofNat_of_zero_le h
    have e : Int.tmod (n : Int) 20 = ((n % 20 : Nat) : Int) := tmod_nat n 20
    omega
  · obtain ⟨n, hn⟩ := Int.eq_ofNat_of_zero_le (show 0 ≤ -a by omega)
    obtain rfl : a = -(n : Int) := by omega
    have e : Int.tmod (n : Int) 20 = ((n % 20 : Nat) : Int) := tmod_nat n 20
    rw [Int.neg_tmod]
    omega
/-- The document's table, as the walk has it: its place r8, its chains. -/
structure RefAt (w : World) (r8 : Nat) (bl : Int) (S : Nat → Prop) (R : List (List S128)) : Prop where
  cells : ∃ v, w.heap[r8]? = some (.cells #[.int .i64 bl, v] 71 (0, 0)) ∧ Kd.V (Kd.slice 128 k128) 76 w 0 (fun k => ¬ S k ∧ k ≠ r8) v R
  off : ¬ S r8
theorem RefAt.below {w w' : World} {r8 : Nat} {bl : Int} {S : Nat → Prop} {R : List (List S128)} (h : RefAt w r8 bl S R) (hb : Below w.heap.size w w') : RefAt w' r8 bl S R := by
  obtain ⟨v, h1, h2⟩ := h.cells
  exact ⟨⟨v, (hb.block _ (Array.getElem?_eq_some_iff.1 h1).1).trans h1, Kd.V_below h2 hb⟩, h.off⟩
/-- A writer of the program's table leaves it as it was. -/
theorem RefAt.mv {w w' : World} {r8 : Nat} {bl : Int} {l l' : List Nat} {R : List (List S128)} (h : RefAt w r8 bl (· ∈ l) R) (hm : Mv l w w') (hl : ∀ k ∈ l', k ∈ l ∨ w.heap.size ≤ k) : RefAt w' r8 bl (· ∈ l') R := by
  obtain ⟨v, h1, h2⟩ := h.cells
  have hlt := (Array.getElem?_eq_some_iff.1 h1).1
  refine ⟨⟨v, (hm.block _ hlt h.off).trans h1, ?_⟩, fun hk => (hl _ hk).elim h.off (fun h => by omega)⟩
  refine Kd.V_mono (Kd.V_map (ok' := fun k => (¬ k ∈ l ∧ k ≠ r8) ∧ k < w.heap.size) h2 (fun A hF => ?_)) (fun k hk => ⟨fun hk' => (hl k hk').elim hk.1.1 (fun h => by have := hk.2; omega), hk.1.2⟩)
  exact Kd.F_step (Kd.F_bound hF) (fun k hk hlt => hm.block k hlt hk.1.1)
theorem RefAt.get {w : World} {r8 : Nat} {bl : Int} {S : Nat → Prop} {R : List (List S128)} (h : RefAt w r8 bl S R) : ∃ A c, w.heap[r8]? = some (.cells #[.int .i64 bl, .slice A R.length c] 71 (0, 0)) ∧ R.length ≤ c ∧
    Kd.V (Kd.slice 128 k128) 76 w w.heap.size (fun k => (¬ S k ∧ k ≠ r8) ∧ k < w.heap.size) (.slice A R.length c) R := by
  obtain ⟨v, h1, h2⟩ := h.cells
  have h3 : Kd.V (Kd.slice 128 k128) 76 w w.heap.size (fun k => (¬ S k ∧ k ≠ r8) ∧ k < w.heap.size) v R := Kd.V_map h2 (fun A hF => Kd.F_bound hF)
  obtain ⟨A, c, rfl, hl, _⟩ := h2
  exact ⟨A, c, h1, hl, h3⟩
theorem RefAt.store {w : World} {r8 : Nat} {bl bl' : Int} {S : Nat → Prop} {R R' : List (List S128)} (h : RefAt w r8 bl S R) {v' : Value} {ok : Nat → Prop} {base : Nat} (hv : Kd.V (Kd.slice 128 k128) 76 w base ok v' R') (hok : ∀ k, ok k → ¬ S k ∧ k ≠ r8) :
    RefAt ((w.setCell ⟨r8, 0, none⟩ (.int .i64 bl')).setCell ⟨r8, 1, none⟩ v') r8 bl' S R' := by
  obtain ⟨v, h1, h2⟩ := h.cells
  refine ⟨⟨v', ?_, ?_⟩, h.off⟩
  · rw [heap_set_same v' (heap_set_same (.int .i64 bl') h1)]; rfl
  · refine Kd.V_map (Kd.V_far (p := ⟨r8, 1, none⟩) (Kd.V_far (p := ⟨r8, 0, none⟩) (Kd.V_mono hv hok) (fun k hk => hk.2) (.int .i64 bl')) (fun k hk => hk.2) v') (fun A h => h)
theorem set2_block {w : World} {r8 k : Nat} (hk : k ≠ r8) (u v : Value) : ((w.setCell ⟨r8, 0, none⟩ u).setCell ⟨r8, 1, none⟩ v).heap[k]? = w.heap[k]? :=
  (Below.heap_setCell _ ⟨r8, 1, none⟩ v k hk).trans (Below.heap_setCell w ⟨r8, 0, none⟩ u k hk)
set_option maxHeartbeats 8000000 in
set_option maxRecDepth 100000 in
theorem hashall_calls (w : World) (A0 : Option Addr) (c0 : Nat) (l0 : List S24) (chains most : Int) (hr0 : Kd.C k24 w A0 l0.length l0) (hc0 : l0.length ≤ c0) (hok : ∀ x ∈ l0, Ok24 x)
    (hch : -9223372036854775808 ≤ chains ∧ chains ≤ 9223372036854775807) :
    Calls Try.prog 9 #[.slice A0 l0.length c0, .int .i64 chains, .int .i64 most] w fun e w' => e = .returned (.bool true) ∧ Below w.heap.size w w' := by
  have HR0 := Aside0.mk hr0
  have HC0 := Aside0.mk hc0
  have HOK := Aside0.mk hok
  clear hr0 hc0 hok
  go_enter Try.func9, Try.ntmps9
  go_wp2_with fail
  obtain ⟨q, hq, hq1, hq2⟩ : ∃ q : Int, wrap64 (1 + Int.tmod chains 20) = q ∧ -19 ≤ q ∧ q ≤ 20 := by
    have := tmod20 chains
    refine ⟨_, rfl, ?_, ?_⟩ <;> (rw [wi _ (by omega) (by omega)]; omega)
  (try rw [hq])
  clear hq hch
  obtain ⟨N, hN, hN0, hN1⟩ : ∃ N : Nat, (N : Int) = max q 1 ∧ 0 < N ∧ N ≤ 20 := ⟨(max q 1).toNat, by omega, by omega, by omega⟩
  have HN := Aside0.mk hN
  refine (new_calls w 20 q N hN (by omega)).mono ?_
  rintro e w1 ⟨b, c, rfl, hT1, hb1, hc1, hB1⟩
  rw [show max (20 : Int) 0 = 20 from rfl] at hT1
  have HT1 := Aside0.mk hT1
  have HB1 := Aside0.mk hB1
  have hbc : ∀ k ∈ ids b c (List.replicate N []), w.heap.size ≤ k := fun k hk => by simp [ids] at hk; rcases hk with rfl | rfl <;> assumption
  have HBC := Aside0.mk hbc
  clear hN hT1 hB1 hb1 hc1 hbc
  go_wp2_with fail
  have hnew : lookasideref11_New.f 20 q = some (20, img (List.replicate N [])) := by
    have hm : mx q 1 = N := by unfold mx; have := HN.out; split <;> omega
    have hm2 : mx 20 0 = 20 := by decide
    unfold lookasideref11_New.f
    rw [hm, hm2, if_pos (by omega), if_pos (by omega), Int.toNat_natCast]
    simp [img]
  refine (lookasideref11_New.calls 20 q 20 _ w1 hnew).mono ?_
  rintro e w2 ⟨v8, rfl, hv8, hb2⟩
  have HV8 := Aside0.mk hv8
  have HT2 := Aside0.mk (HT1.out.below hb2)
  have HB2 := Aside0.mk (below_step HB1.out hb2)
  have hs12 := hb2.size
  have hlt2 : ∀ k ∈ ids b c (List.replicate N []), k < w1.heap.size := HT1.out.lt
  have HLT2 := Aside0.mk hlt2
  clear hnew hv8 hb2 HT1 HB1 hlt2
  obtain ⟨A8, c8, hv⟩ := Kd.R_slice (Kd.S_R HV8.out)
  subst hv
  go_wp2_with fail
  have hR3 : RefAt (w2.alloc (.cells #[.int .i64 20, .slice A8 (img (List.replicate N [])).length c8] 71)) w2.heap.size 20 (· ∈ ids b c (List.replicate N [])) (img (List.replicate N [])) := by
    refine ⟨⟨_, heap_alloc_new w2 _, ?_⟩, fun hk => by have := HLT2.out _ hk; omega⟩
    refine Kd.V_alloc (Kd.V_mono (ok := fun k => True ∧ w1.heap.size ≤ k ∧ k < w2.heap.size) ?_ (fun k hk => ⟨fun h => ?_, ?_⟩)) _
    · have h := Kd.R_V (base' := 0) (Kd.R_bound (Kd.S_R HV8.out))
      exact Kd.V_mono h (fun k hk => ⟨trivial, hk.2.1, hk.2.2.1⟩)
    · have := HLT2.out _ h; omega
    · omega
  have HH : ∃ (L : List (List Nd)) (W : World) (r8 : Nat), W = w2.alloc (.cells #[.int .i64 20, .slice A8 (img (List.replicate N [])).length c8] 71) ∧ r8 = w2.heap.size ∧ L.flatten.length = 0 ∧ Aside0 (At 116 120 123 W b c L (20 - ((L.flatten.length : Nat) : Int)) ((L.flatten.length : Nat) : Int) ∧ L.length = N ∧ (∀ k ∈ ids b c L, w.heap.size ≤ k)) ∧
      Aside0 (RefAt W r8 20 (· ∈ ids b c L) (img L)) ∧ Aside0 (Below w.heap.size w W) ∧ w.heap.size ≤ r8 := by
    refine ⟨List.replicate N [], _, _, rfl, rfl, by simp, ⟨?_, by simp, HBC.out⟩, ⟨hR3⟩, ⟨below_step HB2.out ((Below.refl _ w2).alloc (Nat.le_refl _) _)⟩, HB2.out.size⟩
    have := HT2.out.below ((Below.refl _ w2).alloc (Nat.le_refl _) (.cells #[.int .i64 20, .slice A8 (img (List.replicate N [])).length c8] 71))
    simpa using this
  obtain ⟨L1, W1, r8, hW1, hr8, hL1, HT3, HR3, HB3, hr8b⟩ := HH
  rw [← hW1, ← hr8]
  clear hR3 hW1 hr8 HT2 HB2 HV8 hs12 HLT2 HBC
  go_loopw [9] (fun iv wr => ∃ (L : List (List Nd)) (i : Nat), iv = .int .i64 i ∧ i ≤ 15 ∧ L.flatten.length ≤ i ∧ Aside0 (At 116 120 123 wr b c L (20 - ((L.flatten.length : Nat) : Int)) ((L.flatten.length : Nat) : Int) ∧ L.length = N ∧ (∀ k ∈ ids b c L, w.heap.size ≤ k)) ∧
      Aside0 (RefAt wr r8 20 (· ∈ ids b c L) (img L)) ∧ Aside0 (Below w.heap.size w wr)) (fun iv _ => 15 - (intOf iv).toNat)
  case atStart => exact ⟨L1, 0, rfl, by omega, by omega, HT3, HR3, HB3⟩
  case round =>
    clear HT3 HR3 HB3 hL1
    obtain ⟨L, i, rfl, hi, hki, HT, HR, HB⟩ := hrel
    by_cases hcond : (i : Int) < (l0.length : Int) ∧ (i : Int) < 15
    · obtain ⟨hl, h12⟩ := hcond
      have hl' : i < l0.length := by omega
      obtain ⟨ad, ead, x0, x1, x2⟩ := at_T24 HR0.out i (by omega) hl
      cases ead
      replace x0 := (HB.out.cell (World.block_lt_of_cell? w _ x0)).trans x0
      replace x1 := (HB.out.cell (World.block_lt_of_cell? w _ x1)).trans x1
      replace x2 := (HB.out.cell (World.block_lt_of_cell? w _ x2)).trans x2
      obtain ⟨x, hx, hgx⟩ : ∃ x, rd_T24 l0 i = x ∧ Ok24 x := by
        refine ⟨_, rfl, HOK.out _ ?_⟩
        simp [rd_T24, List.getD_eq_getElem?_getD, List.getElem?_eq_getElem hl', List.getElem_mem]
      rw [hx] at x0 x1 x2
      rw [Int.toNat_natCast] at x0 x1 x2
      clear hx
      obtain ⟨y, hy, hgy⟩ := good24 hgx
      have HY := Aside0.mk hy
      have HG := Aside0.mk hgy
      clear hy hgy hgx
      go_wp2_with fail
      refine (lookasideref11_Good.calls _ _ _ _ _ _ _ HY.out).mono ?_
      rintro e w2 ⟨rfl, hb2⟩
      obtain ⟨hT, hLN, hbase⟩ := HT.out
      have HT2 := Aside0.mk (hT.below hb2)
      have HR2 := Aside0.mk (HR.out.below hb2)
      have HB2 := Aside0.mk (below_step HB.out hb2)
      have HBS := Aside0.mk hbase
      clear hb2 hT hbase HT HB HR x0 x1 x2
      obtain ⟨A9, c9, hc8, hc9, hV9⟩ := HR2.out.get
      have z0 : w2.cell? ⟨r8, 0, none⟩ = some (.int .i64 20) := by rw [Lib.cell_of_heap hc8]; rfl
      have z1 : w2.cell? ⟨r8, 1, none⟩ = some (.slice A9 (img L).length c9) := by rw [Lib.cell_of_heap hc8]; rfl
      clear hc8
      have HV9 := Aside0.mk hV9
      clear hV9
      have hrl : r8 < w2.heap.size := World.block_lt_of_cell? w2 _ z0
      have hrne : r8 ≠ w2.heap.size := Nat.ne_of_lt hrl
      have hrne' : w2.heap.size ≠ r8 := Nat.ne_of_gt hrl
      rw [img_len] at z1
      go_wp2_with fail
      have hcL : cN y N < L.length := by rw [hLN]; exact cN_lt y hN0
      obtain ⟨l, hll⟩ : ∃ l, L[cN y N]? = some l := ⟨_, List.getElem?_eq_getElem hcL⟩
      have hl8 : l.length ≤ L.flatten.length := by rw [flat_split hll]; simp only [List.length_append]; omega
      have hrch : lookasideref11_Chain.f y.f0 y.f1 y.f2 (L.length : Int) = some ((cN y N : Nat) : Int) := by rw [hLN]; exact PH.Gk.rch HG.out hN0 (by omega)
      have hput : ∃ (R' : List (List S128)) (r3 : Int), lookasideref11_Put.f 100 20 (img L) y.f0 y.f1 y.f2 i = some (20, R', r3) ∧ (pos (y.f0, y.f1, y.f2) l < l.length → R' = img L) ∧
          (¬ pos (y.f0, y.f1, y.f2) l < l.length → ∀ g, R' = img (L.set (cN y N) (⟨g, y.f0, y.f1, y.f2, (i : Int)⟩ :: l))) := by
        by_cases hlt : pos (y.f0, y.f1, y.f2) l < l.length
        · exact ⟨_, _, put_f_exist 20 L (by omega) y i (PH.Gk.rmay HG.out) hrch hll (by omega) 100 (by omega) hlt, fun _ => rfl, fun h => absurd hlt h⟩
        · exact ⟨_, _, put_f_ok 20 L (by omega) y i (PH.Gk.rmay HG.out) hrch hll (by omega) 100 (by omega) (by omega) hlt (by omega) 0, fun h => absurd h hlt, fun _ g => by rw [← img_set, ← img_set]; rfl⟩
      obtain ⟨R', r3, hf, hR1, hR2⟩ := hput
      have HL := Aside0.mk hll
      have HF := Aside0.mk hf
      have HQ1 := Aside0.mk hR1
      have HQ2 := Aside0.mk hR2
      have HL8 := Aside0.mk hl8
      clear hll hf hR1 hR2 hrch hl8
      have hg3 : (w2.alloc (.cells #[.int .i64 y.f0, .int .u64 y.f1, .int .i64 y.f2] 24)).heap[w2.heap.size]? = some (.cells #[.int .i64 y.f0, .int .u64 y.f1, .int .i64 y.f2] 24 (0, 0)) := heap_alloc_new w2 _
      have hb23 : Below w2.heap.size w2 (w2.alloc (.cells #[.int .i64 y.f0, .int .u64 y.f1, .int .i64 y.f2] 24)) := (Below.refl _ w2).alloc (Nat.le_refl _) _
      have hV3 := Kd.V_below HV9.out hb23
      have HT3 := Aside0.mk (HT2.out.below hb23)
      have HR3 := Aside0.mk (HR2.out.below hb23)
      have HB3 := Aside0.mk (below_step HB2.out hb23)
      have hgn3 : w2.heap.size ∉ ids b c L := fun hm => Nat.lt_irrefl _ (HT2.out.lt _ hm)
      have hs3 : (w2.alloc (.cells #[.int .i64 y.f0, .int .u64 y.f1, .int .i64 y.f2] 24)).heap.size = w2.heap.size + 1 := World.size_alloc _ _
      have hwg : w.heap.size ≤ w2.heap.size := HB2.out.size
      have hid3 : ∀ k ∈ ids b c L, k < w2.heap.size := HT2.out.lt
      generalize w2.alloc (.cells #[.int .i64 y.f0, .int .u64 y.f1, .int .i64 y.f2] 24) = w3 at hg3 hb23 hV3 HT3 HR3 HB3 hs3 ⊢
      refine (calls_of_args (args' := #[.agg #[.int .i64 20, .slice A9 (img L).length c9], .agg #[.int .i64 y.f0, .int .u64 y.f1, .int .i64 y.f2], .int .i64 (i : Int)]) (by rw [img_len, hLN]) (lookasideref11_Put.calls 100 20 _ A9 c9 (img L) y.f0 y.f1 y.f2 i 20 R' r3 w3 hV3 HF.out)).mono ?_
      rintro e w4 ⟨v4, rfl, hv4, hb4⟩
      have hR4 : RefAt ((w4.setCell ⟨r8, 0, none⟩ (.int .i64 20)).setCell ⟨r8, 1, none⟩ v4) r8 20 (· ∈ ids b c L) R' :=
        (HR3.out.below hb4).store hv4 (fun k hk => by
          rcases hk with ⟨h1, h2⟩ | h
          · exact h1
          · exact ⟨fun hm => by have := hid3 k hm; omega, fun e => by omega⟩)
      obtain ⟨A4, c4, hv4'⟩ := Kd.V_slice hv4
      have hrl4 : r8 < w4.heap.size := by have := hb4.size; omega
      have hT4 : At 116 120 123 ((w4.setCell ⟨r8, 0, none⟩ (.int .i64 20)).setCell ⟨r8, 1, none⟩ v4) b c L (20 - ((L.flatten.length : Nat) : Int)) ((L.flatten.length : Nat) : Int) :=
        (HT3.out.below hb4).move (fun k hk => set2_block (fun e => by subst e; exact HR2.out.off hk) _ _)
      have hB4 : Below w.heap.size w ((w4.setCell ⟨r8, 0, none⟩ (.int .i64 20)).setCell ⟨r8, 1, none⟩ v4) :=
        ((below_step HB3.out hb4).setCell (p := ⟨r8, 0, none⟩) hr8b _).setCell (p := ⟨r8, 1, none⟩) hr8b _
      have hg4 : ((w4.setCell ⟨r8, 0, none⟩ (.int .i64 20)).setCell ⟨r8, 1, none⟩ v4).heap[w2.heap.size]? = some (.cells #[.int .i64 y.f0, .int .u64 y.f1, .int .i64 y.f2] 24 (0, 0)) :=
        (set2_block hrne' _ _).trans ((hb4.block _ (by omega)).trans hg3)
      obtain ⟨v8, hc4, _⟩ := (HR3.out.below hb4).cells
      have z0 : w4.cell? ⟨r8, 0, none⟩ = some (.int .i64 20) := by rw [Lib.cell_of_heap hc4]; rfl
      have z1 : w4.cell? ⟨r8, 1, none⟩ = some v8 := by rw [Lib.cell_of_heap hc4]; rfl
      have f0 : w4.frozen? ⟨r8, 0, none⟩ = false := by simp [World.frozen?, hc4]
      have f1 : w4.frozen? ⟨r8, 1, none⟩ = false := by simp [World.frozen?, hc4]
      have HT4 := Aside0.mk hT4
      have HR4 := Aside0.mk hR4
      have HB4 := Aside0.mk hB4
      have HG4 := Aside0.mk hg4
      have y40 : ((w4.setCell ⟨r8, 0, none⟩ (.int .i64 20)).setCell ⟨r8, 1, none⟩ v4).cell? ⟨w2.heap.size, 0, none⟩ = some (.int .i64 y.f0) := by rw [Lib.cell_of_heap hg4]; rfl
      have y41 : ((w4.setCell ⟨r8, 0, none⟩ (.int .i64 20)).setCell ⟨r8, 1, none⟩ v4).cell? ⟨w2.heap.size, 1, none⟩ = some (.int .u64 y.f1) := by rw [Lib.cell_of_heap hg4]; rfl
      have y42 : ((w4.setCell ⟨r8, 0, none⟩ (.int .i64 20)).setCell ⟨r8, 1, none⟩ v4).cell? ⟨w2.heap.size, 2, none⟩ = some (.int .i64 y.f2) := by rw [Lib.cell_of_heap hg4]; rfl
      clear hc4 hT4 hR4 hB4 hg4 hv4 hb4 hg3 hb23 hV3 HV9
      subst hv4'
      go_wp2_with fail
      generalize (w4.setCell ⟨r8, 0, none⟩ (.int .i64 20)).setCell ⟨r8, 1, none⟩ (.slice A4 R'.length c4) = w5 at HT4 HR4 HB4 HG4 y40 y41 y42 ⊢
      clear z0 z1 f0 f1
      refine (lookasidelaw11_key.calls y.f0 y.f1 y.f2 y.f0 y.f1 y.f2 _ rfl).mono ?_
      rintro e w6 ⟨rfl, hb6⟩
      have HT6 := Aside0.mk (HT4.out.below hb6)
      have HR6 := Aside0.mk (HR4.out.below hb6)
      have HB6 := Aside0.mk (below_step HB4.out hb6)
      clear hb6 HT4 HR4 HB4 HG4 y40 y41 y42 HT3 HR3 HB3 HT2 HR2 HB2
      go_wp2_with fail
      have hmay := HG.out.may
      have hch' : hash_Chain.f y.f0 y.f1 y.f2 (L.length : Int) = some ((cN y N : Nat) : Int) := by rw [hLN]; exact HG.out.ch hN0 (by omega)
      have HM := Aside0.mk hmay
      have HC := Aside0.mk hch'
      clear hmay hch'
      by_cases hlt : pos (y.f0, y.f1, y.f2) l < l.length
      · refine (put_exist w6 b c L _ _ HT6.out y.f0 y.f1 y.f2 i (cN y N) l HL.out HM.out HC.out hlt).mono ?_
        rintro e w7 ⟨rfl, hb7⟩
        have HTx := Aside0.mk (HT6.out.below hb7)
        have hRx := HR6.out.below hb7
        rw [HQ1.out hlt] at hRx
        have HRx := Aside0.mk hRx
        have HBx := Aside0.mk (below_step HB6.out hb7)
        clear hb7 hRx
        go_wp2
        go_roundw
        case rel => exact ⟨L, i + 1, by go_num, by omega, by omega, ⟨HTx.out, hLN, HBS.out⟩, HRx, HBx⟩
        case measure => simp [intOf]; omega
      · have hfl := HL8.out
        refine (put_ok w6 b c L _ _ HT6.out y.f0 y.f1 y.f2 i (cN y N) l HL.out HM.out HC.out hlt (by omega) (by omega) (by omega) (by omega) (by omega)).mono ?_
        rintro e w7 ⟨rfl, g, hg, hT7, hM7⟩
        have hsub : ∀ k ∈ ids b c (L.set (cN y N) (⟨g, y.f0, y.f1, y.f2, (i : Int)⟩ :: l)), k ∈ ids b c L ∨ w6.heap.size ≤ k := fun k hk => by
          rcases ids_set hk with hk | hk
          · exact Or.inl hk
          · rw [List.map_cons, List.mem_cons] at hk
            rcases hk with rfl | hk
            · exact Or.inr hg
            · obtain ⟨m', hm', rfl⟩ := List.mem_map.1 hk
              exact Or.inl (mem_ids HL.out hm')
        have hbs7 : ∀ k ∈ ids b c (L.set (cN y N) (⟨g, y.f0, y.f1, y.f2, (i : Int)⟩ :: l)), w.heap.size ≤ k := fun k hk => (hsub k hk).elim (HBS.out k) (fun h => Nat.le_trans HB6.out.size h)
        have hR7 := HR6.out.mv hM7 hsub
        rw [HQ2.out hlt g] at hR7
        have HB7 := Aside0.mk (Below.trans HB6.out (hM7.below HB6.out.size HBS.out))
        have hLN7 : (L.set (cN y N) (⟨g, y.f0, y.f1, y.f2, (i : Int)⟩ :: l)).length = N := by rw [List.length_set]; exact hLN
        have hfl7 : (L.set (cN y N) (⟨g, y.f0, y.f1, y.f2, (i : Int)⟩ :: l)).flatten.length = L.flatten.length + 1 := by
          have := flat_len_set (l' := ⟨g, y.f0, y.f1, y.f2, (i : Int)⟩ :: l) HL.out
          rw [List.length_cons] at this
          omega
        generalize L.set (cN y N) (⟨g, y.f0, y.f1, y.f2, (i : Int)⟩ :: l) = L7 at *
        have e1 : (20 - ((L.flatten.length : Nat) : Int)) - 1 = 20 - ((L7.flatten.length : Nat) : Int) := by omega
        have e2 : ((L.flatten.length : Nat) : Int) + 1 = ((L7.flatten.length : Nat) : Int) := by omega
        rw [e1, e2] at hT7
        have HT7 := Aside0.mk hT7
        have HBS7 := Aside0.mk hbs7
        have HR7 := Aside0.mk hR7
        have HFL7 := Aside0.mk hfl7
        clear hT7 hbs7 hR7 hM7 hsub e1 e2 hlt HT6 HR6 HB6 hfl7
        go_wp2
        go_roundw
        case rel => exact ⟨L7, i + 1, by go_num, by omega, by have := HFL7.out; omega, ⟨HT7.out, hLN7, HBS7.out⟩, HR7, HB7⟩
        case measure => simp [intOf]; omega
    · have hcond2 : ¬ (i : Int) < (l0.length : Int) ∨ ((i : Int) < (l0.length : Int) ∧ ¬ (i : Int) < 15) := by omega
      clear hcond
      obtain ⟨hT, hLN, hbase⟩ := HT.out
      obtain ⟨A9, c9, hc8, hc9, hV9⟩ := HR.out.get
      have z0 : wr.cell? ⟨r8, 0, none⟩ = some (.int .i64 20) := by rw [Lib.cell_of_heap hc8]; rfl
      have z1 : wr.cell? ⟨r8, 1, none⟩ = some (.slice A9 (img L).length c9) := by rw [Lib.cell_of_heap hc8]; rfl
      have HV9 := Aside0.mk hV9
      have HT2 := Aside0.mk hT
      clear hc8 hV9 hT hbase
      rcases hcond2 with hl | ⟨hl, h12⟩
      all_goals
        go_wp2_with fail
        refine (lookasideref11_All.calls 100 20 A9 c9 (img L) _ wr (Kd.F_now (Kd.V_F HV9.out)) hc9 (all_f 20 L (by omega) (by omega) 100 (by omega))).mono ?_
        rintro e w2 ⟨v2, rfl, hv2, hb2⟩
        obtain ⟨A3, c3, hv3, hc3, hr3⟩ := Kd.R_reads hv2
        subst hv3
        obtain ⟨Z, hZ⟩ : ∃ Z, Z = L.flatten.map nd128 := ⟨_, rfl⟩
        have hall := fun wx hTx => all_calls wx b c L (20 - ((L.flatten.length : Nat) : Int)) ((L.flatten.length : Nat) : Int) hTx (by omega) most A3 c3
        rw [← hZ] at hall hc3 hr3 ⊢
        have HALL := Aside0.mk hall
        clear hall hZ
        have HT3 := Aside0.mk (HT2.out.below hb2)
        have HB3 := Aside0.mk (below_step HB.out hb2)
        have HR3 := Aside0.mk hr3
        clear hv2 hb2 hr3 z0 z1
        go_wp2_with fail
        refine (HALL.out w2 HT3.out hc3 HR3.out).mono ?_
        rintro e w3 ⟨rfl, hb3⟩
        have HB4 := Aside0.mk (below_step HB3.out hb3)
        clear hb3
        go_wp2_with fail
        refine (lookasidelaw11_lives.calls true _ rfl).mono ?_
        rintro e w4 ⟨rfl, hb4⟩
        have HBz := below_step HB4.out hb4
        go_wp2
        go_ret
        exact ⟨rfl, HBz⟩
end Go.Proofs.Ytgmdlndiilibpaa.PH

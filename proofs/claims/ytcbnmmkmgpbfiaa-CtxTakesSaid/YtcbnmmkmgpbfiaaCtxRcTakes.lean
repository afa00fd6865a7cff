/- CtxPlays: its walk. -/
import Derived.Test.YtcbnmmkmgpbfiaaCtxRb
import Derived.Test.YtcbnmmkmgpbfiaaCtxQa
import Derived.Deep.CutBlock
namespace Go.Proofs.Ytcbnmmkmgpbfiaa.PP
open Go.RowKit Go.Proofs.Ytcbnmmkmgpbfiaa.PX Go.Proofs.YtcbnmmkmgpbfiaaW.PrintWords Go.Proofs.YtcbnmmkmgpbfiaaW.PrintLast Go.Proofs.YtcbnmmkmgpbfiaaW.PrintMore
attribute [local go_sem] max2_int min2_int max_two min_two max_three min_three max_four min_four   -- for this text's walks alone
set_option linter.unusedVariables false
set_option linter.unusedSimpArgs false
open OpenD3
theorem cut_n {n : Int} (hn : Wf n) : (n > 10 → ∃ m : Int, n % 11 = m ∧ m ≤ 10 ∧ Wf m) ∧ (¬ n > 10 → n ≤ 10 ∧ Wf n) := by
  refine ⟨fun h => ⟨n % 11, rfl, by omega, by unfold Wf at hn ⊢; omega⟩, fun h => ⟨by omega, hn⟩⟩
theorem Doc.new (n : Nat) (hn : n ≤ 10) : Doc (List.replicate n (-1)) 1 0 :=
  ⟨by simp; omega, ⟨by omega, by omega, fun h => by omega⟩, by omega, fun x hx => by rw [(List.mem_replicate.1 hx).2]; omega⟩
/-- Where both stand behind New. -/
theorem Both.new {w0 w1 w2 : World} {B bm : Nat} {vo v : Value} {L0 : List Int} (hst : St w1 w0.heap.size B bm vo L0 1 0) (hb : Below w0.heap.size w0 w1) (hb2 : Below w1.heap.size w1 w2) (hR : Kd.R (Kd.int .i64) 3 w2 w1.heap.size (fun _ => True) v L0) :
    Both w0 w2 w0.heap.size B bm vo L0 1 0 v L0 :=
  ⟨hst.below hb2, Kd.R_lower (Kd.R_mono (Kd.R_bound hR) (fun k hk hm => by have := hst.lt k hm; omega)) hb.size, hb.trans (hb2.mono hb.size), rfl⟩
/-- Both stand alike. -/
structure Eq2 (w0 W : World) (B bm : Nat) (vo : Value) (g6 i : Nat) (A : Option Addr) (c : Nat) (L : List Int) (h r : Int) : Prop where
  both : Both w0 W w0.heap.size B bm vo L h r (.slice A L.length c) L
  doc : Doc L h r
  r0 : 0 ≤ r
  r1 : r ≤ i
  hk : W.heap[g6]? = some (.cells #[.slice A L.length c, .int .i64 h, .int .i64 r] 67 (0, 0))
  hg : w0.heap.size ≤ g6
section
variable {w0 W W' : World} {B bm : Nat} {vo : Value} {g6 i : Nat} {A : Option Addr} {c : Nat} {L : List Int} {h r : Int}
theorem Eq2.below (e : Eq2 w0 W B bm vo g6 i A c L h r) (hb : Below W.heap.size W W') : Eq2 w0 W' B bm vo g6 i A c L h r := ⟨e.both.below hb, e.doc, e.r0, e.r1, blk_below e.hk hb, e.hg⟩
theorem Eq2.nx (e : Eq2 w0 W B bm vo g6 i A c L h r) : ¬ Xp B bm vo (.slice A L.length c) g6 := fun hx => by
  obtain ⟨_, _, hp, _⟩ := e.both.st
  exact not_pid hp e.hk (by decide) hx
theorem Eq2.cells (e : Eq2 w0 W B bm vo g6 i A c L h r) : W.cell? ⟨g6, 0, none⟩ = some (.slice A L.length c) ∧ W.cell? ⟨g6, 1, none⟩ = some (.int .i64 h) ∧ W.cell? ⟨g6, 2, none⟩ = some (.int .i64 r) :=
  ⟨(blk_cell e.hk 0).trans rfl, (blk_cell e.hk 1).trans rfl, (blk_cell e.hk 2).trans rfl⟩
end
/-- What a round's deed leaves: the pair is in block g8, the old one in g6. -/
def Done (w0 : World) (B bm : Nat) (vo : Value) (g6 i len : Nat) (v8 v9 : Value) (W : World) : Prop :=
  ∃ g8 A c L h r, v8 = .pointer (some ⟨g8, 0, none⟩) ∧ v9 = .bool true ∧ Eq2 w0 W B bm vo g8 (i + 1) A c L h r ∧ g6 ≠ g8 ∧ (∃ x y z, W.heap[g6]? = some (.cells #[x, y, z] 67 (0, 0))) ∧ w0.heap.size ≤ g6 ∧ L.length = len
theorem dd_at {W : World} {A : Option Addr} {xs : List Dd} (hD : DeedsAt W A xs) {i : Nat} (hi : i < xs.length) : ∃ ad, A = some ad ∧ W.cell? (ad.add (i * 4)) = some (.int .i64 xs[i].kd) ∧ W.cell? ⟨(ad.add (i * 4)).block, (ad.add (i * 4)).off + 1, none⟩ = some (.int .i64 xs[i].n) ∧
    W.cell? ⟨(ad.add (i * 4)).block, (ad.add (i * 4)).off + 2, none⟩ = some (.int .i64 xs[i].sp) ∧ W.cell? ⟨(ad.add (i * 4)).block, (ad.add (i * 4)).off + 3, none⟩ = some (.slice xs[i].A xs[i].av.length xs[i].c) := by
  obtain ⟨ad, e, h⟩ := hD.at_ i hi
  exact ⟨ad, e, h 0 _ rfl, by rw [← add_field _ _ 1 (by omega)]; exact h 1 _ rfl, by rw [← add_field _ _ 2 (by omega)]; exact h 2 _ rfl, by rw [← add_field _ _ 3 (by omega)]; exact h 3 _ rfl⟩
theorem deed_cells {w0 W : World} {a : Addr} {d : Dd} (hb : Below w0.heap.size w0 W) (y : w0.cell? a = some (.int .i64 d.kd) ∧ w0.cell? ⟨a.block, a.off + 1, none⟩ = some (.int .i64 d.n) ∧ w0.cell? ⟨a.block, a.off + 2, none⟩ = some (.int .i64 d.sp) ∧ w0.cell? ⟨a.block, a.off + 3, none⟩ = some (.slice d.A d.av.length d.c)) :
    W.cell? a = some (.int .i64 d.kd) ∧ W.cell? ⟨a.block, a.off + 1, none⟩ = some (.int .i64 d.n) ∧ W.cell? ⟨a.block, a.off + 2, none⟩ = some (.int .i64 d.sp) ∧ W.cell? ⟨a.block, a.off + 3, none⟩ = some (.slice d.A d.av.length d.c) :=
  ⟨(hb.cell (World.block_lt_of_cell? _ _ y.1)).trans y.1, (hb.cell (World.block_lt_of_cell? _ _ y.2.1)).trans y.2.1, (hb.cell (World.block_lt_of_cell? _ _ y.2.2.1)).trans y.2.2.1, (hb.cell (World.block_lt_of_cell? _ _ y.2.2.2)).trans y.2.2.2⟩
theorem cell_far3 {W : World} {b : Nat} {x y z : Value} {p : Addr} {v : Value} (h : W.cell? p = some v) (hn : p.block ≠ b) : (((W.setCell ⟨b, 0, none⟩ x).setCell ⟨b, 1, none⟩ y).setCell ⟨b, 2, none⟩ z).cell? p = some v :=
  (World.cell?_of_block ((Below.heap_setCell _ ⟨b, 2, none⟩ z p.block hn).trans ((Below.heap_setCell _ ⟨b, 1, none⟩ y p.block hn).trans (Below.heap_setCell _ ⟨b, 0, none⟩ x p.block hn)))).trans h
theorem Below.set3 {n : Nat} {w W : World} (h : Below n w W) {b : Nat} (hb : n ≤ b) (x y z : Value) : Below n w (((W.setCell ⟨b, 0, none⟩ x).setCell ⟨b, 1, none⟩ y).setCell ⟨b, 2, none⟩ z) := ((h.setCell (p := ⟨b, 0, none⟩) hb x).setCell (p := ⟨b, 1, none⟩) hb y).setCell (p := ⟨b, 2, none⟩) hb z
abbrev ZP : Obj := .cells #[.slice none 0 0, .int .i64 0, .int .i64 0] 67
set_option maxHeartbeats 8000000 in
set_option maxRecDepth 100000 in
theorem plays_law (n : Int) (A0 : Option Addr) (c0 : Nat) (xs : List Dd) (hn : Wf n) (w : World) (hD : DeedsAt w A0 xs) (hxc : xs.length ≤ c0) :
    Calls Try.prog 10 #[.int .i64 n, .slice A0 xs.length c0] w fun e w' => e = .returned (.bool true) ∧ Below w.heap.size w w' := by
  have HD := Aside0.mk hD
  clear hD
  go_enter Try.func10, Try.ntmps10
  go_upto_if 11 with fail
  go_cut [0] (fun v wx => (∃ m : Int, v = .int .i64 m ∧ m ≤ 10 ∧ Wf m) ∧ wx = w)
  case first =>
    by_cases h1 : n > 10
    · have d1 : decide (n > 10) = true := decide_eq_true h1
      obtain ⟨m, hm, hm2⟩ := (cut_n hn).1 h1
      have HM := Aside0.mk hm
      have h0 : 0 ≤ n := by omega
      go_wp2
      go_meet
      case rel => exact ⟨⟨m, by rw [HM.out], hm2⟩, rfl⟩
    · have d1 : decide (n > 10) = false := decide_eq_false h1
      go_wp2
      go_meet
      case rel => exact ⟨⟨n, rfl, (cut_n hn).2 (by omega)⟩, rfl⟩
  case rest =>
  obtain ⟨⟨m, rfl, hm1, hm2⟩, rfl⟩ := hcut
  clear hn
  have hN : m.toNat ≤ 10 := by omega
  have hmx : max m 0 = (m.toNat : Int) := by omega
  have hnew := new_st wc m m.toNat hN hmx
  have hdoc := Doc.new m.toNat hN
  have hnf := New_f m hm1
  unfold NewS at hnew
  generalize List.replicate m.toNat (-1 : Int) = L0 at hnew hdoc hnf
  have HNEW := Aside0.mk hnew
  have HDOC := Aside0.mk hdoc
  have HNF := Aside0.mk hnf
  clear hmx hN hnew hdoc hnf
  go_wp2_with fail
  refine HNEW.out.mono ?_
  rintro e w1 ⟨B, bm, vo, rfl, hst, hb⟩
  have HST := Aside0.mk hst
  have HB := Aside0.mk hb
  clear hst hb HNEW
  go_wp2_with fail
  refine (lookasideref14_New.calls 9000 m L0 1 0 w1 HNF.out).mono ?_
  rintro e w2 ⟨v2, rfl, hR2, hb2⟩
  obtain ⟨A2, c2, rfl⟩ := Kd.R_slice hR2
  have hboth := Both.new HST.out HB.out hb2 hR2
  have he2 : Eq2 wc (w2.alloc (.cells #[.slice A2 L0.length c2, .int .i64 1, .int .i64 0] 67)) B bm vo w2.heap.size 0 A2 c2 L0 1 0 :=
    ⟨hboth.below ((Below.refl _ w2).alloc (Nat.le_refl _) _), HDOC.out, by omega, by omega, blk_new w2 _, hboth.bl.size⟩
  have HE := Aside0.mk he2
  obtain ⟨x0, x1, x2⟩ := he2.cells
  clear hboth he2 hR2 hb2 HST HB HNF HDOC
  go_wp2_with fail
  generalize w2.alloc (.cells #[.slice A2 L0.length c2, .int .i64 1, .int .i64 0] 67) = w3 at *
  generalize w2.heap.size = g6 at *
  obtain ⟨hcu, hCL⟩ := HE.out.both.reads
  refine (like_calls HE.out.both.st HE.out.doc hcu hCL).mono ?_
  rintro e w4 ⟨rfl, hb4⟩
  replace HE := Aside0.mk (HE.out.below hb4)
  clear hcu hCL hb4 x0 x1 x2
  go_wp2_with fail
  go_loopg [7] xs.length (fun k iv wr => ∃ (i g : Nat) (A : Option Addr) (c : Nat) (L : List Int) (h r : Int), iv = .int .i64 i ∧ i + k = xs.length ∧ i ≤ 40 ∧ g = g6 ∧ Aside0 (Eq2 wc wr B bm vo g i A c L h r))
  case atStart => exact ⟨0, g6, A2, c2, L0, 1, 0, rfl, by omega, by omega, rfl, HE⟩
  case round =>
    clear HE
    obtain ⟨i, g, A, c, L, h, r, rfl, hik, hi40, rfl, HE⟩ := hrel
    have HIK := Aside0.mk hik
    clear hik
    by_cases hl1 : (i : Int) < (xs.length : Int)
    · have hd1 : decide ((i : Int) < (xs.length : Int)) = true := decide_eq_true hl1
      by_cases hl2 : (i : Int) < 40
      · have hd2 : decide ((i : Int) < 40) = true := decide_eq_true hl2
        have hil : i < xs.length := by omega
        go_upto_region 12 with fail
        go_cut [8, 9] (fun v8 v9 wx => Done wc B bm vo g i L.length v8 v9 wx)
        case first =>
          obtain ⟨ad, rfl, hy⟩ := dd_at HD.out hil
          have hgood := HD.out.good _ (List.getElem_mem hil)
          generalize xs[i] = d at hy hgood
          have HG := Aside0.mk hgood
          have HY := Aside0.mk hy
          have hr1 : r < 1000000 := by have := HE.out.r1; omega
          have HXL := Aside0.mk (show ∀ k, Xp B bm vo (Value.slice A L.length c) k → k < wr.heap.size from HE.out.both.st.lt)
          have hgne := Aside0.mk (show g ≠ wr.heap.size from Nat.ne_of_lt (blk_lt HE.out.hk))
          obtain ⟨x0, x1, x2⟩ := HE.out.cells
          obtain ⟨y0, y1, y2, y3⟩ := deed_cells HE.out.both.bl hy
          clear hgood hy
          go_region_held3 (fun W => W.cell? ⟨g, 0, none⟩ = some (.slice A L.length c) ∧ W.cell? ⟨g, 1, none⟩ = some (.int .i64 h) ∧ W.cell? ⟨g, 2, none⟩ = some (.int .i64 r) ∧
              W.cell? (ad.add (i * 4)) = some (.int .i64 d.kd) ∧ W.cell? ⟨(ad.add (i * 4)).block, (ad.add (i * 4)).off + 1, none⟩ = some (.int .i64 d.n) ∧ W.cell? ⟨(ad.add (i * 4)).block, (ad.add (i * 4)).off + 2, none⟩ = some (.int .i64 d.sp) ∧ W.cell? ⟨(ad.add (i * 4)).block, (ad.add (i * 4)).off + 3, none⟩ = some (.slice d.A d.av.length d.c))
            (first | (exact ⟨x0, x1, x2, y0, y1, y2, y3⟩) | (exact ⟨hx5.1, hx5.2.1, hx5.2.2, deed_cells hB5.bl HY.out⟩) | (refine ⟨?_, ?_, ?_, deed_cells (hB5.bl.alloc hB5.bl.size _) HY.out⟩ <;> go_keep) | (exact ⟨cell_far3 hx5.1 hgne.out, cell_far3 hx5.2.1 hgne.out, cell_far3 hx5.2.2 hgne.out, deed_cells (Below.set3 hB5.bl HE.out.both.bl.size _ _ _) HY.out⟩) | (refine ⟨?_, ?_, ?_, deed_cells (HE.out.both.bl.drew.alloc HE.out.both.bl.size _) HY.out⟩ <;> go_keep) | go_keep)
            (first
              | (go_at_call 42; refine (does_any (HE.out.below (Below.refl _ wr).drew).both HE.out.doc HE.out.doc hr1 hr1 d HG.out).mono ?_; rintro e w5 ⟨os5, hd5, rn5, A5, c5, L5, h5, r5, sm5, rfl, hB5, hn5, hm5, he5, hf5⟩; have hx5 := hf5 g (blk_lt HE.out.hk) HE.out.nx _ HE.out.hk; have HK5 := Aside0.mk hx5; replace hx5 := And.intro ((blk_cell hx5 0).trans rfl) (And.intro ((blk_cell hx5 1).trans rfl) ((blk_cell hx5 2).trans rfl)); obtain ⟨rfl, rfl, rfl, rfl⟩ := he5 rfl rfl rfl)
              | (go_at_call 42; refine (does_any (HE.out.below ((Below.refl _ wr).drew.alloc (Nat.le_refl wr.heap.size) ZP)).both HE.out.doc HE.out.doc hr1 hr1 d HG.out).mono ?_; rintro e w5 ⟨os5, hd5, rn5, A5, c5, L5, h5, r5, sm5, rfl, hB5, hn5, hm5, he5, hf5⟩; have hx5 := hf5 g (Nat.lt_of_lt_of_le (blk_lt HE.out.hk) (by simp)) HE.out.nx _ (blk_below HE.out.hk ((Below.refl _ wr).drew.alloc (Nat.le_refl wr.heap.size) ZP)); have HK5 := Aside0.mk hx5; replace hx5 := And.intro ((blk_cell hx5 0).trans rfl) (And.intro ((blk_cell hx5 1).trans rfl) ((blk_cell hx5 2).trans rfl)); have hz5 := hf5 wr.heap.size (by simp) (fun hx => Nat.lt_irrefl _ (HXL.out _ hx)) _ (blk_new wr.drew ZP); have HZ5 := Aside0.mk hz5; replace hz5 := And.intro ((blk_cell hz5 0).trans rfl) (And.intro ((blk_cell hz5 1).trans rfl) ((blk_cell hz5 2).trans rfl)); obtain ⟨hz50, hz51, hz52⟩ := hz5; have hzf := blk_frozen HZ5.out;  obtain ⟨rfl, rfl, rfl, rfl⟩ := he5 rfl rfl rfl))
          · have hkn := blk_new w5 (.cells #[.slice A5 os5.length c5, .int .i64 hd5, .int .i64 rn5] 67)
            have hbl := (Below.refl _ w5).alloc (Nat.le_refl _) (.cells #[.slice A5 os5.length c5, .int .i64 hd5, .int .i64 rn5] 67)
            have hd : Done wc B bm vo g i L.length (.pointer (some ⟨w5.heap.size, 0, none⟩)) (.bool true) (w5.alloc (.cells #[.slice A5 os5.length c5, .int .i64 hd5, .int .i64 rn5] 67)) :=
              ⟨_, A5, c5, os5, hd5, rn5, rfl, rfl, ⟨hB5.below hbl, hn5.doc, Int.le_trans HE.out.r0 hn5.lo, by have := hn5.hi; have := HE.out.r1; push_cast; simp only at *; omega, hkn, hB5.bl.size⟩, Nat.ne_of_lt (blk_lt HK5.out), ⟨_, _, _, blk_below HK5.out hbl⟩, HE.out.hg, hn5.len⟩
            have HDN := Aside0.mk hd
            clear hd hkn hbl hB5 hn5 hm5 hf5 hx5
            (try simp only [Exit.inBlock, Exit.then])
            go_wp2_with fail
            go_meet
            case rel => exact HDN.out
          · have hf5' := ((hB5.far HZ5.out (by decide) HE.out.both.bl.size 0 (.slice A5 os5.length c5)).far (blk_put HZ5.out 0 (.slice A5 os5.length c5) rfl) (by decide) HE.out.both.bl.size 1 (.int .i64 hd5)).far (blk_put (blk_put HZ5.out 0 (.slice A5 os5.length c5) rfl) 1 (.int .i64 hd5) rfl) (by decide) HE.out.both.bl.size 2 (.int .i64 rn5)
            have hkn := blk_put (blk_put (blk_put HZ5.out 0 (.slice A5 os5.length c5) rfl) 1 (.int .i64 hd5) rfl) 2 (.int .i64 rn5) rfl
            have hko := (Below.heap_setCell _ ⟨wr.heap.size, 2, none⟩ (.int .i64 rn5) g hgne.out).trans ((Below.heap_setCell _ ⟨wr.heap.size, 1, none⟩ (.int .i64 hd5) g hgne.out).trans ((Below.heap_setCell _ ⟨wr.heap.size, 0, none⟩ (.slice A5 os5.length c5) g hgne.out).trans HK5.out))
            have hd : Done wc B bm vo g i L.length (.pointer (some ⟨wr.heap.size, 0, none⟩)) (.bool true) (((w5.setCell ⟨wr.heap.size, 0, none⟩ (.slice A5 os5.length c5)).setCell ⟨wr.heap.size, 1, none⟩ (.int .i64 hd5)).setCell ⟨wr.heap.size, 2, none⟩ (.int .i64 rn5)) :=
              ⟨_, A5, c5, os5, hd5, rn5, rfl, rfl, ⟨hf5', hn5.doc, Int.le_trans HE.out.r0 hn5.lo, by have := hn5.hi; have := HE.out.r1; push_cast; simp only at *; omega, hkn, HE.out.both.bl.size⟩, hgne.out, ⟨_, _, _, hko⟩, HE.out.hg, hn5.len⟩
            have HDN := Aside0.mk hd
            clear hd hkn hko hf5' hB5 hn5 hm5 hf5 hx5
            (try simp only [Exit.inBlock, Exit.then])
            go_wp2_with fail
            go_meet
            case rel => exact HDN.out
        case rest =>
        obtain ⟨g8, A8, c8, L8, h8, r8, rfl, rfl, he8, hne8, ⟨o1, o2, o3, hk8⟩, hg8, hl8⟩ := hcut
        have HL8 := Aside0.mk hl8
        clear hl8
        have HE8 := Aside0.mk he8
        have HK8 := Aside0.mk hk8
        obtain ⟨z0, z1, z2⟩ := he8.cells
        obtain ⟨p0, p1, p2⟩ := And.intro ((blk_cell hk8 0).trans rfl) (And.intro ((blk_cell hk8 1).trans rfl) ((blk_cell hk8 2).trans rfl))
        have f8 := blk_frozen hk8
        have hko := blk_put (blk_put (blk_put hk8 0 (.slice A8 L8.length c8) rfl) 1 (.int .i64 h8) rfl) 2 (.int .i64 r8) rfl
        have hbo := ((he8.both.far hk8 (by decide) hg8 0 (.slice A8 L8.length c8)).far (blk_put hk8 0 (.slice A8 L8.length c8) rfl) (by decide) hg8 1 (.int .i64 h8)).far (blk_put (blk_put hk8 0 (.slice A8 L8.length c8) rfl) 1 (.int .i64 h8) rfl) (by decide) hg8 2 (.int .i64 r8)
        have HE9 := Aside0.mk (Eq2.mk hbo he8.doc he8.r0 he8.r1 hko hg8)
        clear he8 hk8 hko hbo HE
        go_wp2_with fail
        generalize ((wc.setCell ⟨g, 0, none⟩ (.slice A8 L8.length c8)).setCell ⟨g, 1, none⟩ (.int .i64 h8)).setCell ⟨g, 2, none⟩ (.int .i64 r8) = w9 at *
        clear z0 z1 z2 p0 p1 p2 f8 HE8 HK8
        obtain ⟨hcu, hCL⟩ := HE9.out.both.reads
        refine (like_calls HE9.out.both.st HE9.out.doc hcu hCL).mono ?_
        rintro e w4 ⟨rfl, hb4⟩
        replace HE9 := Aside0.mk (HE9.out.below hb4)
        clear hcu hCL hb4
        have hwj : wrap64 ((i : Int) + 1) = (i : Int) + 1 := w_small (by omega)
        go_wp2
        clear hwj
        have hjk := HIK.out
        go_roundg (gk - 1)
        case measure => omega
        case rel => exact ⟨i + 1, g, A8, c8, L8, h8, r8, by push_cast; rfl, by omega, by omega, rfl, HE9⟩
      · have hd2 : decide ((i : Int) < 40) = false := decide_eq_false hl2
        go_wp2_with fail
        refine (lives_calls _).mono ?_
        rintro e w3 ⟨rfl, hb3⟩
        have hbf := HE.out.both.bl.trans (hb3.mono HE.out.both.bl.size)
        clear hb3
        go_wp2
        go_ret
        exact ⟨rfl, hbf⟩
    · have hd1 : decide ((i : Int) < (xs.length : Int)) = false := decide_eq_false hl1
      go_wp2_with fail
      refine (lives_calls _).mono ?_
      rintro e w3 ⟨rfl, hb3⟩
      have hbf := HE.out.both.bl.trans (hb3.mono HE.out.both.bl.size)
      clear hb3
      go_wp2
      go_ret
      exact ⟨rfl, hbf⟩

end Go.Proofs.Ytcbnmmkmgpbfiaa.PP
/- CtxTakes: its walk. Written by mkctxtk.py over ctxtk.txt. -/
namespace Go.Proofs.Ytcbnmmkmgpbfiaa.PP
open Go.RowKit Go.Proofs.Ytcbnmmkmgpbfiaa.PX Go.Proofs.YtcbnmmkmgpbfiaaW.PrintWords Go.Proofs.YtcbnmmkmgpbfiaaW.PrintLast Go.Proofs.YtcbnmmkmgpbfiaaW.PrintMore
attribute [local go_sem] max2_int min2_int max_two min_two max_three min_three max_four min_four   -- for this text's walks alone
set_option linter.unusedVariables false
set_option linter.unusedSimpArgs false
open OpenD3
/-- What is found among the first i numbers from the hand on; 0: none. -/
def wantS (L : List Int) (h : Int) (i : Nat) : Int := (((rot L.length h).take i).find? (free? L)).getD 0
theorem wantS_all (L : List Int) (h : Int) : wantS L h L.length = ((rot L.length h).find? (free? L)).getD 0 := by
  unfold wantS
  rw [List.take_of_length_le (by rw [rot_length]; omega)]
theorem wantS_zero (L : List Int) (h : Int) : wantS L h 0 = 0 := rfl
theorem wantS_pos {L : List Int} {h : Int} {i : Nat} (hn : wantS L h i ≠ 0) : ∃ j, j < L.length ∧ wantS L h i = (j : Int) + 1 ∧ (rot L.length h).find? (free? L) = some ((j : Int) + 1) ∧ free? L ((j : Int) + 1) = true := by
  unfold wantS at hn ⊢
  cases e : ((rot L.length h).take i).find? (free? L) with
  | none => rw [e] at hn; exact absurd rfl hn
  | some n =>
    have h1 := rot_bounds (List.mem_of_mem_take (List.mem_of_find?_eq_some e))
    refine ⟨(n - 1).toNat, by omega, by show n = _; omega, ?_, ?_⟩
    · rw [show (((n - 1).toNat : Nat) : Int) + 1 = n by omega]
      have h2 : rot L.length h = (rot L.length h).take i ++ (rot L.length h).drop i := (List.take_append_drop _ _).symm
      rw [h2, List.find?_append, e]; rfl
    · rw [show (((n - 1).toNat : Nat) : Int) + 1 = n by omega]
      exact List.find?_some e
theorem wantS_step {L : List Int} {h : Int} {i j : Nat} (hi : i < L.length) (h0 : wantS L h i = 0) (hj : (h - 1 + (i : Int)) % (L.length : Int) = (j : Int)) (hjl : j < L.length) (hlow : -1 ≤ L[j]) :
    wantS L h (i + 1) = if L[j] < 0 then (j : Int) + 1 else 0 := by
  have hz : ((rot L.length h).take i).find? (free? L) = none := by
    cases e : ((rot L.length h).take i).find? (free? L) with
    | none => rfl
    | some n =>
      have h1 := rot_bounds (List.mem_of_mem_take (List.mem_of_find?_eq_some e))
      unfold wantS at h0
      rw [e] at h0
      have h0 : n = 0 := h0
      omega
  unfold wantS
  rw [rot_take hi, hj, List.find?_append, hz]
  have hf : free? L ((j : Int) + 1) = decide (L[j] < 0) := by
    unfold free?
    rw [show ((j : Int) + 1 - 1).toNat = j by omega, List.getD_eq_getElem?_getD, List.getElem?_eq_getElem hjl, Option.getD_some]
    by_cases e : L[j] < 0
    · rw [decide_eq_true e, beq_iff_eq]; omega
    · rw [decide_eq_false e, beq_eq_false_iff_ne]; omega
  by_cases e : L[j] < 0
  · rw [if_pos e, List.find?_cons_of_pos (by rw [hf, decide_eq_true e])]; rfl
  · rw [if_neg e, List.find?_cons_of_neg (by rw [hf, decide_eq_false e]; simp)]; rfl
theorem wantS_stay {L : List Int} {h : Int} {i : Nat} (hn : wantS L h i ≠ 0) : wantS L h L.length = wantS L h i := by
  obtain ⟨j, hj, e1, e2, _⟩ := wantS_pos hn
  rw [wantS_all, e2, e1]; rfl
set_option maxHeartbeats 8000000 in
set_option maxRecDepth 100000 in
theorem takes_law (n : Int) (A0 : Option Addr) (c0 : Nat) (xs : List Dd) (sp0 : Int) (hn : Wf n) (hs : Wf sp0) (w : World) (hD : DeedsAt w A0 xs) (hxc : xs.length ≤ c0) :
    Calls Try.prog 9 #[.int .i64 n, .slice A0 xs.length c0, .int .i64 sp0] w fun e w' => e = .returned (.bool true) ∧ Below w.heap.size w w' := by
  have HD := Aside0.mk hD
  clear hD
  go_enter Try.func9, Try.ntmps9
  go_upto_if 24 with fail
  go_cut [0] (fun v wx => (∃ q : Nat, v = .int .i64 q) ∧ wx = w)
  case first =>
    by_cases h1 : n < 0
    · have d1 : decide (n < 0) = true := decide_eq_true h1
      obtain ⟨q, hq⟩ := (nonneg_of hn).1 h1
      have HQ := Aside0.mk hq
      clear hq
      go_wp2
      go_meet
      case rel => exact ⟨⟨q, by rw [HQ.out]⟩, rfl⟩
    · have d1 : decide (n < 0) = false := decide_eq_false h1
      obtain ⟨q, hq⟩ := (nonneg_of hn).2 h1
      subst hq
      go_wp2
      go_meet
      case rel => exact ⟨⟨q, rfl⟩, rfl⟩
  case rest =>
  obtain ⟨⟨q, rfl⟩, hw0⟩ := hcut
  replace hw0 := hw0.symm
  subst hw0
  clear hn
  obtain ⟨N, hN1, hN2, hN⟩ := ten' q
  go_upto_if 32 with fail
  go_cut [2] (fun v wx => (∃ s : Nat, v = .int .i64 s ∧ (s : Int) ≤ 9223372036854775807) ∧ wx = w)
  case first =>
    by_cases h1 : sp0 < 0
    · have d1 : decide (sp0 < 0) = true := decide_eq_true h1
      obtain ⟨s, hs1⟩ := (nonneg_of hs).1 h1
      have hs2 : (s : Int) ≤ 9223372036854775807 := by unfold Wf at hs; rw [w_small (x := sp0 + 1) (by omega), w_small (by omega)] at hs1; omega
      have HQ := Aside0.mk hs1
      clear hs1
      go_wp2
      go_meet
      case rel => exact ⟨⟨s, by rw [HQ.out], hs2⟩, rfl⟩
    · have d1 : decide (sp0 < 0) = false := decide_eq_false h1
      obtain ⟨s, hs1⟩ := (nonneg_of hs).2 h1
      subst hs1
      go_wp2
      go_meet
      case rel => exact ⟨⟨s, rfl, by unfold Wf at hs; omega⟩, rfl⟩
  case rest =>
  obtain ⟨⟨s, rfl, hs2⟩, hw0⟩ := hcut
  replace hw0 := hw0.symm
  subst hw0
  clear hs
  have hmx : max (N : Int) 0 = (N : Int) := by omega
  have hnew := new_st w N N hN2 hmx
  have hdoc := Doc.new N hN2
  have hnf := New_f (N : Int) (by omega)
  unfold NewS at hnew
  rw [Int.toNat_natCast] at hnf
  have hl0 : (List.replicate N (-1 : Int)).length = N := List.length_replicate
  generalize List.replicate N (-1 : Int) = L0 at hnew hdoc hnf hl0
  have HNEW := Aside0.mk hnew
  have HDOC := Aside0.mk hdoc
  have HNF := Aside0.mk hnf
  have HN := Aside0.mk hN
  have HL0 := Aside0.mk hl0
  clear hmx hnew hdoc hnf hN hl0
  go_wp2_with fail
  refine HNEW.out.mono ?_
  rintro e w1 ⟨B, bm, vo, rfl, hst, hb⟩
  have HST := Aside0.mk hst
  have HB := Aside0.mk hb
  clear hst hb HNEW
  go_wp2_with fail
  refine (lookasideref14_New.calls 9000 (N : Int) L0 1 0 w1 HNF.out).mono ?_
  rintro e w2 ⟨v2, rfl, hR2, hb2⟩
  obtain ⟨A2, c2, rfl⟩ := Kd.R_slice hR2
  have hboth := Both.new HST.out HB.out hb2 hR2
  have he2 : Eq2 w (w2.alloc (.cells #[.slice A2 L0.length c2, .int .i64 1, .int .i64 0] 67)) B bm vo w2.heap.size 0 A2 c2 L0 1 0 :=
    ⟨hboth.below ((Below.refl _ w2).alloc (Nat.le_refl _) _), HDOC.out, by omega, by omega, blk_new w2 _, hboth.bl.size⟩
  have HE := Aside0.mk he2
  clear hboth he2 hR2 hb2 HST HB HNF HDOC
  go_upto_block 0 with fail
  generalize w2.alloc (.cells #[.slice A2 L0.length c2, .int .i64 1, .int .i64 0] 67) = w3 at *
  generalize w2.heap.size = g6 at *
  go_cut [] (fun wx => ∃ (i g : Nat) (A : Option Addr) (c : Nat) (L : List Int) (h r : Int), Eq2 w wx B bm vo g i A c L h r ∧ L.length = N ∧ i ≤ 20)
  case first =>
    go_wp2_with fail
    go_loopg [9] xs.length (fun k iv wr => ∃ (i g : Nat) (A : Option Addr) (c : Nat) (L : List Int) (h r : Int), iv = .int .i64 i ∧ i + k = xs.length ∧ i ≤ 20 ∧ g = g6 ∧ Aside0 (Eq2 w wr B bm vo g i A c L h r ∧ L.length = N))
    case atStart => exact ⟨0, g6, A2, c2, L0, 1, 0, rfl, by omega, by omega, rfl, ⟨HE.out, HL0.out⟩⟩
    case round =>
      clear HE HL0
      obtain ⟨i, g, A, c, L, h, r, rfl, hik, hi40, rfl, HEL⟩ := hrel
      have HE := Aside0.mk HEL.out.1
      have HLN := Aside0.mk HEL.out.2
      have HIK := Aside0.mk hik
      clear hik HEL
      by_cases hl1 : (i : Int) < (xs.length : Int)
      · have hd1 : decide ((i : Int) < (xs.length : Int)) = true := decide_eq_true hl1
        by_cases hl2 : (i : Int) < 20
        · have hd2 : decide ((i : Int) < 20) = true := decide_eq_true hl2
          have hil : i < xs.length := by omega
          go_upto_region 13 with fail
          go_cut [10, 11] (fun v8 v9 wx => Done w B bm vo g i L.length v8 v9 wx)
          case first =>
            obtain ⟨ad, rfl, hy⟩ := dd_at HD.out hil
            have hgood := HD.out.good _ (List.getElem_mem hil)
            generalize xs[i] = d at hy hgood
            have HG := Aside0.mk hgood
            have HY := Aside0.mk hy
            have hr1 : r < 1000000 := by have := HE.out.r1; omega
            have HXL := Aside0.mk (show ∀ k, Xp B bm vo (Value.slice A L.length c) k → k < wr.heap.size from HE.out.both.st.lt)
            have hgne := Aside0.mk (show g ≠ wr.heap.size from Nat.ne_of_lt (blk_lt HE.out.hk))
            obtain ⟨x0, x1, x2⟩ := HE.out.cells
            obtain ⟨y0, y1, y2, y3⟩ := deed_cells HE.out.both.bl hy
            clear hgood hy
            go_region_held3 (fun W => W.cell? ⟨g, 0, none⟩ = some (.slice A L.length c) ∧ W.cell? ⟨g, 1, none⟩ = some (.int .i64 h) ∧ W.cell? ⟨g, 2, none⟩ = some (.int .i64 r) ∧
                W.cell? (ad.add (i * 4)) = some (.int .i64 d.kd) ∧ W.cell? ⟨(ad.add (i * 4)).block, (ad.add (i * 4)).off + 1, none⟩ = some (.int .i64 d.n) ∧ W.cell? ⟨(ad.add (i * 4)).block, (ad.add (i * 4)).off + 2, none⟩ = some (.int .i64 d.sp) ∧ W.cell? ⟨(ad.add (i * 4)).block, (ad.add (i * 4)).off + 3, none⟩ = some (.slice d.A d.av.length d.c))
              (first | (exact ⟨x0, x1, x2, y0, y1, y2, y3⟩) | (exact ⟨hx5.1, hx5.2.1, hx5.2.2, deed_cells hB5.bl HY.out⟩) | (refine ⟨?_, ?_, ?_, deed_cells (hB5.bl.alloc hB5.bl.size _) HY.out⟩ <;> go_keep) | (exact ⟨cell_far3 hx5.1 hgne.out, cell_far3 hx5.2.1 hgne.out, cell_far3 hx5.2.2 hgne.out, deed_cells (Below.set3 hB5.bl HE.out.both.bl.size _ _ _) HY.out⟩) | (refine ⟨?_, ?_, ?_, deed_cells (HE.out.both.bl.drew.alloc HE.out.both.bl.size _) HY.out⟩ <;> go_keep) | go_keep)
              (first
                | (go_at_call 42; refine (does_any (HE.out.below (Below.refl _ wr).drew).both HE.out.doc HE.out.doc hr1 hr1 d HG.out).mono ?_; rintro e w5 ⟨os5, hd5, rn5, A5, c5, L5, h5, r5, sm5, rfl, hB5, hn5, hm5, he5, hf5⟩; have hx5 := hf5 g (blk_lt HE.out.hk) HE.out.nx _ HE.out.hk; have HK5 := Aside0.mk hx5; replace hx5 := And.intro ((blk_cell hx5 0).trans rfl) (And.intro ((blk_cell hx5 1).trans rfl) ((blk_cell hx5 2).trans rfl)); obtain ⟨rfl, rfl, rfl, rfl⟩ := he5 rfl rfl rfl)
                | (go_at_call 42; refine (does_any (HE.out.below ((Below.refl _ wr).drew.alloc (Nat.le_refl wr.heap.size) ZP)).both HE.out.doc HE.out.doc hr1 hr1 d HG.out).mono ?_; rintro e w5 ⟨os5, hd5, rn5, A5, c5, L5, h5, r5, sm5, rfl, hB5, hn5, hm5, he5, hf5⟩; have hx5 := hf5 g (Nat.lt_of_lt_of_le (blk_lt HE.out.hk) (by simp)) HE.out.nx _ (blk_below HE.out.hk ((Below.refl _ wr).drew.alloc (Nat.le_refl wr.heap.size) ZP)); have HK5 := Aside0.mk hx5; replace hx5 := And.intro ((blk_cell hx5 0).trans rfl) (And.intro ((blk_cell hx5 1).trans rfl) ((blk_cell hx5 2).trans rfl)); have hz5 := hf5 wr.heap.size (by simp) (fun hx => Nat.lt_irrefl _ (HXL.out _ hx)) _ (blk_new wr.drew ZP); have HZ5 := Aside0.mk hz5; replace hz5 := And.intro ((blk_cell hz5 0).trans rfl) (And.intro ((blk_cell hz5 1).trans rfl) ((blk_cell hz5 2).trans rfl)); obtain ⟨hz50, hz51, hz52⟩ := hz5; have hzf := blk_frozen HZ5.out;  obtain ⟨rfl, rfl, rfl, rfl⟩ := he5 rfl rfl rfl))
            · have hkn := blk_new w5 (.cells #[.slice A5 os5.length c5, .int .i64 hd5, .int .i64 rn5] 67)
              have hbl := (Below.refl _ w5).alloc (Nat.le_refl _) (.cells #[.slice A5 os5.length c5, .int .i64 hd5, .int .i64 rn5] 67)
              have hd : Done w B bm vo g i L.length (.pointer (some ⟨w5.heap.size, 0, none⟩)) (.bool true) (w5.alloc (.cells #[.slice A5 os5.length c5, .int .i64 hd5, .int .i64 rn5] 67)) :=
                ⟨_, A5, c5, os5, hd5, rn5, rfl, rfl, ⟨hB5.below hbl, hn5.doc, Int.le_trans HE.out.r0 hn5.lo, by have := hn5.hi; have := HE.out.r1; push_cast; simp only at *; omega, hkn, hB5.bl.size⟩, Nat.ne_of_lt (blk_lt HK5.out), ⟨_, _, _, blk_below HK5.out hbl⟩, HE.out.hg, hn5.len⟩
              have HDN := Aside0.mk hd
              clear hd hkn hbl hB5 hn5 hm5 hf5 hx5
              (try simp only [Exit.inBlock, Exit.then])
              go_wp2_with fail
              go_meet
              case rel => exact HDN.out
            · have hf5' := ((hB5.far HZ5.out (by decide) HE.out.both.bl.size 0 (.slice A5 os5.length c5)).far (blk_put HZ5.out 0 (.slice A5 os5.length c5) rfl) (by decide) HE.out.both.bl.size 1 (.int .i64 hd5)).far (blk_put (blk_put HZ5.out 0 (.slice A5 os5.length c5) rfl) 1 (.int .i64 hd5) rfl) (by decide) HE.out.both.bl.size 2 (.int .i64 rn5)
              have hkn := blk_put (blk_put (blk_put HZ5.out 0 (.slice A5 os5.length c5) rfl) 1 (.int .i64 hd5) rfl) 2 (.int .i64 rn5) rfl
              have hko := (Below.heap_setCell _ ⟨wr.heap.size, 2, none⟩ (.int .i64 rn5) g hgne.out).trans ((Below.heap_setCell _ ⟨wr.heap.size, 1, none⟩ (.int .i64 hd5) g hgne.out).trans ((Below.heap_setCell _ ⟨wr.heap.size, 0, none⟩ (.slice A5 os5.length c5) g hgne.out).trans HK5.out))
              have hd : Done w B bm vo g i L.length (.pointer (some ⟨wr.heap.size, 0, none⟩)) (.bool true) (((w5.setCell ⟨wr.heap.size, 0, none⟩ (.slice A5 os5.length c5)).setCell ⟨wr.heap.size, 1, none⟩ (.int .i64 hd5)).setCell ⟨wr.heap.size, 2, none⟩ (.int .i64 rn5)) :=
                ⟨_, A5, c5, os5, hd5, rn5, rfl, rfl, ⟨hf5', hn5.doc, Int.le_trans HE.out.r0 hn5.lo, by have := hn5.hi; have := HE.out.r1; push_cast; simp only at *; omega, hkn, HE.out.both.bl.size⟩, hgne.out, ⟨_, _, _, hko⟩, HE.out.hg, hn5.len⟩
              have HDN := Aside0.mk hd
              clear hd hkn hko hf5' hB5 hn5 hm5 hf5 hx5
              (try simp only [Exit.inBlock, Exit.then])
              go_wp2_with fail
              go_meet
              case rel => exact HDN.out
          case rest =>
          obtain ⟨g8, A8, c8, L8, h8, r8, rfl, rfl, he8, hne8, ⟨o1, o2, o3, hk8⟩, hg8, hl8⟩ := hcut
          have HL8 := Aside0.mk hl8
          clear hl8
          have HE8 := Aside0.mk he8
          have HK8 := Aside0.mk hk8
          obtain ⟨z0, z1, z2⟩ := he8.cells
          obtain ⟨p0, p1, p2⟩ := And.intro ((blk_cell hk8 0).trans rfl) (And.intro ((blk_cell hk8 1).trans rfl) ((blk_cell hk8 2).trans rfl))
          have f8 := blk_frozen hk8
          have hko := blk_put (blk_put (blk_put hk8 0 (.slice A8 L8.length c8) rfl) 1 (.int .i64 h8) rfl) 2 (.int .i64 r8) rfl
          have hbo := ((he8.both.far hk8 (by decide) hg8 0 (.slice A8 L8.length c8)).far (blk_put hk8 0 (.slice A8 L8.length c8) rfl) (by decide) hg8 1 (.int .i64 h8)).far (blk_put (blk_put hk8 0 (.slice A8 L8.length c8) rfl) 1 (.int .i64 h8) rfl) (by decide) hg8 2 (.int .i64 r8)
          have HE9 := Aside0.mk (Eq2.mk hbo he8.doc he8.r0 he8.r1 hko hg8)
          clear he8 hk8 hko hbo HE
          go_wp2_with fail
          generalize ((wc.setCell ⟨g, 0, none⟩ (.slice A8 L8.length c8)).setCell ⟨g, 1, none⟩ (.int .i64 h8)).setCell ⟨g, 2, none⟩ (.int .i64 r8) = w9 at *
          clear z0 z1 z2 p0 p1 p2 f8 HE8 HK8
          have HLN9 := Aside0.mk (HL8.out.trans HLN.out)
          clear HL8 HLN
          have hjk := HIK.out
          go_roundg (gk - 1)
          case measure => omega
          case rel => exact ⟨i + 1, g, A8, c8, L8, h8, r8, by push_cast; rfl, by omega, by omega, rfl, ⟨HE9.out, HLN9.out⟩⟩
        · have hd2 : decide ((i : Int) < 20) = false := decide_eq_false hl2
          go_wp2_with fail
          go_meet
          case rel => exact ⟨i, g, A, c, L, h, r, HE.out, HLN.out, hi40⟩
      · have hd1 : decide ((i : Int) < (xs.length : Int)) = false := decide_eq_false hl1
        go_wp2_with fail
        go_meet
        case rel => exact ⟨i, g, A, c, L, h, r, HE.out, HLN.out, hi40⟩
  case rest =>
  obtain ⟨i, g, A, c, L, h, r, he, hln, hi20⟩ := hcut
  clear HE HL0
  have HE := Aside0.mk he
  have hN' : N = L.length := hln.symm
  subst hN'
  have hdoc := he.doc
  have hb1 := hdoc.hand.1
  have hb2 := hdoc.hand.2.1
  have hb3 := hdoc.hand.2.2 (by omega)
  have HDL := Aside0.mk hdoc
  have hr0 := he.r0
  have hr1 := he.r1
  clear he hln hdoc HD
  have hof := of_S HE.out.both.st (s := (s : Int)) (by unfold Wf; omega)
  generalize hhas : decide (ofS L (s : Int) > 0) = has at hof
  have HHAS := Aside0.mk hhas
  generalize hhad : ofS L (s : Int) = had at hof
  have HHAD := Aside0.mk hhad
  have HOF := Aside0.mk hof
  clear hof hhas hhad
  go_wp2_with fail
  refine HOF.out.mono ?_
  rintro e w5 ⟨rfl, rfl⟩
  clear HOF
  go_wp2_with fail
  refine (owners_S HE.out.both.st HDL.out).mono ?_
  rintro e w6 ⟨v1, rfl, hR1, hb6⟩
  obtain ⟨A1, c1, hv1⟩ := Kd.R_slice hR1
  subst hv1
  obtain ⟨_, hc1, hC1⟩ := Kd.R_reads' hR1
  have HE6 := Aside0.mk (HE.out.below hb6)
  have HC1 := Aside0.mk hC1
  clear hR1 hb6 hC1 HE
  go_upto_block 2 with fail
  go_cut [15] (fun v wx => v = .int .i64 (wantS L h L.length) ∧ Eq2 w wx B bm vo g i A c L h r)
  case first =>
    go_wp2_with fail
    go_loopg [15, 16] L.length (fun k fv iv wr => ∃ a : Nat, iv = .int .i64 a ∧ fv = .int .i64 (wantS L h a) ∧ a + k = L.length ∧ Aside0 (Eq2 w wr B bm vo g i A c L h r ∧ Kd.C (Kd.int .i64) wr A1 L.length L))
    case atStart => exact ⟨0, rfl, rfl, by omega, ⟨HE6.out, HC1.out⟩⟩
    case round =>
      clear HE6 HC1
      obtain ⟨a, rfl, rfl, hak, HL⟩ := hrel
      have HAK := Aside0.mk hak
      clear hak
      by_cases hlt : (a : Int) < (L.length : Int)
      · have hld : decide ((a : Int) < (L.length : Int)) = true := decide_eq_true hlt
        have hal : a < L.length := by omega
        obtain ⟨wv, hwv⟩ : ∃ x, wantS L h a = x := ⟨_, rfl⟩
        by_cases hz : wv = 0
        · subst hz
          rw [hwv]
          obtain ⟨j, hj, hj1, _⟩ := rot_place (h := h) hal
          have hlow := (HDL.out.low _ (List.getElem_mem hj)).1
          have hstep := wantS_step hal hwv hj1 hj hlow
          obtain ⟨ad1, hA1, z0⟩ := Args3.at_int HL.out.2 j hj
          subst hA1
          have hj0 : (0 : Int) ≤ (j : Int) := by omega
          have hjl : (j : Int) < (L.length : Int) := by omega
          have HWV := Aside0.mk hwv
          have HST := Aside0.mk hstep
          have hne : ((L.length : Int) == 0) = false := by rw [beq_eq_false_iff_ne]; omega
          clear hwv hstep
          generalize hx : L[j] = x at z0 hlow
          have HX := Aside0.mk hx
          clear hx
          have HJ1 := Aside0.mk hj1
          have hha : wrap64 (h - 1 + (a : Int)) = h - 1 + (a : Int) := w_small (by omega)
          have HHA := Aside0.mk hha
          clear hj1 hha
          go_upto_region 21 with fail
          go_cut [17] (fun v wx => v = .int .i64 (j : Int) ∧ wx = wr)
          case first =>
            clear z0
            go_wp2_with fail
            refine (st_hand HL.out.1.both.st).mono ?_
            rintro e w7 ⟨rfl, rfl⟩
            go_wp2_with fail
            go_meet
            case rel => exact ⟨by rw [HJ1.out], rfl⟩
          case rest =>
          obtain ⟨hv, hwx⟩ := hcut
          subst hv
          replace hwx := hwx.symm
          subst hwx
          by_cases hneg : x < 0
          · have hnd : decide (x < 0) = true := decide_eq_true hneg
            go_wp2_with fail
            have hak := HAK.out
            go_roundg (gk - 1)
            case measure => omega
            case rel => exact ⟨a + 1, by push_cast; rfl, by rw [HST.out, HX.out, if_pos hneg], by omega, HL⟩
          · have hnd : decide (x < 0) = false := decide_eq_false hneg
            go_wp2_with fail
            have hak := HAK.out
            go_roundg (gk - 1)
            case measure => omega
            case rel => exact ⟨a + 1, by push_cast; rfl, by rw [HST.out, HX.out, if_neg (by omega)], by omega, HL⟩
        · have hst := wantS_stay (show wantS L h a ≠ 0 by rw [hwv]; exact hz)
          rw [hwv] at hst
          have HSY := Aside0.mk hst
          rw [hwv]
          have hzd : (wv == 0) = false := beq_eq_false_iff_ne.2 hz
          clear hwv hst
          go_wp2_with fail
          go_meet
          case rel => exact ⟨by rw [HSY.out], HL.out.1⟩
      · have hld : decide ((a : Int) < (L.length : Int)) = false := decide_eq_false hlt
        have hal : a = L.length := by have := HAK.out; omega
        rw [hal]
        rw [hal] at hld hlt
        clear hal
        go_wp2_with fail
        go_meet
        case rel => exact ⟨rfl, HL.out.1⟩
  case rest =>
  obtain ⟨hv, he⟩ := hcut
  rw [hv, wantS_all]
  clear hv HE6 HC1
  have HE := Aside0.mk he
  clear he
  have htk := take_S HE.out.both.st HDL.out (s := (s : Int)) (by unfold Wf; omega)
  go_wp2_with fail
  refine (st_hand HE.out.both.st).mono ?_
  rintro e w7 ⟨rfl, rfl⟩
  have hsN : ¬ ((s : Int) < 0) := by omega
  unfold takeS PoolP at htk
  rw [if_neg hsN] at htk
  by_cases hm : (s : Int) ∈ L
  · rw [if_pos hm, HHAD.out] at htk
    have hht : has = true := by rw [← HHAS.out]; exact decide_eq_true ((ofS_pos (by omega)).2 hm)
    subst hht
    generalize (List.find? (free? L) (rot L.length h)).getD 0 = wv
    have HTK := Aside0.mk htk
    clear htk
    go_wp2_with fail
    refine HTK.out.mono ?_
    rintro e w8 ⟨rfl, hst8, hmv8⟩
    have HB8 := Aside0.mk (HE.out.both.st.mv HE.out.both.bl hmv8 HE.out.both.size)
    have HS8 := Aside0.mk hst8
    clear hst8 hmv8 HTK
    go_wp2_with fail
    refine (st_hand HS8.out).mono ?_
    rintro e w9 ⟨rfl, rfl⟩
    go_wp2_with fail
    refine (lives_calls _).mono ?_
    rintro e w10 ⟨rfl, hb10⟩
    have hbf := HB8.out.trans (hb10.mono HB8.out.size)
    clear hb10
    go_wp2
    go_ret
    exact ⟨rfl, hbf⟩
  · rw [if_neg hm] at htk
    have hz : ofS L (s : Int) = 0 := by rw [ofS, if_neg (fun e => hm e.2)]
    have hhf : has = false := by rw [← HHAS.out, hz]; rfl
    subst hhf
    obtain ⟨wv, hwv⟩ : ∃ x, (List.find? (free? L) (rot L.length h)).getD 0 = x := ⟨_, rfl⟩
    rw [hwv]
    cases hfd : List.find? (free? L) (rot L.length h) with
    | none =>
      rw [hfd] at hwv
      have hwv : 0 = wv := hwv
      subst hwv
      simp only [hfd] at htk
      have HTK := Aside0.mk htk
      clear htk hfd hz
      go_wp2_with fail
      refine HTK.out.mono ?_
      rintro e w8 ⟨rfl, hst8, hmv8⟩
      have HB8 := Aside0.mk (HE.out.both.st.mv HE.out.both.bl hmv8 HE.out.both.size)
      have HS8 := Aside0.mk hst8
      clear hst8 hmv8 HTK
      go_wp2_with fail
      refine (st_hand HS8.out).mono ?_
      rintro e w9 ⟨rfl, rfl⟩
      go_wp2_with fail
      refine (lives_calls _).mono ?_
      rintro e w10 ⟨rfl, hb10⟩
      have hbf := HB8.out.trans (hb10.mono HB8.out.size)
      clear hb10
      go_wp2
      go_ret
      exact ⟨rfl, hbf⟩
    | some n =>
      obtain ⟨j, hj, rfl, hfr⟩ := find_in hfd
      rw [hfd] at hwv
      have hwv : (j : Int) + 1 = wv := hwv
      subst hwv
      simp only [hfd] at htk
      rw [show ((j : Int) + 1 - 1).toNat = j by omega] at htk
      dsimp only [ownS] at htk
      have hnx := HDL.out.nx1 (n := (j : Int) + 1) (e := 0) (show r < 1000000 by omega) hj (s := (s : Int)) (by omega)
      have HTK := Aside0.mk htk
      have HNX := Aside0.mk hnx
      have hne : ((j : Int) + 1 == 0) = false := by rw [beq_eq_false_iff_ne]; omega
      clear htk hfd hz hnx hfr
      go_wp2_with fail
      refine HTK.out.mono ?_
      rintro e w8 ⟨rfl, hst8, hmv8⟩
      have HB8 := Aside0.mk (HE.out.both.st.mv HE.out.both.bl hmv8 HE.out.both.size)
      have HS8 := Aside0.mk (show St w8 w.heap.size B bm vo (L.set j (s : Int)) (nxt L.length j) (rnd h r L.length j) from hst8)
      have hjs : j < (L.set j (s : Int)).length := by rw [List.length_set]; exact hj
      have how := owner_S HS8.out HNX.out.doc ((j : Int) + 1)
      unfold ownS at how
      (try simp only at how)
      rw [owner_at hjs (by rw [List.getElem_set_self]; omega), List.getElem_set_self] at how
      have HOW := Aside0.mk how
      clear hst8 hmv8 HTK how hjs
      go_wp2_with fail
      refine HOW.out.mono ?_
      rintro e w9 ⟨rfl, rfl⟩
      go_wp2_with fail
      have hmn := Int.emod_nonneg ((j : Int) + 1) (show (L.length : Int) ≠ 0 by omega)
      have hml := Int.emod_lt_of_pos ((j : Int) + 1) (show (0 : Int) < (L.length : Int) by omega)
      obtain ⟨z, hz⟩ : ∃ z, ((j : Int) + 1) % (L.length : Int) = z := ⟨_, rfl⟩
      have hzt : Int.tmod ((j : Int) + 1) (L.length : Int) = z := by rw [Int.tmod_eq_emod_of_nonneg (by omega)]; exact hz
      rw [hz] at hmn hml
      have hnz : nxt L.length j = z + 1 := by unfold nxt; rw [hz]
      rw [hnz] at HS8
      have hzw : IntKind.i64.wrap (z + 1) = z + 1 := by rw [i64_w]; exact w_small (by omega)
      have hzv : IntKind.i64.wrap z = z := by rw [i64_w]; exact w_small (by omega)
      have hL0 : ((L.length : Int) == 0) = false := by rw [beq_eq_false_iff_ne]; omega
      have hL1 : ¬ (L.length = 0) := by omega
      have hL2 : ¬ (L = []) := fun e => by rw [e] at hj; exact absurd hj (Nat.not_lt_zero _)
      clear hnz
      go_region_held3 (fun W => Aside0 (St W w.heap.size B bm vo (L.set j (s : Int)) (z + 1) (rnd h r L.length j) ∧ Below w.heap.size w W))
        (first | (exact ⟨HS8.out.below ((Below.refl _ _).drew), HB8.out.drew⟩) | (exact ⟨hstd, hbld⟩))
        (first
          | (go_at_call 40; have hS := Aside0.out (p := St _ w.heap.size B bm vo (L.set j (s : Int)) (z + 1) (rnd h r L.length j) ∧ Below w.heap.size w _) (by assumption); refine (st_hand hS.1).mono ?_; rintro e w' ⟨rfl, hww⟩; have hstd := hS.1.below (same_below hww); have hbld := hS.2.trans ((same_below hww).mono hS.2.size); clear hww)
          | (go_at_call 36; have hS := Aside0.out (p := St _ w.heap.size B bm vo (L.set j (s : Int)) (z + 1) (rnd h r L.length j) ∧ Below w.heap.size w _) (by assumption); refine (lives_calls _).mono ?_; rintro e w' ⟨rfl, hww⟩; have hstd := hS.1.below hww; have hbld := hS.2.trans (hww.mono hS.2.size); clear hww))
      all_goals
        have hbf := hbld
        clear hbld hstd hS hzw hzv hzt hz
        (try simp only [Exit.inBlock, Exit.then])
        go_wp2
        go_ret
        exact ⟨rfl, hbf⟩

end Go.Proofs.Ytcbnmmkmgpbfiaa.PP

/- CtxPlays: its walk. -/
import Derived.Test.YtcbnmmkmgpbfiaaCtxRb
import Derived.Test.YtcbnmmkmgpbfiaaCtxQa
import Derived.Deep.QuietTactic
import Derived.BigQuiet
namespace Go.Proofs.Ytcbnmmkmgpbfiaa.PP
open Go.RowKit Go.Proofs.Ytcbnmmkmgpbfiaa.PX Go.Proofs.YtcbnmmkmgpbfiaaW.PrintWords Go.Proofs.YtcbnmmkmgpbfiaaW.PrintLast Go.Proofs.YtcbnmmkmgpbfiaaW.PrintMore
attribute [local go_sem] max2_int min2_int max_two min_two max_three min_three max_four min_four   -- for this text's walks alone
set_option linter.unusedVariables false
set_option linter.unusedSimpArgs false
open OpenD3
theorem cut_n {n : Int} (hn : Wf n) : (n > 10 → ∃ m : Int, n % 11 = m ∧ m ≤ 10 ∧ Wf m) ∧ (¬ n > 10 → n ≤ 10 ∧ Wf n) := by
  refine ⟨fun h => ⟨n % 11, rfl, by omega, by unfold Wf at hn ⊢; omega⟩, fun h => ⟨by omega, hn⟩⟩
theorem Doc.new (n : Nat) (hn : n ≤ 10) : Doc (List.replicate n (-1)) 1 0 :=
  ⟨by simp; omega, ⟨by omega, by omega, fun h => by omega⟩, by omega, fun x hx => by rw [(List.mem_replicate.1 hx).2]; omega⟩
/-- Where both stand behind New. -/
theorem Both.new {w0 w1 w2 : World} {B bm : Nat} {vo v : Value} {L0 : List Int} (hst : St w1 w0.heap.size B bm vo L0 1 0) (hb : Below w0.heap.size w0 w1) (hb2 : Below w1.heap.size w1 w2) (hR : Kd.R (Kd.int .i64) 3 w2 w1.heap.size (fun _ => True) v L0) :
    Both w0 w2 w0.heap.size B bm vo L0 1 0 v L0 :=
  ⟨hst.below hb2, Kd.R_lower (Kd.R_mono (Kd.R_bound hR) (fun k hk hm => by have := hst.lt k hm; omega)) hb.size, hb.trans (hb2.mono hb.size), rfl⟩
/-- Both stand alike. -/
structure Eq2 (w0 W : World) (B bm : Nat) (vo : Value) (g6 i : Nat) (A : Option Addr) (c : Nat) (L : List Int) (h r : Int) : Prop where
  both : Both w0 W w0.heap.size B bm vo L h r (.slice A L.length c) L
  doc : Doc L h r
  r0 : 0 ≤ r
  r1 : r ≤ i
  hk : W.heap[g6]? = some (.cells #[.slice A L.length c, .int .i64 h, .int .i64 r] 67 (0, 0))
  hg : w0.heap.size ≤ g6
section
variable {w0 W W' : World} {B bm : Nat} {vo : Value} {g6 i : Nat} {A : Option Addr} {c : Nat} {L : List Int} {h r : Int}
theorem Eq2.below (e : Eq2 w0 W B bm vo g6 i A c L h r) (hb : Below W.heap.size W W') : Eq2 w0 W' B bm vo g6 i A c L h r := ⟨e.both.below hb, e.doc, e.r0, e.r1, blk_below e.hk hb, e.hg⟩
theorem Eq2.nx (e : Eq2 w0 W B bm vo g6 i A c L h r) : ¬ Xp B bm vo (.slice A L.length c) g6 := fun hx => by
  obtain ⟨_, _, hp, _⟩ := e.both.st
  exact not_pid hp e.hk (by decide) hx
theorem Eq2.cells (e : Eq2 w0 W B bm vo g6 i A c L h r) : W.cell? ⟨g6, 0, none⟩ = some (.slice A L.length c) ∧ W.cell? ⟨g6, 1, none⟩ = some (.int .i64 h) ∧ W.cell? ⟨g6, 2, none⟩ = some (.int .i64 r) :=
  ⟨(blk_cell e.hk 0).trans rfl, (blk_cell e.hk 1).trans rfl, (blk_cell e.hk 2).trans rfl⟩
end
/-- What a round's deed leaves: the pair is in block g8, the old one in g6. -/
def Done (w0 : World) (B bm : Nat) (vo : Value) (g6 i : Nat) (v8 v9 : Value) (W : World) : Prop :=
  ∃ g8 A c L h r, v8 = .pointer (some ⟨g8, 0, none⟩) ∧ v9 = .bool true ∧ Eq2 w0 W B bm vo g8 (i + 1) A c L h r ∧ g6 ≠ g8 ∧ (∃ x y z, W.heap[g6]? = some (.cells #[x, y, z] 67 (0, 0))) ∧ w0.heap.size ≤ g6
theorem dd_at {W : World} {A : Option Addr} {xs : List Dd} (hD : DeedsAt W A xs) {i : Nat} (hi : i < xs.length) : ∃ ad, A = some ad ∧ W.cell? (ad.add (i * 4)) = some (.int .i64 xs[i].kd) ∧ W.cell? ⟨(ad.add (i * 4)).block, (ad.add (i * 4)).off + 1, none⟩ = some (.int .i64 xs[i].n) ∧
    W.cell? ⟨(ad.add (i * 4)).block, (ad.add (i * 4)).off + 2, none⟩ = some (.int .i64 xs[i].sp) ∧ W.cell? ⟨(ad.add (i * 4)).block, (ad.add (i * 4)).off + 3, none⟩ = some (.slice xs[i].A xs[i].av.length xs[i].c) := by
  obtain ⟨ad, e, h⟩ := hD.at_ i hi
  exact ⟨ad, e, h 0 _ rfl, by rw [← add_field _ _ 1 (by omega)]; exact h 1 _ rfl, by rw [← add_field _ _ 2 (by omega)]; exact h 2 _ rfl, by rw [← add_field _ _ 3 (by omega)]; exact h 3 _ rfl⟩
theorem deed_cells {w0 W : World} {a : Addr} {d : Dd} (hb : Below w0.heap.size w0 W) (y : w0.cell? a = some (.int .i64 d.kd) ∧ w0.cell? ⟨a.block, a.off + 1, none⟩ = some (.int .i64 d.n) ∧ w0.cell? ⟨a.block, a.off + 2, none⟩ = some (.int .i64 d.sp) ∧ w0.cell? ⟨a.block, a.off + 3, none⟩ = some (.slice d.A d.av.length d.c)) :
    W.cell? a = some (.int .i64 d.kd) ∧ W.cell? ⟨a.block, a.off + 1, none⟩ = some (.int .i64 d.n) ∧ W.cell? ⟨a.block, a.off + 2, none⟩ = some (.int .i64 d.sp) ∧ W.cell? ⟨a.block, a.off + 3, none⟩ = some (.slice d.A d.av.length d.c) :=
  ⟨(hb.cell (World.block_lt_of_cell? _ _ y.1)).trans y.1, (hb.cell (World.block_lt_of_cell? _ _ y.2.1)).trans y.2.1, (hb.cell (World.block_lt_of_cell? _ _ y.2.2.1)).trans y.2.2.1, (hb.cell (World.block_lt_of_cell? _ _ y.2.2.2)).trans y.2.2.2⟩
theorem cell_far3 {W : World} {b : Nat} {x y z : Value} {p : Addr} {v : Value} (h : W.cell? p = some v) (hn : p.block ≠ b) : (((W.setCell ⟨b, 0, none⟩ x).setCell ⟨b, 1, none⟩ y).setCell ⟨b, 2, none⟩ z).cell? p = some v :=
  (World.cell?_of_block ((Below.heap_setCell _ ⟨b, 2, none⟩ z p.block hn).trans ((Below.heap_setCell _ ⟨b, 1, none⟩ y p.block hn).trans (Below.heap_setCell _ ⟨b, 0, none⟩ x p.block hn)))).trans h
theorem Below.set3 {n : Nat} {w W : World} (h : Below n w W) {b : Nat} (hb : n ≤ b) (x y z : Value) : Below n w (((W.setCell ⟨b, 0, none⟩ x).setCell ⟨b, 1, none⟩ y).setCell ⟨b, 2, none⟩ z) := ((h.setCell (p := ⟨b, 0, none⟩) hb x).setCell (p := ⟨b, 1, none⟩) hb y).setCell (p := ⟨b, 2, none⟩) hb z
abbrev ZP : Obj := .cells #[.slice none 0 0, .int .i64 0, .int .i64 0] 67
set_option maxHeartbeats 8000000 in
set_option maxRecDepth 100000 in
theorem plays_law (n : Int) (A0 : Option Addr) (c0 : Nat) (xs : List Dd) (hn : Wf n) (w : World) (hD : DeedsAt w A0 xs) (hxc : xs.length ≤ c0) :
    Calls Try.prog 10 #[.int .i64 n, .slice A0 xs.length c0] w fun e w' => e = .returned (.bool true) ∧ Below w.heap.size w w' := by
  have HD := Aside0.mk hD
  clear hD
  go_enter Try.func10, Try.ntmps10
  go_upto_if 11 with fail
  go_cut [0] (fun v wx => (∃ m : Int, v = .int .i64 m ∧ m ≤ 10 ∧ Wf m) ∧ wx = w)
  case first =>
    by_cases h1 : n > 10
    · have d1 : decide (n > 10) = true := decide_eq_true h1
      obtain ⟨m, hm, hm2⟩ := (cut_n hn).1 h1
      have HM := Aside0.mk hm
      have h0 : 0 ≤ n := by omega
      go_wp2
      go_meet
      case rel => exact ⟨⟨m, by rw [HM.out], hm2⟩, rfl⟩
    · have d1 : decide (n > 10) = false := decide_eq_false h1
      go_wp2
      go_meet
      case rel => exact ⟨⟨n, rfl, (cut_n hn).2 (by omega)⟩, rfl⟩
  case rest =>
  obtain ⟨⟨m, rfl, hm1, hm2⟩, rfl⟩ := hcut
  clear hn
  have hN : m.toNat ≤ 10 := by omega
  have hmx : max m 0 = (m.toNat : Int) := by omega
  have hnew := new_st wc m m.toNat hN hmx
  have hdoc := Doc.new m.toNat hN
  have hnf := New_f m hm1
  unfold NewS at hnew
  generalize List.replicate m.toNat (-1 : Int) = L0 at hnew hdoc hnf
  have HNEW := Aside0.mk hnew
  have HDOC := Aside0.mk hdoc
  have HNF := Aside0.mk hnf
  clear hmx hN hnew hdoc hnf
  go_wp2_with fail
  refine HNEW.out.mono ?_
  rintro e w1 ⟨B, bm, vo, rfl, hst, hb⟩
  have HST := Aside0.mk hst
  have HB := Aside0.mk hb
  clear hst hb HNEW
  go_wp2_with fail
  refine (lookasideref14_New.calls 9000 m L0 1 0 w1 HNF.out).mono ?_
  rintro e w2 ⟨v2, rfl, hR2, hb2⟩
  obtain ⟨A2, c2, rfl⟩ := Kd.R_slice hR2
  have hboth := Both.new HST.out HB.out hb2 hR2
  have he2 : Eq2 wc (w2.alloc (.cells #[.slice A2 L0.length c2, .int .i64 1, .int .i64 0] 67)) B bm vo w2.heap.size 0 A2 c2 L0 1 0 :=
    ⟨hboth.below ((Below.refl _ w2).alloc (Nat.le_refl _) _), HDOC.out, by omega, by omega, blk_new w2 _, hboth.bl.size⟩
  have HE := Aside0.mk he2
  obtain ⟨x0, x1, x2⟩ := he2.cells
  clear hboth he2 hR2 hb2 HST HB HNF HDOC
  go_wp2_with fail
  generalize w2.alloc (.cells #[.slice A2 L0.length c2, .int .i64 1, .int .i64 0] 67) = w3 at *
  generalize w2.heap.size = g6 at *
  obtain ⟨hcu, hCL⟩ := HE.out.both.reads
  refine (like_calls HE.out.both.st HE.out.doc hcu hCL).mono ?_
  rintro e w4 ⟨rfl, hb4⟩
  replace HE := Aside0.mk (HE.out.below hb4)
  clear hcu hCL hb4 x0 x1 x2
  go_wp2_with fail
  go_loopg [7] xs.length (fun k iv wr => ∃ (i g : Nat) (A : Option Addr) (c : Nat) (L : List Int) (h r : Int), iv = .int .i64 i ∧ i + k = xs.length ∧ i ≤ 40 ∧ g = g6 ∧ Aside0 (Eq2 wc wr B bm vo g i A c L h r))
  case atStart => exact ⟨0, g6, A2, c2, L0, 1, 0, rfl, by omega, by omega, rfl, HE⟩
  case round =>
    clear HE
    obtain ⟨i, g, A, c, L, h, r, rfl, hik, hi40, rfl, HE⟩ := hrel
    have HIK := Aside0.mk hik
    clear hik
    by_cases hl1 : (i : Int) < (xs.length : Int)
    · have hd1 : decide ((i : Int) < (xs.length : Int)) = true := decide_eq_true hl1
      by_cases hl2 : (i : Int) < 40
      · have hd2 : decide ((i : Int) < 40) = true := decide_eq_true hl2
        have hil : i < xs.length := by omega
        go_upto_region 12 with fail
        go_cut [8, 9] (fun v8 v9 wx => Done wc B bm vo g i v8 v9 wx)
        case first =>
          obtain ⟨ad, rfl, hy⟩ := dd_at HD.out hil
          have hgood := HD.out.good _ (List.getElem_mem hil)
          generalize xs[i] = d at hy hgood
          have HG := Aside0.mk hgood
          have HY := Aside0.mk hy
          have hr1 : r < 1000000 := by have := HE.out.r1; omega
          have HXL := Aside0.mk (show ∀ k, Xp B bm vo (Value.slice A L.length c) k → k < wr.heap.size from HE.out.both.st.lt)
          have hgne := Aside0.mk (show g ≠ wr.heap.size from Nat.ne_of_lt (blk_lt HE.out.hk))
          obtain ⟨x0, x1, x2⟩ := HE.out.cells
          obtain ⟨y0, y1, y2, y3⟩ := deed_cells HE.out.both.bl hy
          clear hgood hy
          go_region_held3 (fun W => W.cell? ⟨g, 0, none⟩ = some (.slice A L.length c) ∧ W.cell? ⟨g, 1, none⟩ = some (.int .i64 h) ∧ W.cell? ⟨g, 2, none⟩ = some (.int .i64 r) ∧
              W.cell? (ad.add (i * 4)) = some (.int .i64 d.kd) ∧ W.cell? ⟨(ad.add (i * 4)).block, (ad.add (i * 4)).off + 1, none⟩ = some (.int .i64 d.n) ∧ W.cell? ⟨(ad.add (i * 4)).block, (ad.add (i * 4)).off + 2, none⟩ = some (.int .i64 d.sp) ∧ W.cell? ⟨(ad.add (i * 4)).block, (ad.add (i * 4)).off + 3, none⟩ = some (.slice d.A d.av.length d.c))
            (first | (exact ⟨x0, x1, x2, y0, y1, y2, y3⟩) | (exact ⟨hx5.1, hx5.2.1, hx5.2.2, deed_cells hB5.bl HY.out⟩) | (refine ⟨?_, ?_, ?_, deed_cells (hB5.bl.alloc hB5.bl.size _) HY.out⟩ <;> go_keep) | (exact ⟨cell_far3 hx5.1 hgne.out, cell_far3 hx5.2.1 hgne.out, cell_far3 hx5.2.2 hgne.out, deed_cells (Below.set3 hB5.bl HE.out.both.bl.size _ _ _) HY.out⟩) | (refine ⟨?_, ?_, ?_, deed_cells (HE.out.both.bl.drew.alloc HE.out.both.bl.size _) HY.out⟩ <;> go_keep) | go_keep)
            (first
              | (go_at_call 42; refine (does_any (HE.out.below (Below.refl _ wr).drew).both HE.out.doc HE.out.doc hr1 hr1 d HG.out).mono ?_; rintro e w5 ⟨os5, hd5, rn5, A5, c5, L5, h5, r5, sm5, rfl, hB5, hn5, hm5, he5, hf5⟩; have hx5 := hf5 g (blk_lt HE.out.hk) HE.out.nx _ HE.out.hk; have HK5 := Aside0.mk hx5; replace hx5 := And.intro ((blk_cell hx5 0).trans rfl) (And.intro ((blk_cell hx5 1).trans rfl) ((blk_cell hx5 2).trans rfl)); obtain ⟨rfl, rfl, rfl, rfl⟩ := he5 rfl rfl rfl)
              | (go_at_call 42; refine (does_any (HE.out.below ((Below.refl _ wr).drew.alloc (Nat.le_refl wr.heap.size) ZP)).both HE.out.doc HE.out.doc hr1 hr1 d HG.out).mono ?_; rintro e w5 ⟨os5, hd5, rn5, A5, c5, L5, h5, r5, sm5, rfl, hB5, hn5, hm5, he5, hf5⟩; have hx5 := hf5 g (Nat.lt_of_lt_of_le (blk_lt HE.out.hk) (by simp)) HE.out.nx _ (blk_below HE.out.hk ((Below.refl _ wr).drew.alloc (Nat.le_refl wr.heap.size) ZP)); have HK5 := Aside0.mk hx5; replace hx5 := And.intro ((blk_cell hx5 0).trans rfl) (And.intro ((blk_cell hx5 1).trans rfl) ((blk_cell hx5 2).trans rfl)); have hz5 := hf5 wr.heap.size (by simp) (fun hx => Nat.lt_irrefl _ (HXL.out _ hx)) _ (blk_new wr.drew ZP); have HZ5 := Aside0.mk hz5; replace hz5 := And.intro ((blk_cell hz5 0).trans rfl) (And.intro ((blk_cell hz5 1).trans rfl) ((blk_cell hz5 2).trans rfl)); obtain ⟨hz50, hz51, hz52⟩ := hz5; have hzf := blk_frozen HZ5.out;  obtain ⟨rfl, rfl, rfl, rfl⟩ := he5 rfl rfl rfl))
          · have hkn := blk_new w5 (.cells #[.slice A5 os5.length c5, .int .i64 hd5, .int .i64 rn5] 67)
            have hbl := (Below.refl _ w5).alloc (Nat.le_refl _) (.cells #[.slice A5 os5.length c5, .int .i64 hd5, .int .i64 rn5] 67)
            have hd : Done wc B bm vo g i (.pointer (some ⟨w5.heap.size, 0, none⟩)) (.bool true) (w5.alloc (.cells #[.slice A5 os5.length c5, .int .i64 hd5, .int .i64 rn5] 67)) :=
              ⟨_, A5, c5, os5, hd5, rn5, rfl, rfl, ⟨hB5.below hbl, hn5.doc, Int.le_trans HE.out.r0 hn5.lo, by have := hn5.hi; have := HE.out.r1; push_cast; simp only at *; omega, hkn, hB5.bl.size⟩, Nat.ne_of_lt (blk_lt HK5.out), ⟨_, _, _, blk_below HK5.out hbl⟩, HE.out.hg⟩
            have HDN := Aside0.mk hd
            clear hd hkn hbl hB5 hn5 hm5 hf5 hx5
            (try simp only [Exit.inBlock, Exit.then])
            go_wp2_with fail
            go_meet
            case rel => exact HDN.out
          · have hf5' := ((hB5.far HZ5.out (by decide) HE.out.both.bl.size 0 (.slice A5 os5.length c5)).far (blk_put HZ5.out 0 (.slice A5 os5.length c5) rfl) (by decide) HE.out.both.bl.size 1 (.int .i64 hd5)).far (blk_put (blk_put HZ5.out 0 (.slice A5 os5.length c5) rfl) 1 (.int .i64 hd5) rfl) (by decide) HE.out.both.bl.size 2 (.int .i64 rn5)
            have hkn := blk_put (blk_put (blk_put HZ5.out 0 (.slice A5 os5.length c5) rfl) 1 (.int .i64 hd5) rfl) 2 (.int .i64 rn5) rfl
            have hko := (Below.heap_setCell _ ⟨wr.heap.size, 2, none⟩ (.int .i64 rn5) g hgne.out).trans ((Below.heap_setCell _ ⟨wr.heap.size, 1, none⟩ (.int .i64 hd5) g hgne.out).trans ((Below.heap_setCell _ ⟨wr.heap.size, 0, none⟩ (.slice A5 os5.length c5) g hgne.out).trans HK5.out))
            have hd : Done wc B bm vo g i (.pointer (some ⟨wr.heap.size, 0, none⟩)) (.bool true) (((w5.setCell ⟨wr.heap.size, 0, none⟩ (.slice A5 os5.length c5)).setCell ⟨wr.heap.size, 1, none⟩ (.int .i64 hd5)).setCell ⟨wr.heap.size, 2, none⟩ (.int .i64 rn5)) :=
              ⟨_, A5, c5, os5, hd5, rn5, rfl, rfl, ⟨hf5', hn5.doc, Int.le_trans HE.out.r0 hn5.lo, by have := hn5.hi; have := HE.out.r1; push_cast; simp only at *; omega, hkn, HE.out.both.bl.size⟩, hgne.out, ⟨_, _, _, hko⟩, HE.out.hg⟩
            have HDN := Aside0.mk hd
            clear hd hkn hko hf5' hB5 hn5 hm5 hf5 hx5
            (try simp only [Exit.inBlock, Exit.then])
            go_wp2_with fail
            go_meet
            case rel => exact HDN.out
        case rest =>
        obtain ⟨g8, A8, c8, L8, h8, r8, rfl, rfl, he8, hne8, ⟨o1, o2, o3, hk8⟩, hg8⟩ := hcut
        have HE8 := Aside0.mk he8
        have HK8 := Aside0.mk hk8
        obtain ⟨z0, z1, z2⟩ := he8.cells
        obtain ⟨p0, p1, p2⟩ := And.intro ((blk_cell hk8 0).trans rfl) (And.intro ((blk_cell hk8 1).trans rfl) ((blk_cell hk8 2).trans rfl))
        have f8 := blk_frozen hk8
        have hko := blk_put (blk_put (blk_put hk8 0 (.slice A8 L8.length c8) rfl) 1 (.int .i64 h8) rfl) 2 (.int .i64 r8) rfl
        have hbo := ((he8.both.far hk8 (by decide) hg8 0 (.slice A8 L8.length c8)).far (blk_put hk8 0 (.slice A8 L8.length c8) rfl) (by decide) hg8 1 (.int .i64 h8)).far (blk_put (blk_put hk8 0 (.slice A8 L8.length c8) rfl) 1 (.int .i64 h8) rfl) (by decide) hg8 2 (.int .i64 r8)
        have HE9 := Aside0.mk (Eq2.mk hbo he8.doc he8.r0 he8.r1 hko hg8)
        clear he8 hk8 hko hbo HE
        go_wp2_with fail
        generalize ((wc.setCell ⟨g, 0, none⟩ (.slice A8 L8.length c8)).setCell ⟨g, 1, none⟩ (.int .i64 h8)).setCell ⟨g, 2, none⟩ (.int .i64 r8) = w9 at *
        clear z0 z1 z2 p0 p1 p2 f8 HE8 HK8
        obtain ⟨hcu, hCL⟩ := HE9.out.both.reads
        refine (like_calls HE9.out.both.st HE9.out.doc hcu hCL).mono ?_
        rintro e w4 ⟨rfl, hb4⟩
        replace HE9 := Aside0.mk (HE9.out.below hb4)
        clear hcu hCL hb4
        have hwj : wrap64 ((i : Int) + 1) = (i : Int) + 1 := w_small (by omega)
        go_wp2
        clear hwj
        have hjk := HIK.out
        go_roundg (gk - 1)
        case measure => omega
        case rel => exact ⟨i + 1, g, A8, c8, L8, h8, r8, by push_cast; rfl, by omega, by omega, rfl, HE9⟩
      · have hd2 : decide ((i : Int) < 40) = false := decide_eq_false hl2
        go_wp2_with fail
        refine (lives_calls _).mono ?_
        rintro e w3 ⟨rfl, hb3⟩
        have hbf := HE.out.both.bl.trans (hb3.mono HE.out.both.bl.size)
        clear hb3
        go_wp2
        go_ret
        exact ⟨rfl, hbf⟩
    · have hd1 : decide ((i : Int) < (xs.length : Int)) = false := decide_eq_false hl1
      go_wp2_with fail
      refine (lives_calls _).mono ?_
      rintro e w3 ⟨rfl, hb3⟩
      have hbf := HE.out.both.bl.trans (hb3.mono HE.out.both.bl.size)
      clear hb3
      go_wp2
      go_ret
      exact ⟨rfl, hbf⟩

end Go.Proofs.Ytcbnmmkmgpbfiaa.PP
/- CtxOnce: its walk. -/
namespace Go.Proofs.Ytcbnmmkmgpbfiaa.PP
open Go.RowKit Go.Proofs.Ytcbnmmkmgpbfiaa.PX Go.Proofs.YtcbnmmkmgpbfiaaW.PrintWords Go.Proofs.YtcbnmmkmgpbfiaaW.PrintLast Go.Proofs.YtcbnmmkmgpbfiaaW.PrintMore
attribute [local go_sem] max2_int min2_int max_two min_two max_three min_three max_four min_four   -- for this text's walks alone
set_option linter.unusedVariables false
set_option linter.unusedSimpArgs false
open OpenD3
theorem St.inj {W : World} {base B bm : Nat} {vo : Value} {os : List Int} {hand rounds : Int} (h : St W base B bm vo os hand rounds) {i j : Nat} (hi : i < os.length) (hj : j < os.length) (h0 : 0 ≤ os[i]) (e : os[i] = os[j]) : i = j := by
  obtain ⟨f, c, _, ho⟩ := h
  exact ho.inj hi hj h0 e
theorem St.idx {W : World} {base B bm : Nat} {vo : Value} {os : List Int} {hand rounds : Int} (h : St W base B bm vo os hand rounds) {i : Nat} (hi : i < os.length) (h0 : 0 ≤ os[i]) : ofS os os[i] = (i : Int) + 1 := by
  have hm : os[i] ∈ os := List.getElem_mem hi
  have h1 := List.idxOf_lt_length_of_mem hm
  have h2 := List.getElem_idxOf h1
  have := h.inj h1 hi (by rw [h2]; exact h0) h2
  rw [ofS, if_pos ⟨h0, hm⟩, this]
def negs (os : List Int) : Int := (os.countP (fun x => decide (x < 0)) : Int)
theorem negs_all (L : List Int) : negs L = (L.length : Int) - (L.countP (fun x => decide (0 ≤ x)) : Int) := by
  unfold negs
  have h2 := List.length_eq_countP_add_countP (fun x : Int => decide (0 ≤ x)) (l := L)
  have h3 : L.countP (fun x => decide (x < 0)) = L.countP (fun x => !decide (0 ≤ x)) := List.countP_congr (fun x _ => by simp)
  rw [h3]
  have h4 : L.countP (fun x => decide (¬ (decide (0 ≤ x)) = true)) = L.countP (fun x => !decide (0 ≤ x)) := List.countP_congr (fun x _ => by simp)
  omega
theorem negs_take {os : List Int} {a : Nat} (h : a < os.length) : negs (os.take (a + 1)) = negs (os.take a) + (if os[a] < 0 then 1 else 0) := by
  unfold negs
  rw [List.take_succ_eq_append_getElem h, List.countP_append, List.countP_singleton]
  by_cases e : os[a] < 0
  · rw [if_pos (decide_eq_true e), if_pos e]; push_cast; rfl
  · rw [if_neg (by simp [e]), if_neg e]; push_cast; rfl
theorem negs_le (os : List Int) : 0 ≤ negs os ∧ negs os ≤ (os.length : Int) := by
  unfold negs
  have := List.countP_le_length (p := fun x : Int => decide (x < 0)) (l := os)
  omega
/-- The old list beside the pool as it now stands. -/
theorem Both.keep {w0 W W' : World} {base B bm : Nat} {vo u u' : Value} {os os' L L' : List Int} {hand rounds hand' rounds' : Int} (h : Both w0 W base B bm vo os hand rounds u L) (h' : Both w0 W' base B bm vo os' hand' rounds' u' L')
    (hf : ∀ k, k < W.heap.size → ¬ Xp B bm vo u k → ∀ o, W.heap[k]? = some o → W'.heap[k]? = some o) : Both w0 W' base B bm vo os' hand' rounds' u L :=
  ⟨h'.st, Kd.R_step h.rv (fun k hk hlt => by rw [hf k hlt hk _ (Array.getElem?_eq_getElem hlt)]; exact (Array.getElem?_eq_getElem hlt).symm), h'.bl, h'.le⟩
/-- The pool goes on; the list stays. -/
structure Eq3 (w0 W : World) (B bm : Nat) (vo : Value) (g6 i : Nat) (A : Option Addr) (c : Nat) (L os : List Int) (hand rounds : Int) : Prop where
  both : Both w0 W w0.heap.size B bm vo os hand rounds (.slice A L.length c) L
  docp : Doc os hand rounds
  docl : Doc L 1 0
  r0 : 0 ≤ rounds
  r1 : rounds ≤ i
  hk : W.heap[g6]? = some (.cells #[.slice A L.length c, .int .i64 1, .int .i64 0] 67 (0, 0))
section
variable {w0 W W' : World} {B bm : Nat} {vo : Value} {g6 i : Nat} {A : Option Addr} {c : Nat} {L os : List Int} {hand rounds : Int}
theorem Eq3.below (e : Eq3 w0 W B bm vo g6 i A c L os hand rounds) (hb : Below W.heap.size W W') : Eq3 w0 W' B bm vo g6 i A c L os hand rounds := ⟨e.both.below hb, e.docp, e.docl, e.r0, e.r1, blk_below e.hk hb⟩
theorem Eq3.nx (e : Eq3 w0 W B bm vo g6 i A c L os hand rounds) : ¬ Xp B bm vo (.slice A L.length c) g6 := fun hx => by
  obtain ⟨_, _, hp, _⟩ := e.both.st
  exact not_pid hp e.hk (by decide) hx
theorem Eq3.cells (e : Eq3 w0 W B bm vo g6 i A c L os hand rounds) : W.cell? ⟨g6, 0, none⟩ = some (.slice A L.length c) ∧ W.cell? ⟨g6, 1, none⟩ = some (.int .i64 1) ∧ W.cell? ⟨g6, 2, none⟩ = some (.int .i64 0) :=
  ⟨(blk_cell e.hk 0).trans rfl, (blk_cell e.hk 1).trans rfl, (blk_cell e.hk 2).trans rfl⟩
end
def Went (w0 : World) (B bm : Nat) (vo : Value) (g6 i : Nat) (A : Option Addr) (c : Nat) (L : List Int) (W : World) : Prop := ∃ os hand rounds, Eq3 w0 W B bm vo g6 (i + 1) A c L os hand rounds
/-- While the pool is looked through. -/
structure Lo (w0 W : World) (B bm : Nat) (vo : Value) (g6 i : Nat) (A : Option Addr) (c : Nat) (L os : List Int) (hand rounds : Int) (A1 : Option Addr) : Prop where
  e : Eq3 w0 W B bm vo g6 i A c L os hand rounds
  c1 : Kd.C (Kd.int .i64) W A1 os.length os
theorem Lo.below {w0 W W' : World} {B bm : Nat} {vo : Value} {g6 i : Nat} {A : Option Addr} {c : Nat} {L os : List Int} {hand rounds : Int} {A1 : Option Addr} (l : Lo w0 W B bm vo g6 i A c L os hand rounds A1) (hb : Below W.heap.size W W') : Lo w0 W' B bm vo g6 i A c L os hand rounds A1 :=
  ⟨l.e.below hb, Kd.C_below l.c1 hb⟩
set_option maxHeartbeats 8000000 in
set_option maxRecDepth 100000 in
theorem once_law (n : Int) (A0 : Option Addr) (c0 : Nat) (xs : List Dd) (hn : Wf n) (w : World) (hD : DeedsAt w A0 xs) (hxc : xs.length ≤ c0) :
    Calls Try.prog 8 #[.int .i64 n, .slice A0 xs.length c0] w fun e w' => e = .returned (.bool true) ∧ Below w.heap.size w w' := by
  have HD := Aside0.mk hD
  clear hD
  go_enter Try.func8, Try.ntmps8
  go_upto_if 17 with fail
  go_cut [0] (fun v wx => (∃ m : Int, v = .int .i64 m ∧ m ≤ 10 ∧ Wf m) ∧ wx = w)
  case first =>
    by_cases h1 : n > 10
    · have d1 : decide (n > 10) = true := decide_eq_true h1
      obtain ⟨m, hm, hm2⟩ := (cut_n hn).1 h1
      have HM := Aside0.mk hm
      have h0 : 0 ≤ n := by omega
      go_wp2
      go_meet
      case rel => exact ⟨⟨m, by rw [HM.out], hm2⟩, rfl⟩
    · have d1 : decide (n > 10) = false := decide_eq_false h1
      go_wp2
      go_meet
      case rel => exact ⟨⟨n, rfl, (cut_n hn).2 (by omega)⟩, rfl⟩
  case rest =>
  obtain ⟨⟨m, rfl, hm1, hm2⟩, hw0⟩ := hcut
  replace hw0 := hw0.symm
  subst hw0
  clear hn
  have hN : m.toNat ≤ 10 := by omega
  have hmx : max m 0 = (m.toNat : Int) := by omega
  have hnew := new_st w m m.toNat hN hmx
  have hdoc := Doc.new m.toNat hN
  have hnf := New_f m hm1
  unfold NewS at hnew
  generalize List.replicate m.toNat (-1 : Int) = L0 at hnew hdoc hnf
  have HNEW := Aside0.mk hnew
  have HDOC := Aside0.mk hdoc
  have HNF := Aside0.mk hnf
  clear hmx hN hnew hdoc hnf
  go_wp2_with fail
  refine HNEW.out.mono ?_
  rintro e w1 ⟨B, bm, vo, rfl, hst, hb⟩
  have HST := Aside0.mk hst
  have HB := Aside0.mk hb
  clear hst hb HNEW
  go_wp2_with fail
  refine (lookasideref14_New.calls 9000 m L0 1 0 w1 HNF.out).mono ?_
  rintro e w2 ⟨v2, rfl, hR2, hb2⟩
  obtain ⟨A2, c2, rfl⟩ := Kd.R_slice hR2
  have hboth := Both.new HST.out HB.out hb2 hR2
  have he2 : Eq3 w (w2.alloc (.cells #[.slice A2 L0.length c2, .int .i64 1, .int .i64 0] 67)) B bm vo w2.heap.size 0 A2 c2 L0 L0 1 0 :=
    ⟨hboth.below ((Below.refl _ w2).alloc (Nat.le_refl _) _), HDOC.out, HDOC.out, by omega, by omega, blk_new w2 _⟩
  have HE := Aside0.mk he2
  clear hboth he2 hR2 hb2 HST HB HNF HDOC
  go_wp2_with fail
  generalize w2.alloc (.cells #[.slice A2 L0.length c2, .int .i64 1, .int .i64 0] 67) = w3 at *
  generalize w2.heap.size = g6 at *
  go_loopg [7] xs.length (fun k iv wr => ∃ (i : Nat) (os : List Int) (hand rounds : Int), iv = .int .i64 i ∧ i + k = xs.length ∧ i ≤ 40 ∧ Aside0 (Eq3 w wr B bm vo g6 i A2 c2 L0 os hand rounds))
  case atStart => exact ⟨0, L0, 1, 0, rfl, by omega, by omega, HE⟩
  case round =>
    clear HE
    obtain ⟨i, os0, hand0, rounds0, rfl, hik, hi40, HE⟩ := hrel
    obtain ⟨gi, hgi⟩ : ∃ x, x = gk := ⟨_, rfl⟩
    rw [← hgi] at hik
    have HGI := Aside0.mk hgi
    clear hgi
    have HIK := Aside0.mk hik
    clear hik
    by_cases hl1 : (i : Int) < (xs.length : Int)
    · have hd1 : decide ((i : Int) < (xs.length : Int)) = true := decide_eq_true hl1
      by_cases hl2 : (i : Int) < 40
      · have hd2 : decide ((i : Int) < 40) = true := decide_eq_true hl2
        have hil : i < xs.length := by omega
        go_upto_region 10 with fail
        go_cut [] (fun wx => Went w B bm vo g6 i A2 c2 L0 wx)
        case first =>
          obtain ⟨ad, rfl, hy⟩ := dd_at HD.out hil
          have hgood := HD.out.good _ (List.getElem_mem hil)
          generalize xs[i] = d at hy hgood
          have HG := Aside0.mk hgood
          have HY := Aside0.mk hy
          have hr1 : rounds0 < 1000000 := by have := HE.out.r1; omega
          obtain ⟨x0, x1, x2⟩ := HE.out.cells
          obtain ⟨y0, y1, y2, y3⟩ := deed_cells HE.out.both.bl hy
          clear hgood hy
          go_region_held3 (fun W => W.cell? ⟨g6, 0, none⟩ = some (.slice A2 L0.length c2) ∧ W.cell? ⟨g6, 1, none⟩ = some (.int .i64 1) ∧ W.cell? ⟨g6, 2, none⟩ = some (.int .i64 0) ∧
              W.cell? (ad.add (i * 4)) = some (.int .i64 d.kd) ∧ W.cell? ⟨(ad.add (i * 4)).block, (ad.add (i * 4)).off + 1, none⟩ = some (.int .i64 d.n) ∧ W.cell? ⟨(ad.add (i * 4)).block, (ad.add (i * 4)).off + 2, none⟩ = some (.int .i64 d.sp) ∧ W.cell? ⟨(ad.add (i * 4)).block, (ad.add (i * 4)).off + 3, none⟩ = some (.slice d.A d.av.length d.c))
            (first | (exact ⟨x0, x1, x2, y0, y1, y2, y3⟩) | (exact ⟨hx5.1, hx5.2.1, hx5.2.2, deed_cells hB5.bl HY.out⟩) | go_keep)
            ((go_at_call 42; refine (does_any (HE.out.below (Below.refl _ wr).drew).both HE.out.docp HE.out.docl hr1 (by omega) d HG.out).mono ?_; rintro e w5 ⟨os5, hd5, rn5, A5, c5, L5, h5, r5, sm5, rfl, hB5, hn5, hm5, he5, hf5⟩; have hx5 := hf5 g6 (blk_lt HE.out.hk) HE.out.nx _ HE.out.hk; have HK5 := Aside0.mk hx5; replace hx5 := And.intro ((blk_cell hx5 0).trans rfl) (And.intro ((blk_cell hx5 1).trans rfl) ((blk_cell hx5 2).trans rfl))))
          have hw : Went w B bm vo g6 i A2 c2 L0 w5 := ⟨os5, hd5, rn5, (HE.out.both.below (Below.refl _ wr).drew).keep hB5 hf5, hn5.doc, HE.out.docl, Int.le_trans HE.out.r0 hn5.lo, by have := hn5.hi; have := HE.out.r1; push_cast; simp only at *; omega, HK5.out⟩
          have HW := Aside0.mk hw
          clear hw hB5 hn5 hm5 he5 hf5 hx5 HK5
          (try simp only [Exit.inBlock, Exit.then])
          go_wp2_with fail
          go_meet
          case rel => exact HW.out
        case rest =>
        obtain ⟨os, hand, rounds, he⟩ := hcut
        have HE2 := Aside0.mk he
        clear he HE
        go_wp2_with fail
        refine (owners_S HE2.out.both.st HE2.out.docp).mono ?_
        rintro e w6 ⟨v1, rfl, hR1, hb6⟩
        obtain ⟨A1, c1, hv1⟩ := Kd.R_slice hR1
        subst hv1
        obtain ⟨_, hc1, hC1⟩ := Kd.R_reads' hR1
        have HL := Aside0.mk (Lo.mk (HE2.out.below hb6) hC1)
        have hl10 := HE2.out.docp.len
        clear hR1 hb6 hC1 HE2
        go_wp2_with fail
        go_loopg [9, 10] os.length (fun k fv av wr => ∃ a : Nat, av = .int .i64 a ∧ fv = .int .i64 (negs (os.take a)) ∧ a + k = os.length ∧ Aside0 (Lo w wr B bm vo g6 (i + 1) A2 c2 L0 os hand rounds A1))
        case atStart => exact ⟨0, rfl, rfl, by omega, HL⟩
        case round =>
          clear HL
          obtain ⟨a, rfl, rfl, hak, HL⟩ := hrel
          obtain ⟨ga, hga⟩ : ∃ x, x = gk := ⟨_, rfl⟩
          rw [← hga] at hak
          have HGA := Aside0.mk hga
          clear hga
          have HAK := Aside0.mk hak
          clear hak
          by_cases ha : (a : Int) < (os.length : Int)
          · have had : decide ((a : Int) < (os.length : Int)) = true := decide_eq_true ha
            obtain ⟨ad1, hA1, z0⟩ := Args3.at_int HL.out.c1 a (by omega)
            subst hA1
            have hal : a < os.length := by omega
            have ha0 : (0 : Int) ≤ (a : Int) := by omega
            have hnt := negs_take hal
            have hwa : wrap64 ((a : Int) + 1) = (a : Int) + 1 := w_small (by omega)
            by_cases hneg : os[a] < 0
            · have hdn : decide (os[a] < 0) = true := decide_eq_true hneg
              rw [if_pos hneg] at hnt
              have HNT := Aside0.mk hnt
              have hq := negs_le (os.take a)
              rw [List.length_take] at hq
              obtain ⟨hq0, hq1⟩ : 0 ≤ negs (os.take a) ∧ negs (os.take a) ≤ 10 := by omega
              clear hnt hneg hq
              generalize negs (os.take a) = q at *
              go_wp2
              clear hwa
              have hak := HAK.out
              have hga := HGA.out
              go_roundg (ga - 1)
              case measure => omega
              case rel => exact ⟨a + 1, by push_cast; rfl, by rw [HNT.out], by omega, HL⟩
            · have hdn : decide (os[a] < 0) = false := decide_eq_false hneg
              rw [if_neg hneg, Int.add_zero] at hnt
              have HNT := Aside0.mk hnt
              have hge : 0 ≤ os[a] := by omega
              have hof := of_S HL.out.e.both.st (s := os[a]) (by have := HL.out.e.docp.low _ (List.getElem_mem hal); unfold Wf; omega)
              rw [HL.out.e.both.st.idx hal hge, decide_eq_true (show (a : Int) + 1 > 0 by omega)] at hof
              have HOF := Aside0.mk hof
              have how := owner_S HL.out.e.both.st HL.out.e.docp ((a : Int) + 1)
              rw [owner_at hal (by omega)] at how
              have HOW := Aside0.mk how
              have hinj : ∀ b (hb : b < a), (os[b]'(by omega) == os[a]) = false := fun b hb => by
                rw [beq_eq_false_iff_ne]
                intro e
                have := HL.out.e.both.st.inj hal (show b < os.length by omega) hge e.symm
                omega
              have HINJ := Aside0.mk hinj
              clear hnt hneg hge hof how hinj
              generalize hx : os[a] = x at *
              have HX := Aside0.mk hx
              clear hx
              go_wp2_with fail
              refine HOF.out.mono ?_
              rintro e w7 ⟨rfl, rfl⟩
              go_wp2_with fail
              refine HOW.out.mono ?_
              rintro e w8 ⟨rfl, rfl⟩
              go_wp2_with fail
              clear z0
              go_loopg [15] a (fun k bv wr => ∃ b : Nat, bv = .int .i64 b ∧ b + k = a ∧ Aside0 (Lo w wr B bm vo g6 (i + 1) A2 c2 L0 os hand rounds (some ad1)))
              case atStart => exact ⟨0, rfl, by omega, HL⟩
              case round =>
                clear HL
                obtain ⟨b, rfl, hbk, HL⟩ := hrel
                have HBK := Aside0.mk hbk
                clear hbk
                by_cases hb : (b : Int) < (a : Int)
                · have hbd : decide ((b : Int) < (a : Int)) = true := decide_eq_true hb
                  have hb0 : (0 : Int) ≤ (b : Int) := by omega
                  have hbl : (b : Int) < (os.length : Int) := by omega
                  obtain ⟨ad2, hA2, z1⟩ := Args3.at_int HL.out.c1 b (by omega)
                  injection hA2 with hA2
                  subst hA2
                  obtain ⟨ad3, hA3, z2⟩ := Args3.at_int HL.out.c1 a hal
                  injection hA3 with hA3
                  subst hA3
                  have hne := HINJ.out b (by omega)
                  rw [HX.out] at z2
                  generalize os[b] = y at z1 hne
                  have hwb : wrap64 ((b : Int) + 1) = (b : Int) + 1 := w_small (by omega)
                  go_wp2_with fail
                  go_quiet (fail)
                  go_wp2
                  have hbk := HBK.out
                  go_roundg (gk - 1)
                  case measure => omega
                  case rel => exact ⟨b + 1, by push_cast; rfl, by omega, ⟨HL.out.below (pw_below_drewN (Below.refl _ _) nq)⟩⟩
                · have hbd : decide ((b : Int) < (a : Int)) = false := decide_eq_false hb
                  go_wp2
                  have hak := HAK.out
                  have hga := HGA.out
                  go_roundg (ga - 1)
                  case measure => omega
                  case rel => exact ⟨a + 1, by push_cast; rfl, by rw [HNT.out], by omega, HL⟩
          · have had : decide ((a : Int) < (os.length : Int)) = false := decide_eq_false ha
            have hfr := free_st HL.out.e.both.st HL.out.e.docp.sml
            rw [← negs_all] at hfr
            have hta : os.take a = os := List.take_of_length_le (by omega)
            rw [hta]
            clear hta
            go_wp2_with fail
            refine hfr.mono ?_
            rintro e w8 ⟨rfl, hb8⟩
            have HE9 := Aside0.mk (HL.out.e.below hb8)
            clear hfr hb8 HL
            have hwj : wrap64 ((i : Int) + 1) = (i : Int) + 1 := w_small (by omega)
            go_wp2
            clear hwj
            have hjk := HIK.out
            have hgi := HGI.out
            go_roundg (gi - 1)
            case measure => omega
            case rel => exact ⟨i + 1, os, hand, rounds, by push_cast; rfl, by omega, by omega, HE9⟩
      · have hd2 : decide ((i : Int) < 40) = false := decide_eq_false hl2
        go_wp2_with fail
        refine (lives_calls _).mono ?_
        rintro e w3 ⟨rfl, hb3⟩
        have hbf := HE.out.both.bl.trans (hb3.mono HE.out.both.bl.size)
        clear hb3
        go_wp2
        go_ret
        exact ⟨rfl, hbf⟩
    · have hd1 : decide ((i : Int) < (xs.length : Int)) = false := decide_eq_false hl1
      go_wp2_with fail
      refine (lives_calls _).mono ?_
      rintro e w3 ⟨rfl, hb3⟩
      have hbf := HE.out.both.bl.trans (hb3.mono HE.out.both.bl.size)
      clear hb3
      go_wp2
      go_ret
      exact ⟨rfl, hbf⟩

end Go.Proofs.Ytcbnmmkmgpbfiaa.PP

/- The law StoryRooms of layer 21: its row (written by mkrow.py: the parameters opened by hand). -/
import Derived.Test.YtalmemcidbmdgaaZSr4
import Derived.Test.YtalmemcidbmdgaaZSr0
import Derived.Test.YtalmemcidbmdgaaZSr1
import Derived.Test.YtalmemcidbmdgaaProg
import Derived.WalkKit
import Derived.ProofKit
import Derived.ChangeSame
import Derived.Carry
import Derived.OpenShut
import Derived.WideKeyArr2
import Derived.Lib.SmallJoins
import Derived.Test.YtalmemcidbmdgaaRows
import Derived.ShutString
import Derived.ChangeOld
import Derived.Below
import Derived.SizedLaws
/- A story (layer 21): the document's example: Row, tell, Story. -/
set_option linter.unusedVariables false
set_option linter.unusedSimpArgs false
namespace Go.Proofs.Ytalmemcidbmdgaa.PM
open Go.RowKit Go.Proofs.YtalmemcidbmdgaaW.PrintWords Go.Proofs.YtalmemcidbmdgaaW.PrintLast Go.Proofs.YtalmemcidbmdgaaW.PrintMore Go.Proofs.Ytalmemcidbmdgaa.PageG
attribute [local go_sem] max2_int min2_int max_two min_two max_three min_three max_four min_four   -- for this text's walks alone
def stO : OpS := ⟨6, 0, 0, false, 0, 0, 0, 0, ⟨false, false, false, false, false, false⟩, 0, 0⟩
theorem sto : OkO stO := ⟨⟨by decide, by decide⟩, ⟨by decide, by decide⟩, ⟨by decide, by decide⟩, ⟨by decide, by decide⟩, ⟨by decide, by decide⟩, ⟨by decide, by decide⟩, ⟨by decide, by decide⟩⟩
theorem st1 : doR lvS0 stO = ((0, 0, 0), lvS0) := by kernel_rfl
theorem mk_reply (w : World) : (Instr.makeSlice 126 (.int .i64 1) (.int .i64 1)).run Try.prog w = .ok (.slice (some ⟨w.heap.size, 0, none⟩) 1 1) (w.alloc (.cells #[.int .i64 0, .int .i64 0, .int .u8 0] 42)) := by
  have h : (Try.prog.info? 42).map (fun i => (i.zero, i.size, i.bytes)) = some (some (.agg #[.int .i64 0, .int .i64 0, .int .u8 0]), 3, 24) := by kernel_rfl
  cases hq : Try.prog.info? 42 with
  | none => rw [hq] at h; cases h
  | some i =>
    rw [hq] at h
    simp only [Option.map_some, Option.some.injEq, Prod.mk.injEq] at h
    obtain ⟨h1, h2, h3⟩ := h
    have hr := run_makeSlice (P := Try.prog) (w := w) 126 42 i (.agg #[.int .i64 0, .int .i64 0, .int .u8 0]) Try.underlying126 hq h1 .i64 .i64 1 1 (by omega) (by omega) (by rw [h2]; decide) (by rw [h3]; decide) (by decide)
    rw [h2] at hr
    have e : madeCells (Value.agg #[.int .i64 0, .int .i64 0, .int .u8 0]).cells 3 = #[.int .i64 0, .int .i64 0, .int .u8 0] := by kernel_rfl
    rw [show Int.toNat 1 = 1 from rfl, show 1 * 3 = 3 from rfl, e] at hr
    exact hr
section
variable {w w' : World}
set_option maxHeartbeats 4000000 in
set_option maxRecDepth 100000 in
theorem rowx_calls (w : World) (g : Nat) (hg : CallAt w g) : Calls Try.prog 118 #[.slice (some ⟨g, 0, none⟩) 1 1] w fun e w' => ∃ g' c, e = .returned (.slice (some ⟨g', 0, none⟩) 1 c) ∧ w'.cell? ⟨g', 0, none⟩ = some (.int .i64 0) ∧ Below w.heap.size w w' := by
  have HG := Aside0.mk hg
  clear hg
  go_enter Try.func118, Try.ntmps118
  go_wp2_with fail
  have hal := (Below.refl _ w).alloc (Nat.le_refl _) (.cells #[.slice (some ⟨g, 0, none⟩) 1 1] 95)
  refine (places1_calls _ g (HG.out.below hal)).mono ?_
  rintro e w1 ⟨g', c, rfl, hc, hb⟩
  have HB := Aside0.mk (hal.trans (hb.mono hal.size))
  have HC := Aside0.mk hc
  clear hal hb hc
  go_wp2_with fail
  refine (sort1_calls _ _ _ _).mono ?_
  rintro e w2 ⟨rfl, rfl⟩
  go_wp2_with fail
  go_ret
  exact ⟨_, _, rfl, HC.out, HB.out⟩
set_option maxHeartbeats 4000000 in
set_option maxRecDepth 100000 in
theorem tell1_calls (w : World) (g : Nat) (hg : CallAt w g) : Calls Try.prog 107 #[.slice (some ⟨g, 0, none⟩) 1 1, .int .i64 1] w fun e w' => ∃ g2 p, e = .returned (.tuple #[.slice (some ⟨g2, 0, none⟩) 1 1, .pointer p]) ∧ w'.heap[g2]? = some (.cells #[.int .i64 0, .int .i64 0, .int .u8 0] 42 (0, 0)) ∧ Below w.heap.size w w' := by
  have HG := Aside0.mk hg
  clear hg
  have hmk := mk_reply w
  go_enter Try.func107, Try.ntmps107
  go_wp2_with fail
  clear hmk
  have hal := (Below.refl _ w).alloc (Nat.le_refl _) (.cells #[.int .i64 0, .int .i64 0, .int .u8 0] 42)
  have hz := blk_new w (.cells #[.int .i64 0, .int .i64 0, .int .u8 0] 42)
  refine (new_calls _ 1 1 (by decide)).mono ?_
  rintro e w1 ⟨B, pm, bm, rfl, hm, hb, hge⟩
  have HM := Aside0.mk (show Mo w1 B pm bm lvS0 from hm)
  have HB := Aside0.mk (hal.trans (hb.mono hal.size))
  have HG1 := Aside0.mk ((HG.out.below hal).below hb)
  have HZ := Aside0.mk (blk_below hz hb)
  have HGE := Aside0.mk (show ∀ k ∈ [B, pm, bm], w.heap.size < k from fun k hk => by have := hge k hk; simp at this; omega)
  clear hal hz hm hb hge HG
  go_wp2_with fail
  refine (rowx_calls _ g HG1.out).mono ?_
  rintro e w2 ⟨g', c, rfl, hc, hb⟩
  have HM2 := Aside0.mk (HM.out.below hb)
  have HB2 := Aside0.mk (HB.out.trans (hb.mono HB.out.size))
  have HG2 := Aside0.mk (HG1.out.below hb)
  have HZ2 := Aside0.mk (blk_below HZ.out hb)
  clear hb HM HB HG1 HZ
  go_wp2_with fail
  refine wp_loop_rounds 2 ?_
  rw [rounds_succ]
  go_upto_region 8 with (first | (refine wpList_load_row rfl 69 _ rfl g rfl 69 #[.int .i64 0, .int .i64 6, .int .i64 0, .int .i64 0, .bool false, .int .u64 0, .int .u8 0, .int .u64 0, .int .i64 0, .bool false, .bool false, .bool false, .bool false, .bool false, .bool false, .int .i64 0, .int .u64 0, .int .i64 0, .int .i64 3, .int .i64 3, .int .i64 0, .int .i64 0, .int .u8 0, .int .i64 0] (0, 0) _ HG2.out Try.underlying69 rfl (by kernel_rfl) ?_) | (refine wpList_store_new rfl rfl 69 _ _ rfl 69 #[.int .i64 0, .int .i64 0, .int .i64 0, .int .i64 0, .bool false, .int .u64 0, .int .u8 0, .int .u64 0, .int .i64 0, .bool false, .bool false, .bool false, .bool false, .bool false, .bool false, .int .i64 0, .int .u64 0, .int .i64 0, .int .i64 0, .int .i64 0, .int .i64 0, .int .i64 0, .int .u8 0, .int .i64 0] #[.int .i64 0, .int .i64 6, .int .i64 0, .int .i64 0, .bool false, .int .u64 0, .int .u8 0, .int .u64 0, .int .i64 0, .bool false, .bool false, .bool false, .bool false, .bool false, .bool false, .int .i64 0, .int .u64 0, .int .i64 0, .int .i64 3, .int .i64 3, .int .i64 0, .int .i64 0, .int .u8 0, .int .i64 0] rfl rfl (by kernel_rfl) rfl (by kernel_rfl) ?_))
  have hal := (Below.refl _ w2).alloc (Nat.le_refl _) (.cells #[.int .i64 0, .int .i64 6, .int .i64 0, .int .i64 0, .bool false, .int .u64 0, .int .u8 0, .int .u64 0, .int .i64 0, .bool false, .bool false, .bool false, .bool false, .bool false, .bool false, .int .i64 0, .int .u64 0, .int .i64 0, .int .i64 3, .int .i64 3, .int .i64 0, .int .i64 0, .int .u8 0, .int .i64 0] 69)
  have hn := blk_new w2 (.cells #[.int .i64 0, .int .i64 6, .int .i64 0, .int .i64 0, .bool false, .int .u64 0, .int .u8 0, .int .u64 0, .int .i64 0, .bool false, .bool false, .bool false, .bool false, .bool false, .bool false, .int .i64 0, .int .u64 0, .int .i64 0, .int .i64 3, .int .i64 3, .int .i64 0, .int .i64 0, .int .u8 0, .int .i64 0] 69)
  have HM3 := Aside0.mk (HM2.out.below hal)
  have HB3 := Aside0.mk (HB2.out.alloc HB2.out.size (.cells #[.int .i64 0, .int .i64 6, .int .i64 0, .int .i64 0, .bool false, .int .u64 0, .int .u8 0, .int .u64 0, .int .i64 0, .bool false, .bool false, .bool false, .bool false, .bool false, .bool false, .int .i64 0, .int .u64 0, .int .i64 0, .int .i64 3, .int .i64 3, .int .i64 0, .int .i64 0, .int .u8 0, .int .i64 0] 69))
  have HZ3 := Aside0.mk (blk_below HZ2.out hal)
  generalize w2.alloc (.cells #[.int .i64 0, .int .i64 6, .int .i64 0, .int .i64 0, .bool false, .int .u64 0, .int .u8 0, .int .u64 0, .int .i64 0, .bool false, .bool false, .bool false, .bool false, .bool false, .bool false, .int .i64 0, .int .u64 0, .int .i64 0, .int .i64 3, .int .i64 3, .int .i64 0, .int .i64 0, .int .u8 0, .int .i64 0] 69) = w3 at *
  generalize w2.heap.size = D at *
  have c1 : w3.cell? ⟨D, 1, none⟩ = some (.int .i64 6) := (blk_cell hn 1).trans rfl
  have c2 : w3.cell? ⟨D, 2, none⟩ = some (.int .i64 0) := (blk_cell hn 2).trans rfl
  have c3 : w3.cell? ⟨D, 3, none⟩ = some (.int .i64 0) := (blk_cell hn 3).trans rfl
  have c4 : w3.cell? ⟨D, 4, none⟩ = some (.bool false) := (blk_cell hn 4).trans rfl
  have c5 : w3.cell? ⟨D, 5, none⟩ = some (.int .u64 0) := (blk_cell hn 5).trans rfl
  have c6 : w3.cell? ⟨D, 6, none⟩ = some (.int .u8 0) := (blk_cell hn 6).trans rfl
  have c7 : w3.cell? ⟨D, 7, none⟩ = some (.int .u64 0) := (blk_cell hn 7).trans rfl
  have c8 : w3.cell? ⟨D, 8, none⟩ = some (.int .i64 0) := (blk_cell hn 8).trans rfl
  have c9 : w3.cell? ⟨D, 9, none⟩ = some (.bool false) := (blk_cell hn 9).trans rfl
  have c10 : w3.cell? ⟨D, 10, none⟩ = some (.bool false) := (blk_cell hn 10).trans rfl
  have c11 : w3.cell? ⟨D, 11, none⟩ = some (.bool false) := (blk_cell hn 11).trans rfl
  have c12 : w3.cell? ⟨D, 12, none⟩ = some (.bool false) := (blk_cell hn 12).trans rfl
  have c13 : w3.cell? ⟨D, 13, none⟩ = some (.bool false) := (blk_cell hn 13).trans rfl
  have c14 : w3.cell? ⟨D, 14, none⟩ = some (.bool false) := (blk_cell hn 14).trans rfl
  have c15 : w3.cell? ⟨D, 15, none⟩ = some (.int .i64 0) := (blk_cell hn 15).trans rfl
  have c16 : w3.cell? ⟨D, 16, none⟩ = some (.int .u64 0) := (blk_cell hn 16).trans rfl
  have c20 : w3.cell? ⟨D, 20, none⟩ = some (.int .i64 0) := (blk_cell hn 20).trans rfl
  have c21 : w3.cell? ⟨D, 21, none⟩ = some (.int .i64 0) := (blk_cell hn 21).trans rfl
  have c22 : w3.cell? ⟨D, 22, none⟩ = some (.int .u8 0) := (blk_cell hn 22).trans rfl
  clear hn hal hc HM2 HB2 HG2 HZ2
  go_wp2_with fail
  refine (story_Room.calls 10 6 0 0 false 0 0 0 0 false false false false false false 0 0 0 0 0 false w3 rfl).mono ?_
  rintro e w4 ⟨rfl, hb⟩
  have HM4 := Aside0.mk (HM3.out.below hb)
  have HB4 := Aside0.mk (HB3.out.trans (hb.mono HB3.out.size))
  have HZ4 := Aside0.mk (blk_below HZ3.out hb)
  replace c1 := cell_up hb c1
  replace c2 := cell_up hb c2
  replace c3 := cell_up hb c3
  replace c4 := cell_up hb c4
  replace c5 := cell_up hb c5
  replace c6 := cell_up hb c6
  replace c7 := cell_up hb c7
  replace c8 := cell_up hb c8
  replace c9 := cell_up hb c9
  replace c10 := cell_up hb c10
  replace c11 := cell_up hb c11
  replace c12 := cell_up hb c12
  replace c13 := cell_up hb c13
  replace c14 := cell_up hb c14
  replace c15 := cell_up hb c15
  replace c16 := cell_up hb c16
  clear c20 c21 c22 hb HM3 HB3 HZ3
  go_upto_region 11 with fail
  generalize hcc : (Question.appendCap 1 0 36).cut (w4.tape w4.drawn (Question.appendCap 1 0 36)) = cc
  have hbx : Below w4.heap.size w4 (((w4.alloc (.cells #[.int .i64 6, .int .i64 0, .int .i64 0, .bool false, .int .u64 0, .int .u8 0, .int .u64 0, .int .i64 0, .bool false, .bool false, .bool false, .bool false, .bool false, .bool false, .int .i64 0, .int .u64 0] 36)).alloc (.cells (#[.int .i64 6, .int .i64 0, .int .i64 0, .bool false, .int .u64 0, .int .u8 0, .int .u64 0, .int .i64 0, .bool false, .bool false, .bool false, .bool false, .bool false, .bool false, .int .i64 0, .int .u64 0] ++ Builtin.zeroCells #[.int .i64 0, .int .i64 0, .int .i64 0, .bool false, .int .u64 0, .int .u8 0, .int .u64 0, .int .i64 0, .bool false, .bool false, .bool false, .bool false, .bool false, .bool false, .int .i64 0, .int .u64 0] (cc - 1)) 36)).drew) := (((Below.refl _ w4).alloc (Nat.le_refl _) _).alloc (by simp) _).drew
  generalize ((w4.alloc (.cells #[.int .i64 6, .int .i64 0, .int .i64 0, .bool false, .int .u64 0, .int .u8 0, .int .u64 0, .int .i64 0, .bool false, .bool false, .bool false, .bool false, .bool false, .bool false, .int .i64 0, .int .u64 0] 36)).alloc (.cells (#[.int .i64 6, .int .i64 0, .int .i64 0, .bool false, .int .u64 0, .int .u8 0, .int .u64 0, .int .i64 0, .bool false, .bool false, .bool false, .bool false, .bool false, .bool false, .int .i64 0, .int .u64 0] ++ Builtin.zeroCells #[.int .i64 0, .int .i64 0, .int .i64 0, .bool false, .int .u64 0, .int .u8 0, .int .u64 0, .int .i64 0, .bool false, .bool false, .bool false, .bool false, .bool false, .bool false, .int .i64 0, .int .u64 0] (cc - 1)) 36)).drew = w5 at *
  clear hcc
  have HM5 := Aside0.mk (HM4.out.below hbx)
  have HB5 := Aside0.mk (below_step HB4.out hbx)
  have HZ5 := Aside0.mk (blk_below HZ4.out hbx)
  replace c1 := cell_up hbx c1
  replace c2 := cell_up hbx c2
  replace c3 := cell_up hbx c3
  replace c4 := cell_up hbx c4
  replace c5 := cell_up hbx c5
  replace c6 := cell_up hbx c6
  replace c7 := cell_up hbx c7
  replace c8 := cell_up hbx c8
  replace c9 := cell_up hbx c9
  replace c10 := cell_up hbx c10
  replace c11 := cell_up hbx c11
  replace c12 := cell_up hbx c12
  replace c13 := cell_up hbx c13
  replace c14 := cell_up hbx c14
  replace c15 := cell_up hbx c15
  replace c16 := cell_up hbx c16
  clear hbx HM4 HB4 HZ4
  go_wp2_with fail
  refine (lv_do HM5.out lvw0 (by omega) stO sto st1).mono ?_
  rintro e w6 ⟨rfl, hm, hv⟩
  have hnz : w.heap.size ∉ [B, pm, bm] := fun h => Nat.lt_irrefl _ (HGE.out _ h)
  have hz6 : w6.heap[w.heap.size]? = some (.cells #[.int .i64 0, .int .i64 0, .int .u8 0] 42 (0, 0)) := (hv.block _ (blk_lt HZ5.out) hnz).trans HZ5.out
  have HB6 := Aside0.mk (HB5.out.trans (hv.below HB5.out.size (fun k hk => Nat.le_of_lt (HGE.out k hk))))
  obtain ⟨z0, z1, z2⟩ := cells3 hz6
  have y0 := blk_frozen hz6 0
  have y1 := blk_frozen hz6 1
  have y2 := blk_frozen hz6 2
  have HZ6 := Aside0.mk hz6
  clear hv hm hz6 hnz HZ5 HB5 HM5
  clear c1 c2 c3 c4 c5 c6 c7 c8 c9 c10 c11 c12 c13 c14 c15 c16
  go_wp2_with fail
  rw [set3 HZ6.out]
  have HB7 := Aside0.mk (below_sb HB6.out (Nat.le_refl _) (.cells #[.int .i64 0, .int .i64 0, .int .u8 0] 42 (0, 0)))
  have HZ7 := Aside0.mk (sb_same HZ6.out (.cells #[.int .i64 0, .int .i64 0, .int .u8 0] 42 (0, 0)))
  generalize ChangeMaps.setBlock w6 w.heap.size (.cells #[.int .i64 0, .int .i64 0, .int .u8 0] 42 (0, 0)) = w7 at *
  rw [rounds_succ]
  go_wp2_with fail
  go_ret2
  exact ⟨_, _, rfl, HZ7.out, HB7.out⟩
set_option maxHeartbeats 4000000 in
set_option maxRecDepth 100000 in
theorem story1_calls (w : World) (g : Nat) (hg : CallAt w g) : Calls Try.prog 81 #[.slice (some ⟨g, 0, none⟩) 1 1, .int .i64 1] w fun e w' => ∃ g2, e = .returned (.slice (some ⟨g2, 0, none⟩) 1 1) ∧ w'.heap[g2]? = some (.cells #[.int .i64 0, .int .i64 0, .int .u8 0] 42 (0, 0)) ∧ Below w.heap.size w w' := by
  have HG := Aside0.mk hg
  clear hg
  go_enter Try.func81, Try.ntmps81
  go_wp2_with fail
  refine (tell1_calls w g HG.out).mono ?_
  rintro e w1 ⟨g2, p, rfl, hz, hb⟩
  have HZ := Aside0.mk hz
  have HB := Aside0.mk hb
  clear hz hb
  go_wp2_with fail
  go_ret
  exact ⟨_, rfl, HZ.out, HB.out⟩
end
end Go.Proofs.Ytalmemcidbmdgaa.PM



/- A story (layer 21): the document's example: Check, lives. -/
set_option linter.unusedVariables false
set_option linter.unusedSimpArgs false
namespace Go.Proofs.Ytalmemcidbmdgaa.PM
open Go.RowKit Go.Proofs.YtalmemcidbmdgaaW.PrintWords Go.Proofs.YtalmemcidbmdgaaW.PrintLast Go.Proofs.YtalmemcidbmdgaaW.PrintMore Go.Proofs.Ytalmemcidbmdgaa.PageG
attribute [local go_sem] max2_int min2_int max_two min_two max_three min_three max_four min_four   -- for this text's walks alone
/-- What Check walks over. -/
structure Cx (w W : World) (g b b2 g2 C : Nat) : Prop where
  call : CallAt W g
  hbb : W.heap[b]? = some (.cells #[.slice (some ⟨g, 0, none⟩) 1 1] 95 (0, 0))
  hb2 : W.heap[b2]? = some (.cells #[.slice (some ⟨g2, 0, none⟩) 1 1] 126 (0, 0))
  z : W.heap[g2]? = some (.cells #[.int .i64 0, .int .i64 0, .int .u8 0] 42 (0, 0))
  c : W.heap[C]? = some (.cells #[.int .i64 10, .func (.func 82) #[] #[.pointer (some ⟨b, 0, none⟩)], .int .i64 9, .func (.func 83) #[] #[.pointer (some ⟨b, 0, none⟩)], .int .i64 11, .func (.func 86) #[] #[.pointer (some ⟨b, 0, none⟩)], .int .i64 2, .func (.func 87) #[] #[.pointer (some ⟨b, 0, none⟩), .pointer (some ⟨b2, 0, none⟩)]] 129 (0, 0))
  lo : Below w.heap.size w W
theorem Cx.below {w W W' : World} {g b b2 g2 C : Nat} (h : Cx w W g b b2 g2 C) (hb : Below W.heap.size W W') : Cx w W' g b b2 g2 C :=
  ⟨h.call.below hb, blk_below h.hbb hb, blk_below h.hb2 hb, blk_below h.z hb, blk_below h.c hb, h.lo.trans (hb.mono h.lo.size)⟩
section
variable {w w' : World}
set_option maxHeartbeats 4000000 in
set_option maxRecDepth 100000 in
theorem check1_calls (w : World) (g : Nat) (hg : CallAt w g) : Calls Try.prog 53 #[.slice (some ⟨g, 0, none⟩) 1 1, .int .i64 1] w fun e w' => e = .returned (.tuple #[.int .i64 (-1), .int .i64 0]) ∧ Below w.heap.size w w' := by
  have HG := Aside0.mk hg
  clear hg
  go_enter Try.func53, Try.ntmps53
  go_wp2_with fail
  have hal := (Below.refl _ w).alloc (Nat.le_refl _) (.cells #[.slice (some ⟨g, 0, none⟩) 1 1] 95)
  have hbx := blk_new w (.cells #[.slice (some ⟨g, 0, none⟩) 1 1] 95)
  refine (story1_calls _ g (HG.out.below hal)).mono ?_
  rintro e w1 ⟨g2, rfl, hz, hb⟩
  have HB1 := Aside0.mk (hal.trans (hb.mono hal.size))
  have HG1 := Aside0.mk ((HG.out.below hal).below hb)
  have HBX1 := Aside0.mk (blk_below hbx hb)
  have HZ1 := Aside0.mk hz
  clear hal hb hbx hz HG
  go_upto_region 3 with fail
  have hal := ((Below.refl _ w1).alloc (Nat.le_refl _) (.cells #[.slice (some ⟨g2, 0, none⟩) 1 1] 126)).alloc (by simp) (.cells #[.int .i64 10, .func (.func 82) #[] #[.pointer (some ⟨w.heap.size, 0, none⟩)], .int .i64 9, .func (.func 83) #[] #[.pointer (some ⟨w.heap.size, 0, none⟩)], .int .i64 11, .func (.func 86) #[] #[.pointer (some ⟨w.heap.size, 0, none⟩)], .int .i64 2, .func (.func 87) #[] #[.pointer (some ⟨w.heap.size, 0, none⟩), .pointer (some ⟨w1.heap.size, 0, none⟩)]] 129)
  have hn := blk_new (w1.alloc (.cells #[.slice (some ⟨g2, 0, none⟩) 1 1] 126)) (.cells #[.int .i64 10, .func (.func 82) #[] #[.pointer (some ⟨w.heap.size, 0, none⟩)], .int .i64 9, .func (.func 83) #[] #[.pointer (some ⟨w.heap.size, 0, none⟩)], .int .i64 11, .func (.func 86) #[] #[.pointer (some ⟨w.heap.size, 0, none⟩)], .int .i64 2, .func (.func 87) #[] #[.pointer (some ⟨w.heap.size, 0, none⟩), .pointer (some ⟨w1.heap.size, 0, none⟩)]] 129)
  have hn2 := blk_alloc (blk_new w1 (.cells #[.slice (some ⟨g2, 0, none⟩) 1 1] 126)) (.cells #[.int .i64 10, .func (.func 82) #[] #[.pointer (some ⟨w.heap.size, 0, none⟩)], .int .i64 9, .func (.func 83) #[] #[.pointer (some ⟨w.heap.size, 0, none⟩)], .int .i64 11, .func (.func 86) #[] #[.pointer (some ⟨w.heap.size, 0, none⟩)], .int .i64 2, .func (.func 87) #[] #[.pointer (some ⟨w.heap.size, 0, none⟩), .pointer (some ⟨w1.heap.size, 0, none⟩)]] 129)
  rw [World.size_alloc] at hn
  have HX0 := Aside0.mk (show Cx w _ g w.heap.size w1.heap.size g2 (w1.heap.size + 1) from ⟨HG1.out.below hal, blk_below HBX1.out hal, hn2, blk_below HZ1.out hal, hn, HB1.out.trans (hal.mono HB1.out.size)⟩)
  clear hal hn hn2 HG1 HBX1 HZ1 HB1
  generalize (w1.alloc (.cells #[.slice (some ⟨g2, 0, none⟩) 1 1] 126)).alloc (.cells #[.int .i64 10, .func (.func 82) #[] #[.pointer (some ⟨w.heap.size, 0, none⟩)], .int .i64 9, .func (.func 83) #[] #[.pointer (some ⟨w.heap.size, 0, none⟩)], .int .i64 11, .func (.func 86) #[] #[.pointer (some ⟨w.heap.size, 0, none⟩)], .int .i64 2, .func (.func 87) #[] #[.pointer (some ⟨w.heap.size, 0, none⟩), .pointer (some ⟨w1.heap.size, 0, none⟩)]] 129) = w10 at *
  generalize hbq : w.heap.size = b at *
  generalize w1.heap.size + 1 = C at *
  generalize w1.heap.size = b2 at *
  go_wp2_with fail
  refine wp_loop_rounds 5 ?_
  rw [rounds_succ]
  have e0 : w10.cell? ⟨C, 0, none⟩ = some (.int .i64 10) := (blk_cell HX0.out.c 0).trans rfl
  have e1 : w10.cell? ⟨C, 1, none⟩ = some (.func (.func 82) #[] #[.pointer (some ⟨b, 0, none⟩)]) := (blk_cell HX0.out.c 1).trans rfl
  have e2 : w10.cell? ⟨b, 0, none⟩ = some (.slice (some ⟨g, 0, none⟩) 1 1) := (blk_cell HX0.out.hbb 0).trans rfl
  have e3 : C < w10.heap.size := blk_lt HX0.out.c
  have e4 : b < w10.heap.size := blk_lt HX0.out.hbb
  have e5 : b ≠ w10.heap.size := Nat.ne_of_lt e4
  go_wp2_with fail
  refine wp_loop_rounds 2 ?_
  rw [rounds_succ]
  go_wp2_with fail
  have HX := HX0.out.below ((Below.refl _ w10).alloc (Nat.le_refl _) (.cells #[.int .i64 10, .func (.func 82) #[] #[.pointer (some ⟨b, 0, none⟩)]] 129))
  refine (chk1_calls _ g b HX.call ((blk_cell HX.hbb 0).trans rfl)).mono ?_
  rintro e w12 ⟨rfl, hb⟩
  have HX1 := Aside0.mk (HX.below hb)
  clear HX hb HX0 e0 e1 e2 e3 e4 e5
  go_wp2_with fail
  rw [rounds_succ]
  go_wp2_with fail
  rw [rounds_succ]
  have e0 : w12.cell? ⟨C, 2, none⟩ = some (.int .i64 9) := (blk_cell HX1.out.c 2).trans rfl
  have e1 : w12.cell? ⟨C, 3, none⟩ = some (.func (.func 83) #[] #[.pointer (some ⟨b, 0, none⟩)]) := (blk_cell HX1.out.c 3).trans rfl
  have e2 : w12.cell? ⟨b, 0, none⟩ = some (.slice (some ⟨g, 0, none⟩) 1 1) := (blk_cell HX1.out.hbb 0).trans rfl
  have e3 : C < w12.heap.size := blk_lt HX1.out.c
  have e4 : b < w12.heap.size := blk_lt HX1.out.hbb
  have e5 : b ≠ w12.heap.size := Nat.ne_of_lt e4
  go_wp2_with fail
  refine wp_loop_rounds 2 ?_
  rw [rounds_succ]
  go_wp2_with fail
  have HX := HX1.out.below ((Below.refl _ w12).alloc (Nat.le_refl _) (.cells #[.int .i64 9, .func (.func 83) #[] #[.pointer (some ⟨b, 0, none⟩)]] 129))
  refine (chk2_calls _ g b HX.call ((blk_cell HX.hbb 0).trans rfl)).mono ?_
  rintro e w14 ⟨rfl, hb⟩
  have HX2 := Aside0.mk (HX.below hb)
  clear HX hb HX1 e0 e1 e2 e3 e4 e5
  go_wp2_with fail
  rw [rounds_succ]
  go_wp2_with fail
  rw [rounds_succ]
  have e0 : w14.cell? ⟨C, 4, none⟩ = some (.int .i64 11) := (blk_cell HX2.out.c 4).trans rfl
  have e1 : w14.cell? ⟨C, 5, none⟩ = some (.func (.func 86) #[] #[.pointer (some ⟨b, 0, none⟩)]) := (blk_cell HX2.out.c 5).trans rfl
  have e2 : w14.cell? ⟨b, 0, none⟩ = some (.slice (some ⟨g, 0, none⟩) 1 1) := (blk_cell HX2.out.hbb 0).trans rfl
  have e3 : C < w14.heap.size := blk_lt HX2.out.c
  have e4 : b < w14.heap.size := blk_lt HX2.out.hbb
  have e5 : b ≠ w14.heap.size := Nat.ne_of_lt e4
  go_wp2_with fail
  refine wp_loop_rounds 2 ?_
  rw [rounds_succ]
  go_wp2_with fail
  have HX := HX2.out.below ((Below.refl _ w14).alloc (Nat.le_refl _) (.cells #[.int .i64 11, .func (.func 86) #[] #[.pointer (some ⟨b, 0, none⟩)]] 129))
  refine (chk3_calls _ g b HX.call ((blk_cell HX.hbb 0).trans rfl)).mono ?_
  rintro e w16 ⟨rfl, hb⟩
  have HX3 := Aside0.mk (HX.below hb)
  clear HX hb HX2 e0 e1 e2 e3 e4 e5
  go_wp2_with fail
  rw [rounds_succ]
  go_wp2_with fail
  rw [rounds_succ]
  have e0 : w16.cell? ⟨C, 6, none⟩ = some (.int .i64 2) := (blk_cell HX3.out.c 6).trans rfl
  have e1 : w16.cell? ⟨C, 7, none⟩ = some (.func (.func 87) #[] #[.pointer (some ⟨b, 0, none⟩), .pointer (some ⟨b2, 0, none⟩)]) := (blk_cell HX3.out.c 7).trans rfl
  have e2 : w16.cell? ⟨b, 0, none⟩ = some (.slice (some ⟨g, 0, none⟩) 1 1) := (blk_cell HX3.out.hbb 0).trans rfl
  have e3 : C < w16.heap.size := blk_lt HX3.out.c
  have e4 : b < w16.heap.size := blk_lt HX3.out.hbb
  have e5 : b ≠ w16.heap.size := Nat.ne_of_lt e4
  go_wp2_with fail
  refine wp_loop_rounds 2 ?_
  rw [rounds_succ]
  go_wp2_with fail
  have HX := HX3.out.below ((Below.refl _ w16).alloc (Nat.le_refl _) (.cells #[.int .i64 2, .func (.func 87) #[] #[.pointer (some ⟨b, 0, none⟩), .pointer (some ⟨b2, 0, none⟩)]] 129))
  refine (chk4_calls _ g b g2 b2 HX.call ((blk_cell HX.hbb 0).trans rfl) ((blk_cell HX.hb2 0).trans rfl) (cells3 HX.z)).mono ?_
  rintro e w18 ⟨rfl, hb⟩
  have HX4 := Aside0.mk (HX.below hb)
  clear HX hb HX3 e0 e1 e2 e3 e4 e5
  go_wp2_with fail
  rw [rounds_succ]
  go_wp2_with fail
  rw [rounds_succ]
  go_wp2_with fail
  go_ret2
  exact ⟨rfl, hbq ▸ HX4.out.lo⟩
end
end Go.Proofs.Ytalmemcidbmdgaa.PM



/- A story (layer 21): the document's example. -/
set_option linter.unusedVariables false
set_option linter.unusedSimpArgs false
namespace Go.Proofs.Ytalmemcidbmdgaa.PM
open Go.RowKit Go.Proofs.YtalmemcidbmdgaaW.PrintWords Go.Proofs.YtalmemcidbmdgaaW.PrintLast Go.Proofs.YtalmemcidbmdgaaW.PrintMore Go.Proofs.Ytalmemcidbmdgaa.PageG
attribute [local go_sem] max2_int min2_int max_two min_two max_three min_three max_four min_four   -- for this text's walks alone
set_option maxHeartbeats 4000000 in
set_option maxRecDepth 100000 in
theorem lives21_calls (w : World) : Calls Try.prog 27 #[] w fun e w' => e = .returned (.bool true) ∧ Below w.heap.size w w' := by
  go_enter Try.func27, Try.ntmps27
  go_wp2_with fail
  have hal := (Below.refl _ w).alloc (Nat.le_refl _) (.cells #[.int .i64 0, .int .i64 6, .int .i64 0, .int .i64 0, .bool false, .int .u64 0, .int .u8 0, .int .u64 0, .int .i64 0, .bool false, .bool false, .bool false, .bool false, .bool false, .bool false, .int .i64 0, .int .u64 0, .int .i64 0, .int .i64 3, .int .i64 3, .int .i64 0, .int .i64 0, .int .u8 0, .int .i64 0] 69)
  refine (check1_calls _ w.heap.size (blk_new w (.cells #[.int .i64 0, .int .i64 6, .int .i64 0, .int .i64 0, .bool false, .int .u64 0, .int .u8 0, .int .u64 0, .int .i64 0, .bool false, .bool false, .bool false, .bool false, .bool false, .bool false, .int .i64 0, .int .u64 0, .int .i64 0, .int .i64 3, .int .i64 3, .int .i64 0, .int .i64 0, .int .u8 0, .int .i64 0] 69))).mono ?_
  rintro e w1 ⟨rfl, hb⟩
  have HB := Aside0.mk (hal.trans (hb.mono hal.size))
  clear hal hb
  go_wp2_with fail
  go_ret
  exact ⟨rfl, HB.out⟩
end Go.Proofs.Ytalmemcidbmdgaa.PM



-- written by xprint.py, a program of this session, over the kit's print (functions told by hand: see the texts)
namespace Go.Proofs.Ytalmemcidbmdgaa.PT
open Go.RowKit Go.Proofs.YtalmemcidbmdgaaW.PrintWords Go.Proofs.YtalmemcidbmdgaaW.PrintLast Go.Proofs.YtalmemcidbmdgaaW.PrintMore
attribute [local go_sem] max2_int min2_int max_two min_two max_three min_three max_four min_four   -- for this text's walks alone
set_option linter.unusedVariables false
set_option linter.unusedSimpArgs false

-- NOT PRINTED: function 123 (slices_SortStableFunc_int_int)

-- NOT PRINTED: function 118 (story_Row)

-- NOT PRINTED: function 119 (story_would)

-- NOT PRINTED: function 107 (story_tell)

-- NOT PRINTED: function 81 (story_Story)

-- NOT PRINTED: function 53 (story_Check)

/-! ### lookasidelaw21_lives: function 27, told by hand -/
-- MAKES
-- IMPORT Derived.Test.@N@StE
def lookasidelaw21_lives.f : Option (Bool) := some true
theorem lookasidelaw21_lives.calls (r : Bool) (w : World) (h : lookasidelaw21_lives.f = some r) :
    Calls Try.prog 27 #[] w fun e w' => e = .returned (.bool r) ∧ Below w.heap.size w w' := by
  obtain rfl : true = r := Option.some.inj h
  exact Go.Proofs.Ytalmemcidbmdgaa.PM.lives21_calls w

end Go.Proofs.Ytalmemcidbmdgaa.PT

-- written by xprint.py, a program of this session, over the kit's print (functions told by hand: see the texts)
namespace Go.Proofs.Ytalmemcidbmdgaa.PT
open Go.RowKit Go.Proofs.YtalmemcidbmdgaaW.PrintWords Go.Proofs.YtalmemcidbmdgaaW.PrintLast Go.Proofs.YtalmemcidbmdgaaW.PrintMore
attribute [local go_sem] max2_int min2_int max_two min_two max_three min_three max_four min_four   -- for this text's walks alone
set_option linter.unusedVariables false
set_option linter.unusedSimpArgs false

/-! ### lookasidelaw21_StoryRooms: function 8 -/
def lookasidelaw21_StoryRooms.f (k : Nat) (a0 : Int) (a1_0 : Int) (a1_1 : Int) (a1_2 : Int) : Option (Bool) := (story_Room.f k a0 0 0 false 0 0 0 0 false false false false false false 0 0 a1_0 a1_1 a1_2).bind fun t113 => ((lookasideref18_Free.f k a0 a1_0 a1_1 a1_2).bind fun t114 => (if (t113 == t114) = true then ((story_Room.f k a0 0 0 false 0 0 0 0 false false false false false false 0 0 a1_0 0 0).bind fun t115 => ((lookasideref18_Free.f k a0 a1_0 0 0).bind fun t116 => (if (t115 == t116) = true then ((lookasidelaw21_lives.f).bind fun t117 => (some t117)) else (some false)))) else (some false)))
def lookasidelaw21_StoryRooms.T2 : Bool × List (List Nat × List Nat) := (true, [([], []), ([0], [0]), ([], []), ([1, 2], [1, 2]), ([], []), ([], []), ([4, 5, 3], [4, 5]), ([3, 6], [3, 6]), ([7, 6], [7]), ([8], [8]), ([9, 8], [8, 9]), ([8], [8]), ([10, 11, 8, 8], [8, 10, 11]), ([8], [8]), ([8], [8]), ([13, 14, 12, 8], [8, 13, 14]), ([12, 15, 8], [8, 12, 15]), ([8, 16], [8, 16]), ([17, 15], [17]), ([18, 18], [18]), ([18, 19], [18, 19]), ([20, 19, 0, 1, 2, 3, 4, 5, 6, 7, 8, 9, 10, 11, 12, 13, 14, 15, 16, 17, 18, 19, 20], [20])])
def lookasidelaw21_StoryRooms.B2 : List Nat := [0, 1, 0, 7, 0, 0, 63, 127, 255, 511, 1023, 511, 4095, 511, 511, 32767, 65535, 131071, 262143, 524287, 1048575, 2097151]
theorem lookasidelaw21_StoryRooms.tab2 : rtab .any (opsOf Try.f8 2) = lookasidelaw21_StoryRooms.T2 := by kernel_rfl
theorem lookasidelaw21_StoryRooms.bits2 : waitsOk lookasidelaw21_StoryRooms.T2.2 lookasidelaw21_StoryRooms.B2 = true := by kernel_rfl
set_option maxHeartbeats 8000000 in
set_option maxRecDepth 100000 in
theorem lookasidelaw21_StoryRooms.calls (k : Nat) (a0 : Int) (a1_0 : Int) (a1_1 : Int) (a1_2 : Int) (r : Bool) (w : World) (h : lookasidelaw21_StoryRooms.f k a0 a1_0 a1_1 a1_2 = some r) :
    Calls Try.prog 8 #[.int .i64 a0, .agg #[.int .i64 a1_0, .int .i64 a1_1, .int .u8 a1_2]] w fun e w' => e = .returned (.bool r) ∧ Below w.heap.size w w' := by
  have hu42 := Try.underlying42
  have hu36 := Try.underlying36
  have HB := Aside0.mk (Below.refl w.heap.size w)
  have H : ((story_Room.f k a0 0 0 false 0 0 0 0 false false false false false false 0 0 a1_0 a1_1 a1_2).bind fun t113 => ((lookasideref18_Free.f k a0 a1_0 a1_1 a1_2).bind fun t114 => (if (t113 == t114) = true then ((story_Room.f k a0 0 0 false 0 0 0 0 false false false false false false 0 0 a1_0 0 0).bind fun t115 => ((lookasideref18_Free.f k a0 a1_0 0 0).bind fun t116 => (if (t115 == t116) = true then ((lookasidelaw21_lives.f).bind fun t117 => (some t117)) else (some false)))) else (some false)))) = some r := h
  clear h
  replace H := Option.bind_eq_some_iff.mp H
  obtain ⟨t113, A30, H⟩ := H
  replace H : ((lookasideref18_Free.f k a0 a1_0 a1_1 a1_2).bind fun t114 => (if (t113 == t114) = true then ((story_Room.f k a0 0 0 false 0 0 0 0 false false false false false false 0 0 a1_0 0 0).bind fun t115 => ((lookasideref18_Free.f k a0 a1_0 0 0).bind fun t116 => (if (t115 == t116) = true then ((lookasidelaw21_lives.f).bind fun t117 => (some t117)) else (some false)))) else (some false))) = some r := H
  have A3 := Aside0.mk A30
  clear A30
  replace H := Option.bind_eq_some_iff.mp H
  obtain ⟨t114, A40, H⟩ := H
  replace H : (if (t113 == t114) = true then ((story_Room.f k a0 0 0 false 0 0 0 0 false false false false false false 0 0 a1_0 0 0).bind fun t115 => ((lookasideref18_Free.f k a0 a1_0 0 0).bind fun t116 => (if (t115 == t116) = true then ((lookasidelaw21_lives.f).bind fun t117 => (some t117)) else (some false)))) else (some false)) = some r := H
  have A4 := Aside0.mk A40
  clear A40
  by_cases c5 : (t113 == t114) = true
  · rw [if_pos c5] at H
    have c5b0 : (t113 == t114) = true := c5
    (try (have c5b1 : decide (t113 = t114) = true := by simpa using c5))
    (try (have c5b2 : (t113 == t114) = true := by simpa using c5))
    clear c5
    replace H := Option.bind_eq_some_iff.mp H
    obtain ⟨t115, A60, H⟩ := H
    replace H : ((lookasideref18_Free.f k a0 a1_0 0 0).bind fun t116 => (if (t115 == t116) = true then ((lookasidelaw21_lives.f).bind fun t117 => (some t117)) else (some false))) = some r := H
    have A6 := Aside0.mk A60
    clear A60
    replace H := Option.bind_eq_some_iff.mp H
    obtain ⟨t116, A70, H⟩ := H
    replace H : (if (t115 == t116) = true then ((lookasidelaw21_lives.f).bind fun t117 => (some t117)) else (some false)) = some r := H
    have A7 := Aside0.mk A70
    clear A70
    by_cases c8 : (t115 == t116) = true
    · rw [if_pos c8] at H
      have c8b0 : (t115 == t116) = true := c8
      (try (have c8b1 : decide (t115 = t116) = true := by simpa using c8))
      (try (have c8b2 : (t115 == t116) = true := by simpa using c8))
      clear c8
      replace H := Option.bind_eq_some_iff.mp H
      obtain ⟨t117, A90, H⟩ := H
      replace H : (some t117) = some r := H
      have A9 := Aside0.mk A90
      clear A90
      obtain rfl := Option.some.inj H
      go_enter Try.func8, Try.ntmps8
      try go_wp2_with (first | ((with_reducible refine gate_dst (N := 3) rfl ?_); refine box_event ?hg (N := 3) ?hd (cs := #[.int .i64 a1_0, .int .i64 a1_1, .int .u8 a1_2]) (t := 42) ?hr ?_; (case hd => rfl); (case hg => rfl); (case hr => first | (go_simp; done) | (go_simp; rfl)); intro gb111 hg w10 hbox hb; have n0_ := Aside0.mk (below_step (by repeat (first | (with_reducible first | exact HB.out | apply below_alloc | apply pw_below_drewN | apply below_drew1) | exact HB.out)) hb); have n1_ := Aside0.mk (hbox); have n2_ := Aside0.mk ((by rw [hg]; exact (below_size (by repeat (first | (with_reducible first | exact HB.out | apply below_alloc | apply pw_below_drewN | apply below_drew1) | exact HB.out))) : w.heap.size ≤ gb111)); have n3_ := Aside0.mk ((by rw [hg]; exact (below_size (by repeat (first | (with_reducible first | exact HB.out | apply below_alloc | apply pw_below_drewN | apply below_drew1) | exact HB.out))) : w.heap.size ≤ gb111)); clear HB; have HB := n0_; have BK111 := n1_; have GW111 := n2_; have GE111 := n3_; clear n0_ n1_ n2_ n3_; clear hb hbox hg; have hcz11_0 : w10.cell? ⟨gb111, 0, none⟩ = some (.int .i64 a1_0) := (blk_cell BK111.out 0).trans rfl; have hcz11_1 : w10.cell? ⟨gb111, 1, none⟩ = some (.int .i64 a1_1) := (blk_cell BK111.out 1).trans rfl; have hcz11_2 : w10.cell? ⟨gb111, 2, none⟩ = some (.int .u8 a1_2) := (blk_cell BK111.out 2).trans rfl; have hfz11_0 := blk_frozen BK111.out 0; have hfz11_1 := blk_frozen BK111.out 1; have hfz11_2 := blk_frozen BK111.out 2) | ((with_reducible refine gate_dst (N := 5) rfl ?_); refine box_event ?hg (N := 5) ?hd (cs := #[.int .i64 0, .int .i64 0, .int .u8 0]) (t := 42) ?hr ?_; (case hd => rfl); (case hg => rfl); (case hr => first | (go_simp; done) | (go_simp; rfl)); intro gb112 hg w12 hbox hb; have n0_ := Aside0.mk (blk_below (g := gb111) (o := .cells #[.int .i64 a1_0, .int .i64 a1_1, .int .u8 a1_2] 42 (0, 0)) (by (with_reducible repeat (first | refine blk_drewN ?_ _ | refine blk_drew ?_ | refine blk_alloc ?_ _)); exact BK111.out) hb); have n1_ := Aside0.mk (below_step (by repeat (first | (with_reducible first | exact HB.out | apply below_alloc | apply pw_below_drewN | apply below_drew1 | refine below_set ?_ GE111.out) | exact HB.out)) hb); have n2_ := Aside0.mk (hbox); have n3_ := Aside0.mk ((by rw [hg]; exact (below_size (by repeat (first | (with_reducible first | exact HB.out | apply below_alloc | apply pw_below_drewN | apply below_drew1 | refine below_set ?_ GE111.out) | exact HB.out))) : w.heap.size ≤ gb112)); have n4_ := Aside0.mk ((by rw [hg]; exact (below_size (by repeat (first | (with_reducible first | exact HB.out | apply below_alloc | apply pw_below_drewN | apply below_drew1 | refine below_set ?_ GE111.out) | exact HB.out))) : w.heap.size ≤ gb112)); have n5_ := Aside0.mk ((by rw [hg]; exact Nat.ne_of_lt (blk_lt (g := gb111) (o := .cells #[.int .i64 a1_0, .int .i64 a1_1, .int .u8 a1_2] 42 (0, 0)) (by (with_reducible repeat (first | refine blk_drewN ?_ _ | refine blk_drew ?_ | refine blk_alloc ?_ _)); exact BK111.out)) : gb111 ≠ gb112)); have n6_ := Aside0.mk ((by rw [hg]; exact Nat.ne_of_gt (blk_lt (g := gb111) (o := .cells #[.int .i64 a1_0, .int .i64 a1_1, .int .u8 a1_2] 42 (0, 0)) (by (with_reducible repeat (first | refine blk_drewN ?_ _ | refine blk_drew ?_ | refine blk_alloc ?_ _)); exact BK111.out)) : gb112 ≠ gb111)); clear BK111; clear HB; have BK111 := n0_; have HB := n1_; have BK112 := n2_; have GW112 := n3_; have GE112 := n4_; have NB111_112 := n5_; have NB112_111 := n6_; clear n0_ n1_ n2_ n3_ n4_ n5_ n6_; clear hb hbox hg; have hnb13 := NB112_111.out; have hnc13 := NB111_112.out; have hcz14_0 : w12.cell? ⟨gb112, 0, none⟩ = some (.int .i64 0) := (blk_cell BK112.out 0).trans rfl; have hcz14_1 : w12.cell? ⟨gb112, 1, none⟩ = some (.int .i64 0) := (blk_cell BK112.out 1).trans rfl; have hcz14_2 : w12.cell? ⟨gb112, 2, none⟩ = some (.int .u8 0) := (blk_cell BK112.out 2).trans rfl; have hfz14_0 := blk_frozen BK112.out 0; have hfz14_1 := blk_frozen BK112.out 1; have hfz14_2 := blk_frozen BK112.out 2))
      have n0_ : Aside0 ((((w12.setCell ⟨gb112, 0, none⟩ (.int .i64 a1_0)).setCell ⟨gb112, 1, none⟩ (.int .i64 0)).setCell ⟨gb112, 2, none⟩ (.int .u8 0)).heap[gb111]? = some (.cells #[.int .i64 a1_0, .int .i64 a1_1, .int .u8 a1_2] 42 (0, 0))) := ⟨by (with_reducible repeat (first | refine blk_drewN ?_ _ | refine blk_drew ?_ | refine blk_alloc ?_ _)); refine blk_far ?_ NB111_112.out _; (with_reducible repeat (first | refine blk_drewN ?_ _ | refine blk_drew ?_ | refine blk_alloc ?_ _)); refine blk_far ?_ NB111_112.out _; (with_reducible repeat (first | refine blk_drewN ?_ _ | refine blk_drew ?_ | refine blk_alloc ?_ _)); refine blk_far ?_ NB111_112.out _; (with_reducible repeat (first | refine blk_drewN ?_ _ | refine blk_drew ?_ | refine blk_alloc ?_ _)); exact BK111.out⟩
      have n1_ : Aside0 ((((w12.setCell ⟨gb112, 0, none⟩ (.int .i64 a1_0)).setCell ⟨gb112, 1, none⟩ (.int .i64 0)).setCell ⟨gb112, 2, none⟩ (.int .u8 0)).heap[gb112]? = some (.cells #[.int .i64 a1_0, .int .i64 0, .int .u8 0] 42 (0, 0))) := ⟨by (with_reducible repeat (first | refine blk_drewN ?_ _ | refine blk_drew ?_ | refine blk_alloc ?_ _)); refine blk_put (cs := #[.int .i64 a1_0, .int .i64 0, .int .u8 0]) ?_ 2 _ rfl; (with_reducible repeat (first | refine blk_drewN ?_ _ | refine blk_drew ?_ | refine blk_alloc ?_ _)); refine blk_put (cs := #[.int .i64 a1_0, .int .i64 0, .int .u8 0]) ?_ 1 _ rfl; (with_reducible repeat (first | refine blk_drewN ?_ _ | refine blk_drew ?_ | refine blk_alloc ?_ _)); refine blk_put (cs := #[.int .i64 0, .int .i64 0, .int .u8 0]) ?_ 0 _ rfl; (with_reducible repeat (first | refine blk_drewN ?_ _ | refine blk_drew ?_ | refine blk_alloc ?_ _)); exact BK112.out⟩
      have n2_ : Aside0 (Below w.heap.size w (((w12.setCell ⟨gb112, 0, none⟩ (.int .i64 a1_0)).setCell ⟨gb112, 1, none⟩ (.int .i64 0)).setCell ⟨gb112, 2, none⟩ (.int .u8 0))) := ⟨by repeat (first | (with_reducible first | exact HB.out | apply below_alloc | apply pw_below_drewN | apply below_drew1 | refine below_set ?_ GE111.out | refine below_set ?_ GE112.out) | exact HB.out)⟩
      (try clear BK111)
      (try clear BK112)
      (try clear HB)
      generalize (((w12.setCell ⟨gb112, 0, none⟩ (.int .i64 a1_0)).setCell ⟨gb112, 1, none⟩ (.int .i64 0)).setCell ⟨gb112, 2, none⟩ (.int .u8 0)) = w15 at n0_ n1_ n2_ ⊢
      have BK111 := n0_
      have BK112 := n1_
      have HB := n2_
      clear n0_ n1_ n2_
      have n0_ := Aside0.mk (blk_drew BK111.out)
      have n1_ := Aside0.mk (blk_drew BK112.out)
      have n2_ := Aside0.mk (below_drew1 HB.out)
      clear BK111
      clear BK112
      clear HB
      have BK111 := n0_
      have BK112 := n1_
      have HB := n2_
      clear n0_ n1_ n2_
      refine start_ (n := 22) (S := fun w' => w'.cell? ⟨gb111, 0, none⟩ = some (.int .i64 a1_0) ∧ w'.cell? ⟨gb111, 1, none⟩ = some (.int .i64 a1_1) ∧ w'.cell? ⟨gb111, 2, none⟩ = some (.int .u8 a1_2) ∧ w'.cell? ⟨gb112, 0, none⟩ = some (.int .i64 a1_0) ∧ w'.cell? ⟨gb112, 1, none⟩ = some (.int .i64 0) ∧ w'.cell? ⟨gb112, 2, none⟩ = some (.int .u8 0)) (ds := []) #[false, false, false, false, false, false, false, false, false, false, false, false, false, false, false, false, false, false, false, false, false, false] (by kernel_rfl) rfl rfl ⟨(blk_cell BK111.out 0).trans rfl, (blk_cell BK111.out 1).trans rfl, (blk_cell BK111.out 2).trans rfl, (blk_cell BK112.out 0).trans rfl, (blk_cell BK112.out 1).trans rfl, (blk_cell BK112.out 2).trans rfl⟩ (fun hHeld => ?_); refine with_tabW lookasidelaw21_StoryRooms.tab2 lookasidelaw21_StoryRooms.bits2 (fun HT_ HW_ => ?_)
      generalize w15.drew = w16 at BK111 BK112 HB hHeld ⊢
      refine pure_ (i := 0) (N := some 9) (v := ?_) (a' := ?_) #[true, false, false, false, false, false, false, false, false, false, false, false, false, false, false, false, false, false, false, false, false, false] rfl rfl (any_of HT_.out (by kernel_rfl)) (fun _ _ _ h => h) (Or.inl ⟨by rfl, ?_⟩) ?_ ?_
      rotate_left
      · intro w'
        go_simp
        with_reducible rfl
      rotate_left
      · simp only [Act.put, List.setIfInBounds_toArray, List.set_cons_zero, List.set_cons_succ, i64_w, i32_w]
        rfl
      refine pure_ (i := 1) (N := some 10) (v := ?_) (a' := ?_) #[true, true, false, false, false, false, false, false, false, false, false, false, false, false, false, false, false, false, false, false, false, false] rfl rfl (any_of HT_.out (by kernel_rfl)) (fun _ _ _ h => h) (Or.inl ⟨by rfl, ?_⟩) ?_ ?_
      rotate_left
      · intro w'
        go_simp
        with_reducible rfl
      rotate_left
      · simp only [Act.put, List.setIfInBounds_toArray, List.set_cons_zero, List.set_cons_succ, i64_w, i32_w]
        rfl
      refine pure_ (i := 4) (N := some 13) (v := ?_) (a' := ?_) #[true, true, false, false, true, false, false, false, false, false, false, false, false, false, false, false, false, false, false, false, false, false] rfl rfl (any_of HT_.out (by kernel_rfl)) (fun _ _ _ h => h) (Or.inl ⟨by rfl, ?_⟩) ?_ ?_
      rotate_left
      · intro w'
        go_simp
        with_reducible rfl
      rotate_left
      · simp only [Act.put, List.setIfInBounds_toArray, List.set_cons_zero, List.set_cons_succ, i64_w, i32_w]
        rfl
      refine take_ (i := 2) (N := some 11) (v := ?_) (a' := ?_) #[true, true, true, false, true, false, false, false, false, false, false, false, false, false, false, false, false, false, false, false, false, false] rfl rfl (take_ofW HT_.out HW_.out (by kernel_rfl)) (fun _ _ _ h => h) (Or.inl ⟨by rfl, ?_⟩) hHeld ?_ ?_
      rotate_left
      · rintro w' ⟨s0, s1, s2, s3, s4, s5⟩
        go_simp
        with_reducible rfl
      rotate_left
      · simp only [Act.put, List.setIfInBounds_toArray, List.set_cons_zero, List.set_cons_succ, i64_w, i32_w]
        rfl
      refine take_ (i := 5) (N := some 14) (v := ?_) (a' := ?_) #[true, true, true, false, true, true, false, false, false, false, false, false, false, false, false, false, false, false, false, false, false, false] rfl rfl (take_ofW HT_.out HW_.out (by kernel_rfl)) (fun _ _ _ h => h) (Or.inl ⟨by rfl, ?_⟩) hHeld ?_ ?_
      rotate_left
      · rintro w' ⟨s0, s1, s2, s3, s4, s5⟩
        go_simp
        with_reducible rfl
      rotate_left
      · simp only [Act.put, List.setIfInBounds_toArray, List.set_cons_zero, List.set_cons_succ, i64_w, i32_w]
        rfl
      refine one_ (i := 3) (N := some 12) #[true, true, true, true, true, true, false, false, false, false, false, false, false, false, false, false, false, false, false, false, false, false] rfl rfl (one_of HT_.out (by kernel_rfl)) (by decide) (fun K hK => ?_)
      refine goes_ Try.func25 (by kernel_rfl) rfl #[.agg #[.int .i64 a0, .int .i64 0, .int .i64 0, .bool false, .int .u64 0, .int .u8 0, .int .u64 0, .int .i64 0, .bool false, .bool false, .bool false, .bool false, .bool false, .bool false, .int .i64 0, .int .u64 0], .agg #[.int .i64 a1_0, .int .i64 a1_1, .int .u8 a1_2]] (by rfl) rfl rfl (by (try simp only [List.map_toArray, List.map_cons, List.map_nil]); first | done | rfl | (simp only [List.length_drop, List.length_take]; rfl)) ?_
      with_reducible refine (story_Room.calls k a0 0 0 false 0 0 0 0 false false false false false false 0 0 a1_0 a1_1 a1_2 t113 _ A3.out).mono ?_
      rintro e w17 ⟨rfl, hb⟩
      refine ⟨_, rfl, ?_⟩
      have n0_ := Aside0.mk (blk_below (g := gb111) (o := .cells #[.int .i64 a1_0, .int .i64 a1_1, .int .u8 a1_2] 42 (0, 0)) (by (with_reducible repeat (first | refine blk_drewN ?_ _ | refine blk_drew ?_ | refine blk_alloc ?_ _)); exact BK111.out) hb)
      have n1_ := Aside0.mk (blk_below (g := gb112) (o := .cells #[.int .i64 a1_0, .int .i64 0, .int .u8 0] 42 (0, 0)) (by (with_reducible repeat (first | refine blk_drewN ?_ _ | refine blk_drew ?_ | refine blk_alloc ?_ _)); exact BK112.out) hb)
      have n2_ := Aside0.mk (below_step (by repeat (first | (with_reducible first | exact HB.out | apply below_alloc | apply pw_below_drewN | apply below_drew1 | refine below_set ?_ GE111.out | refine below_set ?_ GE112.out) | exact HB.out)) hb)
      clear BK111
      clear BK112
      clear HB
      have BK111 := n0_
      have BK112 := n1_
      have HB := n2_
      clear n0_ n1_ n2_
      (try clear hb)
      (try clear hb2)
      (try clear hk)
      (try clear hi)
      refine hK.out _ _ ⟨(blk_cell BK111.out 0).trans rfl, (blk_cell BK111.out 1).trans rfl, (blk_cell BK111.out 2).trans rfl, (blk_cell BK112.out 0).trans rfl, (blk_cell BK112.out 1).trans rfl, (blk_cell BK112.out 2).trans rfl⟩ (fun hHeld => ?_)
      clear hK K
      refine norm_ (a' := ?_) ?_ ?_
      rotate_left
      · show Act.put _ (some 12) _ = _
        simp only [Act.put, List.setIfInBounds_toArray, List.set_cons_zero, List.set_cons_succ, i64_w, i32_w]
        rfl
      refine one_ (i := 6) (N := some 15) #[true, true, true, true, true, true, true, false, false, false, false, false, false, false, false, false, false, false, false, false, false, false] rfl rfl (one_of HT_.out (by kernel_rfl)) (by decide) (fun K hK => ?_)
      refine goes_ Try.func26 (by kernel_rfl) rfl #[.int .i64 a0, .agg #[.int .i64 a1_0, .int .i64 a1_1, .int .u8 a1_2]] (by rfl) rfl rfl (by (try simp only [List.map_toArray, List.map_cons, List.map_nil]); first | done | rfl | (simp only [List.length_drop, List.length_take]; rfl)) ?_
      with_reducible refine (lookasideref18_Free.calls k a0 a1_0 a1_1 a1_2 t114 _ A4.out).mono ?_
      rintro e w18 ⟨rfl, hb⟩
      refine ⟨_, rfl, ?_⟩
      have n0_ := Aside0.mk (blk_below (g := gb111) (o := .cells #[.int .i64 a1_0, .int .i64 a1_1, .int .u8 a1_2] 42 (0, 0)) (by (with_reducible repeat (first | refine blk_drewN ?_ _ | refine blk_drew ?_ | refine blk_alloc ?_ _)); exact BK111.out) hb)
      have n1_ := Aside0.mk (blk_below (g := gb112) (o := .cells #[.int .i64 a1_0, .int .i64 0, .int .u8 0] 42 (0, 0)) (by (with_reducible repeat (first | refine blk_drewN ?_ _ | refine blk_drew ?_ | refine blk_alloc ?_ _)); exact BK112.out) hb)
      have n2_ := Aside0.mk (below_step (by repeat (first | (with_reducible first | exact HB.out | apply below_alloc | apply pw_below_drewN | apply below_drew1 | refine below_set ?_ GE111.out | refine below_set ?_ GE112.out) | exact HB.out)) hb)
      clear BK111
      clear BK112
      clear HB
      have BK111 := n0_
      have BK112 := n1_
      have HB := n2_
      clear n0_ n1_ n2_
      (try clear hb)
      (try clear hb2)
      (try clear hk)
      (try clear hi)
      refine hK.out _ _ ⟨(blk_cell BK111.out 0).trans rfl, (blk_cell BK111.out 1).trans rfl, (blk_cell BK111.out 2).trans rfl, (blk_cell BK112.out 0).trans rfl, (blk_cell BK112.out 1).trans rfl, (blk_cell BK112.out 2).trans rfl⟩ (fun hHeld => ?_)
      clear hK K
      refine norm_ (a' := ?_) ?_ ?_
      rotate_left
      · show Act.put _ (some 15) _ = _
        simp only [Act.put, List.setIfInBounds_toArray, List.set_cons_zero, List.set_cons_succ, i64_w, i32_w]
        rfl
      refine pure_ (i := 7) (N := some 16) (v := ?_) (a' := ?_) #[true, true, true, true, true, true, true, true, false, false, false, false, false, false, false, false, false, false, false, false, false, false] rfl rfl (any_of HT_.out (by kernel_rfl)) (fun _ _ _ h => h) (Or.inl ⟨by rfl, ?_⟩) ?_ ?_
      rotate_left
      · intro w'
        go_simp
        with_reducible rfl
      rotate_left
      · simp only [Act.put, List.setIfInBounds_toArray, List.set_cons_zero, List.set_cons_succ, i64_w, i32_w]
        rfl
      refine pure_ (i := 8) (N := some 17) (v := ?_) (a' := ?_) #[true, true, true, true, true, true, true, true, true, false, false, false, false, false, false, false, false, false, false, false, false, false] rfl rfl (any_of HT_.out (by kernel_rfl)) (fun _ _ _ h => h) (Or.inl ⟨by rfl, ?_⟩) ?_ ?_
      rotate_left
      · intro w'
        go_simp
        with_reducible rfl
      rotate_left
      · simp only [Act.put, List.setIfInBounds_toArray, List.set_cons_zero, List.set_cons_succ, i64_w, i32_w]
        rfl
      refine pure_ (i := 9) (N := some 18) (v := ?_) (a' := ?_) #[true, true, true, true, true, true, true, true, true, true, false, false, false, false, false, false, false, false, false, false, false, false] rfl rfl (any_of HT_.out (by kernel_rfl)) (fun _ _ _ h => h) (Or.inl ⟨by rfl, ?_⟩) ?_ ?_
      rotate_left
      · intro w'
        go_simp
        with_reducible rfl
      rotate_left
      · simp only [Act.put, List.setIfInBounds_toArray, List.set_cons_zero, List.set_cons_succ, i64_w, i32_w]
        rfl
      refine pure_ (i := 10) (N := some 19) (v := ?_) (a' := ?_) #[true, true, true, true, true, true, true, true, true, true, true, false, false, false, false, false, false, false, false, false, false, false] rfl rfl (any_of HT_.out (by kernel_rfl)) (fun _ _ _ h => h) (Or.inl ⟨by rfl, ?_⟩) ?_ ?_
      rotate_left
      · intro w'
        go_simp
        with_reducible rfl
      rotate_left
      · simp only [Act.put, List.setIfInBounds_toArray, List.set_cons_zero, List.set_cons_succ, i64_w, i32_w]
        rfl
      refine pure_ (i := 13) (N := some 22) (v := ?_) (a' := ?_) #[true, true, true, true, true, true, true, true, true, true, true, false, false, true, false, false, false, false, false, false, false, false] rfl rfl (any_of HT_.out (by kernel_rfl)) (fun _ _ _ h => h) (Or.inl ⟨by rfl, ?_⟩) ?_ ?_
      rotate_left
      · intro w'
        go_simp
        with_reducible rfl
      rotate_left
      · simp only [Act.put, List.setIfInBounds_toArray, List.set_cons_zero, List.set_cons_succ, i64_w, i32_w]
        rfl
      refine take_ (i := 11) (N := some 20) (v := ?_) (a' := ?_) #[true, true, true, true, true, true, true, true, true, true, true, true, false, true, false, false, false, false, false, false, false, false] rfl rfl (take_ofW HT_.out HW_.out (by kernel_rfl)) (fun _ _ _ h => h) (Or.inl ⟨by rfl, ?_⟩) hHeld ?_ ?_
      rotate_left
      · rintro w' ⟨s0, s1, s2, s3, s4, s5⟩
        go_simp
        with_reducible rfl
      rotate_left
      · simp only [Act.put, List.setIfInBounds_toArray, List.set_cons_zero, List.set_cons_succ, i64_w, i32_w]
        rfl
      refine take_ (i := 14) (N := some 23) (v := ?_) (a' := ?_) #[true, true, true, true, true, true, true, true, true, true, true, true, false, true, true, false, false, false, false, false, false, false] rfl rfl (take_ofW HT_.out HW_.out (by kernel_rfl)) (fun _ _ _ h => h) (Or.inl ⟨by rfl, ?_⟩) hHeld ?_ ?_
      rotate_left
      · rintro w' ⟨s0, s1, s2, s3, s4, s5⟩
        go_simp
        with_reducible rfl
      rotate_left
      · simp only [Act.put, List.setIfInBounds_toArray, List.set_cons_zero, List.set_cons_succ, i64_w, i32_w]
        rfl
      refine one_ (i := 12) (N := some 21) #[true, true, true, true, true, true, true, true, true, true, true, true, true, true, true, false, false, false, false, false, false, false] rfl rfl (one_of HT_.out (by kernel_rfl)) (by decide) (fun K hK => ?_)
      refine goes_ Try.func25 (by kernel_rfl) rfl #[.agg #[.int .i64 a0, .int .i64 0, .int .i64 0, .bool false, .int .u64 0, .int .u8 0, .int .u64 0, .int .i64 0, .bool false, .bool false, .bool false, .bool false, .bool false, .bool false, .int .i64 0, .int .u64 0], .agg #[.int .i64 a1_0, .int .i64 0, .int .u8 0]] (by rfl) rfl rfl (by (try simp only [List.map_toArray, List.map_cons, List.map_nil]); first | done | rfl | (simp only [List.length_drop, List.length_take]; rfl)) ?_
      with_reducible refine (story_Room.calls k a0 0 0 false 0 0 0 0 false false false false false false 0 0 a1_0 0 0 t115 _ A6.out).mono ?_
      rintro e w19 ⟨rfl, hb⟩
      refine ⟨_, rfl, ?_⟩
      have n0_ := Aside0.mk (blk_below (g := gb111) (o := .cells #[.int .i64 a1_0, .int .i64 a1_1, .int .u8 a1_2] 42 (0, 0)) (by (with_reducible repeat (first | refine blk_drewN ?_ _ | refine blk_drew ?_ | refine blk_alloc ?_ _)); exact BK111.out) hb)
      have n1_ := Aside0.mk (blk_below (g := gb112) (o := .cells #[.int .i64 a1_0, .int .i64 0, .int .u8 0] 42 (0, 0)) (by (with_reducible repeat (first | refine blk_drewN ?_ _ | refine blk_drew ?_ | refine blk_alloc ?_ _)); exact BK112.out) hb)
      have n2_ := Aside0.mk (below_step (by repeat (first | (with_reducible first | exact HB.out | apply below_alloc | apply pw_below_drewN | apply below_drew1 | refine below_set ?_ GE111.out | refine below_set ?_ GE112.out) | exact HB.out)) hb)
      clear BK111
      clear BK112
      clear HB
      have BK111 := n0_
      have BK112 := n1_
      have HB := n2_
      clear n0_ n1_ n2_
      (try clear hb)
      (try clear hb2)
      (try clear hk)
      (try clear hi)
      refine hK.out _ _ ⟨(blk_cell BK111.out 0).trans rfl, (blk_cell BK111.out 1).trans rfl, (blk_cell BK111.out 2).trans rfl, (blk_cell BK112.out 0).trans rfl, (blk_cell BK112.out 1).trans rfl, (blk_cell BK112.out 2).trans rfl⟩ (fun hHeld => ?_)
      clear hK K
      refine norm_ (a' := ?_) ?_ ?_
      rotate_left
      · show Act.put _ (some 21) _ = _
        simp only [Act.put, List.setIfInBounds_toArray, List.set_cons_zero, List.set_cons_succ, i64_w, i32_w]
        rfl
      refine one_ (i := 15) (N := some 24) #[true, true, true, true, true, true, true, true, true, true, true, true, true, true, true, true, false, false, false, false, false, false] rfl rfl (one_of HT_.out (by kernel_rfl)) (by decide) (fun K hK => ?_)
      refine goes_ Try.func26 (by kernel_rfl) rfl #[.int .i64 a0, .agg #[.int .i64 a1_0, .int .i64 0, .int .u8 0]] (by rfl) rfl rfl (by (try simp only [List.map_toArray, List.map_cons, List.map_nil]); first | done | rfl | (simp only [List.length_drop, List.length_take]; rfl)) ?_
      with_reducible refine (lookasideref18_Free.calls k a0 a1_0 0 0 t116 _ A7.out).mono ?_
      rintro e w20 ⟨rfl, hb⟩
      refine ⟨_, rfl, ?_⟩
      have n0_ := Aside0.mk (blk_below (g := gb111) (o := .cells #[.int .i64 a1_0, .int .i64 a1_1, .int .u8 a1_2] 42 (0, 0)) (by (with_reducible repeat (first | refine blk_drewN ?_ _ | refine blk_drew ?_ | refine blk_alloc ?_ _)); exact BK111.out) hb)
      have n1_ := Aside0.mk (blk_below (g := gb112) (o := .cells #[.int .i64 a1_0, .int .i64 0, .int .u8 0] 42 (0, 0)) (by (with_reducible repeat (first | refine blk_drewN ?_ _ | refine blk_drew ?_ | refine blk_alloc ?_ _)); exact BK112.out) hb)
      have n2_ := Aside0.mk (below_step (by repeat (first | (with_reducible first | exact HB.out | apply below_alloc | apply pw_below_drewN | apply below_drew1 | refine below_set ?_ GE111.out | refine below_set ?_ GE112.out) | exact HB.out)) hb)
      clear BK111
      clear BK112
      clear HB
      have BK111 := n0_
      have BK112 := n1_
      have HB := n2_
      clear n0_ n1_ n2_
      (try clear hb)
      (try clear hb2)
      (try clear hk)
      (try clear hi)
      refine hK.out _ _ ⟨(blk_cell BK111.out 0).trans rfl, (blk_cell BK111.out 1).trans rfl, (blk_cell BK111.out 2).trans rfl, (blk_cell BK112.out 0).trans rfl, (blk_cell BK112.out 1).trans rfl, (blk_cell BK112.out 2).trans rfl⟩ (fun hHeld => ?_)
      clear hK K
      refine norm_ (a' := ?_) ?_ ?_
      rotate_left
      · show Act.put _ (some 24) _ = _
        simp only [Act.put, List.setIfInBounds_toArray, List.set_cons_zero, List.set_cons_succ, i64_w, i32_w]
        rfl
      refine pure_ (i := 16) (N := some 25) (v := ?_) (a' := ?_) #[true, true, true, true, true, true, true, true, true, true, true, true, true, true, true, true, true, false, false, false, false, false] rfl rfl (any_of HT_.out (by kernel_rfl)) (fun _ _ _ h => h) (Or.inl ⟨by rfl, ?_⟩) ?_ ?_
      rotate_left
      · intro w'
        go_simp
        with_reducible rfl
      rotate_left
      · simp only [Act.put, List.setIfInBounds_toArray, List.set_cons_zero, List.set_cons_succ, i64_w, i32_w]
        rfl
      refine pure_ (i := 17) (N := some 26) (v := ?_) (a' := ?_) #[true, true, true, true, true, true, true, true, true, true, true, true, true, true, true, true, true, true, false, false, false, false] rfl rfl (any_of HT_.out (by kernel_rfl)) (fun _ _ _ h => h) (Or.inl ⟨by rfl, ?_⟩) ?_ ?_
      rotate_left
      · intro w'
        go_simp
        with_reducible rfl
      rotate_left
      · simp only [Act.put, List.setIfInBounds_toArray, List.set_cons_zero, List.set_cons_succ, i64_w, i32_w]
        rfl
      refine pure_ (i := 18) (N := some 27) (v := ?_) (a' := ?_) #[true, true, true, true, true, true, true, true, true, true, true, true, true, true, true, true, true, true, true, false, false, false] rfl rfl (any_of HT_.out (by kernel_rfl)) (fun _ _ _ h => h) (Or.inl ⟨by rfl, ?_⟩) ?_ ?_
      rotate_left
      · intro w'
        go_simp
        with_reducible rfl
      rotate_left
      · simp only [Act.put, List.setIfInBounds_toArray, List.set_cons_zero, List.set_cons_succ, i64_w, i32_w]
        rfl
      refine one_ (i := 19) (N := some 28) #[true, true, true, true, true, true, true, true, true, true, true, true, true, true, true, true, true, true, true, true, false, false] rfl rfl (one_of HT_.out (by kernel_rfl)) (by decide) (fun K hK => ?_)
      refine goes_ Try.func27 (by kernel_rfl) rfl #[] (by rfl) rfl rfl (by (try simp only [List.map_toArray, List.map_cons, List.map_nil]); first | done | rfl | (simp only [List.length_drop, List.length_take]; rfl)) ?_
      with_reducible refine (lookasidelaw21_lives.calls  t117 _ A9.out).mono ?_
      rintro e w21 ⟨rfl, hb⟩
      refine ⟨_, rfl, ?_⟩
      have n0_ := Aside0.mk (blk_below (g := gb111) (o := .cells #[.int .i64 a1_0, .int .i64 a1_1, .int .u8 a1_2] 42 (0, 0)) (by (with_reducible repeat (first | refine blk_drewN ?_ _ | refine blk_drew ?_ | refine blk_alloc ?_ _)); exact BK111.out) hb)
      have n1_ := Aside0.mk (blk_below (g := gb112) (o := .cells #[.int .i64 a1_0, .int .i64 0, .int .u8 0] 42 (0, 0)) (by (with_reducible repeat (first | refine blk_drewN ?_ _ | refine blk_drew ?_ | refine blk_alloc ?_ _)); exact BK112.out) hb)
      have n2_ := Aside0.mk (below_step (by repeat (first | (with_reducible first | exact HB.out | apply below_alloc | apply pw_below_drewN | apply below_drew1 | refine below_set ?_ GE111.out | refine below_set ?_ GE112.out) | exact HB.out)) hb)
      clear BK111
      clear BK112
      clear HB
      have BK111 := n0_
      have BK112 := n1_
      have HB := n2_
      clear n0_ n1_ n2_
      (try clear hb)
      (try clear hb2)
      (try clear hk)
      (try clear hi)
      refine hK.out _ _ ⟨(blk_cell BK111.out 0).trans rfl, (blk_cell BK111.out 1).trans rfl, (blk_cell BK111.out 2).trans rfl, (blk_cell BK112.out 0).trans rfl, (blk_cell BK112.out 1).trans rfl, (blk_cell BK112.out 2).trans rfl⟩ (fun hHeld => ?_)
      clear hK K
      refine norm_ (a' := ?_) ?_ ?_
      rotate_left
      · show Act.put _ (some 28) _ = _
        simp only [Act.put, List.setIfInBounds_toArray, List.set_cons_zero, List.set_cons_succ, i64_w, i32_w]
        rfl
      refine pure_ (i := 20) (N := some 29) (v := ?_) (a' := ?_) #[true, true, true, true, true, true, true, true, true, true, true, true, true, true, true, true, true, true, true, true, true, false] rfl rfl (any_of HT_.out (by kernel_rfl)) (fun _ _ _ h => h) (Or.inl ⟨by rfl, ?_⟩) ?_ ?_
      rotate_left
      · intro w'
        go_simp
        with_reducible rfl
      rotate_left
      · simp only [Act.put, List.setIfInBounds_toArray, List.set_cons_zero, List.set_cons_succ, i64_w, i32_w]
        rfl
      refine pure_ (i := 21) (N := some 4) (v := ?_) (a' := ?_) #[true, true, true, true, true, true, true, true, true, true, true, true, true, true, true, true, true, true, true, true, true, true] rfl rfl (any_of HT_.out (by kernel_rfl)) (fun _ _ _ h => h) (Or.inl ⟨by rfl, ?_⟩) ?_ ?_
      rotate_left
      · intro w'
        go_simp
        with_reducible rfl
      rotate_left
      · simp only [Act.put, List.setIfInBounds_toArray, List.set_cons_zero, List.set_cons_succ, i64_w, i32_w]
        rfl
      refine done_ (done_of HT_.out (by kernel_rfl)) ?_
      try go_wp2
      go_ret
      exact ⟨by first | rfl | (simp [errW_none, errW_some] <;> rfl) | (simp [*, errW_none, errW_some] <;> rfl), by repeat (first | (with_reducible first | exact HB.out | apply below_alloc | apply pw_below_drewN | apply below_drew1 | refine below_set ?_ GE111.out | refine below_set ?_ GE112.out) | exact HB.out)⟩
    · rw [if_neg c8] at H
      have c8b0 : (t115 == t116) = false := by simpa using c8
      (try (have c8b1 : decide (t115 = t116) = false := by simpa using c8))
      (try (have c8b2 : (t115 == t116) = false := by simpa using c8))
      (try (have c8b3 : ¬ (t115 = t116) := by simpa using c8))
      clear c8
      obtain rfl := Option.some.inj H
      go_enter Try.func8, Try.ntmps8
      try go_wp2_with (first | ((with_reducible refine gate_dst (N := 3) rfl ?_); refine box_event ?hg (N := 3) ?hd (cs := #[.int .i64 a1_0, .int .i64 a1_1, .int .u8 a1_2]) (t := 42) ?hr ?_; (case hd => rfl); (case hg => rfl); (case hr => first | (go_simp; done) | (go_simp; rfl)); intro gb111 hg w22 hbox hb; have n0_ := Aside0.mk (below_step (by repeat (first | (with_reducible first | exact HB.out | apply below_alloc | apply pw_below_drewN | apply below_drew1) | exact HB.out)) hb); have n1_ := Aside0.mk (hbox); have n2_ := Aside0.mk ((by rw [hg]; exact (below_size (by repeat (first | (with_reducible first | exact HB.out | apply below_alloc | apply pw_below_drewN | apply below_drew1) | exact HB.out))) : w.heap.size ≤ gb111)); have n3_ := Aside0.mk ((by rw [hg]; exact (below_size (by repeat (first | (with_reducible first | exact HB.out | apply below_alloc | apply pw_below_drewN | apply below_drew1) | exact HB.out))) : w.heap.size ≤ gb111)); clear HB; have HB := n0_; have BK111 := n1_; have GW111 := n2_; have GE111 := n3_; clear n0_ n1_ n2_ n3_; clear hb hbox hg; have hcz23_0 : w22.cell? ⟨gb111, 0, none⟩ = some (.int .i64 a1_0) := (blk_cell BK111.out 0).trans rfl; have hcz23_1 : w22.cell? ⟨gb111, 1, none⟩ = some (.int .i64 a1_1) := (blk_cell BK111.out 1).trans rfl; have hcz23_2 : w22.cell? ⟨gb111, 2, none⟩ = some (.int .u8 a1_2) := (blk_cell BK111.out 2).trans rfl; have hfz23_0 := blk_frozen BK111.out 0; have hfz23_1 := blk_frozen BK111.out 1; have hfz23_2 := blk_frozen BK111.out 2) | ((with_reducible refine gate_dst (N := 5) rfl ?_); refine box_event ?hg (N := 5) ?hd (cs := #[.int .i64 0, .int .i64 0, .int .u8 0]) (t := 42) ?hr ?_; (case hd => rfl); (case hg => rfl); (case hr => first | (go_simp; done) | (go_simp; rfl)); intro gb112 hg w24 hbox hb; have n0_ := Aside0.mk (blk_below (g := gb111) (o := .cells #[.int .i64 a1_0, .int .i64 a1_1, .int .u8 a1_2] 42 (0, 0)) (by (with_reducible repeat (first | refine blk_drewN ?_ _ | refine blk_drew ?_ | refine blk_alloc ?_ _)); exact BK111.out) hb); have n1_ := Aside0.mk (below_step (by repeat (first | (with_reducible first | exact HB.out | apply below_alloc | apply pw_below_drewN | apply below_drew1 | refine below_set ?_ GE111.out) | exact HB.out)) hb); have n2_ := Aside0.mk (hbox); have n3_ := Aside0.mk ((by rw [hg]; exact (below_size (by repeat (first | (with_reducible first | exact HB.out | apply below_alloc | apply pw_below_drewN | apply below_drew1 | refine below_set ?_ GE111.out) | exact HB.out))) : w.heap.size ≤ gb112)); have n4_ := Aside0.mk ((by rw [hg]; exact (below_size (by repeat (first | (with_reducible first | exact HB.out | apply below_alloc | apply pw_below_drewN | apply below_drew1 | refine below_set ?_ GE111.out) | exact HB.out))) : w.heap.size ≤ gb112)); have n5_ := Aside0.mk ((by rw [hg]; exact Nat.ne_of_lt (blk_lt (g := gb111) (o := .cells #[.int .i64 a1_0, .int .i64 a1_1, .int .u8 a1_2] 42 (0, 0)) (by (with_reducible repeat (first | refine blk_drewN ?_ _ | refine blk_drew ?_ | refine blk_alloc ?_ _)); exact BK111.out)) : gb111 ≠ gb112)); have n6_ := Aside0.mk ((by rw [hg]; exact Nat.ne_of_gt (blk_lt (g := gb111) (o := .cells #[.int .i64 a1_0, .int .i64 a1_1, .int .u8 a1_2] 42 (0, 0)) (by (with_reducible repeat (first | refine blk_drewN ?_ _ | refine blk_drew ?_ | refine blk_alloc ?_ _)); exact BK111.out)) : gb112 ≠ gb111)); clear BK111; clear HB; have BK111 := n0_; have HB := n1_; have BK112 := n2_; have GW112 := n3_; have GE112 := n4_; have NB111_112 := n5_; have NB112_111 := n6_; clear n0_ n1_ n2_ n3_ n4_ n5_ n6_; clear hb hbox hg; have hnb25 := NB112_111.out; have hnc25 := NB111_112.out; have hcz26_0 : w24.cell? ⟨gb112, 0, none⟩ = some (.int .i64 0) := (blk_cell BK112.out 0).trans rfl; have hcz26_1 : w24.cell? ⟨gb112, 1, none⟩ = some (.int .i64 0) := (blk_cell BK112.out 1).trans rfl; have hcz26_2 : w24.cell? ⟨gb112, 2, none⟩ = some (.int .u8 0) := (blk_cell BK112.out 2).trans rfl; have hfz26_0 := blk_frozen BK112.out 0; have hfz26_1 := blk_frozen BK112.out 1; have hfz26_2 := blk_frozen BK112.out 2))
      have n0_ : Aside0 ((((w24.setCell ⟨gb112, 0, none⟩ (.int .i64 a1_0)).setCell ⟨gb112, 1, none⟩ (.int .i64 0)).setCell ⟨gb112, 2, none⟩ (.int .u8 0)).heap[gb111]? = some (.cells #[.int .i64 a1_0, .int .i64 a1_1, .int .u8 a1_2] 42 (0, 0))) := ⟨by (with_reducible repeat (first | refine blk_drewN ?_ _ | refine blk_drew ?_ | refine blk_alloc ?_ _)); refine blk_far ?_ NB111_112.out _; (with_reducible repeat (first | refine blk_drewN ?_ _ | refine blk_drew ?_ | refine blk_alloc ?_ _)); refine blk_far ?_ NB111_112.out _; (with_reducible repeat (first | refine blk_drewN ?_ _ | refine blk_drew ?_ | refine blk_alloc ?_ _)); refine blk_far ?_ NB111_112.out _; (with_reducible repeat (first | refine blk_drewN ?_ _ | refine blk_drew ?_ | refine blk_alloc ?_ _)); exact BK111.out⟩
      have n1_ : Aside0 ((((w24.setCell ⟨gb112, 0, none⟩ (.int .i64 a1_0)).setCell ⟨gb112, 1, none⟩ (.int .i64 0)).setCell ⟨gb112, 2, none⟩ (.int .u8 0)).heap[gb112]? = some (.cells #[.int .i64 a1_0, .int .i64 0, .int .u8 0] 42 (0, 0))) := ⟨by (with_reducible repeat (first | refine blk_drewN ?_ _ | refine blk_drew ?_ | refine blk_alloc ?_ _)); refine blk_put (cs := #[.int .i64 a1_0, .int .i64 0, .int .u8 0]) ?_ 2 _ rfl; (with_reducible repeat (first | refine blk_drewN ?_ _ | refine blk_drew ?_ | refine blk_alloc ?_ _)); refine blk_put (cs := #[.int .i64 a1_0, .int .i64 0, .int .u8 0]) ?_ 1 _ rfl; (with_reducible repeat (first | refine blk_drewN ?_ _ | refine blk_drew ?_ | refine blk_alloc ?_ _)); refine blk_put (cs := #[.int .i64 0, .int .i64 0, .int .u8 0]) ?_ 0 _ rfl; (with_reducible repeat (first | refine blk_drewN ?_ _ | refine blk_drew ?_ | refine blk_alloc ?_ _)); exact BK112.out⟩
      have n2_ : Aside0 (Below w.heap.size w (((w24.setCell ⟨gb112, 0, none⟩ (.int .i64 a1_0)).setCell ⟨gb112, 1, none⟩ (.int .i64 0)).setCell ⟨gb112, 2, none⟩ (.int .u8 0))) := ⟨by repeat (first | (with_reducible first | exact HB.out | apply below_alloc | apply pw_below_drewN | apply below_drew1 | refine below_set ?_ GE111.out | refine below_set ?_ GE112.out) | exact HB.out)⟩
      (try clear BK111)
      (try clear BK112)
      (try clear HB)
      generalize (((w24.setCell ⟨gb112, 0, none⟩ (.int .i64 a1_0)).setCell ⟨gb112, 1, none⟩ (.int .i64 0)).setCell ⟨gb112, 2, none⟩ (.int .u8 0)) = w27 at n0_ n1_ n2_ ⊢
      have BK111 := n0_
      have BK112 := n1_
      have HB := n2_
      clear n0_ n1_ n2_
      have n0_ := Aside0.mk (blk_drew BK111.out)
      have n1_ := Aside0.mk (blk_drew BK112.out)
      have n2_ := Aside0.mk (below_drew1 HB.out)
      clear BK111
      clear BK112
      clear HB
      have BK111 := n0_
      have BK112 := n1_
      have HB := n2_
      clear n0_ n1_ n2_
      refine start_ (n := 22) (S := fun w' => w'.cell? ⟨gb111, 0, none⟩ = some (.int .i64 a1_0) ∧ w'.cell? ⟨gb111, 1, none⟩ = some (.int .i64 a1_1) ∧ w'.cell? ⟨gb111, 2, none⟩ = some (.int .u8 a1_2) ∧ w'.cell? ⟨gb112, 0, none⟩ = some (.int .i64 a1_0) ∧ w'.cell? ⟨gb112, 1, none⟩ = some (.int .i64 0) ∧ w'.cell? ⟨gb112, 2, none⟩ = some (.int .u8 0)) (ds := []) #[false, false, false, false, false, false, false, false, false, false, false, false, false, false, false, false, false, false, false, false, false, false] (by kernel_rfl) rfl rfl ⟨(blk_cell BK111.out 0).trans rfl, (blk_cell BK111.out 1).trans rfl, (blk_cell BK111.out 2).trans rfl, (blk_cell BK112.out 0).trans rfl, (blk_cell BK112.out 1).trans rfl, (blk_cell BK112.out 2).trans rfl⟩ (fun hHeld => ?_); refine with_tabW lookasidelaw21_StoryRooms.tab2 lookasidelaw21_StoryRooms.bits2 (fun HT_ HW_ => ?_)
      generalize w27.drew = w28 at BK111 BK112 HB hHeld ⊢
      refine pure_ (i := 0) (N := some 9) (v := ?_) (a' := ?_) #[true, false, false, false, false, false, false, false, false, false, false, false, false, false, false, false, false, false, false, false, false, false] rfl rfl (any_of HT_.out (by kernel_rfl)) (fun _ _ _ h => h) (Or.inl ⟨by rfl, ?_⟩) ?_ ?_
      rotate_left
      · intro w'
        go_simp
        with_reducible rfl
      rotate_left
      · simp only [Act.put, List.setIfInBounds_toArray, List.set_cons_zero, List.set_cons_succ, i64_w, i32_w]
        rfl
      refine pure_ (i := 1) (N := some 10) (v := ?_) (a' := ?_) #[true, true, false, false, false, false, false, false, false, false, false, false, false, false, false, false, false, false, false, false, false, false] rfl rfl (any_of HT_.out (by kernel_rfl)) (fun _ _ _ h => h) (Or.inl ⟨by rfl, ?_⟩) ?_ ?_
      rotate_left
      · intro w'
        go_simp
        with_reducible rfl
      rotate_left
      · simp only [Act.put, List.setIfInBounds_toArray, List.set_cons_zero, List.set_cons_succ, i64_w, i32_w]
        rfl
      refine pure_ (i := 4) (N := some 13) (v := ?_) (a' := ?_) #[true, true, false, false, true, false, false, false, false, false, false, false, false, false, false, false, false, false, false, false, false, false] rfl rfl (any_of HT_.out (by kernel_rfl)) (fun _ _ _ h => h) (Or.inl ⟨by rfl, ?_⟩) ?_ ?_
      rotate_left
      · intro w'
        go_simp
        with_reducible rfl
      rotate_left
      · simp only [Act.put, List.setIfInBounds_toArray, List.set_cons_zero, List.set_cons_succ, i64_w, i32_w]
        rfl
      refine take_ (i := 2) (N := some 11) (v := ?_) (a' := ?_) #[true, true, true, false, true, false, false, false, false, false, false, false, false, false, false, false, false, false, false, false, false, false] rfl rfl (take_ofW HT_.out HW_.out (by kernel_rfl)) (fun _ _ _ h => h) (Or.inl ⟨by rfl, ?_⟩) hHeld ?_ ?_
      rotate_left
      · rintro w' ⟨s0, s1, s2, s3, s4, s5⟩
        go_simp
        with_reducible rfl
      rotate_left
      · simp only [Act.put, List.setIfInBounds_toArray, List.set_cons_zero, List.set_cons_succ, i64_w, i32_w]
        rfl
      refine take_ (i := 5) (N := some 14) (v := ?_) (a' := ?_) #[true, true, true, false, true, true, false, false, false, false, false, false, false, false, false, false, false, false, false, false, false, false] rfl rfl (take_ofW HT_.out HW_.out (by kernel_rfl)) (fun _ _ _ h => h) (Or.inl ⟨by rfl, ?_⟩) hHeld ?_ ?_
      rotate_left
      · rintro w' ⟨s0, s1, s2, s3, s4, s5⟩
        go_simp
        with_reducible rfl
      rotate_left
      · simp only [Act.put, List.setIfInBounds_toArray, List.set_cons_zero, List.set_cons_succ, i64_w, i32_w]
        rfl
      refine one_ (i := 3) (N := some 12) #[true, true, true, true, true, true, false, false, false, false, false, false, false, false, false, false, false, false, false, false, false, false] rfl rfl (one_of HT_.out (by kernel_rfl)) (by decide) (fun K hK => ?_)
      refine goes_ Try.func25 (by kernel_rfl) rfl #[.agg #[.int .i64 a0, .int .i64 0, .int .i64 0, .bool false, .int .u64 0, .int .u8 0, .int .u64 0, .int .i64 0, .bool false, .bool false, .bool false, .bool false, .bool false, .bool false, .int .i64 0, .int .u64 0], .agg #[.int .i64 a1_0, .int .i64 a1_1, .int .u8 a1_2]] (by rfl) rfl rfl (by (try simp only [List.map_toArray, List.map_cons, List.map_nil]); first | done | rfl | (simp only [List.length_drop, List.length_take]; rfl)) ?_
      with_reducible refine (story_Room.calls k a0 0 0 false 0 0 0 0 false false false false false false 0 0 a1_0 a1_1 a1_2 t113 _ A3.out).mono ?_
      rintro e w29 ⟨rfl, hb⟩
      refine ⟨_, rfl, ?_⟩
      have n0_ := Aside0.mk (blk_below (g := gb111) (o := .cells #[.int .i64 a1_0, .int .i64 a1_1, .int .u8 a1_2] 42 (0, 0)) (by (with_reducible repeat (first | refine blk_drewN ?_ _ | refine blk_drew ?_ | refine blk_alloc ?_ _)); exact BK111.out) hb)
      have n1_ := Aside0.mk (blk_below (g := gb112) (o := .cells #[.int .i64 a1_0, .int .i64 0, .int .u8 0] 42 (0, 0)) (by (with_reducible repeat (first | refine blk_drewN ?_ _ | refine blk_drew ?_ | refine blk_alloc ?_ _)); exact BK112.out) hb)
      have n2_ := Aside0.mk (below_step (by repeat (first | (with_reducible first | exact HB.out | apply below_alloc | apply pw_below_drewN | apply below_drew1 | refine below_set ?_ GE111.out | refine below_set ?_ GE112.out) | exact HB.out)) hb)
      clear BK111
      clear BK112
      clear HB
      have BK111 := n0_
      have BK112 := n1_
      have HB := n2_
      clear n0_ n1_ n2_
      (try clear hb)
      (try clear hb2)
      (try clear hk)
      (try clear hi)
      refine hK.out _ _ ⟨(blk_cell BK111.out 0).trans rfl, (blk_cell BK111.out 1).trans rfl, (blk_cell BK111.out 2).trans rfl, (blk_cell BK112.out 0).trans rfl, (blk_cell BK112.out 1).trans rfl, (blk_cell BK112.out 2).trans rfl⟩ (fun hHeld => ?_)
      clear hK K
      refine norm_ (a' := ?_) ?_ ?_
      rotate_left
      · show Act.put _ (some 12) _ = _
        simp only [Act.put, List.setIfInBounds_toArray, List.set_cons_zero, List.set_cons_succ, i64_w, i32_w]
        rfl
      refine one_ (i := 6) (N := some 15) #[true, true, true, true, true, true, true, false, false, false, false, false, false, false, false, false, false, false, false, false, false, false] rfl rfl (one_of HT_.out (by kernel_rfl)) (by decide) (fun K hK => ?_)
      refine goes_ Try.func26 (by kernel_rfl) rfl #[.int .i64 a0, .agg #[.int .i64 a1_0, .int .i64 a1_1, .int .u8 a1_2]] (by rfl) rfl rfl (by (try simp only [List.map_toArray, List.map_cons, List.map_nil]); first | done | rfl | (simp only [List.length_drop, List.length_take]; rfl)) ?_
      with_reducible refine (lookasideref18_Free.calls k a0 a1_0 a1_1 a1_2 t114 _ A4.out).mono ?_
      rintro e w30 ⟨rfl, hb⟩
      refine ⟨_, rfl, ?_⟩
      have n0_ := Aside0.mk (blk_below (g := gb111) (o := .cells #[.int .i64 a1_0, .int .i64 a1_1, .int .u8 a1_2] 42 (0, 0)) (by (with_reducible repeat (first | refine blk_drewN ?_ _ | refine blk_drew ?_ | refine blk_alloc ?_ _)); exact BK111.out) hb)
      have n1_ := Aside0.mk (blk_below (g := gb112) (o := .cells #[.int .i64 a1_0, .int .i64 0, .int .u8 0] 42 (0, 0)) (by (with_reducible repeat (first | refine blk_drewN ?_ _ | refine blk_drew ?_ | refine blk_alloc ?_ _)); exact BK112.out) hb)
      have n2_ := Aside0.mk (below_step (by repeat (first | (with_reducible first | exact HB.out | apply below_alloc | apply pw_below_drewN | apply below_drew1 | refine below_set ?_ GE111.out | refine below_set ?_ GE112.out) | exact HB.out)) hb)
      clear BK111
      clear BK112
      clear HB
      have BK111 := n0_
      have BK112 := n1_
      have HB := n2_
      clear n0_ n1_ n2_
      (try clear hb)
      (try clear hb2)
      (try clear hk)
      (try clear hi)
      refine hK.out _ _ ⟨(blk_cell BK111.out 0).trans rfl, (blk_cell BK111.out 1).trans rfl, (blk_cell BK111.out 2).trans rfl, (blk_cell BK112.out 0).trans rfl, (blk_cell BK112.out 1).trans rfl, (blk_cell BK112.out 2).trans rfl⟩ (fun hHeld => ?_)
      clear hK K
      refine norm_ (a' := ?_) ?_ ?_
      rotate_left
      · show Act.put _ (some 15) _ = _
        simp only [Act.put, List.setIfInBounds_toArray, List.set_cons_zero, List.set_cons_succ, i64_w, i32_w]
        rfl
      refine pure_ (i := 7) (N := some 16) (v := ?_) (a' := ?_) #[true, true, true, true, true, true, true, true, false, false, false, false, false, false, false, false, false, false, false, false, false, false] rfl rfl (any_of HT_.out (by kernel_rfl)) (fun _ _ _ h => h) (Or.inl ⟨by rfl, ?_⟩) ?_ ?_
      rotate_left
      · intro w'
        go_simp
        with_reducible rfl
      rotate_left
      · simp only [Act.put, List.setIfInBounds_toArray, List.set_cons_zero, List.set_cons_succ, i64_w, i32_w]
        rfl
      refine pure_ (i := 8) (N := some 17) (v := ?_) (a' := ?_) #[true, true, true, true, true, true, true, true, true, false, false, false, false, false, false, false, false, false, false, false, false, false] rfl rfl (any_of HT_.out (by kernel_rfl)) (fun _ _ _ h => h) (Or.inl ⟨by rfl, ?_⟩) ?_ ?_
      rotate_left
      · intro w'
        go_simp
        with_reducible rfl
      rotate_left
      · simp only [Act.put, List.setIfInBounds_toArray, List.set_cons_zero, List.set_cons_succ, i64_w, i32_w]
        rfl
      refine pure_ (i := 9) (N := some 18) (v := ?_) (a' := ?_) #[true, true, true, true, true, true, true, true, true, true, false, false, false, false, false, false, false, false, false, false, false, false] rfl rfl (any_of HT_.out (by kernel_rfl)) (fun _ _ _ h => h) (Or.inl ⟨by rfl, ?_⟩) ?_ ?_
      rotate_left
      · intro w'
        go_simp
        with_reducible rfl
      rotate_left
      · simp only [Act.put, List.setIfInBounds_toArray, List.set_cons_zero, List.set_cons_succ, i64_w, i32_w]
        rfl
      refine pure_ (i := 10) (N := some 19) (v := ?_) (a' := ?_) #[true, true, true, true, true, true, true, true, true, true, true, false, false, false, false, false, false, false, false, false, false, false] rfl rfl (any_of HT_.out (by kernel_rfl)) (fun _ _ _ h => h) (Or.inl ⟨by rfl, ?_⟩) ?_ ?_
      rotate_left
      · intro w'
        go_simp
        with_reducible rfl
      rotate_left
      · simp only [Act.put, List.setIfInBounds_toArray, List.set_cons_zero, List.set_cons_succ, i64_w, i32_w]
        rfl
      refine pure_ (i := 13) (N := some 22) (v := ?_) (a' := ?_) #[true, true, true, true, true, true, true, true, true, true, true, false, false, true, false, false, false, false, false, false, false, false] rfl rfl (any_of HT_.out (by kernel_rfl)) (fun _ _ _ h => h) (Or.inl ⟨by rfl, ?_⟩) ?_ ?_
      rotate_left
      · intro w'
        go_simp
        with_reducible rfl
      rotate_left
      · simp only [Act.put, List.setIfInBounds_toArray, List.set_cons_zero, List.set_cons_succ, i64_w, i32_w]
        rfl
      refine take_ (i := 11) (N := some 20) (v := ?_) (a' := ?_) #[true, true, true, true, true, true, true, true, true, true, true, true, false, true, false, false, false, false, false, false, false, false] rfl rfl (take_ofW HT_.out HW_.out (by kernel_rfl)) (fun _ _ _ h => h) (Or.inl ⟨by rfl, ?_⟩) hHeld ?_ ?_
      rotate_left
      · rintro w' ⟨s0, s1, s2, s3, s4, s5⟩
        go_simp
        with_reducible rfl
      rotate_left
      · simp only [Act.put, List.setIfInBounds_toArray, List.set_cons_zero, List.set_cons_succ, i64_w, i32_w]
        rfl
      refine take_ (i := 14) (N := some 23) (v := ?_) (a' := ?_) #[true, true, true, true, true, true, true, true, true, true, true, true, false, true, true, false, false, false, false, false, false, false] rfl rfl (take_ofW HT_.out HW_.out (by kernel_rfl)) (fun _ _ _ h => h) (Or.inl ⟨by rfl, ?_⟩) hHeld ?_ ?_
      rotate_left
      · rintro w' ⟨s0, s1, s2, s3, s4, s5⟩
        go_simp
        with_reducible rfl
      rotate_left
      · simp only [Act.put, List.setIfInBounds_toArray, List.set_cons_zero, List.set_cons_succ, i64_w, i32_w]
        rfl
      refine one_ (i := 12) (N := some 21) #[true, true, true, true, true, true, true, true, true, true, true, true, true, true, true, false, false, false, false, false, false, false] rfl rfl (one_of HT_.out (by kernel_rfl)) (by decide) (fun K hK => ?_)
      refine goes_ Try.func25 (by kernel_rfl) rfl #[.agg #[.int .i64 a0, .int .i64 0, .int .i64 0, .bool false, .int .u64 0, .int .u8 0, .int .u64 0, .int .i64 0, .bool false, .bool false, .bool false, .bool false, .bool false, .bool false, .int .i64 0, .int .u64 0], .agg #[.int .i64 a1_0, .int .i64 0, .int .u8 0]] (by rfl) rfl rfl (by (try simp only [List.map_toArray, List.map_cons, List.map_nil]); first | done | rfl | (simp only [List.length_drop, List.length_take]; rfl)) ?_
      with_reducible refine (story_Room.calls k a0 0 0 false 0 0 0 0 false false false false false false 0 0 a1_0 0 0 t115 _ A6.out).mono ?_
      rintro e w31 ⟨rfl, hb⟩
      refine ⟨_, rfl, ?_⟩
      have n0_ := Aside0.mk (blk_below (g := gb111) (o := .cells #[.int .i64 a1_0, .int .i64 a1_1, .int .u8 a1_2] 42 (0, 0)) (by (with_reducible repeat (first | refine blk_drewN ?_ _ | refine blk_drew ?_ | refine blk_alloc ?_ _)); exact BK111.out) hb)
      have n1_ := Aside0.mk (blk_below (g := gb112) (o := .cells #[.int .i64 a1_0, .int .i64 0, .int .u8 0] 42 (0, 0)) (by (with_reducible repeat (first | refine blk_drewN ?_ _ | refine blk_drew ?_ | refine blk_alloc ?_ _)); exact BK112.out) hb)
      have n2_ := Aside0.mk (below_step (by repeat (first | (with_reducible first | exact HB.out | apply below_alloc | apply pw_below_drewN | apply below_drew1 | refine below_set ?_ GE111.out | refine below_set ?_ GE112.out) | exact HB.out)) hb)
      clear BK111
      clear BK112
      clear HB
      have BK111 := n0_
      have BK112 := n1_
      have HB := n2_
      clear n0_ n1_ n2_
      (try clear hb)
      (try clear hb2)
      (try clear hk)
      (try clear hi)
      refine hK.out _ _ ⟨(blk_cell BK111.out 0).trans rfl, (blk_cell BK111.out 1).trans rfl, (blk_cell BK111.out 2).trans rfl, (blk_cell BK112.out 0).trans rfl, (blk_cell BK112.out 1).trans rfl, (blk_cell BK112.out 2).trans rfl⟩ (fun hHeld => ?_)
      clear hK K
      refine norm_ (a' := ?_) ?_ ?_
      rotate_left
      · show Act.put _ (some 21) _ = _
        simp only [Act.put, List.setIfInBounds_toArray, List.set_cons_zero, List.set_cons_succ, i64_w, i32_w]
        rfl
      refine one_ (i := 15) (N := some 24) #[true, true, true, true, true, true, true, true, true, true, true, true, true, true, true, true, false, false, false, false, false, false] rfl rfl (one_of HT_.out (by kernel_rfl)) (by decide) (fun K hK => ?_)
      refine goes_ Try.func26 (by kernel_rfl) rfl #[.int .i64 a0, .agg #[.int .i64 a1_0, .int .i64 0, .int .u8 0]] (by rfl) rfl rfl (by (try simp only [List.map_toArray, List.map_cons, List.map_nil]); first | done | rfl | (simp only [List.length_drop, List.length_take]; rfl)) ?_
      with_reducible refine (lookasideref18_Free.calls k a0 a1_0 0 0 t116 _ A7.out).mono ?_
      rintro e w32 ⟨rfl, hb⟩
      refine ⟨_, rfl, ?_⟩
      have n0_ := Aside0.mk (blk_below (g := gb111) (o := .cells #[.int .i64 a1_0, .int .i64 a1_1, .int .u8 a1_2] 42 (0, 0)) (by (with_reducible repeat (first | refine blk_drewN ?_ _ | refine blk_drew ?_ | refine blk_alloc ?_ _)); exact BK111.out) hb)
      have n1_ := Aside0.mk (blk_below (g := gb112) (o := .cells #[.int .i64 a1_0, .int .i64 0, .int .u8 0] 42 (0, 0)) (by (with_reducible repeat (first | refine blk_drewN ?_ _ | refine blk_drew ?_ | refine blk_alloc ?_ _)); exact BK112.out) hb)
      have n2_ := Aside0.mk (below_step (by repeat (first | (with_reducible first | exact HB.out | apply below_alloc | apply pw_below_drewN | apply below_drew1 | refine below_set ?_ GE111.out | refine below_set ?_ GE112.out) | exact HB.out)) hb)
      clear BK111
      clear BK112
      clear HB
      have BK111 := n0_
      have BK112 := n1_
      have HB := n2_
      clear n0_ n1_ n2_
      (try clear hb)
      (try clear hb2)
      (try clear hk)
      (try clear hi)
      refine hK.out _ _ ⟨(blk_cell BK111.out 0).trans rfl, (blk_cell BK111.out 1).trans rfl, (blk_cell BK111.out 2).trans rfl, (blk_cell BK112.out 0).trans rfl, (blk_cell BK112.out 1).trans rfl, (blk_cell BK112.out 2).trans rfl⟩ (fun hHeld => ?_)
      clear hK K
      refine norm_ (a' := ?_) ?_ ?_
      rotate_left
      · show Act.put _ (some 24) _ = _
        simp only [Act.put, List.setIfInBounds_toArray, List.set_cons_zero, List.set_cons_succ, i64_w, i32_w]
        rfl
      refine pure_ (i := 16) (N := some 25) (v := ?_) (a' := ?_) #[true, true, true, true, true, true, true, true, true, true, true, true, true, true, true, true, true, false, false, false, false, false] rfl rfl (any_of HT_.out (by kernel_rfl)) (fun _ _ _ h => h) (Or.inl ⟨by rfl, ?_⟩) ?_ ?_
      rotate_left
      · intro w'
        go_simp
        with_reducible rfl
      rotate_left
      · simp only [Act.put, List.setIfInBounds_toArray, List.set_cons_zero, List.set_cons_succ, i64_w, i32_w]
        rfl
      refine pure_ (i := 17) (N := some 26) (v := ?_) (a' := ?_) #[true, true, true, true, true, true, true, true, true, true, true, true, true, true, true, true, true, true, false, false, false, false] rfl rfl (any_of HT_.out (by kernel_rfl)) (fun _ _ _ h => h) (Or.inl ⟨by rfl, ?_⟩) ?_ ?_
      rotate_left
      · intro w'
        go_simp
        with_reducible rfl
      rotate_left
      · simp only [Act.put, List.setIfInBounds_toArray, List.set_cons_zero, List.set_cons_succ, i64_w, i32_w]
        rfl
      refine pure_ (i := 18) (N := some 27) (v := ?_) (a' := ?_) #[true, true, true, true, true, true, true, true, true, true, true, true, true, true, true, true, true, true, true, false, false, false] rfl rfl (any_of HT_.out (by kernel_rfl)) (fun _ _ _ h => h) (Or.inl ⟨by rfl, ?_⟩) ?_ ?_
      rotate_left
      · intro w'
        go_simp
        with_reducible rfl
      rotate_left
      · simp only [Act.put, List.setIfInBounds_toArray, List.set_cons_zero, List.set_cons_succ, i64_w, i32_w]
        rfl
      refine pure_ (i := 19) (N := some 28) (v := undef) (a' := ?_) #[true, true, true, true, true, true, true, true, true, true, true, true, true, true, true, true, true, true, true, true, false, false] rfl rfl (any_of HT_.out (by kernel_rfl)) (fun _ _ _ h => h) (Or.inr ⟨by rfl, rfl⟩) ?_ ?_
      rotate_left
      · simp only [Act.put, List.setIfInBounds_toArray, List.set_cons_zero, List.set_cons_succ, i64_w, i32_w]
        rfl
      refine pure_ (i := 20) (N := some 29) (v := ?_) (a' := ?_) #[true, true, true, true, true, true, true, true, true, true, true, true, true, true, true, true, true, true, true, true, true, false] rfl rfl (any_of HT_.out (by kernel_rfl)) (fun _ _ _ h => h) (Or.inl ⟨by rfl, ?_⟩) ?_ ?_
      rotate_left
      · intro w'
        go_simp
        with_reducible rfl
      rotate_left
      · simp only [Act.put, List.setIfInBounds_toArray, List.set_cons_zero, List.set_cons_succ, i64_w, i32_w]
        rfl
      refine pure_ (i := 21) (N := some 4) (v := ?_) (a' := ?_) #[true, true, true, true, true, true, true, true, true, true, true, true, true, true, true, true, true, true, true, true, true, true] rfl rfl (any_of HT_.out (by kernel_rfl)) (fun _ _ _ h => h) (Or.inl ⟨by rfl, ?_⟩) ?_ ?_
      rotate_left
      · intro w'
        go_simp
        with_reducible rfl
      rotate_left
      · simp only [Act.put, List.setIfInBounds_toArray, List.set_cons_zero, List.set_cons_succ, i64_w, i32_w]
        rfl
      refine done_ (done_of HT_.out (by kernel_rfl)) ?_
      try go_wp2
      go_ret
      exact ⟨by first | rfl | (simp [errW_none, errW_some] <;> rfl) | (simp [*, errW_none, errW_some] <;> rfl), by repeat (first | (with_reducible first | exact HB.out | apply below_alloc | apply pw_below_drewN | apply below_drew1 | refine below_set ?_ GE111.out | refine below_set ?_ GE112.out) | exact HB.out)⟩
  · rw [if_neg c5] at H
    have c5b0 : (t113 == t114) = false := by simpa using c5
    (try (have c5b1 : decide (t113 = t114) = false := by simpa using c5))
    (try (have c5b2 : (t113 == t114) = false := by simpa using c5))
    (try (have c5b3 : ¬ (t113 = t114) := by simpa using c5))
    clear c5
    obtain rfl := Option.some.inj H
    go_enter Try.func8, Try.ntmps8
    try go_wp2_with (first | ((with_reducible refine gate_dst (N := 3) rfl ?_); refine box_event ?hg (N := 3) ?hd (cs := #[.int .i64 a1_0, .int .i64 a1_1, .int .u8 a1_2]) (t := 42) ?hr ?_; (case hd => rfl); (case hg => rfl); (case hr => first | (go_simp; done) | (go_simp; rfl)); intro gb111 hg w33 hbox hb; have n0_ := Aside0.mk (below_step (by repeat (first | (with_reducible first | exact HB.out | apply below_alloc | apply pw_below_drewN | apply below_drew1) | exact HB.out)) hb); have n1_ := Aside0.mk (hbox); have n2_ := Aside0.mk ((by rw [hg]; exact (below_size (by repeat (first | (with_reducible first | exact HB.out | apply below_alloc | apply pw_below_drewN | apply below_drew1) | exact HB.out))) : w.heap.size ≤ gb111)); have n3_ := Aside0.mk ((by rw [hg]; exact (below_size (by repeat (first | (with_reducible first | exact HB.out | apply below_alloc | apply pw_below_drewN | apply below_drew1) | exact HB.out))) : w.heap.size ≤ gb111)); clear HB; have HB := n0_; have BK111 := n1_; have GW111 := n2_; have GE111 := n3_; clear n0_ n1_ n2_ n3_; clear hb hbox hg; have hcz34_0 : w33.cell? ⟨gb111, 0, none⟩ = some (.int .i64 a1_0) := (blk_cell BK111.out 0).trans rfl; have hcz34_1 : w33.cell? ⟨gb111, 1, none⟩ = some (.int .i64 a1_1) := (blk_cell BK111.out 1).trans rfl; have hcz34_2 : w33.cell? ⟨gb111, 2, none⟩ = some (.int .u8 a1_2) := (blk_cell BK111.out 2).trans rfl; have hfz34_0 := blk_frozen BK111.out 0; have hfz34_1 := blk_frozen BK111.out 1; have hfz34_2 := blk_frozen BK111.out 2) | ((with_reducible refine gate_dst (N := 5) rfl ?_); refine box_event ?hg (N := 5) ?hd (cs := #[.int .i64 0, .int .i64 0, .int .u8 0]) (t := 42) ?hr ?_; (case hd => rfl); (case hg => rfl); (case hr => first | (go_simp; done) | (go_simp; rfl)); intro gb112 hg w35 hbox hb; have n0_ := Aside0.mk (blk_below (g := gb111) (o := .cells #[.int .i64 a1_0, .int .i64 a1_1, .int .u8 a1_2] 42 (0, 0)) (by (with_reducible repeat (first | refine blk_drewN ?_ _ | refine blk_drew ?_ | refine blk_alloc ?_ _)); exact BK111.out) hb); have n1_ := Aside0.mk (below_step (by repeat (first | (with_reducible first | exact HB.out | apply below_alloc | apply pw_below_drewN | apply below_drew1 | refine below_set ?_ GE111.out) | exact HB.out)) hb); have n2_ := Aside0.mk (hbox); have n3_ := Aside0.mk ((by rw [hg]; exact (below_size (by repeat (first | (with_reducible first | exact HB.out | apply below_alloc | apply pw_below_drewN | apply below_drew1 | refine below_set ?_ GE111.out) | exact HB.out))) : w.heap.size ≤ gb112)); have n4_ := Aside0.mk ((by rw [hg]; exact (below_size (by repeat (first | (with_reducible first | exact HB.out | apply below_alloc | apply pw_below_drewN | apply below_drew1 | refine below_set ?_ GE111.out) | exact HB.out))) : w.heap.size ≤ gb112)); have n5_ := Aside0.mk ((by rw [hg]; exact Nat.ne_of_lt (blk_lt (g := gb111) (o := .cells #[.int .i64 a1_0, .int .i64 a1_1, .int .u8 a1_2] 42 (0, 0)) (by (with_reducible repeat (first | refine blk_drewN ?_ _ | refine blk_drew ?_ | refine blk_alloc ?_ _)); exact BK111.out)) : gb111 ≠ gb112)); have n6_ := Aside0.mk ((by rw [hg]; exact Nat.ne_of_gt (blk_lt (g := gb111) (o := .cells #[.int .i64 a1_0, .int .i64 a1_1, .int .u8 a1_2] 42 (0, 0)) (by (with_reducible repeat (first | refine blk_drewN ?_ _ | refine blk_drew ?_ | refine blk_alloc ?_ _)); exact BK111.out)) : gb112 ≠ gb111)); clear BK111; clear HB; have BK111 := n0_; have HB := n1_; have BK112 := n2_; have GW112 := n3_; have GE112 := n4_; have NB111_112 := n5_; have NB112_111 := n6_; clear n0_ n1_ n2_ n3_ n4_ n5_ n6_; clear hb hbox hg; have hnb36 := NB112_111.out; have hnc36 := NB111_112.out; have hcz37_0 : w35.cell? ⟨gb112, 0, none⟩ = some (.int .i64 0) := (blk_cell BK112.out 0).trans rfl; have hcz37_1 : w35.cell? ⟨gb112, 1, none⟩ = some (.int .i64 0) := (blk_cell BK112.out 1).trans rfl; have hcz37_2 : w35.cell? ⟨gb112, 2, none⟩ = some (.int .u8 0) := (blk_cell BK112.out 2).trans rfl; have hfz37_0 := blk_frozen BK112.out 0; have hfz37_1 := blk_frozen BK112.out 1; have hfz37_2 := blk_frozen BK112.out 2))
    have n0_ : Aside0 ((((w35.setCell ⟨gb112, 0, none⟩ (.int .i64 a1_0)).setCell ⟨gb112, 1, none⟩ (.int .i64 0)).setCell ⟨gb112, 2, none⟩ (.int .u8 0)).heap[gb111]? = some (.cells #[.int .i64 a1_0, .int .i64 a1_1, .int .u8 a1_2] 42 (0, 0))) := ⟨by (with_reducible repeat (first | refine blk_drewN ?_ _ | refine blk_drew ?_ | refine blk_alloc ?_ _)); refine blk_far ?_ NB111_112.out _; (with_reducible repeat (first | refine blk_drewN ?_ _ | refine blk_drew ?_ | refine blk_alloc ?_ _)); refine blk_far ?_ NB111_112.out _; (with_reducible repeat (first | refine blk_drewN ?_ _ | refine blk_drew ?_ | refine blk_alloc ?_ _)); refine blk_far ?_ NB111_112.out _; (with_reducible repeat (first | refine blk_drewN ?_ _ | refine blk_drew ?_ | refine blk_alloc ?_ _)); exact BK111.out⟩
    have n1_ : Aside0 ((((w35.setCell ⟨gb112, 0, none⟩ (.int .i64 a1_0)).setCell ⟨gb112, 1, none⟩ (.int .i64 0)).setCell ⟨gb112, 2, none⟩ (.int .u8 0)).heap[gb112]? = some (.cells #[.int .i64 a1_0, .int .i64 0, .int .u8 0] 42 (0, 0))) := ⟨by (with_reducible repeat (first | refine blk_drewN ?_ _ | refine blk_drew ?_ | refine blk_alloc ?_ _)); refine blk_put (cs := #[.int .i64 a1_0, .int .i64 0, .int .u8 0]) ?_ 2 _ rfl; (with_reducible repeat (first | refine blk_drewN ?_ _ | refine blk_drew ?_ | refine blk_alloc ?_ _)); refine blk_put (cs := #[.int .i64 a1_0, .int .i64 0, .int .u8 0]) ?_ 1 _ rfl; (with_reducible repeat (first | refine blk_drewN ?_ _ | refine blk_drew ?_ | refine blk_alloc ?_ _)); refine blk_put (cs := #[.int .i64 0, .int .i64 0, .int .u8 0]) ?_ 0 _ rfl; (with_reducible repeat (first | refine blk_drewN ?_ _ | refine blk_drew ?_ | refine blk_alloc ?_ _)); exact BK112.out⟩
    have n2_ : Aside0 (Below w.heap.size w (((w35.setCell ⟨gb112, 0, none⟩ (.int .i64 a1_0)).setCell ⟨gb112, 1, none⟩ (.int .i64 0)).setCell ⟨gb112, 2, none⟩ (.int .u8 0))) := ⟨by repeat (first | (with_reducible first | exact HB.out | apply below_alloc | apply pw_below_drewN | apply below_drew1 | refine below_set ?_ GE111.out | refine below_set ?_ GE112.out) | exact HB.out)⟩
    (try clear BK111)
    (try clear BK112)
    (try clear HB)
    generalize (((w35.setCell ⟨gb112, 0, none⟩ (.int .i64 a1_0)).setCell ⟨gb112, 1, none⟩ (.int .i64 0)).setCell ⟨gb112, 2, none⟩ (.int .u8 0)) = w38 at n0_ n1_ n2_ ⊢
    have BK111 := n0_
    have BK112 := n1_
    have HB := n2_
    clear n0_ n1_ n2_
    have n0_ := Aside0.mk (blk_drew BK111.out)
    have n1_ := Aside0.mk (blk_drew BK112.out)
    have n2_ := Aside0.mk (below_drew1 HB.out)
    clear BK111
    clear BK112
    clear HB
    have BK111 := n0_
    have BK112 := n1_
    have HB := n2_
    clear n0_ n1_ n2_
    refine start_ (n := 22) (S := fun w' => w'.cell? ⟨gb111, 0, none⟩ = some (.int .i64 a1_0) ∧ w'.cell? ⟨gb111, 1, none⟩ = some (.int .i64 a1_1) ∧ w'.cell? ⟨gb111, 2, none⟩ = some (.int .u8 a1_2)) (ds := []) #[false, false, false, false, false, false, false, false, false, false, false, false, false, false, false, false, false, false, false, false, false, false] (by kernel_rfl) rfl rfl ⟨(blk_cell BK111.out 0).trans rfl, (blk_cell BK111.out 1).trans rfl, (blk_cell BK111.out 2).trans rfl⟩ (fun hHeld => ?_); refine with_tabW lookasidelaw21_StoryRooms.tab2 lookasidelaw21_StoryRooms.bits2 (fun HT_ HW_ => ?_)
    generalize w38.drew = w39 at BK111 BK112 HB hHeld ⊢
    refine pure_ (i := 0) (N := some 9) (v := ?_) (a' := ?_) #[true, false, false, false, false, false, false, false, false, false, false, false, false, false, false, false, false, false, false, false, false, false] rfl rfl (any_of HT_.out (by kernel_rfl)) (fun _ _ _ h => h) (Or.inl ⟨by rfl, ?_⟩) ?_ ?_
    rotate_left
    · intro w'
      go_simp
      with_reducible rfl
    rotate_left
    · simp only [Act.put, List.setIfInBounds_toArray, List.set_cons_zero, List.set_cons_succ, i64_w, i32_w]
      rfl
    refine pure_ (i := 1) (N := some 10) (v := ?_) (a' := ?_) #[true, true, false, false, false, false, false, false, false, false, false, false, false, false, false, false, false, false, false, false, false, false] rfl rfl (any_of HT_.out (by kernel_rfl)) (fun _ _ _ h => h) (Or.inl ⟨by rfl, ?_⟩) ?_ ?_
    rotate_left
    · intro w'
      go_simp
      with_reducible rfl
    rotate_left
    · simp only [Act.put, List.setIfInBounds_toArray, List.set_cons_zero, List.set_cons_succ, i64_w, i32_w]
      rfl
    refine pure_ (i := 4) (N := some 13) (v := ?_) (a' := ?_) #[true, true, false, false, true, false, false, false, false, false, false, false, false, false, false, false, false, false, false, false, false, false] rfl rfl (any_of HT_.out (by kernel_rfl)) (fun _ _ _ h => h) (Or.inl ⟨by rfl, ?_⟩) ?_ ?_
    rotate_left
    · intro w'
      go_simp
      with_reducible rfl
    rotate_left
    · simp only [Act.put, List.setIfInBounds_toArray, List.set_cons_zero, List.set_cons_succ, i64_w, i32_w]
      rfl
    refine take_ (i := 2) (N := some 11) (v := ?_) (a' := ?_) #[true, true, true, false, true, false, false, false, false, false, false, false, false, false, false, false, false, false, false, false, false, false] rfl rfl (take_ofW HT_.out HW_.out (by kernel_rfl)) (fun _ _ _ h => h) (Or.inl ⟨by rfl, ?_⟩) hHeld ?_ ?_
    rotate_left
    · rintro w' ⟨s0, s1, s2⟩
      go_simp
      with_reducible rfl
    rotate_left
    · simp only [Act.put, List.setIfInBounds_toArray, List.set_cons_zero, List.set_cons_succ, i64_w, i32_w]
      rfl
    refine take_ (i := 5) (N := some 14) (v := ?_) (a' := ?_) #[true, true, true, false, true, true, false, false, false, false, false, false, false, false, false, false, false, false, false, false, false, false] rfl rfl (take_ofW HT_.out HW_.out (by kernel_rfl)) (fun _ _ _ h => h) (Or.inl ⟨by rfl, ?_⟩) hHeld ?_ ?_
    rotate_left
    · rintro w' ⟨s0, s1, s2⟩
      go_simp
      with_reducible rfl
    rotate_left
    · simp only [Act.put, List.setIfInBounds_toArray, List.set_cons_zero, List.set_cons_succ, i64_w, i32_w]
      rfl
    refine one_ (i := 3) (N := some 12) #[true, true, true, true, true, true, false, false, false, false, false, false, false, false, false, false, false, false, false, false, false, false] rfl rfl (one_of HT_.out (by kernel_rfl)) (by decide) (fun K hK => ?_)
    refine goes_ Try.func25 (by kernel_rfl) rfl #[.agg #[.int .i64 a0, .int .i64 0, .int .i64 0, .bool false, .int .u64 0, .int .u8 0, .int .u64 0, .int .i64 0, .bool false, .bool false, .bool false, .bool false, .bool false, .bool false, .int .i64 0, .int .u64 0], .agg #[.int .i64 a1_0, .int .i64 a1_1, .int .u8 a1_2]] (by rfl) rfl rfl (by (try simp only [List.map_toArray, List.map_cons, List.map_nil]); first | done | rfl | (simp only [List.length_drop, List.length_take]; rfl)) ?_
    with_reducible refine (story_Room.calls k a0 0 0 false 0 0 0 0 false false false false false false 0 0 a1_0 a1_1 a1_2 t113 _ A3.out).mono ?_
    rintro e w40 ⟨rfl, hb⟩
    refine ⟨_, rfl, ?_⟩
    have n0_ := Aside0.mk (blk_below (g := gb111) (o := .cells #[.int .i64 a1_0, .int .i64 a1_1, .int .u8 a1_2] 42 (0, 0)) (by (with_reducible repeat (first | refine blk_drewN ?_ _ | refine blk_drew ?_ | refine blk_alloc ?_ _)); exact BK111.out) hb)
    have n1_ := Aside0.mk (blk_below (g := gb112) (o := .cells #[.int .i64 a1_0, .int .i64 0, .int .u8 0] 42 (0, 0)) (by (with_reducible repeat (first | refine blk_drewN ?_ _ | refine blk_drew ?_ | refine blk_alloc ?_ _)); exact BK112.out) hb)
    have n2_ := Aside0.mk (below_step (by repeat (first | (with_reducible first | exact HB.out | apply below_alloc | apply pw_below_drewN | apply below_drew1 | refine below_set ?_ GE111.out | refine below_set ?_ GE112.out) | exact HB.out)) hb)
    clear BK111
    clear BK112
    clear HB
    have BK111 := n0_
    have BK112 := n1_
    have HB := n2_
    clear n0_ n1_ n2_
    (try clear hb)
    (try clear hb2)
    (try clear hk)
    (try clear hi)
    refine hK.out _ _ ⟨(blk_cell BK111.out 0).trans rfl, (blk_cell BK111.out 1).trans rfl, (blk_cell BK111.out 2).trans rfl⟩ (fun hHeld => ?_)
    clear hK K
    refine norm_ (a' := ?_) ?_ ?_
    rotate_left
    · show Act.put _ (some 12) _ = _
      simp only [Act.put, List.setIfInBounds_toArray, List.set_cons_zero, List.set_cons_succ, i64_w, i32_w]
      rfl
    refine one_ (i := 6) (N := some 15) #[true, true, true, true, true, true, true, false, false, false, false, false, false, false, false, false, false, false, false, false, false, false] rfl rfl (one_of HT_.out (by kernel_rfl)) (by decide) (fun K hK => ?_)
    refine goes_ Try.func26 (by kernel_rfl) rfl #[.int .i64 a0, .agg #[.int .i64 a1_0, .int .i64 a1_1, .int .u8 a1_2]] (by rfl) rfl rfl (by (try simp only [List.map_toArray, List.map_cons, List.map_nil]); first | done | rfl | (simp only [List.length_drop, List.length_take]; rfl)) ?_
    with_reducible refine (lookasideref18_Free.calls k a0 a1_0 a1_1 a1_2 t114 _ A4.out).mono ?_
    rintro e w41 ⟨rfl, hb⟩
    refine ⟨_, rfl, ?_⟩
    have n0_ := Aside0.mk (blk_below (g := gb111) (o := .cells #[.int .i64 a1_0, .int .i64 a1_1, .int .u8 a1_2] 42 (0, 0)) (by (with_reducible repeat (first | refine blk_drewN ?_ _ | refine blk_drew ?_ | refine blk_alloc ?_ _)); exact BK111.out) hb)
    have n1_ := Aside0.mk (blk_below (g := gb112) (o := .cells #[.int .i64 a1_0, .int .i64 0, .int .u8 0] 42 (0, 0)) (by (with_reducible repeat (first | refine blk_drewN ?_ _ | refine blk_drew ?_ | refine blk_alloc ?_ _)); exact BK112.out) hb)
    have n2_ := Aside0.mk (below_step (by repeat (first | (with_reducible first | exact HB.out | apply below_alloc | apply pw_below_drewN | apply below_drew1 | refine below_set ?_ GE111.out | refine below_set ?_ GE112.out) | exact HB.out)) hb)
    clear BK111
    clear BK112
    clear HB
    have BK111 := n0_
    have BK112 := n1_
    have HB := n2_
    clear n0_ n1_ n2_
    (try clear hb)
    (try clear hb2)
    (try clear hk)
    (try clear hi)
    refine hK.out _ _ ⟨(blk_cell BK111.out 0).trans rfl, (blk_cell BK111.out 1).trans rfl, (blk_cell BK111.out 2).trans rfl⟩ (fun hHeld => ?_)
    clear hK K
    refine norm_ (a' := ?_) ?_ ?_
    rotate_left
    · show Act.put _ (some 15) _ = _
      simp only [Act.put, List.setIfInBounds_toArray, List.set_cons_zero, List.set_cons_succ, i64_w, i32_w]
      rfl
    refine pure_ (i := 7) (N := some 16) (v := ?_) (a' := ?_) #[true, true, true, true, true, true, true, true, false, false, false, false, false, false, false, false, false, false, false, false, false, false] rfl rfl (any_of HT_.out (by kernel_rfl)) (fun _ _ _ h => h) (Or.inl ⟨by rfl, ?_⟩) ?_ ?_
    rotate_left
    · intro w'
      go_simp
      with_reducible rfl
    rotate_left
    · simp only [Act.put, List.setIfInBounds_toArray, List.set_cons_zero, List.set_cons_succ, i64_w, i32_w]
      rfl
    refine pure_ (i := 8) (N := some 17) (v := ?_) (a' := ?_) #[true, true, true, true, true, true, true, true, true, false, false, false, false, false, false, false, false, false, false, false, false, false] rfl rfl (any_of HT_.out (by kernel_rfl)) (fun _ _ _ h => h) (Or.inl ⟨by rfl, ?_⟩) ?_ ?_
    rotate_left
    · intro w'
      go_simp
      with_reducible rfl
    rotate_left
    · simp only [Act.put, List.setIfInBounds_toArray, List.set_cons_zero, List.set_cons_succ, i64_w, i32_w]
      rfl
    refine pure_ (i := 9) (N := some 18) (v := undef) (a' := ?_) #[true, true, true, true, true, true, true, true, true, true, false, false, false, false, false, false, false, false, false, false, false, false] rfl rfl (any_of HT_.out (by kernel_rfl)) (fun _ _ _ h => h) (Or.inr ⟨by rfl, rfl⟩) ?_ ?_
    rotate_left
    · simp only [Act.put, List.setIfInBounds_toArray, List.set_cons_zero, List.set_cons_succ, i64_w, i32_w]
      rfl
    refine pure_ (i := 10) (N := some 19) (v := undef) (a' := ?_) #[true, true, true, true, true, true, true, true, true, true, true, false, false, false, false, false, false, false, false, false, false, false] rfl rfl (any_of HT_.out (by kernel_rfl)) (fun _ _ _ h => h) (Or.inr ⟨by rfl, rfl⟩) ?_ ?_
    rotate_left
    · simp only [Act.put, List.setIfInBounds_toArray, List.set_cons_zero, List.set_cons_succ, i64_w, i32_w]
      rfl
    refine pure_ (i := 11) (N := some 20) (v := undef) (a' := ?_) #[true, true, true, true, true, true, true, true, true, true, true, true, false, false, false, false, false, false, false, false, false, false] rfl rfl (any_of HT_.out (by kernel_rfl)) (fun _ _ _ h => h) (Or.inr ⟨by rfl, rfl⟩) ?_ ?_
    rotate_left
    · simp only [Act.put, List.setIfInBounds_toArray, List.set_cons_zero, List.set_cons_succ, i64_w, i32_w]
      rfl
    refine pure_ (i := 12) (N := some 21) (v := undef) (a' := ?_) #[true, true, true, true, true, true, true, true, true, true, true, true, true, false, false, false, false, false, false, false, false, false] rfl rfl (any_of HT_.out (by kernel_rfl)) (fun _ _ _ h => h) (Or.inr ⟨by rfl, rfl⟩) ?_ ?_
    rotate_left
    · simp only [Act.put, List.setIfInBounds_toArray, List.set_cons_zero, List.set_cons_succ, i64_w, i32_w]
      rfl
    refine pure_ (i := 13) (N := some 22) (v := undef) (a' := ?_) #[true, true, true, true, true, true, true, true, true, true, true, true, true, true, false, false, false, false, false, false, false, false] rfl rfl (any_of HT_.out (by kernel_rfl)) (fun _ _ _ h => h) (Or.inr ⟨by rfl, rfl⟩) ?_ ?_
    rotate_left
    · simp only [Act.put, List.setIfInBounds_toArray, List.set_cons_zero, List.set_cons_succ, i64_w, i32_w]
      rfl
    refine pure_ (i := 14) (N := some 23) (v := undef) (a' := ?_) #[true, true, true, true, true, true, true, true, true, true, true, true, true, true, true, false, false, false, false, false, false, false] rfl rfl (any_of HT_.out (by kernel_rfl)) (fun _ _ _ h => h) (Or.inr ⟨by rfl, rfl⟩) ?_ ?_
    rotate_left
    · simp only [Act.put, List.setIfInBounds_toArray, List.set_cons_zero, List.set_cons_succ, i64_w, i32_w]
      rfl
    refine pure_ (i := 15) (N := some 24) (v := undef) (a' := ?_) #[true, true, true, true, true, true, true, true, true, true, true, true, true, true, true, true, false, false, false, false, false, false] rfl rfl (any_of HT_.out (by kernel_rfl)) (fun _ _ _ h => h) (Or.inr ⟨by rfl, rfl⟩) ?_ ?_
    rotate_left
    · simp only [Act.put, List.setIfInBounds_toArray, List.set_cons_zero, List.set_cons_succ, i64_w, i32_w]
      rfl
    refine pure_ (i := 16) (N := some 25) (v := undef) (a' := ?_) #[true, true, true, true, true, true, true, true, true, true, true, true, true, true, true, true, true, false, false, false, false, false] rfl rfl (any_of HT_.out (by kernel_rfl)) (fun _ _ _ h => h) (Or.inr ⟨by rfl, rfl⟩) ?_ ?_
    rotate_left
    · simp only [Act.put, List.setIfInBounds_toArray, List.set_cons_zero, List.set_cons_succ, i64_w, i32_w]
      rfl
    refine pure_ (i := 17) (N := some 26) (v := ?_) (a' := ?_) #[true, true, true, true, true, true, true, true, true, true, true, true, true, true, true, true, true, true, false, false, false, false] rfl rfl (any_of HT_.out (by kernel_rfl)) (fun _ _ _ h => h) (Or.inl ⟨by rfl, ?_⟩) ?_ ?_
    rotate_left
    · intro w'
      go_simp
      with_reducible rfl
    rotate_left
    · simp only [Act.put, List.setIfInBounds_toArray, List.set_cons_zero, List.set_cons_succ, i64_w, i32_w]
      rfl
    refine pure_ (i := 18) (N := some 27) (v := ?_) (a' := ?_) #[true, true, true, true, true, true, true, true, true, true, true, true, true, true, true, true, true, true, true, false, false, false] rfl rfl (any_of HT_.out (by kernel_rfl)) (fun _ _ _ h => h) (Or.inl ⟨by rfl, ?_⟩) ?_ ?_
    rotate_left
    · intro w'
      go_simp
      with_reducible rfl
    rotate_left
    · simp only [Act.put, List.setIfInBounds_toArray, List.set_cons_zero, List.set_cons_succ, i64_w, i32_w]
      rfl
    refine pure_ (i := 19) (N := some 28) (v := undef) (a' := ?_) #[true, true, true, true, true, true, true, true, true, true, true, true, true, true, true, true, true, true, true, true, false, false] rfl rfl (any_of HT_.out (by kernel_rfl)) (fun _ _ _ h => h) (Or.inr ⟨by rfl, rfl⟩) ?_ ?_
    rotate_left
    · simp only [Act.put, List.setIfInBounds_toArray, List.set_cons_zero, List.set_cons_succ, i64_w, i32_w]
      rfl
    refine pure_ (i := 20) (N := some 29) (v := ?_) (a' := ?_) #[true, true, true, true, true, true, true, true, true, true, true, true, true, true, true, true, true, true, true, true, true, false] rfl rfl (any_of HT_.out (by kernel_rfl)) (fun _ _ _ h => h) (Or.inl ⟨by rfl, ?_⟩) ?_ ?_
    rotate_left
    · intro w'
      go_simp
      with_reducible rfl
    rotate_left
    · simp only [Act.put, List.setIfInBounds_toArray, List.set_cons_zero, List.set_cons_succ, i64_w, i32_w]
      rfl
    refine pure_ (i := 21) (N := some 4) (v := ?_) (a' := ?_) #[true, true, true, true, true, true, true, true, true, true, true, true, true, true, true, true, true, true, true, true, true, true] rfl rfl (any_of HT_.out (by kernel_rfl)) (fun _ _ _ h => h) (Or.inl ⟨by rfl, ?_⟩) ?_ ?_
    rotate_left
    · intro w'
      go_simp
      with_reducible rfl
    rotate_left
    · simp only [Act.put, List.setIfInBounds_toArray, List.set_cons_zero, List.set_cons_succ, i64_w, i32_w]
      rfl
    refine done_ (done_of HT_.out (by kernel_rfl)) ?_
    try go_wp2
    go_ret
    exact ⟨by first | rfl | (simp [errW_none, errW_some] <;> rfl) | (simp [*, errW_none, errW_some] <;> rfl), by repeat (first | (with_reducible first | exact HB.out | apply below_alloc | apply pw_below_drewN | apply below_drew1 | refine below_set ?_ GE111.out | refine below_set ?_ GE112.out) | exact HB.out)⟩

end Go.Proofs.Ytalmemcidbmdgaa.PT

/- A story (layer 21): the law StoryRooms, plain. -/
set_option linter.unusedVariables false
set_option linter.unusedSimpArgs false
namespace Go.Proofs.Ytalmemcidbmdgaa.PT
open Go.RowKit
theorem room_free (kind e f b : Int) : ∃ x, story_Room.f 1 kind 0 0 false 0 0 0 0 false false false false false false 0 0 e f b = some x ∧ lookasideref18_Free.f 1 kind e f b = some x := by
  unfold story_Room.f lookasideref18_Free.f
  by_cases hf : f = 0
  · by_cases hb : b = 0
    · subst hf hb
      have he : e = 6 ∨ e = 7 ∨ e = 8 ∨ (e ≠ 6 ∧ e ≠ 7 ∧ e ≠ 8) := by omega
      have hk : kind = 0 ∨ kind = 1 ∨ kind = 5 ∨ kind = 6 ∨ (kind ≠ 0 ∧ kind ≠ 1 ∧ kind ≠ 5 ∧ kind ≠ 6) := by omega
      rcases he with rfl | rfl | rfl | ⟨e6, e7, e8⟩ <;> rcases hk with rfl | rfl | rfl | rfl | ⟨k0, k1, k5, k6⟩
      all_goals
        first
        | exact ⟨_, rfl, rfl⟩
        | (refine ⟨false, ?_, ?_⟩ <;> simp [story_Room.j0, lookasideref18_Free.j0, model_Frees.f, *] <;> done)
        | (refine ⟨true, ?_, ?_⟩ <;> simp [story_Room.j0, lookasideref18_Free.j0, model_Frees.f, *] <;> done)
    · subst hf
      refine ⟨false, ?_, ?_⟩ <;> simp [story_Room.j0, lookasideref18_Free.j0, hb]
  · refine ⟨false, ?_, ?_⟩ <;> simp [story_Room.j0, lookasideref18_Free.j0, hf]
theorem rooms_pure (kind e f b : Int) : lookasidelaw21_StoryRooms.f 1 kind e f b = some true := by
  obtain ⟨x, h1, h2⟩ := room_free kind e f b
  obtain ⟨y, h3, h4⟩ := room_free kind e 0 0
  unfold lookasidelaw21_StoryRooms.f
  rw [h1, h2, h3, h4]
  simp [lookasidelaw21_lives.f]
end Go.Proofs.Ytalmemcidbmdgaa.PT

/- Parameters of laws, opened: a reply, an array of two numbers. -/
set_option linter.unusedVariables false
namespace Go.Proofs.Ytalmemcidbmdgaa.Args4
open Go.WideMaps Go.Joins Go.ChangeShapes Go.WideShapes Go.Deep
theorem cells42 : Try.prog.cellsOf 42 = 3 := by kernel_rfl
theorem cells3 : Try.prog.cellsOf 3 = 1 := by kernel_rfl
section
variable {H : Type} {enc : TypeId × Value → H} {W : World}
theorem wf64 {n : Int} (h : (Lit.int .i64 n).wf = true) : -2 ^ 63 ≤ n ∧ n < 2 ^ 63 := by
  have := bounds_i64 h
  omega
theorem wf8 {n : Int} (h : (Lit.int .u8 n).wf = true) : 0 ≤ n ∧ n < 256 := by
  have := bounds_u8 h
  omega
set_option maxRecDepth 100000 in
theorem open_reply {v : Value} {d : DataW H} {p : List MemPlace} (hval : Value.okWide Try.prog W .any 0 42 v) (h : DataW.Trod enc Try.prog W 0 (fun _ => true) true 42 v d p) :
    ∃ e f b : Int, v = .agg #[.int .i64 e, .int .i64 f, .int .u8 b] ∧ (-2 ^ 63 ≤ e ∧ e < 2 ^ 63) ∧ (-2 ^ 63 ≤ f ∧ f < 2 ^ 63) ∧ 0 ≤ b ∧ b < 256 := by
  obtain ⟨v0, v1, v2, y0, y1, y2, n, rfl, _, _, h0, h1, h2⟩ := open_agg3 Try.underlying42 (by kernel_rfl) cells42 hval h
  obtain ⟨a, e0, _, w0⟩ := DataW.trod_int Try.underlying40 h0
  obtain ⟨b, e1, _, w1⟩ := DataW.trod_int Try.underlying3 h1
  obtain ⟨c, e2, _, w2⟩ := DataW.trod_int Try.underlying5 h2
  simp at e0 e1 e2
  subst e0 e1 e2
  exact ⟨_, _, _, rfl, wf64 w0, wf64 w1, wf8 w2⟩
end
end Go.Proofs.Ytalmemcidbmdgaa.Args4

namespace Go.Proofs.Ytalmemcidbmdgaa.storyRooms
open Go.ChangeShapes Go.WideShapes Go.ChangeAt Go.RowKit
set_option linter.unusedVariables false
theorem own : ownKnob Try.prog.godebug = none := by kernel_rfl
theorem laid : laidOutB Try.prog = true := by kernel_rfl
theorem rec3 : Try.prog.readableRec 3 = true := by kernel_rfl
theorem lt3 : 3 < Try.prog.types.size := of_decide_eq_true (by kernel_rfl)
theorem rec42 : Try.prog.readableRec 42 = true := by kernel_rfl
theorem lt42 : 42 < Try.prog.types.size := of_decide_eq_true (by kernel_rfl)
set_option maxRecDepth 100000 in
theorem lifted (os : Os) (started : os.Started) (H : Type) (enc : TypeId × Value → H) :
    ReturnsInHanded {} Try.checked os 8 .any (Rows.storyRoomsSpec.pre6 enc Try.prog Try.f8 Rows.storyRoomsRow.domain false) (Rows.storyRoomsSpec.post enc Try.prog Try.f8 false true false false) := by
  refine returnsInHanded_of_change_sized (C := Try.checked) own started (by kernel_rfl) Try.func8
    (ChangeSpec.witness6 (enc := enc) (C := Try.checked) false ⟨#[], #[.int .i64 0, .agg #[.int .i64 0, .int .i64 0, .int .u8 0]], []⟩ 8 (by kernel_rfl) (by kernel_rfl) (by kernel_rfl) (by kernel_rfl)) ?_
  intro W base args ds gs before hval0 hW hcnd hsz0 _
  have hval : ∀ (j : Nat) t v, Try.f8.params[j]? = some t → args[j]? = some v → Value.okWide Try.prog W .any base t v := hval0
  have hW' := hW
  obtain ⟨p, q, hA0, hV, rfl, hfz, hnd⟩ := hW
  have hA : DataW.TrodAll enc Try.prog W 0 (fun _ => true) true Try.f8.params.toList args.toList ds p := hA0
  rw [Try.params8] at hA hval
  obtain ⟨v0, vs0, d0, ds0, p0, q0, hargs, rfl, rfl, h0, r0⟩ := trodAll_cons hA
  obtain ⟨v1, vs1, d1, ds1, p1, q1, rfl, rfl, rfl, h1, r1⟩ := trodAll_cons r0
  obtain ⟨rfl, rfl, rfl⟩ := trodAll_nil r1
  obtain rfl : args = #[v0, v1] := by cases args; simp_all
  obtain ⟨rfl, rfl⟩ := trodVars_none hV
  have hlt0 : ∀ x ∈ p0, x.block < W.heap.size := fun x hx => by
    obtain ⟨fuel, hf⟩ := h0
    exact DataW.trod_lt fuel _ _ _ hf x hx
  have hlt1 : ∀ x ∈ p1, x.block < W.heap.size := fun x hx => by
    obtain ⟨fuel, hf⟩ := h1
    exact DataW.trod_lt fuel _ _ _ hf x hx
  obtain ⟨n, rfl, hn⟩ : ∃ a, v0 = .int .i64 a ∧ (Lit.int .i64 a).wf = true := (open_int Try.underlying3 (hval 0 3 v0 rfl rfl) h0).elim fun a h => ⟨a, h.1, h.2.2.2⟩
  obtain ⟨e, f, b, rfl, he, hf, hb⟩ := Args4.open_reply (hval 1 42 v1 rfl rfl) h1
  clear hA0 hval0 hsz0
  refine ((PT.lookasidelaw21_StoryRooms.calls 1 n e f b true W (PT.rooms_pure n e f b))).mono fun e W' ⟨he, bel⟩ => ?_
  subst he
  exact ⟨_, rfl, _, _, _, [], _, [], hW', trodAll_mk1 (shut_bool Try.underlying4 _), (trodAll_cons_mk (Below.trod laid rec3 lt3 h0 bel hlt0) (trodAll_cons_mk (Below.trod laid rec42 lt42 h1 bel hlt1) trodAll_mk0)), rfl, bel.frame _, fun h => by cases h⟩
theorem over : Rows.storyRoomsRow.holds Try.pinned (OpenSpec.ofChange Rows.storyRoomsSpec) :=
  OpenClaim.holds_of_wide 8 Try.f8 rfl rfl rfl rfl rfl rfl rfl ⟨rfl, rfl, rfl, rfl, rfl⟩ rfl rfl rfl rfl rfl (by kernel_rfl) Try.func8 (by kernel_rfl)
    (of_decide_eq_true (by kernel_rfl)) (by unfold Func.isWrapper; first | (rw [if_pos (by decide +kernel)]; kernel_rfl) | (rw [if_neg (by decide +kernel)]; exact ⟨rfl, rfl⟩))
    (fun os started H enc _ => lifted os started H enc)
theorem proved : Rows.StoryRoomsSaid := over
#print axioms proved
end Go.Proofs.Ytalmemcidbmdgaa.storyRooms
namespace Go.Proofs.Ytalmemcidbmdgaa
/-- The row, under a short name, for the claim. -/
theorem storyRooms_holds : Rows.StoryRoomsSaid := storyRooms.proved
end Go.Proofs.Ytalmemcidbmdgaa


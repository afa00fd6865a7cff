import Derived.Test.YtalmemcidbmdgaaZMk2
import Derived.Shelf.SlSortCmp.WholeK
import Derived.OwnWalk
/- Whole structs stored in a block. -/
set_option linter.unusedVariables false
set_option linter.unusedSimpArgs false
namespace Go.Proofs.Ytalmemcidbmdgaa.PM
open Go.RowKit Go.Proofs.YtalmemcidbmdgaaW.PrintWords Go.Proofs.YtalmemcidbmdgaaW.PrintLast Go.Proofs.YtalmemcidbmdgaaW.PrintMore Go.Proofs.Ytalmemcidbmdgaa.PageG
attribute [local go_sem] max2_int min2_int max_two min_two max_three min_three max_four min_four   -- for this text's walks alone
open Go.ChangeMaps (setBlock)
theorem setCell_block {W : World} {g i : Nat} {cs cs' : Array Value} {t : TypeId} (h : W.heap[g]? = some (.cells cs t (0, 0))) (v : Value) (e : cs.setIfInBounds i v = cs') : W.setCell ⟨g, i, none⟩ v = setBlock W g (.cells cs' t (0, 0)) := by
  subst e
  have hlt := blk_lt h
  have hg : W.heap[g] = .cells cs t (0, 0) := by
    have := Array.getElem?_eq_getElem hlt
    rw [this] at h
    exact Option.some.inj h
  unfold World.setCell setBlock
  have e : (W.heap.modify g fun
      | .cells c elem frozen => .cells (if (none : Option Nat).isSome then c else c.setIfInBounds i v) elem frozen
      | o => o) = W.heap.setIfInBounds g (.cells (cs.setIfInBounds i v) t (0, 0)) := by
    apply Array.ext
    · simp
    · intro j h1 h2
      have h3 : j < W.heap.size := by simpa using h2
      rw [Array.getElem_modify, Array.getElem_setIfInBounds h3]
      by_cases hj : g = j
      · subst hj
        simp [hg]
      · simp [hj]
  exact congrArg (fun hp => { W with heap := hp }) e
theorem sb_sb (W : World) (g : Nat) (o o' : Obj) : setBlock (setBlock W g o) g o' = setBlock W g o' := by simp [setBlock]
theorem sb_same {W : World} {g : Nat} {o : Obj} (h : W.heap[g]? = some o) (o' : Obj) : (setBlock W g o').heap[g]? = some o' := by
  have hlt := blk_lt h
  simp [setBlock, Array.getElem?_setIfInBounds, hlt]
theorem sb_put {W : World} {g i : Nat} {cs cs' : Array Value} {t : TypeId} {o : Obj} (h : W.heap[g]? = some o) (v : Value) (e : cs.setIfInBounds i v = cs') : (setBlock W g (.cells cs t (0, 0))).setCell ⟨g, i, none⟩ v = setBlock W g (.cells cs' t (0, 0)) := by
  rw [setCell_block (sb_same h _) v e, sb_sb]
theorem set3 {W : World} {g : Nat} {a0 a1 a2 : Value} {t : TypeId} (h : W.heap[g]? = some (.cells #[a0, a1, a2] t (0, 0))) (b0 b1 b2 : Value) :
    ((W.setCell ⟨g, 0, none⟩ b0).setCell ⟨g, 1, none⟩ b1).setCell ⟨g, 2, none⟩ b2 = setBlock W g (.cells #[b0, b1, b2] t (0, 0)) := by
  have s0 := setCell_block (t := t) (i := 0) (cs := #[a0, a1, a2]) (cs' := #[b0, a1, a2]) h b0 rfl
  have s1 := sb_put (t := t) (i := 1) (cs := #[b0, a1, a2]) (cs' := #[b0, b1, a2]) h b1 rfl
  have s2 := sb_put (t := t) (i := 2) (cs := #[b0, b1, a2]) (cs' := #[b0, b1, b2]) h b2 rfl
  rw [s0, s1, s2]
theorem set11 {W : World} {g : Nat} {a0 a1 a2 a3 a4 a5 a6 a7 a8 a9 a10 : Value} {t : TypeId} (h : W.heap[g]? = some (.cells #[a0, a1, a2, a3, a4, a5, a6, a7, a8, a9, a10] t (0, 0))) (b0 b1 b2 b3 b4 b5 b6 b7 b8 b9 b10 : Value) :
    ((((((((((W.setCell ⟨g, 0, none⟩ b0).setCell ⟨g, 1, none⟩ b1).setCell ⟨g, 2, none⟩ b2).setCell ⟨g, 3, none⟩ b3).setCell ⟨g, 4, none⟩ b4).setCell ⟨g, 5, none⟩ b5).setCell ⟨g, 6, none⟩ b6).setCell ⟨g, 7, none⟩ b7).setCell ⟨g, 8, none⟩ b8).setCell ⟨g, 9, none⟩ b9).setCell ⟨g, 10, none⟩ b10 = setBlock W g (.cells #[b0, b1, b2, b3, b4, b5, b6, b7, b8, b9, b10] t (0, 0)) := by
  have s0 := setCell_block (t := t) (i := 0) (cs := #[a0, a1, a2, a3, a4, a5, a6, a7, a8, a9, a10]) (cs' := #[b0, a1, a2, a3, a4, a5, a6, a7, a8, a9, a10]) h b0 rfl
  have s1 := sb_put (t := t) (i := 1) (cs := #[b0, a1, a2, a3, a4, a5, a6, a7, a8, a9, a10]) (cs' := #[b0, b1, a2, a3, a4, a5, a6, a7, a8, a9, a10]) h b1 rfl
  have s2 := sb_put (t := t) (i := 2) (cs := #[b0, b1, a2, a3, a4, a5, a6, a7, a8, a9, a10]) (cs' := #[b0, b1, b2, a3, a4, a5, a6, a7, a8, a9, a10]) h b2 rfl
  have s3 := sb_put (t := t) (i := 3) (cs := #[b0, b1, b2, a3, a4, a5, a6, a7, a8, a9, a10]) (cs' := #[b0, b1, b2, b3, a4, a5, a6, a7, a8, a9, a10]) h b3 rfl
  have s4 := sb_put (t := t) (i := 4) (cs := #[b0, b1, b2, b3, a4, a5, a6, a7, a8, a9, a10]) (cs' := #[b0, b1, b2, b3, b4, a5, a6, a7, a8, a9, a10]) h b4 rfl
  have s5 := sb_put (t := t) (i := 5) (cs := #[b0, b1, b2, b3, b4, a5, a6, a7, a8, a9, a10]) (cs' := #[b0, b1, b2, b3, b4, b5, a6, a7, a8, a9, a10]) h b5 rfl
  have s6 := sb_put (t := t) (i := 6) (cs := #[b0, b1, b2, b3, b4, b5, a6, a7, a8, a9, a10]) (cs' := #[b0, b1, b2, b3, b4, b5, b6, a7, a8, a9, a10]) h b6 rfl
  have s7 := sb_put (t := t) (i := 7) (cs := #[b0, b1, b2, b3, b4, b5, b6, a7, a8, a9, a10]) (cs' := #[b0, b1, b2, b3, b4, b5, b6, b7, a8, a9, a10]) h b7 rfl
  have s8 := sb_put (t := t) (i := 8) (cs := #[b0, b1, b2, b3, b4, b5, b6, b7, a8, a9, a10]) (cs' := #[b0, b1, b2, b3, b4, b5, b6, b7, b8, a9, a10]) h b8 rfl
  have s9 := sb_put (t := t) (i := 9) (cs := #[b0, b1, b2, b3, b4, b5, b6, b7, b8, a9, a10]) (cs' := #[b0, b1, b2, b3, b4, b5, b6, b7, b8, b9, a10]) h b9 rfl
  have s10 := sb_put (t := t) (i := 10) (cs := #[b0, b1, b2, b3, b4, b5, b6, b7, b8, b9, a10]) (cs' := #[b0, b1, b2, b3, b4, b5, b6, b7, b8, b9, b10]) h b10 rfl
  rw [s0, s1, s2, s3, s4, s5, s6, s7, s8, s9, s10]
theorem cells3 {W : World} {g : Nat} {a0 a1 a2 : Value} {t : TypeId} (h : W.heap[g]? = some (.cells #[a0, a1, a2] t (0, 0))) : W.cell? ⟨g, 0, none⟩ = some a0 ∧ W.cell? ⟨g, 1, none⟩ = some a1 ∧ W.cell? ⟨g, 2, none⟩ = some a2 :=
  ⟨(blk_cell h 0).trans rfl, (blk_cell h 1).trans rfl, (blk_cell h 2).trans rfl⟩
theorem cells4 {W : World} {g : Nat} {a0 a1 a2 a3 : Value} {t : TypeId} (h : W.heap[g]? = some (.cells #[a0, a1, a2, a3] t (0, 0))) : W.cell? ⟨g, 0, none⟩ = some a0 ∧ W.cell? ⟨g, 1, none⟩ = some a1 ∧ W.cell? ⟨g, 2, none⟩ = some a2 ∧ W.cell? ⟨g, 3, none⟩ = some a3 :=
  ⟨(blk_cell h 0).trans rfl, (blk_cell h 1).trans rfl, (blk_cell h 2).trans rfl, (blk_cell h 3).trans rfl⟩
theorem cells11 {W : World} {g : Nat} {a0 a1 a2 a3 a4 a5 a6 a7 a8 a9 a10 : Value} {t : TypeId} (h : W.heap[g]? = some (.cells #[a0, a1, a2, a3, a4, a5, a6, a7, a8, a9, a10] t (0, 0))) : W.cell? ⟨g, 0, none⟩ = some a0 ∧ W.cell? ⟨g, 1, none⟩ = some a1 ∧ W.cell? ⟨g, 2, none⟩ = some a2 ∧ W.cell? ⟨g, 3, none⟩ = some a3 ∧ W.cell? ⟨g, 4, none⟩ = some a4 ∧ W.cell? ⟨g, 5, none⟩ = some a5 ∧ W.cell? ⟨g, 6, none⟩ = some a6 ∧ W.cell? ⟨g, 7, none⟩ = some a7 ∧ W.cell? ⟨g, 8, none⟩ = some a8 ∧ W.cell? ⟨g, 9, none⟩ = some a9 ∧ W.cell? ⟨g, 10, none⟩ = some a10 :=
  ⟨(blk_cell h 0).trans rfl, (blk_cell h 1).trans rfl, (blk_cell h 2).trans rfl, (blk_cell h 3).trans rfl, (blk_cell h 4).trans rfl, (blk_cell h 5).trans rfl, (blk_cell h 6).trans rfl, (blk_cell h 7).trans rfl, (blk_cell h 8).trans rfl, (blk_cell h 9).trans rfl, (blk_cell h 10).trans rfl⟩
theorem cells16 {W : World} {g : Nat} {a0 a1 a2 a3 a4 a5 a6 a7 a8 a9 a10 a11 a12 a13 a14 a15 : Value} {t : TypeId} (h : W.heap[g]? = some (.cells #[a0, a1, a2, a3, a4, a5, a6, a7, a8, a9, a10, a11, a12, a13, a14, a15] t (0, 0))) : W.cell? ⟨g, 0, none⟩ = some a0 ∧ W.cell? ⟨g, 1, none⟩ = some a1 ∧ W.cell? ⟨g, 2, none⟩ = some a2 ∧ W.cell? ⟨g, 3, none⟩ = some a3 ∧ W.cell? ⟨g, 4, none⟩ = some a4 ∧ W.cell? ⟨g, 5, none⟩ = some a5 ∧ W.cell? ⟨g, 6, none⟩ = some a6 ∧ W.cell? ⟨g, 7, none⟩ = some a7 ∧ W.cell? ⟨g, 8, none⟩ = some a8 ∧ W.cell? ⟨g, 9, none⟩ = some a9 ∧ W.cell? ⟨g, 10, none⟩ = some a10 ∧ W.cell? ⟨g, 11, none⟩ = some a11 ∧ W.cell? ⟨g, 12, none⟩ = some a12 ∧ W.cell? ⟨g, 13, none⟩ = some a13 ∧ W.cell? ⟨g, 14, none⟩ = some a14 ∧ W.cell? ⟨g, 15, none⟩ = some a15 :=
  ⟨(blk_cell h 0).trans rfl, (blk_cell h 1).trans rfl, (blk_cell h 2).trans rfl, (blk_cell h 3).trans rfl, (blk_cell h 4).trans rfl, (blk_cell h 5).trans rfl, (blk_cell h 6).trans rfl, (blk_cell h 7).trans rfl, (blk_cell h 8).trans rfl, (blk_cell h 9).trans rfl, (blk_cell h 10).trans rfl, (blk_cell h 11).trans rfl, (blk_cell h 12).trans rfl, (blk_cell h 13).trans rfl, (blk_cell h 14).trans rfl, (blk_cell h 15).trans rfl⟩
set_option maxHeartbeats 4000000 in
set_option maxRecDepth 100000 in
theorem run_store_page {W : World} {ev : Operand → Value} {o : Oper} {p v : Operand} {g : Nat} {a0 a1 a2 a3 a4 a5 a6 a7 a8 a9 a10 : Value} {b0 b1 b2 : Int} {b3 b4 b5 b6 b7 b8 b9 b10 : Bool} {tt : TypeId} (ho : o.op = .store 50 p v) (hp : ev p = .pointer (some ⟨g, 0, none⟩)) (hv : ev v = .agg #[.int .u64 b0, .int .i64 b1, .int .u64 b2, .bool b3, .bool b4, .bool b5, .bool b6, .bool b7, .bool b8, .bool b9, .bool b10])
    (h : W.heap[g]? = some (.cells #[a0, a1, a2, a3, a4, a5, a6, a7, a8, a9, a10] tt (0, 0))) : (execOp ev o).run Try.prog W = .ok .skip (setBlock W g (.cells #[.int .u64 b0, .int .i64 b1, .int .u64 b2, .bool b3, .bool b4, .bool b5, .bool b6, .bool b7, .bool b8, .bool b9, .bool b10] tt (0, 0))) := by
  obtain ⟨c0, c1, c2, c3, c4, c5, c6, c7, c8, c9, c10⟩ := cells11 h
  have hf := blk_frozen h
  rw [← set11 h]
  clear h
  go_simp
set_option maxHeartbeats 4000000 in
set_option maxRecDepth 100000 in
theorem run_store_key {W : World} {ev : Operand → Value} {o : Oper} {p v : Operand} {g : Nat} {a0 a1 a2 : Value} {b0 b1 b2 : Int} {tt : TypeId} (ho : o.op = .store 84 p v) (hp : ev p = .pointer (some ⟨g, 0, none⟩)) (hv : ev v = .agg #[.int .i64 b0, .int .u64 b1, .int .i64 b2])
    (h : W.heap[g]? = some (.cells #[a0, a1, a2] tt (0, 0))) : (execOp ev o).run Try.prog W = .ok .skip (setBlock W g (.cells #[.int .i64 b0, .int .u64 b1, .int .i64 b2] tt (0, 0))) := by
  obtain ⟨c0, c1, c2⟩ := cells3 h
  have hf := blk_frozen h
  rw [← set3 h]
  clear h
  go_simp
set_option maxHeartbeats 4000000 in
set_option maxRecDepth 100000 in
theorem run_store_reply {W : World} {ev : Operand → Value} {o : Oper} {p v : Operand} {g : Nat} {a0 a1 a2 : Value} {b0 b1 b2 : Int} {tt : TypeId} (ho : o.op = .store 42 p v) (hp : ev p = .pointer (some ⟨g, 0, none⟩)) (hv : ev v = .agg #[.int .i64 b0, .int .i64 b1, .int .u8 b2])
    (h : W.heap[g]? = some (.cells #[a0, a1, a2] tt (0, 0))) : (execOp ev o).run Try.prog W = .ok .skip (setBlock W g (.cells #[.int .i64 b0, .int .i64 b1, .int .u8 b2] tt (0, 0))) := by
  obtain ⟨c0, c1, c2⟩ := cells3 h
  have hf := blk_frozen h
  rw [← set3 h]
  clear h
  go_simp
theorem below_sb {w0 W : World} {B g : Nat} (h : Below B w0 W) (hg : B ≤ g) (o : Obj) : Below B w0 (setBlock W g o) :=
  ⟨h.os, h.tape, h.output, by rw [sb_size]; exact h.size, fun k hk => (sb_other o (by omega)).trans (h.block k hk)⟩
end Go.Proofs.Ytalmemcidbmdgaa.PM

/- A model (layer 16): at: the walk. -/
set_option linter.unusedVariables false
set_option linter.unusedSimpArgs false
namespace Go.Proofs.Ytalmemcidbmdgaa.PM
open Go.RowKit Go.Proofs.YtalmemcidbmdgaaW.PrintWords Go.Proofs.YtalmemcidbmdgaaW.PrintLast Go.Proofs.YtalmemcidbmdgaaW.PrintMore Go.Proofs.Ytalmemcidbmdgaa.PageG
attribute [local go_sem] max2_int min2_int max_two min_two max_three min_three max_four min_four   -- for this text's walks alone
section
variable {w w' : World} {B pm bm : Nat} {s : MS}
abbrev ZK : Obj := .cells #[.int .i64 0, .int .u64 0, .int .i64 0] 84
abbrev ZP : Obj := .cells #[.int .u64 0, .int .i64 0, .int .u64 0, .bool false, .bool false, .bool false, .bool false, .bool false, .bool false, .bool false, .bool false] 50
/-- What holds at the head of each round. -/
structure AtS (w W : World) (B pm bm : Nat) (s : MS) (D : Nat) : Prop where
  mo : Mo W B pm bm s
  h6 : W.heap[D]? = some (.cells #[.int .u64 0, .int .i64 0, .int .u64 0, .bool false, .bool false, .bool false, .bool false, .bool false, .bool false, .bool false, .bool false] 50 (0, 0))
  h7 : W.heap[D + 1]? = some (.cells #[.int .i64 0, .int .u64 0, .int .i64 0] 84 (0, 0))
  bl : Below w.heap.size w W
theorem AtS.below {w W W' : World} {B pm bm : Nat} {s : MS} {D : Nat} (h : AtS w W B pm bm s D) (hb : Below W.heap.size W W') : AtS w W' B pm bm s D :=
  ⟨h.mo.below hb, blk_below h.h6 hb, blk_below h.h7 hb, below_step h.bl hb⟩
/-- What the looks up say. -/
def NoAt (s : MS) (sp : Int) (va i : Nat) : Prop := ∀ x ∈ s.L, ¬ (x.f0 = sp ∧ x.f1.f0 = ((bs va i : Nat) : Int) ∧ x.f1.f1 = (i : Int))
theorem look_none {W : World} (h : Mo W B pm bm s) {sp : Int} (hsp : W64 sp) {va i : Nat} (hva : va < 2 ^ 64) (hi : i < 4) (hn : NoAt s sp va i) :
    (Instr.lookup 72 (.map (some pm)) (.agg #[.int .i64 sp, .int .u64 ((bs va i : Nat) : Int), .int .i64 (i : Int)]) true).run Try.prog W = .ok (.tuple #[.agg #[.int .u64 0, .int .i64 0, .int .u64 0, .bool false, .bool false, .bool false, .bool false, .bool false, .bool false, .bool false, .bool false], .bool false]) W :=
  h.look_no hsp ⟨by omega, by have := bs_le va i; omega⟩ ⟨by omega, by omega⟩ hn
set_option maxHeartbeats 8000000 in
set_option maxRecDepth 100000 in
theorem at_no (h : Mo w B pm bm s) (sp : Int) (hsp : W64 sp) (va : Nat) (hva : va < 2 ^ 64) (hn : ∀ i, i < 4 → NoAt s sp va i) :
    Calls Try.prog 51 #[.pointer (some ⟨B, 0, none⟩), .int .i64 sp, .int .u64 va] w fun e w' => e = .returned (.tuple #[pgv z0, kyv 0 0 0, .bool false]) ∧ Below w.heap.size w w' := by
  obtain ⟨D, hD⟩ : ∃ D, w.heap.size = D := ⟨_, rfl⟩
  have hs : AtS w ((w.alloc ZP).alloc ZK) B pm bm s D := by
    have hs1 : (w.alloc ZP).heap.size = D + 1 := by simp [hD]
    have h6 := blk_alloc (blk_new w ZP) ZK
    have h7 := blk_new (w.alloc ZP) ZK
    rw [hD] at h6
    rw [hs1] at h7
    have hb : Below w.heap.size w ((w.alloc ZP).alloc ZK) := ((Below.refl _ w).alloc (Nat.le_refl _) _).alloc (by simp) _
    exact ⟨h.below hb, h6, h7, hb⟩
  have HS := Aside0.mk hs
  have HN := Aside0.mk hn
  have HSP := Aside0.mk hsp
  clear hs hn h hsp
  go_enter Try.func51, Try.ntmps51
  go_wp2_with fail
  generalize (w.alloc ZP).alloc ZK = w1 at *
  go_loopg [13] 4 (fun k iv wr => ∃ i : Nat, iv = .int .i64 (i : Int) ∧ i + k = 4 ∧ Aside0 (AtS w wr B pm bm s D))
  case atStart => exact ⟨0, rfl, by omega, HS⟩
  case round =>
    clear HS
    obtain ⟨i, rfl, hik, HS⟩ := hrel
    by_cases hi : i < 4
    · have hi0 : (0 : Int) ≤ (i : Int) := by omega
      have hi1 : (i : Int) < 4 := by omega
      have hbp := base_p va i hva hi
      have HBP := Aside0.mk hbp
      clear hbp
      go_wp2_with fail
      refine (page_Base.calls (va : Int) (i : Int) _ _ HBP.out).mono ?_
      rintro e w2 ⟨rfl, hdr⟩
      have HS2 := Aside0.mk (HS.out.below hdr.below)
      clear hdr HS
      have hk := blk_new w2 (.cells #[.int .i64 sp, .int .u64 ((bs va i : Nat) : Int), .int .i64 (i : Int)] 84)
      have HS3 := Aside0.mk (HS2.out.below ((Below.refl _ w2).alloc (Nat.le_refl _) (.cells #[.int .i64 sp, .int .u64 ((bs va i : Nat) : Int), .int .i64 (i : Int)] 84)))
      have HKB := Aside0.mk hk
      clear hk HS2
      go_wp2_with fail
      generalize hG : w2.heap.size = g at *
      generalize w2.alloc (.cells #[.int .i64 sp, .int .u64 ((bs va i : Nat) : Int), .int .i64 (i : Int)] 84) = w3 at *
      clear hG
      have HH := Aside0.mk (show ∀ W, Below w3.heap.size w3 W → (W.cell? ⟨B, 1, none⟩ = some (.map (some pm)) ∧ W.cell? ⟨g, 0, none⟩ = some (.int .i64 sp) ∧ W.cell? ⟨g, 1, none⟩ = some (.int .u64 ((bs va i : Nat) : Int)) ∧ W.cell? ⟨g, 2, none⟩ = some (.int .i64 (i : Int)) ∧ Aside0 (AtS w W B pm bm s D) ∧
            (Instr.lookup 72 (.map (some pm)) (.agg #[.int .i64 sp, .int .u64 ((bs va i : Nat) : Int), .int .i64 (i : Int)]) true).run Try.prog W = .ok (.tuple #[.agg #[.int .u64 0, .int .i64 0, .int .u64 0, .bool false, .bool false, .bool false, .bool false, .bool false, .bool false, .bool false, .bool false], .bool false]) W) from
          fun W hb => ⟨cell_up hb HS3.out.mo.cells.2.1, cell_up hb ((blk_cell HKB.out 0).trans rfl), cell_up hb ((blk_cell HKB.out 1).trans rfl), cell_up hb ((blk_cell HKB.out 2).trans rfl), ⟨HS3.out.below hb⟩, look_none (HS3.out.below hb).mo HSP.out hva hi (HN.out i hi)⟩)
      obtain ⟨k0, k1, k2⟩ := And.intro ((blk_cell HKB.out 0).trans rfl) (And.intro ((blk_cell HKB.out 1).trans rfl) ((blk_cell HKB.out 2).trans rfl))
      have c1 := HS3.out.mo.cells.2.1
      go_cut [12] (fun v12 wx => v12 = .bool false ∧ Aside0 (AtS w wx B pm bm s D))
      case first =>
        go_region_held3 (fun W => W.cell? ⟨B, 1, none⟩ = some (.map (some pm)) ∧ W.cell? ⟨g, 0, none⟩ = some (.int .i64 sp) ∧ W.cell? ⟨g, 1, none⟩ = some (.int .u64 ((bs va i : Nat) : Int)) ∧ W.cell? ⟨g, 2, none⟩ = some (.int .i64 (i : Int)) ∧ Aside0 (AtS w W B pm bm s D) ∧
            (Instr.lookup 72 (.map (some pm)) (.agg #[.int .i64 sp, .int .u64 ((bs va i : Nat) : Int), .int .i64 (i : Int)]) true).run Try.prog W = .ok (.tuple #[.agg #[.int .u64 0, .int .i64 0, .int .u64 0, .bool false, .bool false, .bool false, .bool false, .bool false, .bool false, .bool false, .bool false], .bool false]) W)
          ((refine HH.out _ ?_; first | exact (Below.refl _ _).drew | exact (Below.refl _ _).drew.alloc (Nat.le_refl _) _ | trace_state))
          (go_at_call 1)
        all_goals
          rename_i hS
          have HSx := hS.2.2.2.2.1
          clear hS
          (try simp only [Exit.inBlock, Exit.then])
          go_wp2_with fail
          go_meet
          case rel => exact ⟨rfl, HSx⟩
      case rest =>
      obtain ⟨rfl, HSx⟩ := hcut
      clear HS3 HKB HH k0 k1 k2 c1
      have hwj : wrap64 ((i : Int) + 1) = (i : Int) + 1 := by unfold wrap64; omega
      go_wp2_with fail
      clear hwj
      go_roundg (gk - 1)
      case measure => omega
      case rel => exact ⟨i + 1, by push_cast; rfl, by omega, HSx⟩
    · have hi1 : ¬ (i : Int) < 4 := by omega
      have hd : decide ((i : Int) < 4) = false := decide_eq_false hi1
      have f6 := blk_frozen HS.out.h6
      have f7 := blk_frozen HS.out.h7
      obtain ⟨d0, d1, d2, d3, d4, d5, d6, d7, d8, d9, d10⟩ := cells11 HS.out.h6
      obtain ⟨e0, e1, e2⟩ := cells3 HS.out.h7
      go_wp2_with fail
      have hDD : D + 1 ≠ D := by omega
      rw [set11 HS.out.h6, set3 ((sb_other _ hDD).trans HS.out.h7)]
      have hbl := HS.out.bl
      rw [hD] at hbl
      refine bodyPost_ret (results_cct rfl _ _ D (D + 1) 50 84 _ _ (0, 0) (0, 0) _ _ rfl ((sb_other _ hDD.symm).trans (sb_same HS.out.h6 _)) Try.underlying50 rfl (by kernel_rfl) rfl (sb_same ((sb_other _ hDD).trans HS.out.h7) _) Try.underlying84 rfl (by kernel_rfl)) rfl ?_
      exact ⟨rfl, below_sb (below_sb hbl (Nat.le_refl _) _) (by omega) _⟩
theorem at_prep {s : MS} (hw : WfL s.L) {sp : Int} {va : Nat} (hva : va < 2 ^ 64) {x : Ent} (hx : x ∈ s.L) (hh : hit sp va x = true) :
    ∃ j : Nat, szN x = j ∧ j < 4 ∧ (∀ i, i < j → NoAt s sp va i) ∧ x.f0 = sp ∧ x.f1.f0 = ((bs va j : Nat) : Int) ∧ x.f1.f1 = (j : Int) ∧
      ∀ (W : World) (B pm bm : Nat), Mo W B pm bm s → (Instr.lookup 72 (.map (some pm)) (.agg #[.int .i64 sp, .int .u64 ((bs va j : Nat) : Int), .int .i64 (j : Int)]) true).run Try.prog W = .ok (.tuple #[.agg #[.int .u64 x.f1.f0, .int .i64 x.f1.f1, .int .u64 x.f1.f2, .bool x.f1.f3.f0, .bool x.f1.f3.f1, .bool x.f1.f3.f2, .bool x.f1.f3.f3, .bool x.f1.f3.f4, .bool x.f1.f3.f5, .bool x.f1.f4, .bool x.f1.f5], .bool true]) W := by
  obtain ⟨h1, h2⟩ := hit_iff.1 hh
  have hk := hw.ok x hx
  have e1 : x.f1.f0 = ((bs va (szN x) : Nat) : Int) := by rw [h2]; exact hk.va
  have e2 : x.f1.f1 = (szN x : Int) := hk.sz
  refine ⟨szN x, rfl, hk.sz1, fun i hi y hy hc => ?_, h1, e1, e2, fun W B pm bm hm => ?_⟩
  · obtain ⟨c1, c2, c3⟩ := hc
    have hky := hw.ok y hy
    have hyh : hit sp va y = true := by
      rw [hit_iff]
      have : szN y = i := by have := hky.sz; omega
      exact ⟨c1, by rw [this]; have := hky.va; omega⟩
    obtain ⟨a, ha⟩ := List.getElem?_of_mem hx
    obtain ⟨b, hb⟩ := List.getElem?_of_mem hy
    have := hw.one ha hb (hit_meets hh hyh)
    subst this
    rw [ha] at hb
    have hxy := Option.some.inj hb
    rw [← hxy] at c3
    omega
  · have := (hm.look_yes hw hx).1
    rw [h1, e1, e2] at this
    rw [← e1, ← e2] at *
    simpa [kyv, pgv, h1] using this
set_option maxHeartbeats 8000000 in
set_option maxRecDepth 100000 in
theorem at_yes (h : Mo w B pm bm s) (hw : WfL s.L) (sp : Int) (hsp : W64 sp) (va : Nat) (hva : va < 2 ^ 64) (x : Ent) (hx : x ∈ s.L) (hh : hit sp va x = true) :
    Calls Try.prog 51 #[.pointer (some ⟨B, 0, none⟩), .int .i64 sp, .int .u64 va] w fun e w' => e = .returned (.tuple #[pgv x.f1, kyv x.f0 x.f1.f0 x.f1.f1, .bool true]) ∧ Below w.heap.size w w' := by
  obtain ⟨j, hj, hj4, hn, hk0, hk1, hk2, hly⟩ := at_prep hw hva hx hh
  have HKE := Aside0.mk (show kyv x.f0 x.f1.f0 x.f1.f1 = .agg #[.int .i64 sp, .int .u64 ((bs va j : Nat) : Int), .int .i64 (j : Int)] by rw [hk0, hk1, hk2]; rfl)
  have HLY := Aside0.mk hly
  clear hly hk0 hk1 hk2 hw hx hh
  obtain ⟨D, hD⟩ : ∃ D, w.heap.size = D := ⟨_, rfl⟩
  have hs : AtS w ((w.alloc ZP).alloc ZK) B pm bm s D := by
    have hs1 : (w.alloc ZP).heap.size = D + 1 := by simp [hD]
    have h6 := blk_alloc (blk_new w ZP) ZK
    have h7 := blk_new (w.alloc ZP) ZK
    rw [hD] at h6
    rw [hs1] at h7
    have hb : Below w.heap.size w ((w.alloc ZP).alloc ZK) := ((Below.refl _ w).alloc (Nat.le_refl _) _).alloc (by simp) _
    exact ⟨h.below hb, h6, h7, hb⟩
  have HS := Aside0.mk hs
  have HN := Aside0.mk hn
  have HSP := Aside0.mk hsp
  clear hs hn h hsp
  go_enter Try.func51, Try.ntmps51
  go_wp2_with fail
  generalize (w.alloc ZP).alloc ZK = w1 at *
  go_loopg [13] j (fun k iv wr => ∃ i : Nat, iv = .int .i64 (i : Int) ∧ i + k = j ∧ Aside0 (AtS w wr B pm bm s D))
  case atStart => exact ⟨0, rfl, by omega, HS⟩
  case round =>
    clear HS
    obtain ⟨i, rfl, hik, HS⟩ := hrel
    by_cases hi : i < j
    · have hi0 : (0 : Int) ≤ (i : Int) := by omega
      have hi1 : (i : Int) < 4 := by omega
      have hi4 : i < 4 := by omega
      have hbp := base_p va i hva hi4
      have HBP := Aside0.mk hbp
      clear hbp
      go_wp2_with fail
      refine (page_Base.calls (va : Int) (i : Int) _ _ HBP.out).mono ?_
      rintro e w2 ⟨rfl, hdr⟩
      have HS2 := Aside0.mk (HS.out.below hdr.below)
      clear hdr HS
      have hk := blk_new w2 (.cells #[.int .i64 sp, .int .u64 ((bs va i : Nat) : Int), .int .i64 (i : Int)] 84)
      have HS3 := Aside0.mk (HS2.out.below ((Below.refl _ w2).alloc (Nat.le_refl _) (.cells #[.int .i64 sp, .int .u64 ((bs va i : Nat) : Int), .int .i64 (i : Int)] 84)))
      have HKB := Aside0.mk hk
      clear hk HS2
      go_wp2_with fail
      generalize hG : w2.heap.size = g at *
      generalize w2.alloc (.cells #[.int .i64 sp, .int .u64 ((bs va i : Nat) : Int), .int .i64 (i : Int)] 84) = w3 at *
      clear hG
      have HH := Aside0.mk (show ∀ W, Below w3.heap.size w3 W → (W.cell? ⟨B, 1, none⟩ = some (.map (some pm)) ∧ W.cell? ⟨g, 0, none⟩ = some (.int .i64 sp) ∧ W.cell? ⟨g, 1, none⟩ = some (.int .u64 ((bs va i : Nat) : Int)) ∧ W.cell? ⟨g, 2, none⟩ = some (.int .i64 (i : Int)) ∧ Aside0 (AtS w W B pm bm s D) ∧
            (Instr.lookup 72 (.map (some pm)) (.agg #[.int .i64 sp, .int .u64 ((bs va i : Nat) : Int), .int .i64 (i : Int)]) true).run Try.prog W = .ok (.tuple #[.agg #[.int .u64 0, .int .i64 0, .int .u64 0, .bool false, .bool false, .bool false, .bool false, .bool false, .bool false, .bool false, .bool false], .bool false]) W) from
          fun W hb => ⟨cell_up hb HS3.out.mo.cells.2.1, cell_up hb ((blk_cell HKB.out 0).trans rfl), cell_up hb ((blk_cell HKB.out 1).trans rfl), cell_up hb ((blk_cell HKB.out 2).trans rfl), ⟨HS3.out.below hb⟩, look_none (HS3.out.below hb).mo HSP.out hva hi4 (HN.out i hi)⟩)
      obtain ⟨k0, k1, k2⟩ := And.intro ((blk_cell HKB.out 0).trans rfl) (And.intro ((blk_cell HKB.out 1).trans rfl) ((blk_cell HKB.out 2).trans rfl))
      have c1 := HS3.out.mo.cells.2.1
      go_cut [12] (fun v12 wx => v12 = .bool false ∧ Aside0 (AtS w wx B pm bm s D))
      case first =>
        go_region_held3 (fun W => W.cell? ⟨B, 1, none⟩ = some (.map (some pm)) ∧ W.cell? ⟨g, 0, none⟩ = some (.int .i64 sp) ∧ W.cell? ⟨g, 1, none⟩ = some (.int .u64 ((bs va i : Nat) : Int)) ∧ W.cell? ⟨g, 2, none⟩ = some (.int .i64 (i : Int)) ∧ Aside0 (AtS w W B pm bm s D) ∧
            (Instr.lookup 72 (.map (some pm)) (.agg #[.int .i64 sp, .int .u64 ((bs va i : Nat) : Int), .int .i64 (i : Int)]) true).run Try.prog W = .ok (.tuple #[.agg #[.int .u64 0, .int .i64 0, .int .u64 0, .bool false, .bool false, .bool false, .bool false, .bool false, .bool false, .bool false, .bool false], .bool false]) W)
          ((refine HH.out _ ?_; first | exact (Below.refl _ _).drew | exact (Below.refl _ _).drew.alloc (Nat.le_refl _) _ | trace_state))
          (go_at_call 1)
        all_goals
          rename_i hS
          have HSx := hS.2.2.2.2.1
          clear hS
          (try simp only [Exit.inBlock, Exit.then])
          go_wp2_with fail
          go_meet
          case rel => exact ⟨rfl, HSx⟩
      case rest =>
      obtain ⟨rfl, HSx⟩ := hcut
      clear HS3 HKB HH k0 k1 k2 c1
      have hwj : wrap64 ((i : Int) + 1) = (i : Int) + 1 := by unfold wrap64; omega
      go_wp2_with fail
      clear hwj
      go_roundg (gk - 1)
      case measure => omega
      case rel => exact ⟨i + 1, by push_cast; rfl, by omega, HSx⟩
    · obtain rfl : i = j := by omega
      have hi0 : (0 : Int) ≤ (i : Int) := by omega
      have hi1 : (i : Int) < 4 := by omega
      have hbp := base_p va i hva hj4
      have HBP := Aside0.mk hbp
      clear hbp
      go_wp2_with fail
      refine (page_Base.calls (va : Int) (i : Int) _ _ HBP.out).mono ?_
      rintro e w2 ⟨rfl, hdr⟩
      have HS2 := Aside0.mk (HS.out.below hdr.below)
      clear hdr HS
      have hk := blk_new w2 (.cells #[.int .i64 sp, .int .u64 ((bs va i : Nat) : Int), .int .i64 (i : Int)] 84)
      have HS3 := Aside0.mk (HS2.out.below ((Below.refl _ w2).alloc (Nat.le_refl _) (.cells #[.int .i64 sp, .int .u64 ((bs va i : Nat) : Int), .int .i64 (i : Int)] 84)))
      have HKB := Aside0.mk hk
      have HDG := Aside0.mk (show D + 1 < w2.heap.size from blk_lt HS2.out.h7)
      clear hk HS2
      go_wp2_with fail
      generalize hG : w2.heap.size = g at *
      generalize w2.alloc (.cells #[.int .i64 sp, .int .u64 ((bs va i : Nat) : Int), .int .i64 (i : Int)] 84) = w3 at *
      clear hG
      have HH := Aside0.mk (show ∀ W, Below w3.heap.size w3 W → (W.cell? ⟨B, 1, none⟩ = some (.map (some pm)) ∧ W.cell? ⟨g, 0, none⟩ = some (.int .i64 sp) ∧ W.cell? ⟨g, 1, none⟩ = some (.int .u64 ((bs va i : Nat) : Int)) ∧ W.cell? ⟨g, 2, none⟩ = some (.int .i64 (i : Int)) ∧ Aside0 (AtS w W B pm bm s D) ∧
            (Instr.lookup 72 (.map (some pm)) (.agg #[.int .i64 sp, .int .u64 ((bs va i : Nat) : Int), .int .i64 (i : Int)]) true).run Try.prog W = .ok (.tuple #[.agg #[.int .u64 x.f1.f0, .int .i64 x.f1.f1, .int .u64 x.f1.f2, .bool x.f1.f3.f0, .bool x.f1.f3.f1, .bool x.f1.f3.f2, .bool x.f1.f3.f3, .bool x.f1.f3.f4, .bool x.f1.f3.f5, .bool x.f1.f4, .bool x.f1.f5], .bool true]) W) from
          fun W hb => ⟨cell_up hb HS3.out.mo.cells.2.1, cell_up hb ((blk_cell HKB.out 0).trans rfl), cell_up hb ((blk_cell HKB.out 1).trans rfl), cell_up hb ((blk_cell HKB.out 2).trans rfl), ⟨HS3.out.below hb⟩, HLY.out W B pm bm (HS3.out.below hb).mo⟩)
      go_cut [11, 12] (fun v11 v12 wx => v12 = .bool true ∧ ∃ g2, v11 = .pointer (some ⟨g2, 0, none⟩) ∧ Aside0 (AtS w wx B pm bm s D) ∧ Aside0 (Below w3.heap.size w3 wx) ∧ Aside0 (wx.heap[g2]? = some (.cells #[.int .u64 x.f1.f0, .int .i64 x.f1.f1, .int .u64 x.f1.f2, .bool x.f1.f3.f0, .bool x.f1.f3.f1, .bool x.f1.f3.f2, .bool x.f1.f3.f3, .bool x.f1.f3.f4, .bool x.f1.f3.f5, .bool x.f1.f4, .bool x.f1.f5] 50 (0, 0))) ∧ w3.heap.size ≤ g2)
      case first =>
        obtain ⟨c1, k0, k1, k2, -, hlk⟩ := HH.out w3 (Below.refl _ _)
        go_region_held3 (fun W => W.cell? ⟨B, 1, none⟩ = some (.map (some pm)) ∧ W.cell? ⟨g, 0, none⟩ = some (.int .i64 sp) ∧ W.cell? ⟨g, 1, none⟩ = some (.int .u64 ((bs va i : Nat) : Int)) ∧ W.cell? ⟨g, 2, none⟩ = some (.int .i64 (i : Int)) ∧ Aside0 (AtS w W B pm bm s D) ∧
            (Instr.lookup 72 (.map (some pm)) (.agg #[.int .i64 sp, .int .u64 ((bs va i : Nat) : Int), .int .i64 (i : Int)]) true).run Try.prog W = .ok (.tuple #[.agg #[.int .u64 x.f1.f0, .int .i64 x.f1.f1, .int .u64 x.f1.f2, .bool x.f1.f3.f0, .bool x.f1.f3.f1, .bool x.f1.f3.f2, .bool x.f1.f3.f3, .bool x.f1.f3.f4, .bool x.f1.f3.f5, .bool x.f1.f4, .bool x.f1.f5], .bool true]) W)
          ((refine HH.out _ ?_; first | exact (Below.refl _ _).drew | exact (Below.refl _ _).drew.alloc (Nat.le_refl _) _ | trace_state))
          (go_at_call 1)
        all_goals
          (try simp only [Exit.inBlock, Exit.then])
          go_wp2_with fail
          go_meet
          case rel => first | exact ⟨rfl, _, rfl, ⟨HS3.out.below ((Below.refl _ _).alloc (Nat.le_refl _) _).drew⟩, ⟨((Below.refl _ _).alloc (Nat.le_refl _) _).drew⟩, ⟨blk_new w3 _⟩, Nat.le_refl _⟩ | exact ⟨rfl, _, rfl, ⟨HS3.out.below ((Below.refl _ _).drew.alloc (Nat.le_refl _) _)⟩, ⟨(Below.refl _ _).drew.alloc (Nat.le_refl _) _⟩, ⟨blk_new w3.drew _⟩, Nat.le_refl _⟩
      case rest =>
      obtain ⟨rfl, g2, rfl, HSx, HBx, HPx, hg2⟩ := hcut
      have hgl : g < w3.heap.size := blk_lt HKB.out
      have hDl := HDG.out
      have n1 : g ≠ D := by omega
      have n2 : g ≠ D + 1 := by omega
      have n3 : g2 ≠ D := by omega
      have n4 : g2 ≠ D + 1 := by omega
      have n5 : D + 1 ≠ D := by omega
      have f6 := blk_frozen HSx.out.h6
      have f7 := blk_frozen HSx.out.h7
      obtain ⟨d0, d1, d2, d3, d4, d5, d6, d7, d8, d9, d10⟩ := cells11 HSx.out.h6
      obtain ⟨e0, e1, e2⟩ := cells3 HSx.out.h7
      obtain ⟨p0, p1, p2, p3, p4, p5, p6, p7, p8, p9, p10⟩ := cells11 HPx.out
      obtain ⟨k0, k1, k2⟩ := cells3 (blk_below HKB.out HBx.out)
      have HH2 := Aside0.mk (show ∀ W : World, (∀ k, k ≠ D → k ≠ D + 1 → W.heap[k]? = wc.heap[k]?) → (W.cell? ⟨g2, 0, none⟩ = some (.int .u64 x.f1.f0) ∧ W.cell? ⟨g2, 1, none⟩ = some (.int .i64 x.f1.f1) ∧ W.cell? ⟨g2, 2, none⟩ = some (.int .u64 x.f1.f2) ∧ W.cell? ⟨g2, 3, none⟩ = some (.bool x.f1.f3.f0) ∧ W.cell? ⟨g2, 4, none⟩ = some (.bool x.f1.f3.f1) ∧ W.cell? ⟨g2, 5, none⟩ = some (.bool x.f1.f3.f2) ∧ W.cell? ⟨g2, 6, none⟩ = some (.bool x.f1.f3.f3) ∧ W.cell? ⟨g2, 7, none⟩ = some (.bool x.f1.f3.f4) ∧ W.cell? ⟨g2, 8, none⟩ = some (.bool x.f1.f3.f5) ∧ W.cell? ⟨g2, 9, none⟩ = some (.bool x.f1.f4) ∧ W.cell? ⟨g2, 10, none⟩ = some (.bool x.f1.f5) ∧ W.cell? ⟨g, 0, none⟩ = some (.int .i64 sp) ∧ W.cell? ⟨g, 1, none⟩ = some (.int .u64 ((bs va i : Nat) : Int)) ∧ W.cell? ⟨g, 2, none⟩ = some (.int .i64 (i : Int))) from fun W hh => ⟨(World.cell?_of_block (hh g2 n3 n4)).trans p0, (World.cell?_of_block (hh g2 n3 n4)).trans p1, (World.cell?_of_block (hh g2 n3 n4)).trans p2, (World.cell?_of_block (hh g2 n3 n4)).trans p3, (World.cell?_of_block (hh g2 n3 n4)).trans p4, (World.cell?_of_block (hh g2 n3 n4)).trans p5, (World.cell?_of_block (hh g2 n3 n4)).trans p6, (World.cell?_of_block (hh g2 n3 n4)).trans p7, (World.cell?_of_block (hh g2 n3 n4)).trans p8, (World.cell?_of_block (hh g2 n3 n4)).trans p9, (World.cell?_of_block (hh g2 n3 n4)).trans p10, (World.cell?_of_block (hh g n1 n2)).trans k0, (World.cell?_of_block (hh g n1 n2)).trans k1, (World.cell?_of_block (hh g n1 n2)).trans k2⟩)
      clear HH HKB HPx hgl hDl hg2 HS3 HN HLY
      go_wp2_with fail
      refine start_ (n := 5) (S := fun w' => w'.cell? ⟨g2, 0, none⟩ = some (.int .u64 x.f1.f0) ∧ w'.cell? ⟨g2, 1, none⟩ = some (.int .i64 x.f1.f1) ∧ w'.cell? ⟨g2, 2, none⟩ = some (.int .u64 x.f1.f2) ∧ w'.cell? ⟨g2, 3, none⟩ = some (.bool x.f1.f3.f0) ∧ w'.cell? ⟨g2, 4, none⟩ = some (.bool x.f1.f3.f1) ∧ w'.cell? ⟨g2, 5, none⟩ = some (.bool x.f1.f3.f2) ∧ w'.cell? ⟨g2, 6, none⟩ = some (.bool x.f1.f3.f3) ∧ w'.cell? ⟨g2, 7, none⟩ = some (.bool x.f1.f3.f4) ∧ w'.cell? ⟨g2, 8, none⟩ = some (.bool x.f1.f3.f5) ∧ w'.cell? ⟨g2, 9, none⟩ = some (.bool x.f1.f4) ∧ w'.cell? ⟨g2, 10, none⟩ = some (.bool x.f1.f5) ∧ w'.cell? ⟨g, 0, none⟩ = some (.int .i64 sp) ∧ w'.cell? ⟨g, 1, none⟩ = some (.int .u64 ((bs va i : Nat) : Int)) ∧ w'.cell? ⟨g, 2, none⟩ = some (.int .i64 (i : Int))) (ds := []) #[false, false, false, false, false] (by kernel_rfl) rfl rfl ⟨p0, p1, p2, p3, p4, p5, p6, p7, p8, p9, p10, k0, k1, k2⟩ (fun hHeld => ?_)
      refine take_ (i := 0) (N := some 32) (v := ?_) (a' := ?_) #[true, false, false, false, false] rfl rfl (by kernel_rfl) (fun _ _ _ h => h) (Or.inl ⟨by rfl, ?_⟩) hHeld ?_ ?_
      rotate_left
      · rintro w' ⟨s0, s1, s2, s3, s4, s5, s6, s7, s8, s9, s10, s11, s12, s13⟩
        go_simp
        with_reducible rfl
      rotate_left
      · simp only [Act.put, List.setIfInBounds_toArray, List.set_cons_zero, List.set_cons_succ, i64_w, i32_w]
        rfl
      refine take_ (i := 1) (N := some 33) (v := ?_) (a' := ?_) #[true, true, false, false, false] rfl rfl (by kernel_rfl) (fun _ _ _ h => h) (Or.inl ⟨by rfl, ?_⟩) hHeld ?_ ?_
      rotate_left
      · rintro w' ⟨s0, s1, s2, s3, s4, s5, s6, s7, s8, s9, s10, s11, s12, s13⟩
        go_simp
        with_reducible rfl
      rotate_left
      · simp only [Act.put, List.setIfInBounds_toArray, List.set_cons_zero, List.set_cons_succ, i64_w, i32_w]
        rfl
      refine one_ (i := 2) (N := none) #[true, true, true, false, false] rfl rfl (by kernel_rfl) (by decide) (fun K hK => ?_)
      refine skip_ (w1 := _) (by rfl) rfl (run_store_page rfl rfl rfl HSx.out.h6) ?_
      refine hK.out _ _ (HH2.out _ (fun k h1 _ => sb_other _ h1)) (fun hHeld => ?_)
      clear hK K
      refine one_ (i := 3) (N := none) #[true, true, true, true, false] rfl rfl (by kernel_rfl) (by decide) (fun K hK => ?_)
      refine skip_ (w1 := _) (by rfl) rfl (run_store_key rfl rfl rfl ((sb_other _ n5).trans HSx.out.h7)) ?_
      refine hK.out _ _ (HH2.out _ (fun k h1 h2 => (sb_other _ h2).trans (sb_other _ h1))) (fun hHeld => ?_)
      clear hK K
      refine pure_ (i := 4) (N := some 8) (v := ?_) (a' := ?_) #[true, true, true, true, true] rfl rfl (by kernel_rfl) (fun _ _ _ h => h) (Or.inl ⟨by rfl, ?_⟩) ?_ ?_
      rotate_left
      · intro w'
        go_simp
        with_reducible rfl
      rotate_left
      · simp only [Act.put, List.setIfInBounds_toArray, List.set_cons_zero, List.set_cons_succ, i64_w, i32_w]
        rfl
      refine done_ (by kernel_rfl) ?_
      (try simp only [Exit.inBlock, Exit.then])
      go_wp2_with fail
      have hbl := HSx.out.bl
      refine bodyPost_ret (results_cct rfl _ _ D (D + 1) 50 84 _ _ (0, 0) (0, 0) _ _ rfl ((sb_other _ n5.symm).trans (sb_same (o := .cells #[.int .u64 0, .int .i64 0, .int .u64 0, .bool false, .bool false, .bool false, .bool false, .bool false, .bool false, .bool false, .bool false] 50 (0, 0)) HSx.out.h6 _)) Try.underlying50 rfl (by kernel_rfl) rfl (sb_same ((sb_other _ n5).trans HSx.out.h7) _) Try.underlying84 rfl (by kernel_rfl)) rfl ?_
      exact ⟨by rw [HKE.out]; rfl, below_sb (below_sb hbl.drew (by omega) _) (by omega) _⟩
end
end Go.Proofs.Ytalmemcidbmdgaa.PM


/- A model (layer 16): Windows: the walk. -/
set_option linter.unusedVariables false
set_option linter.unusedSimpArgs false
namespace Go.Proofs.Ytalmemcidbmdgaa.PM
open Go.RowKit Go.Proofs.YtalmemcidbmdgaaW.PrintWords Go.Proofs.YtalmemcidbmdgaaW.PrintLast Go.Proofs.YtalmemcidbmdgaaW.PrintMore Go.Proofs.Ytalmemcidbmdgaa.PageG
attribute [local go_sem] max2_int min2_int max_two min_two max_three min_three max_four min_four   -- for this text's walks alone
section
variable {w w' : World} {B pm bm : Nat} {s : MS}
theorem map_nil_of {α β : Type} {f : α → β} {l : List α} (h : ([] : List β).Perm (l.map f)) : l = [] := by
  have := h.length_eq
  simp at this
  exact List.eq_nil_of_length_eq_zero this.symm
/-- One that comes. -/
theorem rg_step {W : World} {r : Nat} {L done : List Ent} {k v : Value} (hm : (k, v) ∈ L.map enP) : ∃ x ∈ L, k = kyv x.f0 x.f1.f0 x.f1.f1 ∧ v = pgv x.f1 := by
  obtain ⟨x, hx, e⟩ := List.mem_map.1 hm
  exact ⟨x, hx, (congrArg Prod.fst e).symm, (congrArg Prod.snd e).symm⟩
theorem pgv_inj {p q : Pg} (h : pgv p = pgv q) : p = q := by
  obtain ⟨a, b, c, ⟨d0, d1, d2, d3, d4, d5⟩, e, f⟩ := p
  obtain ⟨a', b', c', ⟨d0', d1', d2', d3', d4', d5'⟩, e', f'⟩ := q
  unfold pgv at h
  simp at h
  obtain ⟨rfl, rfl, rfl, rfl, rfl, rfl, rfl, rfl, rfl, rfl, rfl⟩ := h
  rfl
theorem enP_inj {x y : Ent} (h : enP x = enP y) : x = y := by
  have h1 := kyv_inj (congrArg Prod.fst h)
  have h2 := pgv_inj (congrArg Prod.snd h)
  obtain ⟨a, b⟩ := x
  obtain ⟨c, d⟩ := y
  simp only at h1 h2
  rw [h1.1, h2]
theorem perm_of_map {α β : Type} {f : α → β} (hf : ∀ x y, f x = f y → x = y) : ∀ {l m : List α}, (l.map f).Perm (m.map f) → l.Perm m
  | [], m, h => by rw [map_nil_of (l := m) (f := f) h]
  | x :: l, m, h => by
    have hx : f x ∈ m.map f := h.mem_iff.1 (by simp)
    obtain ⟨y, hy, e⟩ := List.mem_map.1 hx
    have := hf _ _ e
    subst this
    obtain ⟨a, b, rfl⟩ := List.append_of_mem hy
    have h2 : (f y :: l.map f).Perm (f y :: ((a ++ b).map f)) := by
      refine h.trans ?_
      simp only [List.map_append, List.map_cons]
      exact List.perm_middle
    have h3 := perm_of_map hf ((List.perm_cons _).1 h2)
    exact (h3.cons y).trans List.perm_middle.symm
structure WnS (w W : World) (B pm bm : Nat) (s : MS) (r0 : Nat) (done : List Ent) : Prop where
  mo : Mo W B pm bm s
  rg : ML.Rg Try.prog 84 W pm r0 (s.L.map enP) (done.map enP)
  bl : Below w.heap.size w W
  r0g : w.heap.size ≤ r0
theorem WnS.below {W W' : World} {r0 : Nat} {done : List Ent} (h : WnS w W B pm bm s r0 done) (hb : Below W.heap.size W W') : WnS w W' B pm bm s r0 done :=
  ⟨h.mo.below hb, h.rg.move (hb.block _ (h.mo.lt pm (by simp))) (hb.block _ h.rg.lt), below_step h.bl hb, h.r0g⟩
theorem WnS.start (h : Mo w B pm bm s) : ∃ o, (Instr.range 72 (.map (some pm))).run Try.prog w = .ok (.pointer (some ⟨w.heap.size, 0, none⟩)) (w.alloc o) ∧ WnS w (w.alloc o) B pm bm s w.heap.size [] := by
  obtain ⟨o, h1, h2⟩ := h.hp.ranges undP
  exact ⟨o, h1, h.below ((Below.refl _ w).alloc (Nat.le_refl _) _), h2, (Below.refl _ w).alloc (Nat.le_refl _) _, Nat.le_refl _⟩
/-- The step: it is over, or one more comes. -/
theorem WnS.next {W : World} {r0 : Nat} {done : List Ent} (h : WnS w W B pm bm s r0 done) (hd : ∀ x ∈ done, x ∈ s.L) :
    (done.Perm s.L ∧ (Instr.next (.pointer (some ⟨r0, 0, none⟩)) false 0).run Try.prog W = .ok (.tuple #[.bool false]) W) ∨
    ∃ x W', x ∈ s.L ∧ (Instr.next (.pointer (some ⟨r0, 0, none⟩)) false 0).run Try.prog W = .ok (.tuple #[.bool true, .agg #[.int .i64 x.f0, .int .u64 x.f1.f0, .int .i64 x.f1.f1], .agg #[.int .u64 x.f1.f0, .int .i64 x.f1.f1, .int .u64 x.f1.f2, .bool x.f1.f3.f0, .bool x.f1.f3.f1, .bool x.f1.f3.f2, .bool x.f1.f3.f3, .bool x.f1.f3.f4, .bool x.f1.f3.f5, .bool x.f1.f4, .bool x.f1.f5]]) W' ∧
      WnS w W' B pm bm s r0 (done ++ [x]) ∧ done.length < s.L.length ∧ ((∀ k, k ≠ r0 → W'.heap[k]? = W.heap[k]?) ∧ ∀ y ∈ done, y ≠ x) ∧
      (Instr.entry (.pointer (some ⟨r0, 0, none⟩))).run Try.prog W' = .ok (.tuple #[.agg #[.int .i64 x.f0, .int .u64 x.f1.f0, .int .i64 x.f1.f1], .agg #[.int .u64 x.f1.f0, .int .i64 x.f1.f1, .int .u64 x.f1.f2, .bool x.f1.f3.f0, .bool x.f1.f3.f1, .bool x.f1.f3.f2, .bool x.f1.f3.f3, .bool x.f1.f3.f4, .bool x.f1.f3.f5, .bool x.f1.f4, .bool x.f1.f5]]) W' := by
  rcases h.rg.next 0 with ⟨h1, h2⟩ | ⟨k, v, w1, o, hm, hnk, hw1, hrun, hrg, hlt, hen⟩
  · exact .inl ⟨perm_of_map (fun _ _ => enP_inj) h1, h2⟩
  · obtain ⟨x, hx, rfl, rfl⟩ := rg_step (W := W) (r := r0) (done := done) hm
    have hne : r0 ≠ B := by
      rintro rfl
      obtain ⟨_, _, _, _, _, _, _, _, _, h5, _⟩ := h.rg
      rw [h.mo.hb] at h5
      cases h5
    have hnb : r0 ≠ bm := by
      rintro rfl
      obtain ⟨_, _, _, _, _, _, _, _, _, h5, _⟩ := h.rg
      obtain ⟨l, h6, _⟩ := h.mo.hm
      obtain ⟨es, c, h7⟩ := h6.block
      rw [h7] at h5
      cases h5
    have hnp := hrg.ne
    refine .inr ⟨x, _, hx, hrun, ⟨?_, by rw [List.map_append]; exact hrg, ?_, h.r0g⟩, by simpa using hlt, ⟨fun k hk => (sb_other o hk).trans (by rcases hw1 with rfl | rfl <;> rfl), fun y hy e => hnk (enP y) (List.mem_map.2 ⟨y, hy, rfl⟩) (by rw [e]; rfl)⟩, hen⟩
    · refine h.mo.move (fun k hk => ?_)
      have hkr : k ≠ r0 := by
        simp at hk
        rcases hk with rfl | rfl | rfl
        · exact hne.symm
        · exact hnp.symm
        · exact hnb.symm
      refine (sb_other o hkr).trans ?_
      rcases hw1 with rfl | rfl <;> rfl
    · refine below_sb ?_ h.r0g o
      rcases hw1 with rfl | rfl
      · exact h.bl
      · exact h.bl.drew
theorem winN_perm {l m : List Ent} (h : l.Perm m) (r : Int) : winN l r = winN m r := h.countP_eq _
theorem winN_snoc (l : List Ent) (x : Ent) (r : Int) : winN (l ++ [x]) r = winN l r + if x.f1.f2 = r then 1 else 0 := by
  unfold winN
  rw [List.countP_append]
  by_cases h : x.f1.f2 = r <;> simp [h]
theorem winN_le (l : List Ent) (r : Int) : winN l r ≤ l.length := List.countP_le_length
set_option maxHeartbeats 8000000 in
set_option maxRecDepth 100000 in
theorem windows_calls (h : Mo w B pm bm s) (hw : WfL s.L) (hf : s.L.length ≤ 100000) (r : Int) :
    Calls Try.prog 20 #[.pointer (some ⟨B, 0, none⟩), .int .i64 r] w fun e w' => e = .returned (.int .i64 (winN s.L r)) ∧ Below w.heap.size w w' := by
  obtain ⟨o, hrg, hs⟩ := WnS.start h
  have c1 := h.cells.2.1
  have HS := Aside0.mk hs
  have HW := Aside0.mk hw
  clear hs h hw
  go_enter Try.func20, Try.ntmps20
  go_wp2_with fail
  clear hrg c1
  obtain ⟨r0, hr0⟩ : ∃ r0, w.heap.size = r0 := ⟨_, rfl⟩
  rw [hr0] at HS ⊢
  generalize w.alloc o = w1 at *
  go_loopg [5] s.L.length (fun k nv wr => ∃ done : List Ent, nv = .int .i64 (winN done r) ∧ done.length + k = s.L.length ∧ Aside0 (WnS w wr B pm bm s r0 done ∧ ∀ x ∈ done, x ∈ s.L))
  case atStart => exact ⟨[], rfl, by simp, ⟨HS.out, by simp⟩⟩
  case round =>
    clear HS
    obtain ⟨done, rfl, hdk, HS⟩ := hrel
    have hwn := winN_le done r
    rcases HS.out.1.next HS.out.2 with ⟨hp, hrun⟩ | ⟨x, W', hx, hrun, hn, hlt, hfr, hen⟩
    · have HP := Aside0.mk hp
      clear hp
      go_wp2_with fail
      go_ret
      exact ⟨by rw [← winN_perm HP.out]; rfl, HS.out.1.bl⟩
    · have HN := Aside0.mk hn
      have hpa0 := (HW.out.ok x hx).pa0
      have hpa1 := (HW.out.ok x hx).pa1
      have HX := Aside0.mk hx
      clear hn hx
      by_cases hxr : x.f1.f2 = r
      · have hb1 : (x.f1.f2 == r) = true := beq_iff_eq.2 hxr
        have HXR := Aside0.mk hxr
        clear hxr
        go_wp2_with fail
        have hsn := winN_snoc done x r
        have hmem : ∀ y ∈ done ++ [x], y ∈ s.L := fun y hy => by
          rw [List.mem_append, List.mem_singleton] at hy
          exact hy.elim (HS.out.2 y) (fun e => e ▸ HX.out)
        have HN2 := Aside0.mk (And.intro (HN.out.below ((Below.refl _ W').alloc (Nat.le_refl _) (.cells #[.int .u64 x.f1.f0, .int .i64 x.f1.f1, .int .u64 x.f1.f2, .bool x.f1.f3.f0, .bool x.f1.f3.f1, .bool x.f1.f3.f2, .bool x.f1.f3.f3, .bool x.f1.f3.f4, .bool x.f1.f3.f5, .bool x.f1.f4, .bool x.f1.f5] 50))) hmem)
        go_roundg (gk - 1)
        case measure => omega
        case rel => exact ⟨done ++ [x], by rw [hsn, if_pos HXR.out]; rfl, by simp; omega, HN2⟩
      · have hb1 : (x.f1.f2 == r) = false := beq_eq_false_iff_ne.2 hxr
        have HXR := Aside0.mk hxr
        clear hxr
        go_wp2_with fail
        have hsn := winN_snoc done x r
        have hmem : ∀ y ∈ done ++ [x], y ∈ s.L := fun y hy => by
          rw [List.mem_append, List.mem_singleton] at hy
          exact hy.elim (HS.out.2 y) (fun e => e ▸ HX.out)
        have HN2 := Aside0.mk (And.intro (HN.out.below ((Below.refl _ W').alloc (Nat.le_refl _) (.cells #[.int .u64 x.f1.f0, .int .i64 x.f1.f1, .int .u64 x.f1.f2, .bool x.f1.f3.f0, .bool x.f1.f3.f1, .bool x.f1.f3.f2, .bool x.f1.f3.f3, .bool x.f1.f3.f4, .bool x.f1.f3.f5, .bool x.f1.f4, .bool x.f1.f5] 50))) hmem)
        go_roundg (gk - 1)
        case measure => omega
        case rel => exact ⟨done ++ [x], by rw [hsn, if_neg HXR.out]; rfl, by simp; omega, HN2⟩
end
end Go.Proofs.Ytalmemcidbmdgaa.PM

/- A model (layer 16): Byte: the walk. -/
set_option linter.unusedVariables false
set_option linter.unusedSimpArgs false
namespace Go.Proofs.Ytalmemcidbmdgaa.PM
open Go.RowKit Go.Proofs.YtalmemcidbmdgaaW.PrintWords Go.Proofs.YtalmemcidbmdgaaW.PrintLast Go.Proofs.YtalmemcidbmdgaaW.PrintMore Go.Proofs.Ytalmemcidbmdgaa.PageG
attribute [local go_sem] max2_int min2_int max_two min_two max_three min_three max_four min_four   -- for this text's walks alone
/-- Where an address stands in a page. -/
def offN (x : Ent) (va : Nat) : Nat := va % 2 ^ (13 + 3 * szN x)
theorem off_f {x : Ent} (hx : OkE x) {va : Nat} (hva : va < 2 ^ 64) : page_Offset.f va x.f1.f1 = some ((offN x va : Nat) : Int) := by
  rw [hx.sz]
  exact off_p va (szN x) hva hx.sz1
theorem offN_lt {x : Ent} {va : Nat} (hva : va < 2 ^ 64) : offN x va < 2 ^ 64 := Nat.lt_of_le_of_lt (Nat.mod_le _ _) hva
theorem spot_f {p : Pg} {va : Nat} {off : Int} (h0 : 0 ≤ p.f2) (h1 : p.f2 < 1000000) (h : page_Offset.f va p.f1 = some off) :
    model_spotOf.f p.f0 p.f1 p.f2 p.f3.f0 p.f3.f1 p.f3.f2 p.f3.f3 p.f3.f4 p.f3.f5 p.f4 p.f5 (va : Int) = some (p.f2, off) := by
  unfold model_spotOf.f
  rw [h]
  have e : IntKind.i64.wrap p.f2 = p.f2 := by rw [IntKind.wrap_i64]; omega
  have e2 : wrap64 p.f2 = p.f2 := by unfold wrap64; omega
  simp [e, e2]
section
variable {w w' : World} {B pm bm : Nat} {s : MS}
set_option maxHeartbeats 8000000 in
set_option maxRecDepth 100000 in
theorem byte_yes (h : Mo w B pm bm s) (hw : WfL s.L) (sp : Int) (hsp : W64 sp) (va : Nat) (hva : va < 2 ^ 64) (x : Ent) (hx : x ∈ s.L) (hh : hit sp va x = true) :
    Calls Try.prog 21 #[.pointer (some ⟨B, 0, none⟩), .int .i64 sp, .int .u64 va] w fun e w' => e = .returned (.tuple #[.int .u8 (getB s.by_ x.f1.f2 (offN x va)), .bool true]) ∧ Below w.heap.size w w' := by
  have hc := at_yes h hw sp hsp va hva x hx hh
  have hok := hw.ok x hx
  have hsf := spot_f hok.pa0 hok.pa1 (off_f hok hva)
  have hlk : ∀ W, Mo W B pm bm s → (Instr.lookup 73 (.map (some bm)) (.agg #[.int .i64 x.f1.f2, .int .u64 ((offN x va : Nat) : Int)]) false).run Try.prog W = .ok (.int .u8 (getB s.by_ x.f1.f2 (offN x va))) W := fun W hW =>
    hW.look_b ⟨by have := hok.pa0; omega, by have := hok.pa1; omega⟩ ⟨by omega, by have := offN_lt (x := x) hva; omega⟩
  unfold pgv kyv at hc
  have HC := Aside0.mk hc
  have HSF := Aside0.mk hsf
  have HLK := Aside0.mk hlk
  have HM := Aside0.mk h
  clear hc hsf hlk hsp h hw hh hok hx
  go_enter Try.func21, Try.ntmps21
  go_wp2_with fail
  refine HC.out.mono ?_
  rintro e w1 ⟨rfl, hb⟩
  have hk8 := blk_alloc (blk_new w1 (.cells #[.int .u64 x.f1.f0, .int .i64 x.f1.f1, .int .u64 x.f1.f2, .bool x.f1.f3.f0, .bool x.f1.f3.f1, .bool x.f1.f3.f2, .bool x.f1.f3.f3, .bool x.f1.f3.f4, .bool x.f1.f3.f5, .bool x.f1.f4, .bool x.f1.f5] 50)) (.cells #[.int .i64 x.f0, .int .u64 x.f1.f0, .int .i64 x.f1.f1] 84)
  have hbf := (hb.alloc hb.size (.cells #[.int .u64 x.f1.f0, .int .i64 x.f1.f1, .int .u64 x.f1.f2, .bool x.f1.f3.f0, .bool x.f1.f3.f1, .bool x.f1.f3.f2, .bool x.f1.f3.f3, .bool x.f1.f3.f4, .bool x.f1.f3.f5, .bool x.f1.f4, .bool x.f1.f5] 50)).alloc (by have := hb.size; simp; omega) (.cells #[.int .i64 x.f0, .int .u64 x.f1.f0, .int .i64 x.f1.f1] 84)
  have HK := Aside0.mk hk8
  have HBF := Aside0.mk hbf
  clear hb hk8 hbf HC
  go_wp2_with fail
  generalize (w1.alloc (.cells #[.int .u64 x.f1.f0, .int .i64 x.f1.f1, .int .u64 x.f1.f2, .bool x.f1.f3.f0, .bool x.f1.f3.f1, .bool x.f1.f3.f2, .bool x.f1.f3.f3, .bool x.f1.f3.f4, .bool x.f1.f3.f5, .bool x.f1.f4, .bool x.f1.f5] 50)).alloc (.cells #[.int .i64 x.f0, .int .u64 x.f1.f0, .int .i64 x.f1.f1] 84) = w2 at *
  generalize w1.heap.size = g at *
  have HH := Aside0.mk (show ∀ W, Below w2.heap.size w2 W → (W.cell? ⟨B, 2, none⟩ = some (.map (some bm)) ∧ W.cell? ⟨g, 0, none⟩ = some (.int .u64 x.f1.f0) ∧ W.cell? ⟨g, 1, none⟩ = some (.int .i64 x.f1.f1) ∧ W.cell? ⟨g, 2, none⟩ = some (.int .u64 x.f1.f2) ∧ W.cell? ⟨g, 3, none⟩ = some (.bool x.f1.f3.f0) ∧ W.cell? ⟨g, 4, none⟩ = some (.bool x.f1.f3.f1) ∧ W.cell? ⟨g, 5, none⟩ = some (.bool x.f1.f3.f2) ∧ W.cell? ⟨g, 6, none⟩ = some (.bool x.f1.f3.f3) ∧ W.cell? ⟨g, 7, none⟩ = some (.bool x.f1.f3.f4) ∧ W.cell? ⟨g, 8, none⟩ = some (.bool x.f1.f3.f5) ∧ W.cell? ⟨g, 9, none⟩ = some (.bool x.f1.f4) ∧ W.cell? ⟨g, 10, none⟩ = some (.bool x.f1.f5) ∧ (Instr.lookup 73 (.map (some bm)) (.agg #[.int .i64 x.f1.f2, .int .u64 ((offN x va : Nat) : Int)]) false).run Try.prog W = .ok (.int .u8 (getB s.by_ x.f1.f2 (offN x va))) W ∧ Aside0 (Below w.heap.size w W)) from fun W hb => ⟨cell_up (below_step HBF.out hb) HM.out.cells.2.2.1, cell_up hb ((blk_cell HK.out 0).trans rfl), cell_up hb ((blk_cell HK.out 1).trans rfl), cell_up hb ((blk_cell HK.out 2).trans rfl), cell_up hb ((blk_cell HK.out 3).trans rfl), cell_up hb ((blk_cell HK.out 4).trans rfl), cell_up hb ((blk_cell HK.out 5).trans rfl), cell_up hb ((blk_cell HK.out 6).trans rfl), cell_up hb ((blk_cell HK.out 7).trans rfl), cell_up hb ((blk_cell HK.out 8).trans rfl), cell_up hb ((blk_cell HK.out 9).trans rfl), cell_up hb ((blk_cell HK.out 10).trans rfl), HLK.out W (HM.out.below (below_step HBF.out hb)), ⟨below_step HBF.out hb⟩⟩)
  go_region_held3 (fun W => W.cell? ⟨B, 2, none⟩ = some (.map (some bm)) ∧ W.cell? ⟨g, 0, none⟩ = some (.int .u64 x.f1.f0) ∧ W.cell? ⟨g, 1, none⟩ = some (.int .i64 x.f1.f1) ∧ W.cell? ⟨g, 2, none⟩ = some (.int .u64 x.f1.f2) ∧ W.cell? ⟨g, 3, none⟩ = some (.bool x.f1.f3.f0) ∧ W.cell? ⟨g, 4, none⟩ = some (.bool x.f1.f3.f1) ∧ W.cell? ⟨g, 5, none⟩ = some (.bool x.f1.f3.f2) ∧ W.cell? ⟨g, 6, none⟩ = some (.bool x.f1.f3.f3) ∧ W.cell? ⟨g, 7, none⟩ = some (.bool x.f1.f3.f4) ∧ W.cell? ⟨g, 8, none⟩ = some (.bool x.f1.f3.f5) ∧ W.cell? ⟨g, 9, none⟩ = some (.bool x.f1.f4) ∧ W.cell? ⟨g, 10, none⟩ = some (.bool x.f1.f5) ∧ (Instr.lookup 73 (.map (some bm)) (.agg #[.int .i64 x.f1.f2, .int .u64 ((offN x va : Nat) : Int)]) false).run Try.prog W = .ok (.int .u8 (getB s.by_ x.f1.f2 (offN x va))) W ∧ Aside0 (Below w.heap.size w W))
    ((refine HH.out _ ?_; first | exact (Below.refl _ _).drew | exact (Below.refl _ _).drew.trans hbel | trace_state))
    ((go_at_call 52; refine (model_spotOf.calls x.f1.f0 x.f1.f1 x.f1.f2 x.f1.f3.f0 x.f1.f3.f1 x.f1.f3.f2 x.f1.f3.f3 x.f1.f3.f4 x.f1.f3.f5 x.f1.f4 x.f1.f5 va _ _ _ HSF.out).mono ?_; rintro e w' ⟨rfl, hbel⟩))
  all_goals
    rename_i hS
    have hbf := hS.2.2.2.2.2.2.2.2.2.2.2.2.2.out
    clear hS
    (try simp only [Exit.inBlock, Exit.then])
    go_wp2_with fail
    go_ret2
    exact ⟨rfl, hbf⟩
end
end Go.Proofs.Ytalmemcidbmdgaa.PM

/- A model (layer 16): the closures of clear and protect: the walks. -/
set_option linter.unusedVariables false
set_option linter.unusedSimpArgs false
namespace Go.Proofs.Ytalmemcidbmdgaa.PM
open Go.RowKit Go.Proofs.YtalmemcidbmdgaaW.PrintWords Go.Proofs.YtalmemcidbmdgaaW.PrintLast Go.Proofs.YtalmemcidbmdgaaW.PrintMore Go.Proofs.Ytalmemcidbmdgaa.PageG
attribute [local go_sem] max2_int min2_int max_two min_two max_three min_three max_four min_four   -- for this text's walks alone
theorem run_mapUpdate {P : Program} {W W' : World} {ev : Operand → Value} {o : Oper} {m k v : Operand} {T : TypeId} {vm vk vv : Value} (ho : o.op = .mapUpdate T m k v) (hm : ev m = vm) (hk : ev k = vk) (hv : ev v = vv)
    (h : (Instr.mapUpdate T vm vk vv).run P W = .ok () W') : (execOp ev o).run P W = .ok .skip W' := by
  subst hm hk hv
  simp [execOp, ho, h, Result.andThen]
section
variable {w w' : World} {B pm bm : Nat} {s : MS}
def SetP (w : World) (B pm bm : Nat) (s : MS) (e : Ending) (w' : World) : Prop := e = .returned (.tuple #[]) ∧ Mo w' B pm bm s ∧ Mv [B, pm, bm] w w'
set_option maxHeartbeats 8000000 in
set_option maxRecDepth 100000 in
theorem clr_calls (h : Mo w B pm bm s) (hw : WfL s.L) {i : Nat} {x : Ent} (hi : s.L[i]? = some x) (g : Nat) (hg : w.cell? ⟨g, 0, none⟩ = some (.pointer (some ⟨B, 0, none⟩))) :
    Calls Try.prog 75 #[.agg #[.int .i64 x.f0, .int .u64 x.f1.f0, .int .i64 x.f1.f1], .agg #[.int .u64 x.f1.f0, .int .i64 x.f1.f1, .int .u64 x.f1.f2, .bool x.f1.f3.f0, .bool x.f1.f3.f1, .bool x.f1.f3.f2, .bool x.f1.f3.f3, .bool x.f1.f3.f4, .bool x.f1.f3.f5, .bool x.f1.f4, .bool x.f1.f5], .pointer (some ⟨g, 0, none⟩)] w
      (SetP w B pm bm { s with L := s.L.set i ⟨x.f0, { x.f1 with f4 := false, f5 := false }⟩ }) := by
  have HM := Aside0.mk h
  have HW := Aside0.mk hw
  have HI := Aside0.mk hi
  have hgl : g < w.heap.size := World.block_lt_of_cell? _ _ hg
  have HG := Aside0.mk hg
  clear h hw hi hg
  obtain ⟨D, hD⟩ : ∃ D, w.heap.size = D := ⟨_, rfl⟩
  go_enter Try.func75, Try.ntmps75
  go_wp2_with fail
  have hk := blk_alloc (blk_new w (.cells #[.int .i64 x.f0, .int .u64 x.f1.f0, .int .i64 x.f1.f1] 84)) (.cells #[.int .u64 x.f1.f0, .int .i64 x.f1.f1, .int .u64 x.f1.f2, .bool x.f1.f3.f0, .bool x.f1.f3.f1, .bool x.f1.f3.f2, .bool x.f1.f3.f3, .bool x.f1.f3.f4, .bool x.f1.f3.f5, .bool false, .bool false] 50)
  have hp := blk_new (w.alloc (.cells #[.int .i64 x.f0, .int .u64 x.f1.f0, .int .i64 x.f1.f1] 84)) (.cells #[.int .u64 x.f1.f0, .int .i64 x.f1.f1, .int .u64 x.f1.f2, .bool x.f1.f3.f0, .bool x.f1.f3.f1, .bool x.f1.f3.f2, .bool x.f1.f3.f3, .bool x.f1.f3.f4, .bool x.f1.f3.f5, .bool false, .bool false] 50)
  rw [World.size_alloc] at hp
  rw [hD] at hk hp
  have hb : Below w.heap.size w ((w.alloc (.cells #[.int .i64 x.f0, .int .u64 x.f1.f0, .int .i64 x.f1.f1] 84)).alloc (.cells #[.int .u64 x.f1.f0, .int .i64 x.f1.f1, .int .u64 x.f1.f2, .bool x.f1.f3.f0, .bool x.f1.f3.f1, .bool x.f1.f3.f2, .bool x.f1.f3.f3, .bool x.f1.f3.f4, .bool x.f1.f3.f5, .bool false, .bool false] 50)) := ((Below.refl _ _).alloc (Nat.le_refl _) _).alloc (by simp) _
  generalize (w.alloc (.cells #[.int .i64 x.f0, .int .u64 x.f1.f0, .int .i64 x.f1.f1] 84)).alloc (.cells #[.int .u64 x.f1.f0, .int .i64 x.f1.f1, .int .u64 x.f1.f2, .bool x.f1.f3.f0, .bool x.f1.f3.f1, .bool x.f1.f3.f2, .bool x.f1.f3.f3, .bool x.f1.f3.f4, .bool x.f1.f3.f5, .bool false, .bool false] 50) = w2 at *
  obtain ⟨k0, k1, k2⟩ := cells3 hk
  obtain ⟨p0, p1, p2, p3, p4, p5, p6, p7, p8, p9, p10⟩ := cells11 hp
  have hm2 := HM.out.below hb
  have m0 := cell_up hb HG.out
  have m1 := hm2.cells.2.1
  obtain ⟨o, hrun, hmo⟩ := (hm2.below (Below.refl _ w2).drew).set_page HW.out HI.out { x.f1 with f4 := false, f5 := false } rfl rfl
  have HMO := Aside0.mk hmo
  have HB := Aside0.mk hb
  unfold kyv pgv at hrun
  clear hm2 hmo hb hk hp
  refine start_ (n := 7) (S := fun w' => w'.cell? ⟨g, 0, none⟩ = some (.pointer (some ⟨B, 0, none⟩)) ∧ w'.cell? ⟨B, 1, none⟩ = some (.map (some pm)) ∧ w'.cell? ⟨D, 0, none⟩ = some (.int .i64 x.f0) ∧ w'.cell? ⟨D, 1, none⟩ = some (.int .u64 x.f1.f0) ∧ w'.cell? ⟨D, 2, none⟩ = some (.int .i64 x.f1.f1) ∧ w'.cell? ⟨D + 1, 0, none⟩ = some (.int .u64 x.f1.f0) ∧ w'.cell? ⟨D + 1, 1, none⟩ = some (.int .i64 x.f1.f1) ∧ w'.cell? ⟨D + 1, 2, none⟩ = some (.int .u64 x.f1.f2) ∧ w'.cell? ⟨D + 1, 3, none⟩ = some (.bool x.f1.f3.f0) ∧ w'.cell? ⟨D + 1, 4, none⟩ = some (.bool x.f1.f3.f1) ∧ w'.cell? ⟨D + 1, 5, none⟩ = some (.bool x.f1.f3.f2) ∧ w'.cell? ⟨D + 1, 6, none⟩ = some (.bool x.f1.f3.f3) ∧ w'.cell? ⟨D + 1, 7, none⟩ = some (.bool x.f1.f3.f4) ∧ w'.cell? ⟨D + 1, 8, none⟩ = some (.bool x.f1.f3.f5) ∧ w'.cell? ⟨D + 1, 9, none⟩ = some (.bool false) ∧ w'.cell? ⟨D + 1, 10, none⟩ = some (.bool false)) (ds := [6]) #[false, false, false, false, false, false, false] (by kernel_rfl) rfl rfl ⟨m0, m1, k0, k1, k2, p0, p1, p2, p3, p4, p5, p6, p7, p8, p9, p10⟩ (fun hHeld => ?_)
  refine take_ (i := 0) (N := some 7) (v := ?_) (a' := ?_) #[true, false, false, false, false, false, false] rfl rfl (by kernel_rfl) (fun _ _ _ h => h) (Or.inl ⟨by rfl, ?_⟩) hHeld ?_ ?_
  rotate_left
  · rintro w' ⟨s0, s1, s2, s3, s4, s5, s6, s7, s8, s9, s10, s11, s12, s13, s14, s15⟩
    go_simp
    with_reducible rfl
  rotate_left
  · simp only [Act.put, List.setIfInBounds_toArray, List.set_cons_zero, List.set_cons_succ, i64_w, i32_w]
    rfl
  refine pure_ (i := 1) (N := some 8) (v := ?_) (a' := ?_) #[true, true, false, false, false, false, false] rfl rfl (by kernel_rfl) (fun _ _ _ h => h) (Or.inl ⟨by rfl, ?_⟩) ?_ ?_
  rotate_left
  · intro w'
    go_simp
    with_reducible rfl
  rotate_left
  · simp only [Act.put, List.setIfInBounds_toArray, List.set_cons_zero, List.set_cons_succ, i64_w, i32_w]
    rfl
  refine pure_ (i := 2) (N := some 9) (v := ?_) (a' := ?_) #[true, true, true, false, false, false, false] rfl rfl (by kernel_rfl) (fun _ _ _ h => h) (Or.inl ⟨by rfl, ?_⟩) ?_ ?_
  rotate_left
  · intro w'
    go_simp
    with_reducible rfl
  rotate_left
  · simp only [Act.put, List.setIfInBounds_toArray, List.set_cons_zero, List.set_cons_succ, i64_w, i32_w]
    rfl
  refine take_ (i := 3) (N := some 10) (v := ?_) (a' := ?_) #[true, true, true, true, false, false, false] rfl rfl (by kernel_rfl) (fun _ _ _ h => h) (Or.inl ⟨by rfl, ?_⟩) hHeld ?_ ?_
  rotate_left
  · rintro w' ⟨s0, s1, s2, s3, s4, s5, s6, s7, s8, s9, s10, s11, s12, s13, s14, s15⟩
    go_simp
    with_reducible rfl
  rotate_left
  · simp only [Act.put, List.setIfInBounds_toArray, List.set_cons_zero, List.set_cons_succ, i64_w, i32_w]
    rfl
  refine take_ (i := 4) (N := some 11) (v := ?_) (a' := ?_) #[true, true, true, true, true, false, false] rfl rfl (by kernel_rfl) (fun _ _ _ h => h) (Or.inl ⟨by rfl, ?_⟩) hHeld ?_ ?_
  rotate_left
  · rintro w' ⟨s0, s1, s2, s3, s4, s5, s6, s7, s8, s9, s10, s11, s12, s13, s14, s15⟩
    go_simp
    with_reducible rfl
  rotate_left
  · simp only [Act.put, List.setIfInBounds_toArray, List.set_cons_zero, List.set_cons_succ, i64_w, i32_w]
    rfl
  refine take_ (i := 5) (N := some 12) (v := ?_) (a' := ?_) #[true, true, true, true, true, true, false] rfl rfl (by kernel_rfl) (fun _ _ _ h => h) (Or.inl ⟨by rfl, ?_⟩) hHeld ?_ ?_
  rotate_left
  · rintro w' ⟨s0, s1, s2, s3, s4, s5, s6, s7, s8, s9, s10, s11, s12, s13, s14, s15⟩
    go_simp
    with_reducible rfl
  rotate_left
  · simp only [Act.put, List.setIfInBounds_toArray, List.set_cons_zero, List.set_cons_succ, i64_w, i32_w]
    rfl
  refine last_ (i := 6) (N := none) #[true, true, true, true, true, true, true] rfl rfl (by kernel_rfl) (by decide) (fun K hK => ?_)
  refine skip_ (w1 := _) (by rfl) rfl (run_mapUpdate rfl rfl rfl rfl hrun) ?_
  refine hK.out _ _ ?_
  clear hK K
  refine done_ (by kernel_rfl) ?_
  (try simp only [Exit.inBlock, Exit.then])
  go_wp2_with fail
  go_end0
  exact ⟨rfl, HMO.out, (Mv.of_below (HB.out.drew)).setBlock (.inl (by simp)) o⟩
set_option maxHeartbeats 8000000 in
set_option maxRecDepth 100000 in
theorem pro_calls (h : Mo w B pm bm s) (a : Atr) (hw : WfL s.L) {i : Nat} {x : Ent} (hi : s.L[i]? = some x) (g1 g : Nat) (ha : w.cell? ⟨g1, 8, none⟩ = some (.bool a.f0) ∧ w.cell? ⟨g1, 9, none⟩ = some (.bool a.f1) ∧ w.cell? ⟨g1, 10, none⟩ = some (.bool a.f2) ∧ w.cell? ⟨g1, 11, none⟩ = some (.bool a.f3) ∧ w.cell? ⟨g1, 12, none⟩ = some (.bool a.f4) ∧ w.cell? ⟨g1, 13, none⟩ = some (.bool a.f5)) (hg : w.cell? ⟨g, 0, none⟩ = some (.pointer (some ⟨B, 0, none⟩))) :
    Calls Try.prog 74 #[.agg #[.int .i64 x.f0, .int .u64 x.f1.f0, .int .i64 x.f1.f1], .agg #[.int .u64 x.f1.f0, .int .i64 x.f1.f1, .int .u64 x.f1.f2, .bool x.f1.f3.f0, .bool x.f1.f3.f1, .bool x.f1.f3.f2, .bool x.f1.f3.f3, .bool x.f1.f3.f4, .bool x.f1.f3.f5, .bool x.f1.f4, .bool x.f1.f5], .pointer (some ⟨g1, 0, none⟩), .pointer (some ⟨g, 0, none⟩)] w
      (SetP w B pm bm { s with L := s.L.set i ⟨x.f0, { x.f1 with f3 := a }⟩ }) := by
  have HM := Aside0.mk h
  have HW := Aside0.mk hw
  have HI := Aside0.mk hi
  have hgl : g < w.heap.size := World.block_lt_of_cell? _ _ hg
  obtain ⟨a0, a1, a2, a3, a4, a5⟩ := ha
  have hal : g1 < w.heap.size := World.block_lt_of_cell? _ _ a0
  have HG := Aside0.mk hg
  clear h hw hi hg
  obtain ⟨D, hD⟩ : ∃ D, w.heap.size = D := ⟨_, rfl⟩
  have hb0 : Below w.heap.size w ((w.alloc (.cells #[.int .i64 x.f0, .int .u64 x.f1.f0, .int .i64 x.f1.f1] 84)).alloc (.cells #[.int .u64 x.f1.f0, .int .i64 x.f1.f1, .int .u64 x.f1.f2, .bool x.f1.f3.f0, .bool x.f1.f3.f1, .bool x.f1.f3.f2, .bool x.f1.f3.f3, .bool x.f1.f3.f4, .bool x.f1.f3.f5, .bool x.f1.f4, .bool x.f1.f5] 50)) := ((Below.refl _ _).alloc (Nat.le_refl _) _).alloc (by simp) _
  replace a0 := cell_up hb0 a0
  replace a1 := cell_up hb0 a1
  replace a2 := cell_up hb0 a2
  replace a3 := cell_up hb0 a3
  replace a4 := cell_up hb0 a4
  replace a5 := cell_up hb0 a5
  clear hb0
  go_enter Try.func74, Try.ntmps74
  go_wp2_with fail
  clear a0 a1 a2 a3 a4 a5
  have hk := blk_alloc (blk_new w (.cells #[.int .i64 x.f0, .int .u64 x.f1.f0, .int .i64 x.f1.f1] 84)) (.cells #[.int .u64 x.f1.f0, .int .i64 x.f1.f1, .int .u64 x.f1.f2, .bool a.f0, .bool a.f1, .bool a.f2, .bool a.f3, .bool a.f4, .bool a.f5, .bool x.f1.f4, .bool x.f1.f5] 50)
  have hp := blk_new (w.alloc (.cells #[.int .i64 x.f0, .int .u64 x.f1.f0, .int .i64 x.f1.f1] 84)) (.cells #[.int .u64 x.f1.f0, .int .i64 x.f1.f1, .int .u64 x.f1.f2, .bool a.f0, .bool a.f1, .bool a.f2, .bool a.f3, .bool a.f4, .bool a.f5, .bool x.f1.f4, .bool x.f1.f5] 50)
  rw [World.size_alloc] at hp
  rw [hD] at hk hp
  have hb : Below w.heap.size w ((w.alloc (.cells #[.int .i64 x.f0, .int .u64 x.f1.f0, .int .i64 x.f1.f1] 84)).alloc (.cells #[.int .u64 x.f1.f0, .int .i64 x.f1.f1, .int .u64 x.f1.f2, .bool a.f0, .bool a.f1, .bool a.f2, .bool a.f3, .bool a.f4, .bool a.f5, .bool x.f1.f4, .bool x.f1.f5] 50)) := ((Below.refl _ _).alloc (Nat.le_refl _) _).alloc (by simp) _
  generalize (w.alloc (.cells #[.int .i64 x.f0, .int .u64 x.f1.f0, .int .i64 x.f1.f1] 84)).alloc (.cells #[.int .u64 x.f1.f0, .int .i64 x.f1.f1, .int .u64 x.f1.f2, .bool a.f0, .bool a.f1, .bool a.f2, .bool a.f3, .bool a.f4, .bool a.f5, .bool x.f1.f4, .bool x.f1.f5] 50) = w2 at *
  obtain ⟨k0, k1, k2⟩ := cells3 hk
  obtain ⟨p0, p1, p2, p3, p4, p5, p6, p7, p8, p9, p10⟩ := cells11 hp
  have hm2 := HM.out.below hb
  have m0 := cell_up hb HG.out
  have m1 := hm2.cells.2.1
  obtain ⟨o, hrun, hmo⟩ := (hm2.below (Below.refl _ w2).drew).set_page HW.out HI.out { x.f1 with f3 := a } rfl rfl
  have HMO := Aside0.mk hmo
  have HB := Aside0.mk hb
  unfold kyv pgv at hrun
  clear hm2 hmo hb hk hp
  refine start_ (n := 7) (S := fun w' => w'.cell? ⟨g, 0, none⟩ = some (.pointer (some ⟨B, 0, none⟩)) ∧ w'.cell? ⟨B, 1, none⟩ = some (.map (some pm)) ∧ w'.cell? ⟨D, 0, none⟩ = some (.int .i64 x.f0) ∧ w'.cell? ⟨D, 1, none⟩ = some (.int .u64 x.f1.f0) ∧ w'.cell? ⟨D, 2, none⟩ = some (.int .i64 x.f1.f1) ∧ w'.cell? ⟨D + 1, 0, none⟩ = some (.int .u64 x.f1.f0) ∧ w'.cell? ⟨D + 1, 1, none⟩ = some (.int .i64 x.f1.f1) ∧ w'.cell? ⟨D + 1, 2, none⟩ = some (.int .u64 x.f1.f2) ∧ w'.cell? ⟨D + 1, 3, none⟩ = some (.bool a.f0) ∧ w'.cell? ⟨D + 1, 4, none⟩ = some (.bool a.f1) ∧ w'.cell? ⟨D + 1, 5, none⟩ = some (.bool a.f2) ∧ w'.cell? ⟨D + 1, 6, none⟩ = some (.bool a.f3) ∧ w'.cell? ⟨D + 1, 7, none⟩ = some (.bool a.f4) ∧ w'.cell? ⟨D + 1, 8, none⟩ = some (.bool a.f5) ∧ w'.cell? ⟨D + 1, 9, none⟩ = some (.bool x.f1.f4) ∧ w'.cell? ⟨D + 1, 10, none⟩ = some (.bool x.f1.f5)) (ds := [6]) #[false, false, false, false, false, false, false] (by kernel_rfl) rfl rfl ⟨m0, m1, k0, k1, k2, p0, p1, p2, p3, p4, p5, p6, p7, p8, p9, p10⟩ (fun hHeld => ?_)
  refine take_ (i := 0) (N := some 9) (v := ?_) (a' := ?_) #[true, false, false, false, false, false, false] rfl rfl (by kernel_rfl) (fun _ _ _ h => h) (Or.inl ⟨by rfl, ?_⟩) hHeld ?_ ?_
  rotate_left
  · rintro w' ⟨s0, s1, s2, s3, s4, s5, s6, s7, s8, s9, s10, s11, s12, s13, s14, s15⟩
    go_simp
    with_reducible rfl
  rotate_left
  · simp only [Act.put, List.setIfInBounds_toArray, List.set_cons_zero, List.set_cons_succ, i64_w, i32_w]
    rfl
  refine pure_ (i := 1) (N := some 10) (v := ?_) (a' := ?_) #[true, true, false, false, false, false, false] rfl rfl (by kernel_rfl) (fun _ _ _ h => h) (Or.inl ⟨by rfl, ?_⟩) ?_ ?_
  rotate_left
  · intro w'
    go_simp
    with_reducible rfl
  rotate_left
  · simp only [Act.put, List.setIfInBounds_toArray, List.set_cons_zero, List.set_cons_succ, i64_w, i32_w]
    rfl
  refine pure_ (i := 2) (N := some 11) (v := ?_) (a' := ?_) #[true, true, true, false, false, false, false] rfl rfl (by kernel_rfl) (fun _ _ _ h => h) (Or.inl ⟨by rfl, ?_⟩) ?_ ?_
  rotate_left
  · intro w'
    go_simp
    with_reducible rfl
  rotate_left
  · simp only [Act.put, List.setIfInBounds_toArray, List.set_cons_zero, List.set_cons_succ, i64_w, i32_w]
    rfl
  refine take_ (i := 3) (N := some 12) (v := ?_) (a' := ?_) #[true, true, true, true, false, false, false] rfl rfl (by kernel_rfl) (fun _ _ _ h => h) (Or.inl ⟨by rfl, ?_⟩) hHeld ?_ ?_
  rotate_left
  · rintro w' ⟨s0, s1, s2, s3, s4, s5, s6, s7, s8, s9, s10, s11, s12, s13, s14, s15⟩
    go_simp
    with_reducible rfl
  rotate_left
  · simp only [Act.put, List.setIfInBounds_toArray, List.set_cons_zero, List.set_cons_succ, i64_w, i32_w]
    rfl
  refine take_ (i := 4) (N := some 13) (v := ?_) (a' := ?_) #[true, true, true, true, true, false, false] rfl rfl (by kernel_rfl) (fun _ _ _ h => h) (Or.inl ⟨by rfl, ?_⟩) hHeld ?_ ?_
  rotate_left
  · rintro w' ⟨s0, s1, s2, s3, s4, s5, s6, s7, s8, s9, s10, s11, s12, s13, s14, s15⟩
    go_simp
    with_reducible rfl
  rotate_left
  · simp only [Act.put, List.setIfInBounds_toArray, List.set_cons_zero, List.set_cons_succ, i64_w, i32_w]
    rfl
  refine take_ (i := 5) (N := some 14) (v := ?_) (a' := ?_) #[true, true, true, true, true, true, false] rfl rfl (by kernel_rfl) (fun _ _ _ h => h) (Or.inl ⟨by rfl, ?_⟩) hHeld ?_ ?_
  rotate_left
  · rintro w' ⟨s0, s1, s2, s3, s4, s5, s6, s7, s8, s9, s10, s11, s12, s13, s14, s15⟩
    go_simp
    with_reducible rfl
  rotate_left
  · simp only [Act.put, List.setIfInBounds_toArray, List.set_cons_zero, List.set_cons_succ, i64_w, i32_w]
    rfl
  refine last_ (i := 6) (N := none) #[true, true, true, true, true, true, true] rfl rfl (by kernel_rfl) (by decide) (fun K hK => ?_)
  refine skip_ (w1 := _) (by rfl) rfl (run_mapUpdate rfl rfl rfl rfl hrun) ?_
  refine hK.out _ _ ?_
  clear hK K
  refine done_ (by kernel_rfl) ?_
  (try simp only [Exit.inBlock, Exit.then])
  go_wp2_with fail
  go_end0
  exact ⟨rfl, HMO.out, (Mv.of_below (HB.out.drew)).setBlock (.inl (by simp)) o⟩
end
end Go.Proofs.Ytalmemcidbmdgaa.PM


/- A model (layer 16): whether a page meets one of some: the closure of put, slices.IndexFunc, slices.ContainsFunc: the walks. -/
set_option linter.unusedVariables false
set_option linter.unusedSimpArgs false
namespace Go.Proofs.Ytalmemcidbmdgaa.PM
open Go.RowKit Go.Proofs.YtalmemcidbmdgaaW.PrintWords Go.Proofs.YtalmemcidbmdgaaW.PrintLast Go.Proofs.YtalmemcidbmdgaaW.PrintMore Go.Proofs.Ytalmemcidbmdgaa.PageG
attribute [local go_sem] max2_int min2_int max_two min_two max_three min_three max_four min_four   -- for this text's walks alone
structure OkP (p : Pg) : Prop where
  va : p.f0 = (p.f0.toNat : Int)
  va1 : p.f0.toNat < 2 ^ 64
  sz : p.f1 = (p.f1.toNat : Int)
  sz1 : p.f1.toNat < 4
theorem OkE.p {x : Ent} (h : OkE x) : OkP x.f1 := ⟨h.va, h.va1, h.sz, h.sz1⟩
def meetB (p q : Pg) : Bool := decide (bs p.f0.toNat (max p.f1.toNat q.f1.toNat) = bs q.f0.toNat (max p.f1.toNat q.f1.toNat))
theorem meet_f {p q : Pg} (hp : OkP p) (hq : OkP q) : page_Meet.f p.f0 p.f1 q.f0 q.f1 = some (meetB p q) := by
  rw [hp.va, hp.sz, hq.va, hq.sz, meet_p _ _ _ _ hp.va1 hq.va1 hp.sz1 hq.sz1]
  rfl
set_option maxHeartbeats 4000000 in
set_option maxRecDepth 100000 in
theorem meets_calls (w : World) (p q : Pg) (hp : OkP p) (hq : OkP q) (g : Nat) (hg : w.heap[g]? = some (.cells #[.int .u64 p.f0, .int .i64 p.f1, .int .u64 p.f2, .bool p.f3.f0, .bool p.f3.f1, .bool p.f3.f2, .bool p.f3.f3, .bool p.f3.f4, .bool p.f3.f5, .bool p.f4, .bool p.f5] 50 (0, 0))) :
    Calls Try.prog 90 #[.agg #[.int .u64 q.f0, .int .i64 q.f1, .int .u64 q.f2, .bool q.f3.f0, .bool q.f3.f1, .bool q.f3.f2, .bool q.f3.f3, .bool q.f3.f4, .bool q.f3.f5, .bool q.f4, .bool q.f5], .pointer (some ⟨g, 0, none⟩)] w fun e w' => e = .returned (.bool (meetB p q)) ∧ Below w.heap.size w w' := by
  have hf := Aside0.mk (meet_f hp hq)
  obtain ⟨c0, c1, -⟩ := cells11 hg
  have hgl := Nat.ne_of_lt (blk_lt hg)
  have hgl2 := blk_lt hg
  clear hp hq hg
  generalize meetB p q = r at hf ⊢
  go_enter Try.func90, Try.ntmps90
  go_wp2_with fail
  refine (page_Meet.calls p.f0 p.f1 q.f0 q.f1 r _ hf.out).mono ?_
  rintro e w' ⟨rfl, hb⟩
  have hbf := ((Below.refl _ w).alloc (Nat.le_refl _) (.cells #[.int .u64 q.f0, .int .i64 q.f1, .int .u64 q.f2, .bool q.f3.f0, .bool q.f3.f1, .bool q.f3.f2, .bool q.f3.f3, .bool q.f3.f4, .bool q.f3.f5, .bool q.f4, .bool q.f5] 50)).trans (hb.mono (by simp))
  clear hb
  go_wp2_with fail
  go_ret
  exact ⟨rfl, hbf⟩
/-- slices.IndexFunc, by that closure. -/
def IdxP (l : List Pg) (p : Pg) (w : World) (e : Ending) (w' : World) : Prop := ∃ r : Int, e = .returned (.int .i64 r) ∧ decide (0 ≤ r) = l.any (meetB p) ∧ Below w.heap.size w w'
set_option maxHeartbeats 8000000 in
set_option maxRecDepth 100000 in
theorem idx_calls (w : World) (p : Pg) (hp : OkP p) (g : Nat) (hg : w.heap[g]? = some (.cells #[.int .u64 p.f0, .int .i64 p.f1, .int .u64 p.f2, .bool p.f3.f0, .bool p.f3.f1, .bool p.f3.f2, .bool p.f3.f3, .bool p.f3.f4, .bool p.f3.f5, .bool p.f4, .bool p.f5] 50 (0, 0)))
    (A : Option Addr) (c : Nat) (l : List Pg) (hC : Kd.C k50 w A l.length l) (hl : l.length ≤ 100000) (hok : ∀ q ∈ l, OkP q) :
    Calls Try.prog 112 #[.slice A l.length c, .func (.func 90) #[] #[.pointer (some ⟨g, 0, none⟩)]] w (IdxP l p w) := by
  have HC := Aside0.mk hC
  have HG := Aside0.mk hg
  have HOK := Aside0.mk hok
  have HP := Aside0.mk hp
  clear hC hg hok hp
  go_enter Try.func112, Try.ntmps112
  go_wp2_with fail
  go_loopg [8] l.length (fun k iv wr => ∃ i : Nat, iv = .int .i64 (i : Int) ∧ i + k = l.length ∧ Aside0 (∀ q ∈ l.take i, meetB p q = false) ∧ Aside0 (Below w.heap.size w wr))
  case atStart => exact ⟨0, rfl, by omega, ⟨by simp⟩, ⟨Below.refl _ _⟩⟩
  case round =>
    obtain ⟨i, rfl, hik, HT, HB⟩ := hrel
    have HIK := Aside0.mk hik
    have hil0 : i ≤ l.length := by omega
    clear hik
    by_cases hil : i < l.length
    · have hi0 : (0 : Int) ≤ (i : Int) := by omega
      have hi1 : (i : Int) < (l.length : Int) := by omega
      obtain ⟨ad, hA, y0, y1, y2, y3, y4, y5, y6, y7, y8, y9, y10⟩ := at_T50 (Kd.C_below HC.out HB.out) (i : Int) hi0 hi1
      subst hA
      have hq : rd_T50 l (i : Int) = l[i] := by simp [rd_T50, List.getD_eq_getElem?_getD, hil]
      rw [hq, Int.toNat_natCast] at y0 y1 y2 y3 y4 y5 y6 y7 y8 y9 y10
      have hmem := List.getElem_mem hil
      have htk := List.take_succ_eq_append_getElem hil
      generalize l[i] = q at y0 y1 y2 y3 y4 y5 y6 y7 y8 y9 y10 hmem htk
      have HMEM := Aside0.mk hmem
      have HTK := Aside0.mk htk
      clear hq hmem htk
      go_wp2_with fail
      refine (meets_calls wr p q HP.out (HOK.out q HMEM.out) g (blk_below HG.out HB.out)).mono ?_
      rintro e w2 ⟨rfl, hb2⟩
      have HB2 := Aside0.mk (below_step HB.out hb2)
      clear hb2 y0 y1 y2 y3 y4 y5 y6 y7 y8 y9 y10
      cases hz : meetB p q with
      | true =>
        have hany : l.any (meetB p) = true := List.any_eq_true.2 ⟨q, HMEM.out, hz⟩
        have HANY := Aside0.mk hany
        clear hany
        go_wp2_with fail
        go_ret
        exact ⟨(i : Int), rfl, by rw [HANY.out]; exact decide_eq_true hi0, HB2.out⟩
      | false =>
        have hwj : wrap64 ((i : Int) + 1) = (i : Int) + 1 := by unfold wrap64; omega
        have HZ := Aside0.mk hz
        go_wp2_with fail
        clear hwj
        have hjk := HIK.out
        go_roundg (gk - 1)
        case measure => omega
        case rel => exact ⟨i + 1, by push_cast; rfl, by omega, ⟨fun y hy => by rw [HTK.out, List.mem_append, List.mem_singleton] at hy; exact hy.elim (HT.out y) (fun e => e ▸ HZ.out)⟩, HB2⟩
    · have hi1 : ¬ (i : Int) < (l.length : Int) := by omega
      have hd : decide ((i : Int) < (l.length : Int)) = false := decide_eq_false hi1
      have hany : l.any (meetB p) = false := by
        rw [List.any_eq_false]
        intro q hq
        have := HT.out q (by rw [List.take_of_length_le (by omega)]; exact hq)
        simp [this]
      have HANY := Aside0.mk hany
      clear hany
      go_wp2_with fail
      go_ret
      exact ⟨-1, rfl, by rw [HANY.out]; rfl, HB.out⟩
set_option maxHeartbeats 4000000 in
set_option maxRecDepth 100000 in
theorem contains_calls (w : World) (p : Pg) (hp : OkP p) (g : Nat) (hg : w.heap[g]? = some (.cells #[.int .u64 p.f0, .int .i64 p.f1, .int .u64 p.f2, .bool p.f3.f0, .bool p.f3.f1, .bool p.f3.f2, .bool p.f3.f3, .bool p.f3.f4, .bool p.f3.f5, .bool p.f4, .bool p.f5] 50 (0, 0)))
    (A : Option Addr) (c : Nat) (l : List Pg) (hC : Kd.C k50 w A l.length l) (hl : l.length ≤ 100000) (hok : ∀ q ∈ l, OkP q) :
    Calls Try.prog 93 #[.slice A l.length c, .func (.func 90) #[] #[.pointer (some ⟨g, 0, none⟩)]] w fun e w' => e = .returned (.bool (l.any (meetB p))) ∧ Below w.heap.size w w' := by
  have hi := idx_calls w p hp g hg A c l hC hl hok
  have HI := Aside0.mk hi
  clear hi hp hg hC hok
  go_enter Try.func93, Try.ntmps93
  go_wp2_with fail
  refine HI.out.mono ?_
  rintro e w' ⟨r, rfl, hr, hb⟩
  have HR := Aside0.mk hr
  clear hr
  go_wp2_with fail
  go_ret
  exact ⟨by rw [← HR.out]; rfl, hb⟩
end Go.Proofs.Ytalmemcidbmdgaa.PM

/- slices.SortFunc at pages, by the shelf's contract: a rising permutation. -/
set_option linter.unusedVariables false
set_option linter.unusedSimpArgs false
namespace Go.Proofs.Ytalmemcidbmdgaa.PM
open Go.RowKit Go.Proofs.YtalmemcidbmdgaaW.PrintWords Go.Proofs.YtalmemcidbmdgaaW.PrintLast Go.Proofs.YtalmemcidbmdgaaW.PrintMore Go.Proofs.Ytalmemcidbmdgaa.PageG
attribute [local go_sem] max2_int min2_int max_two min_two max_three min_three max_four min_four   -- for this text's walks alone
open Go.Shelf Go.Lib Go.Sort
def sortL_ren : Go.Shelf.Ren := ⟨fun | 6 => 46 | 14 => 76 | 15 => 77 | 20 => 96 | 21 => 97 | 22 => 98 | 23 => 99 | 24 => 100 | 25 => 101 | 26 => 102 | 27 => 103 | 28 => 104 | 29 => 105 | 46 => 113 | 47 => 114 | 48 => 115 | 49 => 116 | 50 => 117 | 57 => 120 | n => n, fun | 0 => 0 | 3 => 3 | 4 => 4 | 5 => 5 | 9 => 9 | 22 => 46 | 24 => 50 | 25 => 87 | 39 => 124 | 45 => 142 | 46 => 143 | 50 => 147 | 53 => 150 | 55 => 23 | 66 => 159 | 70 => 163 | 76 => 168 | 77 => 169 | n => n, fun | n => n⟩
set_option maxRecDepth 100000 in
theorem sortL : Go.Proofs.SlLaysF0.n6 Try.prog sortL_ren := {
  mixed := by kernel_rfl
  f6 := ⟨Try.f46.name, by decide, Try.func46.trans (congrArg some (by kernel_rfl))⟩
  f14 := ⟨Try.f76.name, by decide, Try.func76.trans (congrArg some (by kernel_rfl))⟩
  f15 := Try.func77.trans (congrArg some (by kernel_rfl))
  f20 := ⟨Try.f96.name, by decide, Try.func96.trans (congrArg some (by kernel_rfl))⟩
  f21 := ⟨Try.f97.name, by decide, Try.func97.trans (congrArg some (by kernel_rfl))⟩
  f22 := ⟨Try.f98.name, by decide, Try.func98.trans (congrArg some (by kernel_rfl))⟩
  f23 := ⟨Try.f99.name, by decide, Try.func99.trans (congrArg some (by kernel_rfl))⟩
  f24 := ⟨Try.f100.name, by decide, Try.func100.trans (congrArg some (by kernel_rfl))⟩
  f25 := ⟨Try.f101.name, by decide, Try.func101.trans (congrArg some (by kernel_rfl))⟩
  f26 := ⟨Try.f102.name, by decide, Try.func102.trans (congrArg some (by kernel_rfl))⟩
  f27 := ⟨Try.f103.name, by decide, Try.func103.trans (congrArg some (by kernel_rfl))⟩
  f28 := Try.func104.trans (congrArg some (by kernel_rfl))
  f29 := Try.func105.trans (congrArg some (by kernel_rfl))
  f46 := ⟨Try.f113.name, by decide, Try.func113.trans (congrArg some (by kernel_rfl))⟩
  f47 := Try.func114.trans (congrArg some (by kernel_rfl))
  f48 := Try.func115.trans (congrArg some (by kernel_rfl))
  f49 := ⟨Try.f116.name, by decide, Try.func116.trans (congrArg some (by kernel_rfl))⟩
  f50 := ⟨Try.f117.name, by decide, Try.func117.trans (congrArg some (by kernel_rfl))⟩
  f57 := ⟨Try.f120.name, by decide, Try.func120.trans (congrArg some (by kernel_rfl))⟩
  t0 := Try.underlying0
  a0 := Try.isAgg0
  z0 := Try.sizeOf0
  v0 := Try.zeroValue0
  t3 := Try.underlying3
  a3 := Try.isAgg3
  z3 := Try.sizeOf3
  v3 := Try.zeroValue3
  t4 := Try.underlying4
  a4 := Try.isAgg4
  z4 := Try.sizeOf4
  v4 := Try.zeroValue4
  t5 := Try.underlying5
  a5 := Try.isAgg5
  z5 := Try.sizeOf5
  v5 := Try.zeroValue5
  t9 := Try.underlying9
  a9 := Try.isAgg9
  z9 := Try.sizeOf9
  v9 := Try.zeroValue9
  t22 := Try.underlying46
  a22 := Try.isAgg46
  z22 := Try.sizeOf46
  v22 := Try.zeroValue46
  t25 := Try.underlying87
  a25 := Try.isAgg87
  z25 := Try.sizeOf87
  v25 := Try.zeroValue87
  t39 := Try.underlying124
  a39 := Try.isAgg124
  z39 := Try.sizeOf124
  v39 := Try.zeroValue124
  t45 := Try.underlying142
  a45 := Try.isAgg142
  z45 := Try.sizeOf142
  v45 := Try.zeroValue142
  t46 := Try.underlying143
  a46 := Try.isAgg143
  z46 := Try.sizeOf143
  v46 := Try.zeroValue143
  t50 := Try.underlying147
  a50 := Try.isAgg147
  z50 := Try.sizeOf147
  v50 := Try.zeroValue147
  t53 := Try.underlying150
  a53 := Try.isAgg150
  z53 := Try.sizeOf150
  v53 := Try.zeroValue150
  t55 := Try.underlying23
  a55 := Try.isAgg23
  z55 := Try.sizeOf23
  v55 := Try.zeroValue23
  t66 := Try.underlying159
  a66 := Try.isAgg159
  z66 := Try.sizeOf159
  v66 := Try.zeroValue159
  t70 := Try.underlying163
  a70 := Try.isAgg163
  z70 := Try.sizeOf163
  v70 := Try.zeroValue163
  t76 := Try.underlying168
  a76 := Try.isAgg168
  z76 := Try.sizeOf168
  v76 := Try.zeroValue168
  t77 := Try.underlying169
  a77 := Try.isAgg169
  z77 := Try.sizeOf169
  v77 := Try.zeroValue169
}
instance : Inhabited Pg := ⟨z0⟩
def encPg (p : Pg) : List Value := [.int .u64 p.f0, .int .i64 p.f1, .int .u64 p.f2, .bool p.f3.f0, .bool p.f3.f1, .bool p.f3.f2, .bool p.f3.f3, .bool p.f3.f4, .bool p.f3.f5, .bool p.f4, .bool p.f5]
def cmpPg (p q : Pg) : Int := if p.f0 < q.f0 then -1 else if q.f0 < p.f0 then 1 else 0
theorem ltPg (p q : Pg) : ltOf cmpPg p q = decide (p.f0 < q.f0) := by
  unfold ltOf cmpPg
  by_cases h1 : p.f0 < q.f0
  · simp [h1]
  · by_cases h2 : q.f0 < p.f0 <;> simp [h1, h2]
theorem swoPg : SWO (ltOf cmpPg) where
  irrefl x := by rw [ltPg]; simp
  trans x y z h1 h2 := by rw [ltPg] at *; simp at *; omega
  ntrans x y z h1 h2 := by rw [ltPg] at *; simp at *; omega
set_option maxHeartbeats 4000000 in
set_option maxRecDepth 100000 in
theorem nan_calls (x : Int) (W : World) : Calls Try.prog 78 #[.int .u64 x] W fun e w' => e = .returned (.bool false) ∧ W = w' := by
  go_enter Try.func78, Try.ntmps78
  go_wp2_with fail
  go_ret
  exact ⟨by simp, rfl⟩
set_option maxHeartbeats 4000000 in
set_option maxRecDepth 100000 in
theorem compare_calls (x y : Int) (W : World) : Calls Try.prog 48 #[.int .u64 x, .int .u64 y] W fun e w' => e = .returned (.int .i64 (if x < y then -1 else if y < x then 1 else 0)) ∧ W = w' := by
  by_cases h1 : x < y
  · have H1 := Aside0.mk h1
    have hd : decide (x < y) = true := decide_eq_true h1
    go_enter Try.func48, Try.ntmps48
    go_wp2_with (go_at_call 78; refine (nan_calls _ _).mono ?_; rintro e w' ⟨rfl, rfl⟩)
    go_ret
    exact ⟨by first | rfl | (rw [if_pos H1.out]; rfl), rfl⟩
  · have H1 := Aside0.mk h1
    have hd : decide (x < y) = false := decide_eq_false h1
    by_cases h2 : y < x
    · have H2 := Aside0.mk h2
      go_enter Try.func48, Try.ntmps48
      go_wp2_with (go_at_call 78; refine (nan_calls _ _).mono ?_; rintro e w' ⟨rfl, rfl⟩)
      go_ret
      exact ⟨by first | rfl | (rw [if_neg H1.out, if_pos H2.out]; rfl), rfl⟩
    · have H2 := Aside0.mk h2
      go_enter Try.func48, Try.ntmps48
      go_wp2_with (go_at_call 78; refine (nan_calls _ _).mono ?_; rintro e w' ⟨rfl, rfl⟩)
      go_ret
      exact ⟨by first | rfl | (rw [if_neg H1.out, if_neg H2.out]; rfl), rfl⟩
set_option maxHeartbeats 4000000 in
set_option maxRecDepth 100000 in
/-- The closure: cmp.Compare of the addresses; two blocks are laid. -/
theorem cmp_calls (p q : Pg) (W : World) : Calls Try.prog 47 #[.agg #[.int .u64 p.f0, .int .i64 p.f1, .int .u64 p.f2, .bool p.f3.f0, .bool p.f3.f1, .bool p.f3.f2, .bool p.f3.f3, .bool p.f3.f4, .bool p.f3.f5, .bool p.f4, .bool p.f5], .agg #[.int .u64 q.f0, .int .i64 q.f1, .int .u64 q.f2, .bool q.f3.f0, .bool q.f3.f1, .bool q.f3.f2, .bool q.f3.f3, .bool q.f3.f4, .bool q.f3.f5, .bool q.f4, .bool q.f5]] W
    fun e w' => e = .returned (.int .i64 (cmpPg p q)) ∧ ∃ n os', w' = grow (W.drewN n) os' := by
  have hcon := fun W' => compare_calls p.f0 q.f0 W'
  have e : (if p.f0 < q.f0 then (-1 : Int) else if q.f0 < p.f0 then 1 else 0) = cmpPg p q := rfl
  rw [e] at hcon
  clear e
  generalize cmpPg p q = r at hcon ⊢
  have HC := Aside0.mk hcon
  clear hcon
  go_enter Try.func47, Try.ntmps47
  go_wp2_with (go_at_call 48; refine (HC.out _).mono ?_; rintro e w' ⟨rfl, rfl⟩)
  go_ret
  exact ⟨rfl, 0, _, by rw [alloc_eq_grow, alloc_eq_grow, grow_grow]; rfl⟩
theorem cmpLays (blk off size : Nat) (w : World) : CmpLays Try.prog 47 #[] encPg 11 cmpPg blk off size w :=
  fun _ _ _ _ x y => cmp_calls x y _
set_option maxHeartbeats 4000000 in
set_option maxRecDepth 100000 in
theorem sort_nil (fv : Value) (w : World) : Calls Try.prog 46 #[.slice none 0 0, fv] w fun e w' => e = .returned (.tuple #[]) ∧ w = w' := by
  go_enter Try.func46, Try.ntmps46
  go_wp2
  refine wp_loop_rounds 1 ?_
  rw [rounds_succ]
  go_wp2
  refine wp_loop_rounds 1 ?_
  rw [rounds_succ]
  go_wp2
  go_end0
  simp only []
  go_wp2
  refine bodyPost_ret (results_none rfl _ _ _) rfl ?_
  simp only []
  go_wp2
  go_end0
  exact ⟨rfl, rfl⟩
theorem sort_frame {w : World} {blk off n : Nat} {d : Array Pg} {os : Array Obj} : w.grownBy (sortWorldK encPg 11 w blk off n d os) (some blk) := by
  refine ⟨rfl, rfl, rfl, size_sortWorldK_c encPg 11 w blk off n d os, fun i hi hne => ?_⟩
  have hib : blk ≠ i := fun e => hne (by rw [e])
  show ((w.heap.modify blk _) ++ os)[i]? = w.heap[i]?
  rw [Array.getElem?_append_left (by simpa using hi), Array.getElem?_modify]
  simp [hib]
/-- What the sort leaves. -/
def SortP (w : World) (g c : Nat) (l : List Pg) (e : Ending) (w' : World) : Prop := ∃ l' : List Pg, e = .returned (.tuple #[]) ∧ l'.Perm l ∧ l'.Pairwise (fun p q => p.f0 ≤ q.f0) ∧ Kd.C k50 w' (some ⟨g, 0, none⟩) l'.length l' ∧ w.grownBy w' (some g)
set_option maxHeartbeats 4000000 in
set_option maxRecDepth 100000 in
theorem sort_calls (w : World) (g c : Nat) (cur : Array Value) (l : List Pg) (hg : w.heap[g]? = some (.cells cur 50 (0, 0))) (hC : Kd.C k50 w (some ⟨g, 0, none⟩) l.length l) (hl2 : l.length ≤ 100000) :
    Calls Try.prog 46 #[.slice (some ⟨g, 0, none⟩) l.length c, .func (.func 47) #[] #[]] w (SortP w g c l) := by
  have eg : ∀ args w, (callFunc 47 args).run Try.prog w = .ok (.enter 47 args) w := enters_of Try.func47 (by kernel_rfl) rfl
  have hH : HoldsK encPg 11 w g 0 l.toArray := by
    intro t ht
    have hts : t < l.length * 11 := by simpa using ht
    have hl : 0 < l.length := by omega
    refine ⟨?_, blk_frozen hg _⟩
    rw [get_flatK encPg 11 l.toArray t (by simpa using hts)]
    obtain ⟨_, _, h3⟩ := hC
    obtain ⟨ad, e, h4⟩ := h3 hl
    have hj : t / 11 < l.length := Nat.div_lt_of_lt_mul (by omega)
    obtain ⟨cs, _, hK, h5⟩ := h4 (t / 11) _ (List.getElem?_eq_getElem hj)
    have := k50_open hK
    subst this
    have hq : t % 11 < 11 := Nat.mod_lt _ (by omega)
    have h6 := h5 (t % 11) ((encPg l[t / 11])[t % 11]!) (by
      have hq' : t % 11 < (encPg l[t / 11]).length := hq
      show (encPg l[t / 11])[t % 11]? = _
      rw [List.getElem?_eq_getElem hq', getElem!_pos (encPg l[t / 11]) (t % 11) hq'])
    have e2 : ad.add (t / 11 * 11 + t % 11) = ⟨g, 0 + t, none⟩ := by
      injection e with e
      subst e
      rw [show t / 11 * 11 + t % 11 = t by omega]
      unfold Addr.add
      by_cases h0 : t = 0
      · simp [h0]
      · simp [h0]
    have e3 : (l.toArray[t / 11]! : Pg) = l[t / 11] := by simp [hj]
    rw [e3]
    show w.cell? ⟨g, 0 + t, none⟩ = some (id _)
    rw [← e2]
    exact h6
  have hcon := AnyQ.slices_SortFunc sortL 11 Try.isAgg50 Try.sizeOf50 encPg (fun _ => rfl) (fun x v hv => by simp [encPg] at hv; rcases hv with rfl | rfl | rfl | rfl | rfl | rfl | rfl | rfl | rfl | rfl | rfl <;> rfl) cmpPg swoPg 47 #[] g 0 c l.toArray w eg (cmpLays g 0 l.toArray.size w) hH (blk_lt hg) (by simp; omega)
  simp only [List.size_toArray] at hcon
  refine hcon.mono ?_
  rintro e w' ⟨rfl, d', n, os, hp, hs, rfl⟩
  obtain ⟨hsz, _, hperm⟩ := hp
  have hsz' : d'.size = l.length := by simpa using hsz
  have e1 : d'.extract 0 l.length = d' := by rw [← hsz']; exact Array.extract_size
  have e2 : l.toArray.extract 0 l.length = l.toArray := by
    simp
  rw [e1, e2] at hperm
  have hH' := holdsK_sortWorldK_c encPg 11 w g 0 l.toArray d' n os hH (blk_lt hg) (by simpa using hsz)
  refine ⟨d'.toList, rfl, by simpa using hperm, ?_, ⟨rfl, by simp; omega, fun _ => ⟨⟨g, 0, none⟩, rfl, fun j p hj => ?_⟩⟩, sort_frame⟩
  · rw [List.pairwise_iff_getElem]
    intro i j hi hj hij
    have hi' : i < d'.size := by simpa using hi
    have hj' : j < d'.size := by simpa using hj
    have h1 := hs i j (Nat.zero_le _) hij (by omega)
    rw [getElem!_pos d' j hj', getElem!_pos d' i hi', ltPg] at h1
    simp only [decide_eq_false_iff_not] at h1
    simp only [Array.getElem_toList]
    omega
  · have hjl : j < d'.size := by
      have := (List.getElem?_eq_some_iff.1 hj).1
      simpa using this
    have hpj : d'[j]! = p := by
      have := (List.getElem?_eq_some_iff.1 hj).2
      rw [getElem!_pos d' j hjl]
      simpa using this
    refine ⟨_, rfl, k50_mk _ p, fun q u hu => ?_⟩
    have hq : q < 11 := by
      have := (List.getElem?_eq_some_iff.1 hu).1
      simpa using this
    have ht : j * 11 + q < (flatK encPg 11 d').size := by simp; omega
    have h2 := (hH' (j * 11 + q) ht).1
    rw [get_flatK encPg 11 d' _ (by simpa using ht), show (j * 11 + q) / 11 = j by omega, show (j * 11 + q) % 11 = q by omega, hpj] at h2
    have hu' : (encPg p)[q]! = u := by
      have hq' : q < (encPg p).length := hq
      have h3 : (encPg p)[q]? = some u := hu
      rw [List.getElem?_eq_getElem hq'] at h3
      rw [getElem!_pos (encPg p) q hq']
      exact Option.some.inj h3
    have e3 : (⟨g, 0, none⟩ : Addr).add (j * 11 + q) = ⟨g, 0 + (j * 11 + q), none⟩ := by
      unfold Addr.add
      by_cases h0 : j * 11 + q = 0
      · simp [h0]
      · simp only [h0, if_false]
    show World.cell? _ ((⟨g, 0, none⟩ : Addr).add (j * 11 + q)) = some u
    rw [e3, h2, ← hu']
    rfl
end Go.Proofs.Ytalmemcidbmdgaa.PM

/- A model (layer 16): Pages: the walk. -/
set_option linter.unusedVariables false
set_option linter.unusedSimpArgs false
namespace Go.Proofs.Ytalmemcidbmdgaa.PM
open Go.RowKit Go.Proofs.YtalmemcidbmdgaaW.PrintWords Go.Proofs.YtalmemcidbmdgaaW.PrintLast Go.Proofs.YtalmemcidbmdgaaW.PrintMore Go.Proofs.Ytalmemcidbmdgaa.PageG
attribute [local go_sem] max2_int min2_int max_two min_two max_three min_three max_four min_four   -- for this text's walks alone
def sel (sp : Int) (L : List Ent) : List Pg := (L.filter (fun x => x.f0 == sp)).map (·.f1)
theorem sel_snoc (sp : Int) (l : List Ent) (x : Ent) : sel sp (l ++ [x]) = sel sp l ++ if x.f0 == sp then [x.f1] else [] := by
  unfold sel
  rw [List.filter_append]
  cases h : x.f0 == sp <;> simp [h]
theorem sel_len (sp : Int) (l : List Ent) : (sel sp l).length ≤ l.length := by
  unfold sel
  rw [List.length_map]
  exact List.length_filter_le _ _
theorem sel_perm {l m : List Ent} (h : l.Perm m) (sp : Int) : (sel sp l).Perm (sel sp m) := (h.filter _).map _
def PagesP (w : World) (s : MS) (sp : Int) (e : Ending) (w' : World) : Prop := ∃ A c l, e = .returned (.slice A l.length c) ∧ l.length ≤ c ∧ l.Perm (sel sp s.L) ∧ l.Pairwise (fun p q => p.f0 ≤ q.f0) ∧ Kd.C k50 w' A l.length l ∧ Below w.heap.size w w' ∧ (∀ ad, A = some ad → w.heap.size ≤ ad.block)
section
variable {w w' : World} {B pm bm : Nat} {s : MS}
theorem wns_grown {w W W' : World} {B pm bm r0 : Nat} {s : MS} {done : List Ent} {v : Value} {xs : List Pg} {ok : Nat → Prop} (h : WnS w W B pm bm s r0 done) (hlt : ∀ k ∈ [B, pm, bm], k < w.heap.size) (hR : Kd.R k50 50 W w.heap.size ok v xs) (hok : ∀ k, ok k → k ≠ r0)
    (hg : W.grownBy W' v.ownBlock) (hb : Below w.heap.size w W') : WnS w W' B pm bm s r0 done := by
  have hx := (Kd.R_bound hR).1
  have hB : ∀ k ∈ [B, pm, bm], W'.heap[k]? = W.heap[k]? := fun k hk => hg.block k (h.mo.lt k hk) (fun e => by
    have h1 := (hx k e.symm).2.1
    have h2 := hlt k hk
    omega)
  have hr : W'.heap[r0]? = W.heap[r0]? := hg.block r0 h.rg.lt (fun e => hok r0 (hx r0 e.symm).1 rfl)
  exact ⟨h.mo.move hB, h.rg.move (hB pm (by simp)) hr, hb, h.r0g⟩
set_option maxHeartbeats 8000000 in
set_option maxRecDepth 100000 in
theorem pages_calls (h : Mo w B pm bm s) (hf : s.L.length ≤ 100000) (sp : Int) :
    Calls Try.prog 15 #[.pointer (some ⟨B, 0, none⟩), .int .i64 sp] w (PagesP w s sp) := by
  obtain ⟨o, hrg, hs⟩ := WnS.start h
  have HLT := Aside0.mk h.lt
  have c1 := h.cells.2.1
  have HS := Aside0.mk hs
  clear hs h
  go_enter Try.func15, Try.ntmps15
  go_wp2_with fail
  clear hrg c1
  obtain ⟨r0, hr0⟩ : ∃ r0, w.heap.size = r0 := ⟨_, rfl⟩
  have HR0 := Aside0.mk hr0
  rw [hr0] at HS ⊢
  clear hr0
  generalize w.alloc o = w1 at *
  go_loopg [5] s.L.length (fun k nv wr => ∃ done : List Ent, done.length + k = s.L.length ∧ Aside0 (WnS w wr B pm bm s r0 done ∧ ∀ x ∈ done, x ∈ s.L) ∧ Aside0 (Kd.R k50 50 wr w.heap.size (fun k => k ≠ r0) nv (sel sp done)))
  case atStart => exact ⟨[], by simp, ⟨HS.out, by simp⟩, ⟨Kd.R_nil _ _ _ _ _⟩⟩
  case round =>
    clear HS
    obtain ⟨done, hdk, HS, HR⟩ := hrel
    have hsl := sel_len sp done
    obtain ⟨A5, c5, hv5⟩ := Kd.R_slice HR.out
    subst hv5
    rcases HS.out.1.next HS.out.2 with ⟨hp, hrun⟩ | ⟨x, W', hx, hrun, hn, hlt, hfr, hen⟩
    · have HP := Aside0.mk hp
      clear hp
      have hCC := Kd.R_reads' HR.out
      have HCC := Aside0.mk hCC
      have hbw := HS.out.1.bl
      have HBW := Aside0.mk hbw
      have hx := (Kd.R_bound HR.out).1
      have HX := Aside0.mk hx
      obtain ⟨inner, hown, -⟩ := HR.out.2
      rcases hown.2 with ⟨hv, h0⟩ | ⟨g, cap, cur, hv, hg, hcur, hnc, -⟩
      · injection hv with hA hn hc
        subst hA
        have HN0 := Aside0.mk hn
        have HC0 := Aside0.mk hc
        clear hx hbw hCC hn hc hown h0 HR
        rw [HN0.out, HC0.out]
        go_wp2_with fail
        refine (sort_nil _ wr).mono ?_
        rintro e w2 ⟨rfl, rfl⟩
        go_wp2_with fail
        go_ret
        have he : sel sp done = [] := List.eq_nil_of_length_eq_zero HN0.out
        refine ⟨none, 0, [], rfl, by simp, ?_, List.Pairwise.nil, ⟨rfl, by simp, fun h => by simp at h⟩, HBW.out, fun ad h => by cases h⟩
        have := sel_perm HP.out sp
        rw [he] at this
        exact this
      · injection hv with hA hn hc
        subst hA hc
        have HCUR := Aside0.mk hcur
        have HNC := Aside0.mk hnc
        have HG := Aside0.mk hg
        clear hx hbw hCC hn hown hcur hnc hg
        have hsl2 : (sel sp done).length ≤ 100000 := by omega
        go_wp2_with fail
        refine (sort_calls wr g c5 cur (sel sp done) HCUR.out HCC.out.2.2 hsl2).mono ?_
        rintro e w2 ⟨l', rfl, hp2, hs2, hc2, hg2⟩
        have hlen := hp2.length_eq
        have hperm := hp2.trans (sel_perm HP.out sp)
        have hfin : PagesP w s sp (.returned (.slice (some ⟨g, 0, none⟩) (sel sp done).length c5)) w2 := by
          rw [← hlen]
          exact ⟨_, c5, l', rfl, by rw [hlen]; exact HCC.out.2.1, hperm, hs2, hc2, HBW.out.grown hg2 HBW.out.size (fun j hj => by injection hj with hj; subst hj; exact HG.out), fun ad h => by injection h with h; subst h; exact HG.out⟩
        have HFIN := Aside0.mk hfin
        clear hfin hlen hperm hp2 hs2 hc2 hg2
        go_wp2_with fail
        go_ret
        exact HFIN.out
    · have hr0l : r0 < W'.heap.size := hn.rg.lt
      have HRW := Aside0.mk (Kd.R_move HR.out (fun k hk => hfr.1 k hk))
      have hwk : Below W'.heap.size W' ((W'.alloc (.cells #[.int .i64 x.f0, .int .u64 x.f1.f0, .int .i64 x.f1.f1] 84)).alloc (.cells #[.int .u64 x.f1.f0, .int .i64 x.f1.f1, .int .u64 x.f1.f2, .bool x.f1.f3.f0, .bool x.f1.f3.f1, .bool x.f1.f3.f2, .bool x.f1.f3.f3, .bool x.f1.f3.f4, .bool x.f1.f3.f5, .bool x.f1.f4, .bool x.f1.f5] 50)) := ((Below.refl _ _).alloc (Nat.le_refl _) _).alloc (by simp) _
      have hmem : ∀ y ∈ done ++ [x], y ∈ s.L := fun y hy => by
        rw [List.mem_append, List.mem_singleton] at hy
        exact hy.elim (HS.out.2 y) (fun e => e ▸ hx)
      have HN := Aside0.mk (And.intro (hn.below hwk) hmem)
      have HR2 := Aside0.mk (Kd.R_below HRW.out hwk)
      have hs2 : r0 < ((W'.alloc (.cells #[.int .i64 x.f0, .int .u64 x.f1.f0, .int .i64 x.f1.f1] 84)).alloc (.cells #[.int .u64 x.f1.f0, .int .i64 x.f1.f1, .int .u64 x.f1.f2, .bool x.f1.f3.f0, .bool x.f1.f3.f1, .bool x.f1.f3.f2, .bool x.f1.f3.f3, .bool x.f1.f3.f4, .bool x.f1.f3.f5, .bool x.f1.f4, .bool x.f1.f5] 50)).heap.size := by simp; omega
      have HS2 := Aside0.mk hs2
      have hsn := sel_snoc sp done x
      have HSN := Aside0.mk hsn
      clear hn hfr hwk hx hmem HRW hs2 hsn
      cases hb : (x.f0 == sp) with
      | false =>
        have HBB := Aside0.mk hb
        go_wp2_with fail
        go_roundg (gk - 1)
        case measure => omega
        case rel => exact ⟨done ++ [x], by simp; omega, HN, ⟨by rw [HSN.out, HBB.out]; simpa using HR2.out⟩⟩
      | true =>
        have HBB := Aside0.mk hb
        have hk7 := blk_new (W'.alloc (.cells #[.int .i64 x.f0, .int .u64 x.f1.f0, .int .i64 x.f1.f1] 84)) (.cells #[.int .u64 x.f1.f0, .int .i64 x.f1.f1, .int .u64 x.f1.f2, .bool x.f1.f3.f0, .bool x.f1.f3.f1, .bool x.f1.f3.f2, .bool x.f1.f3.f3, .bool x.f1.f3.f4, .bool x.f1.f3.f5, .bool x.f1.f4, .bool x.f1.f5] 50)
        rw [World.size_alloc] at hk7
        have HK7 := Aside0.mk hk7
        clear hk7
        go_upto_region 6 with fail
        generalize (W'.alloc (.cells #[.int .i64 x.f0, .int .u64 x.f1.f0, .int .i64 x.f1.f1] 84)).alloc (.cells #[.int .u64 x.f1.f0, .int .i64 x.f1.f1, .int .u64 x.f1.f2, .bool x.f1.f3.f0, .bool x.f1.f3.f1, .bool x.f1.f3.f2, .bool x.f1.f3.f3, .bool x.f1.f3.f4, .bool x.f1.f3.f5, .bool x.f1.f4, .bool x.f1.f5] 50) = W4 at *
        obtain ⟨q0, q1, q2, q3, q4, q5, q6, q7, q8, q9, q10⟩ := cells11 HK7.out
        go_wp2_with (first | ((with_reducible refine gate_builtin (b := .append) (xs := #[.tmp 22, .tmp 24]) rfl ?_); at_builtin; refine Kd.R_append k50 (w0 := w) w.heap.size rfl (.tmp 22) (.tmp 24) 46 50 (.agg #[.int .u64 0, .int .i64 0, .int .u64 0, .bool false, .bool false, .bool false, .bool false, .bool false, .bool false, .bool false, .bool false]) 32 rfl Try.underlying46 info50 rfl (by decide) (by omega) (.slice A5 (sel sp done).length c5) (sel sp done) x.f1 [.int .u64 x.f1.f0, .int .i64 x.f1.f1, .int .u64 x.f1.f2, .bool x.f1.f3.f0, .bool x.f1.f3.f1, .bool x.f1.f3.f2, .bool x.f1.f3.f3, .bool x.f1.f3.f4, .bool x.f1.f3.f5, .bool x.f1.f4, .bool x.f1.f5] (fun k => k ≠ r0) (fun _ => False) rfl rfl ?aP (fun _ hk => hk.elim) ?aF ?aO ?aB ?aS ?aL ?_; (case aP => exact k50_mkM _ _ _ x.f1); (case aB => exact HN.out.1.bl); (case aF => exact (fun k hk => Ne.symm (Nat.ne_of_lt (Nat.lt_of_lt_of_le HS2.out hk)))); (case aO => exact HR2.out); (case aS => exact HN.out.1.bl.size); (case aL => omega); intro v5 w5 ho5 hb5 hg5 hat5; have HO5 := Aside0.mk ho5; have HB5 := Aside0.mk hb5; have HG5 := Aside0.mk hg5; clear ho5 hb5 hg5 hat5))
        obtain ⟨A6, c6, hv6⟩ := Kd.R_slice HO5.out
        subst hv6
        have hst := wns_grown HN.out.1 HLT.out HR2.out (fun k hk => hk) HG5.out HB5.out
        have HN5 := Aside0.mk (And.intro hst HN.out.2)
        clear hst q0 q1 q2 q3 q4 q5 q6 q7 q8 q9 q10
        go_wp2_with fail
        go_roundg (gk - 1)
        case measure => omega
        case rel => exact ⟨done ++ [x], by simp; omega, HN5, ⟨by rw [HSN.out, HBB.out]; exact HO5.out⟩⟩
end
end Go.Proofs.Ytalmemcidbmdgaa.PM

/- A model (layer 16): maps.DeleteFunc over the bytes, and drop: the walks. -/
namespace Go.Proofs.Ytalmemcidbmdgaa.ML
open Go Go.Maps Go.ChangeMaps Go.MapKept
section
variable {P : Program} {T K E : TypeId} {w w' : World} {b r : Nat} {l d : En} {k v z : Value} {kl : Lit}
/-- delete(m, k) of the one that came last, while the range is under way. -/
theorem Rg.drop (h : Rg P K w b r l (d ++ [(k, v)])) (KK : Keyed P K) (ht : P.underlying T = some (.map K E)) (hkey : keyOf P K k = some kl) (ty : TypeId) :
    ∃ o l1 l2, l = l1 ++ (k, v) :: l2 ∧ (Builtin.delete_ #[T, K] ty #[.map (some b), k]).run P w = .ok (.tuple #[]) (setBlock w b o) ∧ Rg P K (setBlock w b o) b r (l1 ++ l2) d := by
  have hne := h.ne
  have hnl := h.at.nodup
  have hmem := h.le.2.2 (k, v) (by simp)
  obtain ⟨es, clock, since, seen, c0, hb, hs, hk, he, hr, hold, hsc, hsk, hd⟩ := h
  have hn : (es.toList.map fun e => e.key).Nodup := hs.2.2
  rcases KK.find w hkey es.toList hk with ⟨_, h2⟩ | ⟨j, e0, h1, h2, h3⟩
  · exfalso
    rw [← he] at hmem
    obtain ⟨x, hx, he⟩ := List.mem_map.1 hmem
    exact h2 x hx (congrArg Prod.fst he)
  · have hlt : j < es.toList.length := (List.getElem?_eq_some_iff.1 h2).1
    have hlt' : j < es.size := by simpa using hlt
    have hsub : (es.eraseIdxIfInBounds j).toList = es.toList.eraseIdx j := by
      unfold Array.eraseIdxIfInBounds
      rw [dif_pos hlt']
      simp
    have hspl := ens_split h2
    rw [h3] at hspl
    have hval : e0.val = v := by
      refine mem_one (l := l) hnl (k := k) ?_ hmem
      rw [← he, hspl]
      simp
    rw [hval] at hspl
    have hes : es.toList = es.toList.take j ++ e0 :: es.toList.drop (j + 1) := by
      have he2 := (List.getElem?_eq_some_iff.1 h2).2
      rw [← he2, ← List.drop_eq_getElem_cons hlt, List.take_append_drop]
    refine ⟨.map (es.eraseIdxIfInBounds j) clock, _, _, he.symm.trans hspl, ?_, ⟨es.eraseIdxIfInBounds j, clock, since, seen, c0, heap_setBlock_same hb _, stamped_erase hs j, fun x hx => ?_, ?_, ?_, fun x hx => ?_, hsc, hsk, ?_⟩⟩
    · simp [Builtin.delete_, run_underlying ht, Go.MapKept.run_getObj_map hb, KK.check w _ hkey, h1, Go.MapKept.run_setObj_map _ hb, Result.andThen, setBlock]
    · rw [hsub] at hx
      exact hk x ((List.eraseIdx_sublist _ _).subset hx)
    · unfold ens
      rw [hsub, List.eraseIdx_eq_take_drop_succ]
      simp
    · exact ((heap_set (o' := .map (es.eraseIdxIfInBounds j) clock) hb).2 r hne).trans hr
    · rw [hsub] at hx
      exact hold x ((List.eraseIdx_sublist _ _).subset hx)
    · rw [hsub, List.eraseIdx_eq_take_drop_succ]
      by_cases hse : seen.contains e0.born = true
      · rw [hes] at hd
        simp only [List.filter_append, List.filter_cons, hse, if_true, List.map_append, List.map_cons, h3, hval] at hd ⊢
        have h4 : (d ++ [(k, v)]).Perm ((((es.toList.take j).filter fun e => seen.contains e.born).map (fun e => (e.key, e.val)) ++ ((es.toList.drop (j + 1)).filter fun e => seen.contains e.born).map (fun e => (e.key, e.val))) ++ [(k, v)]) := by
          refine hd.trans ?_
          refine List.perm_middle.trans ?_
          exact (List.perm_append_comm (l₁ := [(k, v)]))
        exact (List.perm_append_right_iff _).1 h4
      · exfalso
        have hm : (k, v) ∈ ((es.toList.filter fun e => seen.contains e.born).map fun e => (e.key, e.val)) := hd.mem_iff.1 (by simp)
        obtain ⟨x, hx, hxe⟩ := List.mem_map.1 hm
        obtain ⟨hx1, hx2⟩ := List.mem_filter.1 hx
        have hxk : x.key = k := congrArg Prod.fst hxe
        have : x = e0 := by
          have hx1' := hx1
          rw [hes] at hx1 hn
          simp only [List.map_append, List.map_cons] at hn
          rw [List.nodup_append] at hn
          obtain ⟨_, n2, n3⟩ := hn
          rw [List.nodup_cons] at n2
          rw [List.mem_append, List.mem_cons] at hx1
          rcases hx1 with hx1 | rfl | hx1
          · exact absurd (hxk.trans h3.symm) (n3 _ (List.mem_map.2 ⟨x, hx1, rfl⟩) _ (by simp))
          · rfl
          · exact absurd (by rw [h3, ← hxk]; exact List.mem_map.2 ⟨x, hx1, rfl⟩) n2.1
        exact hse (this ▸ hx2)
end
end Go.Proofs.Ytalmemcidbmdgaa.ML
set_option linter.unusedVariables false
set_option linter.unusedSimpArgs false
namespace Go.Proofs.Ytalmemcidbmdgaa.PM
open Go.RowKit Go.Proofs.YtalmemcidbmdgaaW.PrintWords Go.Proofs.YtalmemcidbmdgaaW.PrintLast Go.Proofs.YtalmemcidbmdgaaW.PrintMore Go.Proofs.Ytalmemcidbmdgaa.PageG
attribute [local go_sem] max2_int min2_int max_two min_two max_three min_three max_four min_four   -- for this text's walks alone
/-- maps.DeleteFunc over the bytes under way: those of one region go. -/
structure DfS (w W : World) (bm : Nat) (l : ML.En) (R : Int) (r0 : Nat) (lc dl : ML.En) : Prop where
  rg : ML.Rg Try.prog 91 W bm r0 lc dl
  mv : Mv [bm] w W
  r0g : w.heap.size ≤ r0
  sub : ∀ p ∈ lc, p ∈ l
  all : ∀ p ∈ l, p ∈ lc ∨ ∃ o v, p = (spv R o, v)
section
variable {w w' W W' : World} {B pm bm r0 : Nat} {s : MS} {l lc dl : ML.En} {R : Int}
theorem DfS.below (h : DfS w W bm l R r0 lc dl) (hb : Below W.heap.size W W') : DfS w W' bm l R r0 lc dl :=
  ⟨h.rg.move (hb.block _ h.rg.at.lt) (hb.block _ h.rg.lt), h.mv.trans (S' := []) (Mv.of_below hb) (fun _ hk => by simp at hk), h.r0g, h.sub, h.all⟩
theorem DfS.start (hl : ML.At Try.prog 91 w bm l) (R : Int) : ∃ o, (Instr.range 73 (.map (some bm))).run Try.prog w = .ok (.pointer (some ⟨w.heap.size, 0, none⟩)) (w.alloc o) ∧ DfS w (w.alloc o) bm l R w.heap.size l [] := by
  obtain ⟨o, h1, h2⟩ := hl.ranges undB
  exact ⟨o, h1, h2, Mv.of_below ((Below.refl _ w).alloc (Nat.le_refl _) _), Nat.le_refl _, fun p hp => hp, fun p hp => .inl hp⟩
theorem DfS.next (h : DfS w W bm l R r0 lc dl) (hf : ∀ p ∈ l, ∃ r o v, p = (spv r o, .int .u8 v) ∧ W64 r ∧ U64 o ∧ 0 ≤ v ∧ v < 256) :
    (dl.Perm lc ∧ (Instr.next (.pointer (some ⟨r0, 0, none⟩)) false 0).run Try.prog W = .ok (.tuple #[.bool false]) W) ∨
    ∃ r o v W', W64 r ∧ U64 o ∧ (Instr.next (.pointer (some ⟨r0, 0, none⟩)) false 0).run Try.prog W = .ok (.tuple #[.bool true, .agg #[.int .i64 r, .int .u64 o], .int .u8 v]) W' ∧
      DfS w W' bm l R r0 lc (dl ++ [(spv r o, .int .u8 v)]) ∧ dl.length < lc.length ∧
      (Instr.entry (.pointer (some ⟨r0, 0, none⟩))).run Try.prog W' = .ok (.tuple #[.agg #[.int .i64 r, .int .u64 o], .int .u8 v]) W' := by
  rcases h.rg.next 0 with h1 | ⟨k, v, w1, o, hm, hnk, hw1, hrun, hrg, hlt, hen⟩
  · exact .inl h1
  · obtain ⟨r, of, u, e, h1, h2, _, _⟩ := hf _ (h.sub _ hm)
    obtain ⟨rfl, rfl⟩ := Prod.mk.inj e
    refine .inr ⟨r, of, u, _, h1, h2, hrun, ⟨hrg, ?_, h.r0g, h.sub, h.all⟩, hlt, hen⟩
    refine Mv.setBlock ?_ (.inr h.r0g) o
    rcases hw1 with rfl | rfl
    · exact h.mv
    · exact h.mv.trans (S' := []) (Mv.of_below (Below.refl _ _).drew) (fun _ hk => by simp at hk)
theorem DfS.drop {o v : Int} (h : DfS w W bm l R r0 lc (dl ++ [(spv R o, .int .u8 v)])) (h1 : W64 R) (h2 : U64 o) (ty : TypeId) :
    ∃ ob lc', (Builtin.delete_ #[73, 91] ty #[.map (some bm), .agg #[.int .i64 R, .int .u64 o]]).run Try.prog W = .ok (.tuple #[]) (ChangeMaps.setBlock W bm ob) ∧
      DfS w (ChangeMaps.setBlock W bm ob) bm l R r0 lc' dl ∧ lc'.length + 1 = lc.length := by
  obtain ⟨kl, hkl⟩ := key_s h1 h2
  obtain ⟨ob, l1, l2, e, hrun, hrg⟩ := h.rg.drop keyedS undB hkl ty
  refine ⟨ob, l1 ++ l2, hrun, ⟨hrg, h.mv.setBlock (.inl (by simp)) ob, h.r0g, fun p hp => h.sub p (by rw [e]; simp at hp ⊢; rcases hp with hp | hp <;> simp [hp]), fun p hp => ?_⟩, by rw [e]; simp; omega⟩
  rcases h.all p hp with hp | hp
  · rw [e, List.mem_append, List.mem_cons] at hp
    rcases hp with hp | rfl | hp
    · exact .inl (by simp [hp])
    · exact .inr ⟨o, _, rfl⟩
    · exact .inl (by simp [hp])
  · exact .inr hp
theorem DfS.end {by_ : List Bt} (h : DfS w W bm l R r0 lc dl) (hp : dl.Perm lc) (hn : ∀ p ∈ dl, ∀ o v, p ≠ (spv R o, v)) (hr : BRel l by_) : BM W bm (cutB by_ R) := by
  refine ⟨lc, h.rg.at, fun p hq => hr.form p (h.sub p hq), fun r o v hq => ?_, fun r o hq => ?_⟩
  · have hne : r ≠ R := fun e => hn _ (hp.mem_iff.2 hq) o (.int .u8 v) (by rw [e])
    rw [getB_cut, if_neg hne]
    exact hr.has _ _ _ (h.sub _ hq)
  · rw [getB_cut]
    split
    · rfl
    · rename_i hne
      refine hr.hasnt _ _ (fun p hpl => ?_)
      rcases h.all p hpl with h1 | ⟨o', v, rfl⟩
      · exact hq p h1
      · exact fun e => hne (spv_inj e).1.symm
theorem Mo.cut (h : Mo w B pm bm s) (hm : Mv [bm] w W) {by2 : List Bt} (hb : BM W bm by2) : Mo W B pm bm { s with by_ := by2 } :=
  ⟨(hm.block B (h.lt B (by simp)) (by simpa using h.neB.2)).trans h.hb, h.hp.move (hm.block pm (h.lt pm (by simp)) (by simpa using h.ne)), hb, h.ne⟩
set_option maxHeartbeats 4000000 in
set_option maxRecDepth 100000 in
theorem drop1_calls (w : World) (r o v R : Int) (g : Nat) (hg : w.cell? ⟨g, 0, none⟩ = some (.int .i64 R)) :
    Calls Try.prog 95 #[.agg #[.int .i64 r, .int .u64 o], .int .u8 v, .pointer (some ⟨g, 0, none⟩)] w fun e w' => e = .returned (.bool (r == R)) ∧ Below w.heap.size w w' := by
  have hgl : g < w.heap.size := World.block_lt_of_cell? _ _ hg
  have hgn := Nat.ne_of_lt hgl
  go_enter Try.func95, Try.ntmps95
  go_wp2_with fail
  go_ret
  exact ⟨by first | rfl | (congr 2; exact Int.decEq_eq_beq _ _), by first | exact (Below.refl _ w).alloc (Nat.le_refl _) _ | exact ((Below.refl _ w).alloc (Nat.le_refl _) _).drew⟩
set_option maxHeartbeats 8000000 in
set_option maxRecDepth 100000 in
theorem delf_calls (h : Mo w B pm bm s) (R : Int) (g : Nat) (hg : w.cell? ⟨g, 0, none⟩ = some (.int .i64 R)) (hgb : g ≠ bm) :
    Calls Try.prog 94 #[.map (some bm), .func (.func 95) #[] #[.pointer (some ⟨g, 0, none⟩)]] w
      (fun e w' => e = .returned (.tuple #[]) ∧ Mo w' B pm bm { s with by_ := cutB s.by_ R } ∧ Mv [bm] w w') := by
  obtain ⟨l, hl, hrel0⟩ := h.hm
  obtain ⟨o, hrg, hs⟩ := DfS.start hl R
  have HS := Aside0.mk hs
  have HM := Aside0.mk h
  have HL := Aside0.mk hrel0
  have HG := Aside0.mk hg
  clear hs h hl hrel0 hg
  go_enter Try.func94, Try.ntmps94
  go_wp2_with fail
  clear hrg
  obtain ⟨r0, hr0⟩ : ∃ r0, w.heap.size = r0 := ⟨_, rfl⟩
  rw [hr0] at HS ⊢
  generalize w.alloc o = w1 at *
  go_loopg [] l.length (fun k wr => ∃ lc dl, dl.length + k = lc.length ∧ Aside0 (DfS w wr bm l R r0 lc dl ∧ ∀ p ∈ dl, ∀ o v, p ≠ (spv R o, v)))
  case atStart => exact ⟨l, [], by simp, ⟨HS.out, by simp⟩⟩
  case round =>
    clear HS
    obtain ⟨lc, dl, hdk, HS⟩ := hrel
    rcases HS.out.1.next HL.out.form with ⟨hp, hrun⟩ | ⟨r, of, v, W', h1, h2, hrun, hn, hlt, hen⟩
    · have HP := Aside0.mk hp
      clear hp
      go_wp2_with fail
      go_end0
      exact ⟨rfl, HM.out.cut HS.out.1.mv (HS.out.1.end HP.out HS.out.2 HL.out), HS.out.1.mv⟩
    · have HN := Aside0.mk (hn.below ((Below.refl _ W').alloc (Nat.le_refl _) (.cells #[.int .i64 r, .int .u64 of] 91)))
      have HW := Aside0.mk (And.intro h1 h2)
      clear hn h1 h2
      have hgc := HN.out.mv.cell HG.out (by simpa using hgb)
      have HGC := Aside0.mk hgc
      clear hgc
      go_wp2_with fail
      refine (drop1_calls _ r of v R g HGC.out).mono ?_
      rintro e w2 ⟨rfl, hb2⟩
      have HN2 := Aside0.mk (HN.out.below hb2)
      have hsp : (W'.alloc (.cells #[.int .i64 r, .int .u64 of] 91)).heap.size = W'.heap.size + 1 := by simp
      have h40 : w2.cell? ⟨W'.heap.size, 0, none⟩ = some (.int .i64 r) := (hb2.cell (p := ⟨W'.heap.size, 0, none⟩) (by rw [hsp]; exact Nat.lt_succ_self _)).trans ((blk_cell (blk_new W' (.cells #[.int .i64 r, .int .u64 of] 91)) 0).trans rfl)
      have h41 : w2.cell? ⟨W'.heap.size, 1, none⟩ = some (.int .u64 of) := (hb2.cell (p := ⟨W'.heap.size, 1, none⟩) (by rw [hsp]; exact Nat.lt_succ_self _)).trans ((blk_cell (blk_new W' (.cells #[.int .i64 r, .int .u64 of] 91)) 1).trans rfl)
      clear hb2 hsp HGC
      cases hrR : (r == R) with
      | true =>
        obtain rfl : r = R := beq_iff_eq.1 hrR
        obtain ⟨ob, lc', hdel, hd', hlc⟩ := HN2.out.drop HW.out.1 HW.out.2 0
        have HD := Aside0.mk hd'
        clear hd'
        go_wp2_with fail
        go_roundg (gk - 1)
        case measure => omega
        case rel => exact ⟨lc', dl, by omega, HD.out, HS.out.2⟩
      | false =>
        have hne : r ≠ R := beq_eq_false_iff_ne.1 hrR
        have HNE := Aside0.mk hne
        clear hne
        go_wp2_with fail
        go_roundg (gk - 1)
        case measure => omega
        case rel => exact ⟨lc, _, by simp; omega, HN2.out, fun p hp o v => by
          rw [List.mem_append, List.mem_singleton] at hp
          rcases hp with hp | rfl
          · exact HS.out.2 p hp o v
          · exact fun e => HNE.out (spv_inj (congrArg Prod.fst e)).1⟩
end
end Go.Proofs.Ytalmemcidbmdgaa.PM

/- A model (layer 16): drop: the walk. -/
set_option linter.unusedVariables false
set_option linter.unusedSimpArgs false
namespace Go.Proofs.Ytalmemcidbmdgaa.PM
open Go.RowKit Go.Proofs.YtalmemcidbmdgaaW.PrintWords Go.Proofs.YtalmemcidbmdgaaW.PrintLast Go.Proofs.YtalmemcidbmdgaaW.PrintMore Go.Proofs.Ytalmemcidbmdgaa.PageG
attribute [local go_sem] max2_int min2_int max_two min_two max_three min_three max_four min_four   -- for this text's walks alone
theorem del_ {P : Program} {ops : Array Oper} {Q : Exit → Act → World → Prop} {oi : Oper} {a : Act} {w w1 : World} {K : Act → World → Prop} {m k : Operand} {T KT : TypeId} {vm vk : Value} (hw : Region.wanted oi (yielded ops a.tmps) = true) (hN : oi.dst = none)
    (hop : oi.op = Op.call { callee := Callee.builtin Builtin.delete, args := #[m, k], argTypes := #[T, KT] }) (hm : a.eval m = vm) (hk : a.eval k = vk)
    (hrun : (Builtin.delete_ #[T, KT] oi.type #[vm, vk]).run P w = .ok (.tuple #[]) w1)
    (h : K a w1) : if Region.wanted oi (yielded ops a.tmps) = true then Oper.wp P oi a w K Q else K (a.put none undef) w := by
  rw [if_pos hw]
  unfold Oper.wp
  simp [execOp, hop, resolve, invoke, builtin, hm, hk, hrun, Result.andThen]
  show K (a.put oi.dst _) w1
  rw [hN]
  exact h
theorem WfL.sub {L M : List Ent} (h : WfL L) (hs : M.Sublist L) : WfL M := ⟨fun x hx => h.ok x (hs.subset hx), h.apart.sublist hs⟩
theorem WfL.erase {L : List Ent} (h : WfL L) (i : Nat) : WfL (L.eraseIdx i) := h.sub (List.eraseIdx_sublist _ _)
/-- A page goes; with the last page on a region its bytes. -/
def dropS (s : MS) (i : Nat) (x : Ent) : MS := { s with L := s.L.eraseIdx i, by_ := if winN (s.L.eraseIdx i) x.f1.f2 = 0 then cutB s.by_ x.f1.f2 else s.by_ }
section
variable {w w' W W' : World} {B pm bm : Nat} {s : MS}
def DropP (w : World) (B pm bm : Nat) (s : MS) (e : Ending) (w' : World) : Prop := e = .returned (.tuple #[]) ∧ Mo w' B pm bm s ∧ Mv [B, pm, bm] w w'
set_option maxHeartbeats 8000000 in
set_option maxRecDepth 100000 in
theorem drop_calls (h : Mo w B pm bm s) (hw : WfL s.L) (hf : s.L.length ≤ 100000) {i : Nat} {x : Ent} (hi : s.L[i]? = some x) :
    Calls Try.prog 73 #[.pointer (some ⟨B, 0, none⟩), .agg #[.int .i64 x.f0, .int .u64 x.f1.f0, .int .i64 x.f1.f1]] w (DropP w B pm bm (dropS s i x)) := by
  have hok := hw.ok x (List.mem_of_getElem? hi)
  have hpa0 := hok.pa0
  have hpa1 := hok.pa1
  have HM := Aside0.mk h
  have HW := Aside0.mk hw
  have HI := Aside0.mk hi
  have HLT := Aside0.mk h.lt
  clear h hw hi hok
  obtain ⟨D, hD⟩ : ∃ D, w.heap.size = D := ⟨_, rfl⟩
  go_enter Try.func73, Try.ntmps73
  go_upto_region 1 with fail
  have hk := blk_new w (.cells #[.int .i64 x.f0, .int .u64 x.f1.f0, .int .i64 x.f1.f1] 84)
  rw [hD] at hk
  have hb : Below w.heap.size w (w.alloc (.cells #[.int .i64 x.f0, .int .u64 x.f1.f0, .int .i64 x.f1.f1] 84)) := (Below.refl _ w).alloc (Nat.le_refl _) _
  have hsz : (w.alloc (.cells #[.int .i64 x.f0, .int .u64 x.f1.f0, .int .i64 x.f1.f1] 84)).heap.size = D + 1 := by simp [hD]
  generalize w.alloc (.cells #[.int .i64 x.f0, .int .u64 x.f1.f0, .int .i64 x.f1.f1] 84) = w1 at *
  have HH := Aside0.mk (show ∀ W, Below w1.heap.size w1 W → (W.cell? ⟨B, 1, none⟩ = some (.map (some pm)) ∧ W.cell? ⟨D, 0, none⟩ = some (.int .i64 x.f0) ∧ W.cell? ⟨D, 1, none⟩ = some (.int .u64 x.f1.f0) ∧ W.cell? ⟨D, 2, none⟩ = some (.int .i64 x.f1.f1) ∧ (Instr.lookup 72 (.map (some pm)) (kyv x.f0 x.f1.f0 x.f1.f1) false).run Try.prog W = .ok (pgv x.f1) W ∧ Aside0 (Below w1.heap.size w1 W)) from fun W hbW => by
    have hm := (HM.out.below hb).below hbW
    obtain ⟨k0, k1, k2⟩ := cells3 (blk_below hk hbW)
    exact ⟨hm.cells.2.1, k0, k1, k2, (hm.look_yes HW.out (List.mem_of_getElem? HI.out)).2, ⟨hbW⟩⟩)
  have hS0 := HH.out w1 (Below.refl _ _)
  unfold kyv pgv at HH hS0
  have hfd : ∀ W : World, (Instr.field 50 (.agg #[.int .u64 x.f1.f0, .int .i64 x.f1.f1, .int .u64 x.f1.f2, .bool x.f1.f3.f0, .bool x.f1.f3.f1, .bool x.f1.f3.f2, .bool x.f1.f3.f3, .bool x.f1.f3.f4, .bool x.f1.f3.f5, .bool x.f1.f4, .bool x.f1.f5]) 2).run Try.prog W = .ok (.int .u64 x.f1.f2) W := fun W => by kernel_rfl
  go_region_held3 (fun W => W.cell? ⟨B, 1, none⟩ = some (.map (some pm)) ∧ W.cell? ⟨D, 0, none⟩ = some (.int .i64 x.f0) ∧ W.cell? ⟨D, 1, none⟩ = some (.int .u64 x.f1.f0) ∧ W.cell? ⟨D, 2, none⟩ = some (.int .i64 x.f1.f1) ∧ (Instr.lookup 72 (.map (some pm)) (.agg #[.int .i64 x.f0, .int .u64 x.f1.f0, .int .i64 x.f1.f1]) false).run Try.prog W = .ok (.agg #[.int .u64 x.f1.f0, .int .i64 x.f1.f1, .int .u64 x.f1.f2, .bool x.f1.f3.f0, .bool x.f1.f3.f1, .bool x.f1.f3.f2, .bool x.f1.f3.f3, .bool x.f1.f3.f4, .bool x.f1.f3.f5, .bool x.f1.f4, .bool x.f1.f5]) W ∧ Aside0 (Below w1.heap.size w1 W))
    ((refine HH.out _ ?_; first | exact (Below.refl _ _).drew | exact (Below.refl _ _).drew.alloc (Nat.le_refl _) _ | trace_state)) (go_at_call 1)
  all_goals
    rename_i hS
    clear hS hS0 hfd HH
    have hwr : IntKind.i64.wrap x.f1.f2 = x.f1.f2 := by unfold IntKind.wrap; simp [IntKind.bits]; omega
    rw [hwr]
    clear hwr
    have hk2 := blk_alloc hk (.cells #[.int .i64 x.f1.f2] 3)
    have hb2 : Below w.heap.size w (w1.alloc (.cells #[.int .i64 x.f1.f2] 3)).drew := (hb.alloc hb.size _).drew
    have hg := blk_new w1 (.cells #[.int .i64 x.f1.f2] 3)
    rw [hsz] at hg
    have hk3 : (w1.alloc (.cells #[.int .i64 x.f1.f2] 3)).drew.heap[D]? = some (.cells #[.int .i64 x.f0, .int .u64 x.f1.f0, .int .i64 x.f1.f1] 84 (0, 0)) := hk2
    have hg3 : (w1.alloc (.cells #[.int .i64 x.f1.f2] 3)).drew.heap[D + 1]? = some (.cells #[.int .i64 x.f1.f2] 3 (0, 0)) := hg
    clear hk hb hg hk2 hsz
    generalize (w1.alloc (.cells #[.int .i64 x.f1.f2] 3)).drew = w2 at *
    clear w1
    (try simp only [Exit.inBlock, Exit.then])
    go_upto_region 2 with fail
    have hm2 := HM.out.below hb2
    obtain ⟨k0, k1, k2⟩ := cells3 hk3
    have m1 := hm2.cells.2.1
    obtain ⟨o, hrun, hmo⟩ := (hm2.below (Below.refl _ w2).drew).del_page HW.out HI.out 0
    have HMO := Aside0.mk hmo
    have HB := Aside0.mk hb2
    have HG3 := Aside0.mk hg3
    unfold kyv at hrun
    clear hm2 hmo hb2 hk3 hg3
    refine start_ (n := 6) (S := fun w' => w'.cell? ⟨B, 1, none⟩ = some (.map (some pm)) ∧ w'.cell? ⟨D, 0, none⟩ = some (.int .i64 x.f0) ∧ w'.cell? ⟨D, 1, none⟩ = some (.int .u64 x.f1.f0) ∧ w'.cell? ⟨D, 2, none⟩ = some (.int .i64 x.f1.f1)) (ds := [5]) #[false, false, false, false, false, false] (by kernel_rfl) rfl rfl ⟨m1, k0, k1, k2⟩ (fun hHeld => ?_)
    refine pure_ (i := 0) (N := some 13) (v := ?_) (a' := ?_) #[true, false, false, false, false, false] rfl rfl (by kernel_rfl) (fun _ _ _ h => h) (Or.inl ⟨by rfl, ?_⟩) ?_ ?_
    rotate_left
    · intro w'
      go_simp
      with_reducible rfl
    rotate_left
    · simp only [Act.put, List.setIfInBounds_toArray, List.set_cons_zero, List.set_cons_succ, i64_w, i32_w]
      rfl
    refine pure_ (i := 1) (N := some 14) (v := ?_) (a' := ?_) #[true, true, false, false, false, false] rfl rfl (by kernel_rfl) (fun _ _ _ h => h) (Or.inl ⟨by rfl, ?_⟩) ?_ ?_
    rotate_left
    · intro w'
      go_simp
      with_reducible rfl
    rotate_left
    · simp only [Act.put, List.setIfInBounds_toArray, List.set_cons_zero, List.set_cons_succ, i64_w, i32_w]
      rfl
    refine pure_ (i := 2) (N := some 15) (v := ?_) (a' := ?_) #[true, true, true, false, false, false] rfl rfl (by kernel_rfl) (fun _ _ _ h => h) (Or.inl ⟨by rfl, ?_⟩) ?_ ?_
    rotate_left
    · intro w'
      go_simp
      with_reducible rfl
    rotate_left
    · simp only [Act.put, List.setIfInBounds_toArray, List.set_cons_zero, List.set_cons_succ, i64_w, i32_w]
      rfl
    refine take_ (i := 3) (N := some 16) (v := ?_) (a' := ?_) #[true, true, true, true, false, false] rfl rfl (by kernel_rfl) (fun _ _ _ h => h) (Or.inl ⟨by rfl, ?_⟩) hHeld ?_ ?_
    rotate_left
    · rintro w' ⟨s0, s1, s2, s3⟩
      go_simp
      with_reducible rfl
    rotate_left
    · simp only [Act.put, List.setIfInBounds_toArray, List.set_cons_zero, List.set_cons_succ, i64_w, i32_w]
      rfl
    refine take_ (i := 4) (N := some 17) (v := ?_) (a' := ?_) #[true, true, true, true, true, false] rfl rfl (by kernel_rfl) (fun _ _ _ h => h) (Or.inl ⟨by rfl, ?_⟩) hHeld ?_ ?_
    rotate_left
    · rintro w' ⟨s0, s1, s2, s3⟩
      go_simp
      with_reducible rfl
    rotate_left
    · simp only [Act.put, List.setIfInBounds_toArray, List.set_cons_zero, List.set_cons_succ, i64_w, i32_w]
      rfl
    refine last_ (i := 5) (N := none) #[true, true, true, true, true, true] rfl rfl (by kernel_rfl) (by decide) (fun K hK => ?_)
    refine del_ (by rfl) rfl rfl rfl rfl hrun ?_
    refine hK.out _ _ ?_
    clear hK K
    refine done_ (by kernel_rfl) ?_
    (try simp only [Exit.inBlock, Exit.then])
    have hlt := (HLT.out pm (by simp))
    have hgl : D + 1 < w2.heap.size := blk_lt HG3.out
    have hne : D + 1 ≠ pm := by omega
    have hnb : D + 1 ≠ bm := by have := HLT.out bm (by simp); omega
    have hg4 : (ChangeMaps.setBlock w2.drew pm o).heap[D + 1]? = some (.cells #[.int .i64 x.f1.f2] 3 (0, 0)) := (sb_other o hne).trans HG3.out
    have hMv : Mv [B, pm, bm] w (ChangeMaps.setBlock w2.drew pm o) := (Mv.of_below HB.out.drew).setBlock (.inl (by simp)) o
    have hl2 : (s.L.eraseIdx i).length ≤ 100000 := Nat.le_trans (List.length_eraseIdx_le ..) hf
    have hwn := windows_calls HMO.out (HW.out.erase i) hl2 x.f1.f2
    have HWN := Aside0.mk hwn
    have HV := Aside0.mk hMv
    have HG4 := Aside0.mk hg4
    have hg5 : (ChangeMaps.setBlock w2.drew pm o).cell? ⟨D + 1, 0, none⟩ = some (.int .i64 x.f1.f2) := (blk_cell hg4 0).trans rfl
    clear k0 k1 k2 m1 hrun hlt hgl hne hwn hMv hg4 HB HG3 hl2
    generalize ChangeMaps.setBlock w2.drew pm o = w3 at *
    go_wp2_with fail
    clear hg5 hHeld
    refine HWN.out.mono ?_
    rintro e w4 ⟨rfl, hb4⟩
    clear HWN
    have HM4 := Aside0.mk (HMO.out.below hb4)
    have HV4 := Aside0.mk (HV.out.trans (S' := []) (Mv.of_below hb4) (fun _ hk => by simp at hk))
    have hg6 := blk_below HG4.out hb4
    have hg7 : w4.cell? ⟨D + 1, 0, none⟩ = some (.int .i64 x.f1.f2) := (blk_cell hg6 0).trans rfl
    clear hb4 hg6 HG4 HMO HV
    have hds : dropS s i x = { s with L := s.L.eraseIdx i, by_ := if winN (s.L.eraseIdx i) x.f1.f2 = 0 then cutB s.by_ x.f1.f2 else s.by_ } := rfl
    have HDS := Aside0.mk hds
    clear hds
    generalize dropS s i x = sd at *
    generalize winN (s.L.eraseIdx i) x.f1.f2 = nw at *
    by_cases hz : nw = 0
    · subst hz
      rw [if_pos rfl] at HDS
      have m2 := HM4.out.cells.2.2.1
      have hde := delf_calls HM4.out x.f1.f2 (D + 1) hg7 hnb
      have HDE := Aside0.mk hde
      clear hde hg7
      go_wp2_with fail
      refine HDE.out.mono ?_
      rintro e w5 ⟨rfl, hm5, hv5⟩
      have HM5 := Aside0.mk hm5
      have HV5 := Aside0.mk (HV4.out.trans hv5 (fun k hk => .inl (by simp at hk; simp [hk])))
      clear hm5 hv5 m2
      go_wp2_with fail
      go_end0
      exact ⟨rfl, HDS.out ▸ HM5.out, HV5.out⟩
    · rw [if_neg hz] at HDS
      have hz2 : ((nw : Int) == 0) = false := beq_eq_false_iff_ne.2 (by omega)
      have HZ := Aside0.mk hz
      clear hz hg7
      go_wp2_with fail
      go_end0
      exact ⟨rfl, HDS.out ▸ HM4.out, HV4.out⟩
end
end Go.Proofs.Ytalmemcidbmdgaa.PM


/- A model (layer 16): grow: the walk. -/
set_option linter.unusedVariables false
set_option linter.unusedSimpArgs false
namespace Go.Proofs.Ytalmemcidbmdgaa.PM
open Go.RowKit Go.Proofs.YtalmemcidbmdgaaW.PrintWords Go.Proofs.YtalmemcidbmdgaaW.PrintLast Go.Proofs.YtalmemcidbmdgaaW.PrintMore Go.Proofs.Ytalmemcidbmdgaa.PageG
attribute [local go_sem] max2_int min2_int max_two min_two max_three min_three max_four min_four   -- for this text's walks alone
structure OpS where
  kind : Int
  sp : Int
  ak : Int
  ap : Bool
  av : Int
  byte : Int
  va : Int
  size : Int
  at_ : Atr
  other : Int
  too : Int
theorem c_lit {W : World} {g : Nat} {t : TypeId} {xs : List Int} (h : W.heap[g]? = some (.cells (xs.map (Value.int .i64)).toArray t (0, 0))) (hl : xs.length ≤ 1000) : Kd.C (Kd.int .i64) W (some ⟨g, 0, none⟩) xs.length xs := by
  refine ⟨rfl, by omega, fun _ => ⟨_, rfl, fun j p hj => ⟨[.int .i64 p], rfl, rfl, fun i u hu => ?_⟩⟩⟩
  have hi : i = 0 := by
    have := (List.getElem?_eq_some_iff.1 hu).1
    simpa using this
  subst hi
  simp at hu
  subst hu
  have e : (Addr.add ⟨g, 0, none⟩ (j * (Kd.int .i64).sz + 0) : Addr) = ⟨g, j, none⟩ := by
    have hz : (Kd.int .i64).sz = 1 := rfl
    by_cases hj0 : j = 0
    · subst hj0; simp [Addr.add, hz]
    · simp [Addr.add, hz, hj0]
  rw [e]
  exact (blk_cell h j).trans (by simp [hj])
def growE (s : MS) (o : OpS) : Int := if isAll s.n [o.sp] = true ∧ 0 ≤ o.size ∧ o.size < 4 then 0 else 1
section
variable {w w' : World} {B pm bm : Nat} {s : MS}
set_option maxHeartbeats 8000000 in
set_option maxRecDepth 100000 in
theorem grow_calls (h : Mo w B pm bm s) (o : OpS) :
    Calls Try.prog 44 #[.pointer (some ⟨B, 0, none⟩), Value.agg #[.int .i64 o.kind, .int .i64 o.sp, .int .i64 o.ak, .bool o.ap, .int .u64 o.av, .int .u8 o.byte, .int .u64 o.va, .int .i64 o.size, .bool o.at_.f0, .bool o.at_.f1, .bool o.at_.f2, .bool o.at_.f3, .bool o.at_.f4, .bool o.at_.f5, .int .i64 o.other, .int .u64 o.too]] w fun e w' => e = .returned (.agg #[.int .i64 (growE s o), .int .i64 0, .int .u8 0]) ∧ Below w.heap.size w w' := by
  have HM := Aside0.mk h
  clear h
  obtain ⟨D, hD⟩ : ∃ D, w.heap.size = D := ⟨_, rfl⟩
  go_enter Try.func44, Try.ntmps44
  go_wp2_with fail
  have hk := blk_alloc (blk_alloc (blk_new w (.cells #[.int .i64 o.kind, .int .i64 o.sp, .int .i64 o.ak, .bool o.ap, .int .u64 o.av, .int .u8 o.byte, .int .u64 o.va, .int .i64 o.size, .bool o.at_.f0, .bool o.at_.f1, .bool o.at_.f2, .bool o.at_.f3, .bool o.at_.f4, .bool o.at_.f5, .int .i64 o.other, .int .u64 o.too] 36)) (.cells #[.int .i64 0, .int .i64 0, .int .u8 0] 42)) (.cells #[.int .i64 o.sp] 3)
  have hz := blk_alloc (blk_new (w.alloc (.cells #[.int .i64 o.kind, .int .i64 o.sp, .int .i64 o.ak, .bool o.ap, .int .u64 o.av, .int .u8 o.byte, .int .u64 o.va, .int .i64 o.size, .bool o.at_.f0, .bool o.at_.f1, .bool o.at_.f2, .bool o.at_.f3, .bool o.at_.f4, .bool o.at_.f5, .int .i64 o.other, .int .u64 o.too] 36)) (.cells #[.int .i64 0, .int .i64 0, .int .u8 0] 42)) (.cells #[.int .i64 o.sp] 3)
  have hl := blk_new ((w.alloc (.cells #[.int .i64 o.kind, .int .i64 o.sp, .int .i64 o.ak, .bool o.ap, .int .u64 o.av, .int .u8 o.byte, .int .u64 o.va, .int .i64 o.size, .bool o.at_.f0, .bool o.at_.f1, .bool o.at_.f2, .bool o.at_.f3, .bool o.at_.f4, .bool o.at_.f5, .int .i64 o.other, .int .u64 o.too] 36)).alloc (.cells #[.int .i64 0, .int .i64 0, .int .u8 0] 42)) (.cells #[.int .i64 o.sp] 3)
  have hb : Below w.heap.size w (((w.alloc (.cells #[.int .i64 o.kind, .int .i64 o.sp, .int .i64 o.ak, .bool o.ap, .int .u64 o.av, .int .u8 o.byte, .int .u64 o.va, .int .i64 o.size, .bool o.at_.f0, .bool o.at_.f1, .bool o.at_.f2, .bool o.at_.f3, .bool o.at_.f4, .bool o.at_.f5, .int .i64 o.other, .int .u64 o.too] 36)).alloc (.cells #[.int .i64 0, .int .i64 0, .int .u8 0] 42)).alloc (.cells #[.int .i64 o.sp] 3)) := (((Below.refl _ w).alloc (Nat.le_refl _) _).alloc (by simp) _).alloc (by simp; omega) _
  have hs1 : (w.alloc (.cells #[.int .i64 o.kind, .int .i64 o.sp, .int .i64 o.ak, .bool o.ap, .int .u64 o.av, .int .u8 o.byte, .int .u64 o.va, .int .i64 o.size, .bool o.at_.f0, .bool o.at_.f1, .bool o.at_.f2, .bool o.at_.f3, .bool o.at_.f4, .bool o.at_.f5, .int .i64 o.other, .int .u64 o.too] 36)).heap.size = D + 1 := by simp [hD]
  have hs2 : ((w.alloc (.cells #[.int .i64 o.kind, .int .i64 o.sp, .int .i64 o.ak, .bool o.ap, .int .u64 o.av, .int .u8 o.byte, .int .u64 o.va, .int .i64 o.size, .bool o.at_.f0, .bool o.at_.f1, .bool o.at_.f2, .bool o.at_.f3, .bool o.at_.f4, .bool o.at_.f5, .int .i64 o.other, .int .u64 o.too] 36)).alloc (.cells #[.int .i64 0, .int .i64 0, .int .u8 0] 42)).heap.size = D + 1 + 1 := by simp [hD]
  rw [hD] at hk
  rw [hs1] at hz
  rw [hs2] at hl
  generalize ((w.alloc (.cells #[.int .i64 o.kind, .int .i64 o.sp, .int .i64 o.ak, .bool o.ap, .int .u64 o.av, .int .u8 o.byte, .int .u64 o.va, .int .i64 o.size, .bool o.at_.f0, .bool o.at_.f1, .bool o.at_.f2, .bool o.at_.f3, .bool o.at_.f4, .bool o.at_.f5, .int .i64 o.other, .int .u64 o.too] 36)).alloc (.cells #[.int .i64 0, .int .i64 0, .int .u8 0] 42)).alloc (.cells #[.int .i64 o.sp] 3) = w1 at *
  clear hs1 hs2
  refine (is_calls (HM.out.below hb) [o.sp] (some ⟨D + 1 + 1, 0, none⟩) 1 (c_lit (xs := [o.sp]) hl (by simp)) (by simp)).mono ?_
  rintro e w2 ⟨rfl, rfl⟩
  have HE : Aside0 (growE s o = if isAll s.n [o.sp] = true ∧ 0 ≤ o.size ∧ o.size < 4 then 0 else 1) := ⟨rfl⟩
  have h7 := (blk_cell hk 7).trans rfl
  have HZ := Aside0.mk hz
  have HB := Aside0.mk hb
  clear hk hz hl hb
  cases hi : isAll s.n [o.sp] with
  | false =>
    rw [hi] at HE
    go_wp2_with fail
    refine (model_told.calls 1 _ _ _ w1 rfl).mono ?_
    rintro e w2 ⟨rfl, hb2⟩
    have hz2 := blk_below HZ.out hb2
    have HB2 := Aside0.mk (below_step HB.out hb2)
    obtain ⟨z0, z1, z2⟩ := cells3 hz2
    have y0 := blk_frozen hz2 0
    have y1 := blk_frozen hz2 1
    have y2 := blk_frozen hz2 2
    clear hb2
    go_wp2_with fail
    try rw [set3 hz2]
    refine bodyPost_ret (results_cell_row rfl _ _ (D + 1) 42 _ (0, 0) _ rfl (sb_same hz2 _) Try.underlying42 rfl (by kernel_rfl)) rfl ?_
    exact ⟨by rw [HE.out]; rfl, below_sb HB2.out (by omega) _⟩
  | true =>
    rw [hi] at HE
    by_cases h0 : o.size < 0
    · have hd0 : decide (o.size < 0) = true := decide_eq_true h0
      go_wp2_with fail
      refine (model_told.calls 1 _ _ _ w1 rfl).mono ?_
      rintro e w2 ⟨rfl, hb2⟩
      have hz2 := blk_below HZ.out hb2
      have HB2 := Aside0.mk (below_step HB.out hb2)
      obtain ⟨z0, z1, z2⟩ := cells3 hz2
      have y0 := blk_frozen hz2 0
      have y1 := blk_frozen hz2 1
      have y2 := blk_frozen hz2 2
      clear hb2
      go_wp2_with fail
      try rw [set3 hz2]
      refine bodyPost_ret (results_cell_row rfl _ _ (D + 1) 42 _ (0, 0) _ rfl (sb_same hz2 _) Try.underlying42 rfl (by kernel_rfl)) rfl ?_
      exact ⟨by rw [HE.out]; rw [if_neg (by omega)], below_sb HB2.out (by omega) _⟩
    · by_cases h4 : 4 ≤ o.size
      · have hd0 : decide (o.size < 0) = false := decide_eq_false h0
        have hd4 : decide (4 ≤ o.size) = true := decide_eq_true h4
        go_wp2_with fail
        refine (model_told.calls 1 _ _ _ w1 rfl).mono ?_
        rintro e w2 ⟨rfl, hb2⟩
        have hz2 := blk_below HZ.out hb2
        have HB2 := Aside0.mk (below_step HB.out hb2)
        obtain ⟨z0, z1, z2⟩ := cells3 hz2
        have y0 := blk_frozen hz2 0
        have y1 := blk_frozen hz2 1
        have y2 := blk_frozen hz2 2
        clear hb2
        go_wp2_with fail
        try rw [set3 hz2]
        refine bodyPost_ret (results_cell_row rfl _ _ (D + 1) 42 _ (0, 0) _ rfl (sb_same hz2 _) Try.underlying42 rfl (by kernel_rfl)) rfl ?_
        exact ⟨by rw [HE.out]; rw [if_neg (by omega)], below_sb HB2.out (by omega) _⟩
      · have hd0 : decide (o.size < 0) = false := decide_eq_false h0
        have hd4 : decide (4 ≤ o.size) = false := decide_eq_false h4
        obtain ⟨z0, z1, z2⟩ := cells3 HZ.out
        have y0 := blk_frozen HZ.out 0
        have y1 := blk_frozen HZ.out 1
        have y2 := blk_frozen HZ.out 2
        go_wp2_with fail
        try rw [set3 HZ.out]
        refine bodyPost_ret (results_cell_row rfl _ _ (D + 1) 42 _ (0, 0) _ rfl (sb_same HZ.out _) Try.underlying42 rfl (by kernel_rfl)) rfl ?_
        exact ⟨by rw [HE.out, if_pos ⟨by trivial, by omega, by omega⟩], below_sb HB.out (by omega) _⟩
end
end Go.Proofs.Ytalmemcidbmdgaa.PM


/- A model (layer 16): change, unmap, protect, clear: the walks. -/
set_option linter.unusedVariables false
set_option linter.unusedSimpArgs false
namespace Go.Proofs.Ytalmemcidbmdgaa.PM
open Go.RowKit Go.Proofs.YtalmemcidbmdgaaW.PrintWords Go.Proofs.YtalmemcidbmdgaaW.PrintLast Go.Proofs.YtalmemcidbmdgaaW.PrintMore Go.Proofs.Ytalmemcidbmdgaa.PageG
attribute [local go_sem] max2_int min2_int max_two min_two max_three min_three max_four min_four   -- for this text's walks alone
section
variable {w w' : World} {B pm bm : Nat} {s : MS}
/-- The closures of change: what they do with a page that is there. -/
def Does (w : World) (B pm bm : Nat) (s s2 : MS) (fv : FuncId) (caps : Array Value) (x : Ent) : Prop :=
  ∀ W, Below w.heap.size w W → Mo W B pm bm s → Calls Try.prog fv (#[.agg #[.int .i64 x.f0, .int .u64 x.f1.f0, .int .i64 x.f1.f1], .agg #[.int .u64 x.f1.f0, .int .i64 x.f1.f1, .int .u64 x.f1.f2, .bool x.f1.f3.f0, .bool x.f1.f3.f1, .bool x.f1.f3.f2, .bool x.f1.f3.f3, .bool x.f1.f3.f4, .bool x.f1.f3.f5, .bool x.f1.f4, .bool x.f1.f5]] ++ caps) W (fun e W' => e = .returned (.tuple #[]) ∧ Mo W' B pm bm s2 ∧ Mv [B, pm, bm] W W')
set_option maxHeartbeats 8000000 in
set_option maxRecDepth 100000 in
theorem change_no (h : Mo w B pm bm s) (o : OpS) (fv : FuncId) (caps : Array Value) (hi : isAll s.n [o.sp] = false) :
    Calls Try.prog 71 #[.pointer (some ⟨B, 0, none⟩), Value.agg #[.int .i64 o.kind, .int .i64 o.sp, .int .i64 o.ak, .bool o.ap, .int .u64 o.av, .int .u8 o.byte, .int .u64 o.va, .int .i64 o.size, .bool o.at_.f0, .bool o.at_.f1, .bool o.at_.f2, .bool o.at_.f3, .bool o.at_.f4, .bool o.at_.f5, .int .i64 o.other, .int .u64 o.too], .func (.func fv) #[] caps] w fun e w' => e = .returned (.agg #[.int .i64 1, .int .i64 0, .int .u8 0]) ∧ Below w.heap.size w w' := by
  have HM := Aside0.mk h
  clear h
  obtain ⟨D, hD⟩ : ∃ D, w.heap.size = D := ⟨_, rfl⟩
  go_enter Try.func71, Try.ntmps71
  go_wp2_with fail
  have hk := blk_alloc (blk_alloc (blk_new w (.cells #[.int .i64 o.kind, .int .i64 o.sp, .int .i64 o.ak, .bool o.ap, .int .u64 o.av, .int .u8 o.byte, .int .u64 o.va, .int .i64 o.size, .bool o.at_.f0, .bool o.at_.f1, .bool o.at_.f2, .bool o.at_.f3, .bool o.at_.f4, .bool o.at_.f5, .int .i64 o.other, .int .u64 o.too] 36)) (.cells #[.int .i64 0, .int .i64 0, .int .u8 0] 42)) (.cells #[.int .i64 o.sp] 3)
  have hz := blk_alloc (blk_new (w.alloc (.cells #[.int .i64 o.kind, .int .i64 o.sp, .int .i64 o.ak, .bool o.ap, .int .u64 o.av, .int .u8 o.byte, .int .u64 o.va, .int .i64 o.size, .bool o.at_.f0, .bool o.at_.f1, .bool o.at_.f2, .bool o.at_.f3, .bool o.at_.f4, .bool o.at_.f5, .int .i64 o.other, .int .u64 o.too] 36)) (.cells #[.int .i64 0, .int .i64 0, .int .u8 0] 42)) (.cells #[.int .i64 o.sp] 3)
  have hl := blk_new ((w.alloc (.cells #[.int .i64 o.kind, .int .i64 o.sp, .int .i64 o.ak, .bool o.ap, .int .u64 o.av, .int .u8 o.byte, .int .u64 o.va, .int .i64 o.size, .bool o.at_.f0, .bool o.at_.f1, .bool o.at_.f2, .bool o.at_.f3, .bool o.at_.f4, .bool o.at_.f5, .int .i64 o.other, .int .u64 o.too] 36)).alloc (.cells #[.int .i64 0, .int .i64 0, .int .u8 0] 42)) (.cells #[.int .i64 o.sp] 3)
  have hb : Below w.heap.size w (((w.alloc (.cells #[.int .i64 o.kind, .int .i64 o.sp, .int .i64 o.ak, .bool o.ap, .int .u64 o.av, .int .u8 o.byte, .int .u64 o.va, .int .i64 o.size, .bool o.at_.f0, .bool o.at_.f1, .bool o.at_.f2, .bool o.at_.f3, .bool o.at_.f4, .bool o.at_.f5, .int .i64 o.other, .int .u64 o.too] 36)).alloc (.cells #[.int .i64 0, .int .i64 0, .int .u8 0] 42)).alloc (.cells #[.int .i64 o.sp] 3)) := (((Below.refl _ w).alloc (Nat.le_refl _) _).alloc (by simp) _).alloc (by simp; omega) _
  have hs1 : (w.alloc (.cells #[.int .i64 o.kind, .int .i64 o.sp, .int .i64 o.ak, .bool o.ap, .int .u64 o.av, .int .u8 o.byte, .int .u64 o.va, .int .i64 o.size, .bool o.at_.f0, .bool o.at_.f1, .bool o.at_.f2, .bool o.at_.f3, .bool o.at_.f4, .bool o.at_.f5, .int .i64 o.other, .int .u64 o.too] 36)).heap.size = D + 1 := by simp [hD]
  have hs2 : ((w.alloc (.cells #[.int .i64 o.kind, .int .i64 o.sp, .int .i64 o.ak, .bool o.ap, .int .u64 o.av, .int .u8 o.byte, .int .u64 o.va, .int .i64 o.size, .bool o.at_.f0, .bool o.at_.f1, .bool o.at_.f2, .bool o.at_.f3, .bool o.at_.f4, .bool o.at_.f5, .int .i64 o.other, .int .u64 o.too] 36)).alloc (.cells #[.int .i64 0, .int .i64 0, .int .u8 0] 42)).heap.size = D + 1 + 1 := by simp [hD]
  rw [hD] at hk
  rw [hs1] at hz
  rw [hs2] at hl
  generalize ((w.alloc (.cells #[.int .i64 o.kind, .int .i64 o.sp, .int .i64 o.ak, .bool o.ap, .int .u64 o.av, .int .u8 o.byte, .int .u64 o.va, .int .i64 o.size, .bool o.at_.f0, .bool o.at_.f1, .bool o.at_.f2, .bool o.at_.f3, .bool o.at_.f4, .bool o.at_.f5, .int .i64 o.other, .int .u64 o.too] 36)).alloc (.cells #[.int .i64 0, .int .i64 0, .int .u8 0] 42)).alloc (.cells #[.int .i64 o.sp] 3) = w1 at *
  clear hs1 hs2
  refine (is_calls (HM.out.below hb) [o.sp] (some ⟨D + 1 + 1, 0, none⟩) 1 (c_lit (xs := [o.sp]) hl (by simp)) (by simp)).mono ?_
  rintro e w2 ⟨rfl, rfl⟩
  rw [hi]
  have HZ := Aside0.mk hz
  have HB := Aside0.mk hb
  clear hk hz hl hb
  go_wp2_with fail
  refine (model_told.calls 1 _ _ _ w1 rfl).mono ?_
  rintro e w2 ⟨rfl, hb2⟩
  have hz2 := blk_below HZ.out hb2
  have HB2 := Aside0.mk (below_step HB.out hb2)
  obtain ⟨z0, z1, z2⟩ := cells3 hz2
  have y0 := blk_frozen hz2 0
  have y1 := blk_frozen hz2 1
  have y2 := blk_frozen hz2 2
  clear hb2
  go_wp2_with fail
  rw [set3 hz2]
  refine bodyPost_ret (results_cell_row rfl _ _ (D + 1) 42 _ (0, 0) _ rfl (sb_same hz2 _) Try.underlying42 rfl (by kernel_rfl)) rfl ?_
  exact ⟨rfl, below_sb HB2.out (by omega) _⟩
set_option maxHeartbeats 8000000 in
set_option maxRecDepth 100000 in
theorem change_none (h : Mo w B pm bm s) (o : OpS) (fv : FuncId) (caps : Array Value) (hi : isAll s.n [o.sp] = true) (hsp : W64 o.sp) (va : Nat) (hva : va < 2 ^ 64) (hov : o.va = (va : Int)) (hn : ∀ i, i < 4 → NoAt s o.sp va i) :
    Calls Try.prog 71 #[.pointer (some ⟨B, 0, none⟩), Value.agg #[.int .i64 o.kind, .int .i64 o.sp, .int .i64 o.ak, .bool o.ap, .int .u64 o.av, .int .u8 o.byte, .int .u64 o.va, .int .i64 o.size, .bool o.at_.f0, .bool o.at_.f1, .bool o.at_.f2, .bool o.at_.f3, .bool o.at_.f4, .bool o.at_.f5, .int .i64 o.other, .int .u64 o.too], .func (.func fv) #[] caps] w fun e w' => e = .returned (.agg #[.int .i64 10, .int .i64 0, .int .u8 0]) ∧ Below w.heap.size w w' := by
  have HM := Aside0.mk h
  have HN := Aside0.mk hn
  have HOV := Aside0.mk hov
  clear h hn hov
  obtain ⟨D, hD⟩ : ∃ D, w.heap.size = D := ⟨_, rfl⟩
  go_enter Try.func71, Try.ntmps71
  go_wp2_with fail
  have hk := blk_alloc (blk_alloc (blk_new w (.cells #[.int .i64 o.kind, .int .i64 o.sp, .int .i64 o.ak, .bool o.ap, .int .u64 o.av, .int .u8 o.byte, .int .u64 o.va, .int .i64 o.size, .bool o.at_.f0, .bool o.at_.f1, .bool o.at_.f2, .bool o.at_.f3, .bool o.at_.f4, .bool o.at_.f5, .int .i64 o.other, .int .u64 o.too] 36)) (.cells #[.int .i64 0, .int .i64 0, .int .u8 0] 42)) (.cells #[.int .i64 o.sp] 3)
  have hz := blk_alloc (blk_new (w.alloc (.cells #[.int .i64 o.kind, .int .i64 o.sp, .int .i64 o.ak, .bool o.ap, .int .u64 o.av, .int .u8 o.byte, .int .u64 o.va, .int .i64 o.size, .bool o.at_.f0, .bool o.at_.f1, .bool o.at_.f2, .bool o.at_.f3, .bool o.at_.f4, .bool o.at_.f5, .int .i64 o.other, .int .u64 o.too] 36)) (.cells #[.int .i64 0, .int .i64 0, .int .u8 0] 42)) (.cells #[.int .i64 o.sp] 3)
  have hl := blk_new ((w.alloc (.cells #[.int .i64 o.kind, .int .i64 o.sp, .int .i64 o.ak, .bool o.ap, .int .u64 o.av, .int .u8 o.byte, .int .u64 o.va, .int .i64 o.size, .bool o.at_.f0, .bool o.at_.f1, .bool o.at_.f2, .bool o.at_.f3, .bool o.at_.f4, .bool o.at_.f5, .int .i64 o.other, .int .u64 o.too] 36)).alloc (.cells #[.int .i64 0, .int .i64 0, .int .u8 0] 42)) (.cells #[.int .i64 o.sp] 3)
  have hb : Below w.heap.size w (((w.alloc (.cells #[.int .i64 o.kind, .int .i64 o.sp, .int .i64 o.ak, .bool o.ap, .int .u64 o.av, .int .u8 o.byte, .int .u64 o.va, .int .i64 o.size, .bool o.at_.f0, .bool o.at_.f1, .bool o.at_.f2, .bool o.at_.f3, .bool o.at_.f4, .bool o.at_.f5, .int .i64 o.other, .int .u64 o.too] 36)).alloc (.cells #[.int .i64 0, .int .i64 0, .int .u8 0] 42)).alloc (.cells #[.int .i64 o.sp] 3)) := (((Below.refl _ w).alloc (Nat.le_refl _) _).alloc (by simp) _).alloc (by simp; omega) _
  have hs1 : (w.alloc (.cells #[.int .i64 o.kind, .int .i64 o.sp, .int .i64 o.ak, .bool o.ap, .int .u64 o.av, .int .u8 o.byte, .int .u64 o.va, .int .i64 o.size, .bool o.at_.f0, .bool o.at_.f1, .bool o.at_.f2, .bool o.at_.f3, .bool o.at_.f4, .bool o.at_.f5, .int .i64 o.other, .int .u64 o.too] 36)).heap.size = D + 1 := by simp [hD]
  have hs2 : ((w.alloc (.cells #[.int .i64 o.kind, .int .i64 o.sp, .int .i64 o.ak, .bool o.ap, .int .u64 o.av, .int .u8 o.byte, .int .u64 o.va, .int .i64 o.size, .bool o.at_.f0, .bool o.at_.f1, .bool o.at_.f2, .bool o.at_.f3, .bool o.at_.f4, .bool o.at_.f5, .int .i64 o.other, .int .u64 o.too] 36)).alloc (.cells #[.int .i64 0, .int .i64 0, .int .u8 0] 42)).heap.size = D + 1 + 1 := by simp [hD]
  rw [hD] at hk
  rw [hs1] at hz
  rw [hs2] at hl
  generalize ((w.alloc (.cells #[.int .i64 o.kind, .int .i64 o.sp, .int .i64 o.ak, .bool o.ap, .int .u64 o.av, .int .u8 o.byte, .int .u64 o.va, .int .i64 o.size, .bool o.at_.f0, .bool o.at_.f1, .bool o.at_.f2, .bool o.at_.f3, .bool o.at_.f4, .bool o.at_.f5, .int .i64 o.other, .int .u64 o.too] 36)).alloc (.cells #[.int .i64 0, .int .i64 0, .int .u8 0] 42)).alloc (.cells #[.int .i64 o.sp] 3) = w1 at *
  clear hs1 hs2
  refine (is_calls (HM.out.below hb) [o.sp] (some ⟨D + 1 + 1, 0, none⟩) 1 (c_lit (xs := [o.sp]) hl (by simp)) (by simp)).mono ?_
  rintro e w2 ⟨rfl, rfl⟩
  rw [hi]
  have HZ := Aside0.mk hz
  have HB := Aside0.mk hb
  have h1 := (blk_cell hk 1).trans rfl
  have h6 := (blk_cell hk 6).trans rfl
  rw [HOV.out] at h6
  clear hk hz hl hb
  go_wp2_with fail
  refine (at_no (HM.out.below HB.out) o.sp hsp va hva HN.out).mono ?_
  rintro e w2 ⟨rfl, hb2⟩
  have hz2 := blk_below HZ.out hb2
  have HB2 := Aside0.mk (below_step HB.out hb2)
  have hw2s : D + 1 < w2.heap.size := blk_lt hz2
  have hz3 := blk_alloc (blk_alloc hz2 (.cells #[.int .u64 0, .int .i64 0, .int .u64 0, .bool false, .bool false, .bool false, .bool false, .bool false, .bool false, .bool false, .bool false] 50)) (.cells #[.int .i64 0, .int .u64 0, .int .i64 0] 84)
  have hb3 := below_step HB2.out (((Below.refl _ w2).alloc (Nat.le_refl _) (.cells #[.int .u64 0, .int .i64 0, .int .u64 0, .bool false, .bool false, .bool false, .bool false, .bool false, .bool false, .bool false, .bool false] 50)).alloc (by simp) (.cells #[.int .i64 0, .int .u64 0, .int .i64 0] 84))
  unfold pgv kyv z0
  clear hb2 h1 h6 hz2 HB HZ
  have HZ := Aside0.mk hz3
  have HB := Aside0.mk hb3
  clear hz3 hb3
  go_wp2_with fail
  generalize (w2.alloc (.cells #[.int .u64 0, .int .i64 0, .int .u64 0, .bool false, .bool false, .bool false, .bool false, .bool false, .bool false, .bool false, .bool false] 50)).alloc (.cells #[.int .i64 0, .int .u64 0, .int .i64 0] 84) = w3 at *
  refine (model_told.calls 10 _ _ _ w3 rfl).mono ?_
  rintro e w2 ⟨rfl, hb2⟩
  have hz2 := blk_below HZ.out hb2
  have HB2 := Aside0.mk (below_step HB.out hb2)
  obtain ⟨z0, z1, z2⟩ := cells3 hz2
  have y0 := blk_frozen hz2 0
  have y1 := blk_frozen hz2 1
  have y2 := blk_frozen hz2 2
  clear hb2
  go_wp2_with fail
  rw [set3 hz2]
  refine bodyPost_ret (results_cell_row rfl _ _ (D + 1) 42 _ (0, 0) _ rfl (sb_same hz2 _) Try.underlying42 rfl (by kernel_rfl)) rfl ?_
  exact ⟨rfl, below_sb HB2.out (by omega) _⟩
/-- A reply of no error, and the model of s. -/
def OkP2 (w : World) (B pm bm : Nat) (s : MS) (e : Ending) (w' : World) : Prop := e = .returned (.agg #[.int .i64 0, .int .i64 0, .int .u8 0]) ∧ Mo w' B pm bm s ∧ Mv [B, pm, bm] w w'
set_option maxHeartbeats 8000000 in
set_option maxRecDepth 100000 in
theorem change_yes {s2 : MS} (h : Mo w B pm bm s) (hw : WfL s.L) (o : OpS) (fv : FuncId) (caps : Array Value) (hi : isAll s.n [o.sp] = true) (hsp : W64 o.sp) (va : Nat) (hva : va < 2 ^ 64) (hov : o.va = (va : Int))
    (x : Ent) (hx : x ∈ s.L) (hh : hit o.sp va x = true) (hd : Does w B pm bm s s2 fv caps x) (hcf : ∀ (args : Array Value) (W : World), (callFunc fv args).run Try.prog W = .ok (.enter fv args) W) :
    Calls Try.prog 71 #[.pointer (some ⟨B, 0, none⟩), Value.agg #[.int .i64 o.kind, .int .i64 o.sp, .int .i64 o.ak, .bool o.ap, .int .u64 o.av, .int .u8 o.byte, .int .u64 o.va, .int .i64 o.size, .bool o.at_.f0, .bool o.at_.f1, .bool o.at_.f2, .bool o.at_.f3, .bool o.at_.f4, .bool o.at_.f5, .int .i64 o.other, .int .u64 o.too], .func (.func fv) #[] caps] w (OkP2 w B pm bm s2) := by
  have HM := Aside0.mk h
  have HLT := Aside0.mk h.lt
  have HW := Aside0.mk hw
  have HX := Aside0.mk hx
  have HH := Aside0.mk hh
  have HD := Aside0.mk hd
  have HOV := Aside0.mk hov
  clear h hov hw hx hh hd
  obtain ⟨D, hD⟩ : ∃ D, w.heap.size = D := ⟨_, rfl⟩
  go_enter Try.func71, Try.ntmps71
  go_wp2_with fail
  have hk := blk_alloc (blk_alloc (blk_new w (.cells #[.int .i64 o.kind, .int .i64 o.sp, .int .i64 o.ak, .bool o.ap, .int .u64 o.av, .int .u8 o.byte, .int .u64 o.va, .int .i64 o.size, .bool o.at_.f0, .bool o.at_.f1, .bool o.at_.f2, .bool o.at_.f3, .bool o.at_.f4, .bool o.at_.f5, .int .i64 o.other, .int .u64 o.too] 36)) (.cells #[.int .i64 0, .int .i64 0, .int .u8 0] 42)) (.cells #[.int .i64 o.sp] 3)
  have hz := blk_alloc (blk_new (w.alloc (.cells #[.int .i64 o.kind, .int .i64 o.sp, .int .i64 o.ak, .bool o.ap, .int .u64 o.av, .int .u8 o.byte, .int .u64 o.va, .int .i64 o.size, .bool o.at_.f0, .bool o.at_.f1, .bool o.at_.f2, .bool o.at_.f3, .bool o.at_.f4, .bool o.at_.f5, .int .i64 o.other, .int .u64 o.too] 36)) (.cells #[.int .i64 0, .int .i64 0, .int .u8 0] 42)) (.cells #[.int .i64 o.sp] 3)
  have hl := blk_new ((w.alloc (.cells #[.int .i64 o.kind, .int .i64 o.sp, .int .i64 o.ak, .bool o.ap, .int .u64 o.av, .int .u8 o.byte, .int .u64 o.va, .int .i64 o.size, .bool o.at_.f0, .bool o.at_.f1, .bool o.at_.f2, .bool o.at_.f3, .bool o.at_.f4, .bool o.at_.f5, .int .i64 o.other, .int .u64 o.too] 36)).alloc (.cells #[.int .i64 0, .int .i64 0, .int .u8 0] 42)) (.cells #[.int .i64 o.sp] 3)
  have hb : Below w.heap.size w (((w.alloc (.cells #[.int .i64 o.kind, .int .i64 o.sp, .int .i64 o.ak, .bool o.ap, .int .u64 o.av, .int .u8 o.byte, .int .u64 o.va, .int .i64 o.size, .bool o.at_.f0, .bool o.at_.f1, .bool o.at_.f2, .bool o.at_.f3, .bool o.at_.f4, .bool o.at_.f5, .int .i64 o.other, .int .u64 o.too] 36)).alloc (.cells #[.int .i64 0, .int .i64 0, .int .u8 0] 42)).alloc (.cells #[.int .i64 o.sp] 3)) := (((Below.refl _ w).alloc (Nat.le_refl _) _).alloc (by simp) _).alloc (by simp; omega) _
  have hs1 : (w.alloc (.cells #[.int .i64 o.kind, .int .i64 o.sp, .int .i64 o.ak, .bool o.ap, .int .u64 o.av, .int .u8 o.byte, .int .u64 o.va, .int .i64 o.size, .bool o.at_.f0, .bool o.at_.f1, .bool o.at_.f2, .bool o.at_.f3, .bool o.at_.f4, .bool o.at_.f5, .int .i64 o.other, .int .u64 o.too] 36)).heap.size = D + 1 := by simp [hD]
  have hs2 : ((w.alloc (.cells #[.int .i64 o.kind, .int .i64 o.sp, .int .i64 o.ak, .bool o.ap, .int .u64 o.av, .int .u8 o.byte, .int .u64 o.va, .int .i64 o.size, .bool o.at_.f0, .bool o.at_.f1, .bool o.at_.f2, .bool o.at_.f3, .bool o.at_.f4, .bool o.at_.f5, .int .i64 o.other, .int .u64 o.too] 36)).alloc (.cells #[.int .i64 0, .int .i64 0, .int .u8 0] 42)).heap.size = D + 1 + 1 := by simp [hD]
  rw [hD] at hk
  rw [hs1] at hz
  rw [hs2] at hl
  generalize ((w.alloc (.cells #[.int .i64 o.kind, .int .i64 o.sp, .int .i64 o.ak, .bool o.ap, .int .u64 o.av, .int .u8 o.byte, .int .u64 o.va, .int .i64 o.size, .bool o.at_.f0, .bool o.at_.f1, .bool o.at_.f2, .bool o.at_.f3, .bool o.at_.f4, .bool o.at_.f5, .int .i64 o.other, .int .u64 o.too] 36)).alloc (.cells #[.int .i64 0, .int .i64 0, .int .u8 0] 42)).alloc (.cells #[.int .i64 o.sp] 3) = w1 at *
  clear hs1 hs2
  refine (is_calls (HM.out.below hb) [o.sp] (some ⟨D + 1 + 1, 0, none⟩) 1 (c_lit (xs := [o.sp]) hl (by simp)) (by simp)).mono ?_
  rintro e w2 ⟨rfl, rfl⟩
  rw [hi]
  have HZ := Aside0.mk hz
  have HB := Aside0.mk hb
  have h1 := (blk_cell hk 1).trans rfl
  have h6 := (blk_cell hk 6).trans rfl
  rw [HOV.out] at h6
  clear hk hz hl hb
  go_wp2_with fail
  refine (at_yes (HM.out.below HB.out) HW.out o.sp hsp va hva x HX.out HH.out).mono ?_
  rintro e w2 ⟨rfl, hb2⟩
  have hz2 := blk_below HZ.out hb2
  have HB2 := Aside0.mk (below_step HB.out hb2)
  have hw2s : D + 1 < w2.heap.size := blk_lt hz2
  have hz3 := blk_alloc (blk_alloc hz2 (.cells #[.int .u64 x.f1.f0, .int .i64 x.f1.f1, .int .u64 x.f1.f2, .bool x.f1.f3.f0, .bool x.f1.f3.f1, .bool x.f1.f3.f2, .bool x.f1.f3.f3, .bool x.f1.f3.f4, .bool x.f1.f3.f5, .bool x.f1.f4, .bool x.f1.f5] 50)) (.cells #[.int .i64 x.f0, .int .u64 x.f1.f0, .int .i64 x.f1.f1] 84)
  have hb3 := below_step HB2.out (((Below.refl _ w2).alloc (Nat.le_refl _) (.cells #[.int .u64 x.f1.f0, .int .i64 x.f1.f1, .int .u64 x.f1.f2, .bool x.f1.f3.f0, .bool x.f1.f3.f1, .bool x.f1.f3.f2, .bool x.f1.f3.f3, .bool x.f1.f3.f4, .bool x.f1.f3.f5, .bool x.f1.f4, .bool x.f1.f5] 50)).alloc (by simp) (.cells #[.int .i64 x.f0, .int .u64 x.f1.f0, .int .i64 x.f1.f1] 84))
  have hp3 := blk_alloc (blk_new w2 (.cells #[.int .u64 x.f1.f0, .int .i64 x.f1.f1, .int .u64 x.f1.f2, .bool x.f1.f3.f0, .bool x.f1.f3.f1, .bool x.f1.f3.f2, .bool x.f1.f3.f3, .bool x.f1.f3.f4, .bool x.f1.f3.f5, .bool x.f1.f4, .bool x.f1.f5] 50)) (.cells #[.int .i64 x.f0, .int .u64 x.f1.f0, .int .i64 x.f1.f1] 84)
  have hk3 := blk_new (w2.alloc (.cells #[.int .u64 x.f1.f0, .int .i64 x.f1.f1, .int .u64 x.f1.f2, .bool x.f1.f3.f0, .bool x.f1.f3.f1, .bool x.f1.f3.f2, .bool x.f1.f3.f3, .bool x.f1.f3.f4, .bool x.f1.f3.f5, .bool x.f1.f4, .bool x.f1.f5] 50)) (.cells #[.int .i64 x.f0, .int .u64 x.f1.f0, .int .i64 x.f1.f1] 84)
  rw [World.size_alloc] at hk3
  unfold pgv kyv
  clear hb2 h1 h6 hz2 HB HZ
  have HZ := Aside0.mk hz3
  have HB := Aside0.mk hb3
  have HP3 := Aside0.mk hp3
  have HK3 := Aside0.mk hk3
  clear hz3 hb3 hp3 hk3
  go_upto_region 6 with fail
  generalize (w2.alloc (.cells #[.int .u64 x.f1.f0, .int .i64 x.f1.f1, .int .u64 x.f1.f2, .bool x.f1.f3.f0, .bool x.f1.f3.f1, .bool x.f1.f3.f2, .bool x.f1.f3.f3, .bool x.f1.f3.f4, .bool x.f1.f3.f5, .bool x.f1.f4, .bool x.f1.f5] 50)).alloc (.cells #[.int .i64 x.f0, .int .u64 x.f1.f0, .int .i64 x.f1.f1] 84) = w3 at *
  obtain ⟨p0, p1, p2, p3, p4, p5, p6, p7, p8, p9, p10⟩ := cells11 HP3.out
  obtain ⟨k0, k1, k2⟩ := cells3 HK3.out
  go_wp2_with fail
  refine (HD.out w3 HB.out (HM.out.below HB.out)).mono ?_
  rintro e w4 ⟨rfl, hm4, hv4⟩
  have HM4 := Aside0.mk hm4
  have HV4 := Aside0.mk hv4
  have hne : D + 1 ∉ [B, pm, bm] := fun hm => by have := HLT.out _ hm; omega
  have hz4 : w4.heap[D + 1]? = some (.cells #[.int .i64 0, .int .i64 0, .int .u8 0] 42 (0, 0)) := (hv4.block _ (blk_lt HZ.out) hne).trans HZ.out
  obtain ⟨z0, z1, z2⟩ := cells3 hz4
  have y0 := blk_frozen hz4 0
  have y1 := blk_frozen hz4 1
  have y2 := blk_frozen hz4 2
  have HNE := Aside0.mk hne
  clear hm4 hv4 p0 p1 p2 p3 p4 p5 p6 p7 p8 p9 p10 k0 k1 k2 hne
  go_wp2_with fail
  rw [set3 hz4]
  refine bodyPost_ret (results_cell_row rfl _ _ (D + 1) 42 _ (0, 0) _ rfl (sb_same hz4 _) Try.underlying42 rfl (by kernel_rfl)) rfl ?_
  have hv := ((Mv.of_below HB.out).then (HV4.out.trans (S' := []) (Mv.refl [] _) (fun _ hk => by simp at hk)) : Mv [B, pm, bm] w w4)
  exact ⟨rfl, HM4.out.move (fun k hk => sb_other _ (fun e => HNE.out (e ▸ hk))), hv.setBlock (.inr (by omega)) _⟩
end
end Go.Proofs.Ytalmemcidbmdgaa.PM


/- A model (layer 16): put: the walk. -/
set_option linter.unusedVariables false
set_option linter.unusedSimpArgs false
namespace Go.Proofs.Ytalmemcidbmdgaa.PM
open Go.RowKit Go.Proofs.YtalmemcidbmdgaaW.PrintWords Go.Proofs.YtalmemcidbmdgaaW.PrintLast Go.Proofs.YtalmemcidbmdgaaW.PrintMore Go.Proofs.Ytalmemcidbmdgaa.PageG
attribute [local go_sem] max2_int min2_int max_two min_two max_three min_three max_four min_four   -- for this text's walks alone
open Go.Proofs.Ytalmemcidbmdgaa.FieldG Go.Proofs.Ytalmemcidbmdgaa.BitsN
def holeB (va : Nat) : Bool := !(decide (get va 43 21 = 0)) && (get va 43 21 != 2097151)
theorem hole_f (va : Nat) (hv : va < 2 ^ 64) : page_Hole.f va = some (holeB va) := by
  have hg := get_yes (P := 43) (S := 21) va hv (by omega) (by omega)
  unfold page_Hole.f holeB
  rw [show (43 : Int) = ((43 : Nat) : Int) from rfl, show (21 : Int) = ((21 : Nat) : Int) from rfl, hg]
  generalize get va 43 21 = g
  simp only [Option.bind_some]
  by_cases h0 : g = 0
  · subst h0; rfl
  · rw [if_neg (by omega)]
    simp only [h0, decide_false, Bool.not_false, Bool.true_and]
    congr 1
    by_cases h1 : g = 2097151
    · subst h1; rfl
    · rw [show (g != 2097151) = true by simp [h1]]
      simp only [bne_iff_ne, ne_eq]
      omega
def startsB (va sz : Int) : Bool := if 0 ≤ sz ∧ sz < 4 then decide (va.toNat % 2 ^ (13 + 3 * sz.toNat) = 0) else false
theorem starts_f (va : Nat) (hv : va < 2 ^ 64) (sz : Int) : page_Starts.f va sz = some (startsB va sz) := by
  unfold page_Starts.f startsB
  rw [pmay]
  by_cases h : 0 ≤ sz ∧ sz < 4
  · rw [if_pos h]
    simp only [Option.bind_some, h, and_self, decide_true, if_true]
    obtain ⟨n, rfl⟩ : ∃ n : Nat, sz = n := ⟨sz.toNat, by omega⟩
    rw [off_p va n hv (by omega)]
    simp only [Option.bind_some, Int.toNat_natCast]
    congr 1
    by_cases h0 : va % 2 ^ (13 + 3 * n) = 0
    · exact (beq_iff_eq.2 (by rw [h0]; rfl)).trans (decide_eq_true h0).symm
    · exact (beq_eq_false_iff_ne.2 (by omega)).trans (decide_eq_false h0).symm
  · rw [if_neg h]
    simp only [Option.bind_some, h, decide_false]
    rfl
theorem bs_of_mod {va s : Nat} (h : va % 2 ^ (13 + 3 * s) = 0) : bs va s = va := by
  unfold bs
  have := Nat.div_add_mod va (2 ^ (13 + 3 * s))
  rw [h, Nat.mul_comm] at this
  omega
/-- put: what it tells, the model behind it. -/
def putS (s : MS) (sp : Int) (p : Pg) : Int × MS :=
  if holeB p.f0.toNat = true then (3, s) else if startsB p.f0 p.f1 = false then (4, s) else if (sel sp s.L).any (meetB p) = true then (9, s) else (0, { s with L := s.L ++ [⟨sp, p⟩] })
structure OkQ (sp : Int) (p : Pg) : Prop where
  sp0 : 0 ≤ sp
  sp1 : sp < 64
  va : p.f0 = (p.f0.toNat : Int)
  va1 : p.f0.toNat < 2 ^ 64
  pa0 : 0 ≤ p.f2
  pa1 : p.f2 < 1000000
theorem OkQ.e {sp : Int} {p : Pg} (h : OkQ sp p) (hs : startsB p.f0 p.f1 = true) : OkE ⟨sp, p⟩ := by
  unfold startsB at hs
  split at hs
  · rename_i hz
    have hm := of_decide_eq_true hs
    exact ⟨h.sp0, h.sp1, h.va, h.va1, by show p.f1 = ((p.f1.toNat : Nat) : Int); omega, by show p.f1.toNat < 4; omega, bs_of_mod hm, h.pa0, h.pa1⟩
  · cases hs
theorem put_new {s : MS} {sp : Int} {p : Pg} (hm : (sel sp s.L).any (meetB p) = false) : ∀ y ∈ s.L, ¬ (y.f0 = sp ∧ y.f1.f0 = p.f0 ∧ y.f1.f1 = p.f1) := by
  intro y hy ⟨h1, h2, h3⟩
  rw [List.any_eq_false] at hm
  refine hm y.f1 ?_ ?_
  · unfold sel
    exact List.mem_map.2 ⟨y, List.mem_filter.2 ⟨hy, by simp [h1]⟩, rfl⟩
  · unfold meetB
    rw [h2, h3]
    simp
end Go.Proofs.Ytalmemcidbmdgaa.PM


/- A model (layer 16): put: the walk. -/
set_option linter.unusedVariables false
set_option linter.unusedSimpArgs false
namespace Go.Proofs.Ytalmemcidbmdgaa.PM
open Go.RowKit Go.Proofs.YtalmemcidbmdgaaW.PrintWords Go.Proofs.YtalmemcidbmdgaaW.PrintLast Go.Proofs.YtalmemcidbmdgaaW.PrintMore Go.Proofs.Ytalmemcidbmdgaa.PageG
attribute [local go_sem] max2_int min2_int max_two min_two max_three min_three max_four min_four   -- for this text's walks alone
section
variable {w w' : World} {B pm bm : Nat} {s : MS}
def PutP (w : World) (B pm bm : Nat) (r : Int × MS) (e : Ending) (w' : World) : Prop := e = .returned (.int .i64 r.1) ∧ Mo w' B pm bm r.2 ∧ Mv [B, pm, bm] w w'
theorem PutP.same {r : Int × MS} {n : Int} (h : Mo w B pm bm s) (hb : Below w.heap.size w w') (hr : r = (n, s)) : PutP w B pm bm r (.returned (.int .i64 n)) w' := by
  subst hr
  exact ⟨rfl, h.below hb, Mv.of_below hb⟩
set_option maxHeartbeats 8000000 in
set_option maxRecDepth 100000 in
theorem put_calls (h : Mo w B pm bm s) (hw : WfL s.L) (hf : s.L.length ≤ 100000) (sp : Int) (p : Pg) (hq : OkQ sp p) :
    Calls Try.prog 70 #[.pointer (some ⟨B, 0, none⟩), .int .i64 sp, .agg #[.int .u64 p.f0, .int .i64 p.f1, .int .u64 p.f2, .bool p.f3.f0, .bool p.f3.f1, .bool p.f3.f2, .bool p.f3.f3, .bool p.f3.f4, .bool p.f3.f5, .bool p.f4, .bool p.f5]] w (PutP w B pm bm (putS s sp p)) := by
  have HM := Aside0.mk h
  have HW := Aside0.mk hw
  have HQ := Aside0.mk hq
  have HHO := Aside0.mk (show page_Hole.f p.f0 = some (holeB p.f0.toNat) by have := hole_f p.f0.toNat hq.va1; rwa [← hq.va] at this)
  have HST := Aside0.mk (show page_Starts.f p.f0 p.f1 = some (startsB p.f0 p.f1) by have := starts_f p.f0.toNat hq.va1 p.f1; rwa [← hq.va] at this)
  have HR := Aside0.mk (show putS s sp p = if holeB p.f0.toNat = true then (3, s) else if startsB p.f0 p.f1 = false then (4, s) else if (sel sp s.L).any (meetB p) = true then (9, s) else (0, { s with L := s.L ++ [⟨sp, p⟩] }) from rfl)
  clear h hw hq
  generalize putS s sp p = res at *
  obtain ⟨D, hD⟩ : ∃ D, w.heap.size = D := ⟨_, rfl⟩
  go_enter Try.func70, Try.ntmps70
  go_upto_region 2 with fail
  have hk := blk_new w (.cells #[.int .u64 p.f0, .int .i64 p.f1, .int .u64 p.f2, .bool p.f3.f0, .bool p.f3.f1, .bool p.f3.f2, .bool p.f3.f3, .bool p.f3.f4, .bool p.f3.f5, .bool p.f4, .bool p.f5] 50)
  have hb : Below w.heap.size w (w.alloc (.cells #[.int .u64 p.f0, .int .i64 p.f1, .int .u64 p.f2, .bool p.f3.f0, .bool p.f3.f1, .bool p.f3.f2, .bool p.f3.f3, .bool p.f3.f4, .bool p.f3.f5, .bool p.f4, .bool p.f5] 50)) := (Below.refl _ w).alloc (Nat.le_refl _) _
  rw [hD] at hk
  generalize w.alloc (.cells #[.int .u64 p.f0, .int .i64 p.f1, .int .u64 p.f2, .bool p.f3.f0, .bool p.f3.f1, .bool p.f3.f2, .bool p.f3.f3, .bool p.f3.f4, .bool p.f3.f5, .bool p.f4, .bool p.f5] 50) = w1 at *
  obtain ⟨p0, p1, -⟩ := cells11 hk
  have HK := Aside0.mk hk
  have HB := Aside0.mk hb
  clear hk hb
  generalize hho : holeB p.f0.toNat = ho at *
  go_wp2_with fail
  refine (page_Hole.calls p.f0 ho w1 HHO.out).mono ?_
  rintro e w2 ⟨rfl, hd⟩
  have hk2 := blk_below HK.out hd.below
  have HB2 := Aside0.mk (below_step HB.out hd.below)
  clear hd p0 p1 HB HK
  obtain ⟨p0, p1, -⟩ := cells11 hk2
  have HK2 := Aside0.mk hk2
  clear hk2
  cases ho with
  | true =>
    rw [if_pos rfl] at HR
    go_wp2_with fail
    go_ret
    exact PutP.same HM.out HB2.out HR.out
  | false =>
    rw [if_neg (by simp)] at HR
    generalize hst : startsB p.f0 p.f1 = st at *
    go_wp2_with fail
    refine (page_Starts.calls p.f0 p.f1 st w2 HST.out).mono ?_
    rintro e w3 ⟨rfl, hd⟩
    have hk3 := blk_below HK2.out hd.below
    have HB3 := Aside0.mk (below_step HB2.out hd.below)
    clear hd p0 p1 HB2 HK2
    have HK3 := Aside0.mk hk3
    clear hk3
    cases st with
    | false =>
      rw [if_pos rfl] at HR
      go_wp2_with fail
      go_ret
      exact PutP.same HM.out HB3.out HR.out
    | true =>
      rw [if_neg (by simp)] at HR
      have hoe := HQ.out.e hst
      have HOE := Aside0.mk hoe
      clear hoe
      go_wp2_with fail
      refine (pages_calls (HM.out.below HB3.out) hf sp).mono ?_
      rintro e w4 ⟨A, c, l, rfl, hlc, hperm, -, hC, hb4, -⟩
      have hk4 := blk_below HK3.out hb4
      have HB4 := Aside0.mk (below_step HB3.out hb4)
      have hll : l.length ≤ 100000 := by
        have h1 := hperm.length_eq
        have h2 := sel_len sp s.L
        omega
      have hok : ∀ q ∈ l, OkP q := fun q hq => by
        obtain ⟨y, hy, rfl⟩ := List.mem_map.1 (hperm.mem_iff.1 hq)
        exact (HW.out.ok y (List.mem_filter.1 hy).1).p
      have HCC := Aside0.mk (contains_calls w4 p HOE.out.p D hk4 A c l hC hll hok)
      have HANY := Aside0.mk (show l.any (meetB p) = (sel sp s.L).any (meetB p) from hperm.any_eq)
      have HK4 := Aside0.mk hk4
      clear hk4 hb4 hlc hperm hC hll hok HB3 HK3
      go_wp2_with fail
      refine HCC.out.mono ?_
      rintro e w5 ⟨rfl, hb5⟩
      rw [HANY.out]
      have HK5 := Aside0.mk (blk_below HK4.out hb5)
      have HB5 := Aside0.mk (below_step HB4.out hb5)
      clear hb5 HB4 HK4 HCC HANY
      generalize han : (sel sp s.L).any (meetB p) = an at *
      cases an with
      | true =>
        rw [if_pos rfl] at HR
        go_wp2_with fail
        go_ret
        exact PutP.same HM.out HB5.out HR.out
      | false =>
        rw [if_neg (by simp)] at HR
        have HNEW := Aside0.mk (put_new (p := p) han)
        clear han
        go_upto_region 8 with fail
        obtain ⟨o, hrun, hmo⟩ := ((HM.out.below HB5.out).below (Below.refl _ w5).drew).new_page ⟨sp, p⟩ HOE.out HNEW.out
        have HMO := Aside0.mk hmo
        unfold kyv pgv at hrun
        clear hmo
        have m1 := (HM.out.below HB5.out).cells.2.1
        obtain ⟨p0, p1, p2, p3, p4, p5, p6, p7, p8, p9, p10⟩ := cells11 HK5.out
        refine start_ (n := 12) (S := fun w' => w'.cell? ⟨B, 1, none⟩ = some (.map (some pm)) ∧ w'.cell? ⟨D, 0, none⟩ = some (.int .u64 p.f0) ∧ w'.cell? ⟨D, 1, none⟩ = some (.int .i64 p.f1) ∧ w'.cell? ⟨D, 2, none⟩ = some (.int .u64 p.f2) ∧ w'.cell? ⟨D, 3, none⟩ = some (.bool p.f3.f0) ∧ w'.cell? ⟨D, 4, none⟩ = some (.bool p.f3.f1) ∧ w'.cell? ⟨D, 5, none⟩ = some (.bool p.f3.f2) ∧ w'.cell? ⟨D, 6, none⟩ = some (.bool p.f3.f3) ∧ w'.cell? ⟨D, 7, none⟩ = some (.bool p.f3.f4) ∧ w'.cell? ⟨D, 8, none⟩ = some (.bool p.f3.f5) ∧ w'.cell? ⟨D, 9, none⟩ = some (.bool p.f4) ∧ w'.cell? ⟨D, 10, none⟩ = some (.bool p.f5)) (ds := [11]) #[false, false, false, false, false, false, false, false, false, false, false, false] (by kernel_rfl) rfl rfl ⟨m1, p0, p1, p2, p3, p4, p5, p6, p7, p8, p9, p10⟩ (fun hHeld => ?_)
        refine pure_ (i := 0) (N := some 26) (v := ?_) (a' := ?_) #[true, false, false, false, false, false, false, false, false, false, false, false] rfl rfl (by kernel_rfl) (fun _ _ _ h => h) (Or.inl ⟨by rfl, ?_⟩) ?_ ?_
        rotate_left
        · intro w'
          go_simp
          with_reducible rfl
        rotate_left
        · simp only [Act.put, List.setIfInBounds_toArray, List.set_cons_zero, List.set_cons_succ, i64_w, i32_w]
          rfl
        refine pure_ (i := 1) (N := some 27) (v := ?_) (a' := ?_) #[true, true, false, false, false, false, false, false, false, false, false, false] rfl rfl (by kernel_rfl) (fun _ _ _ h => h) (Or.inl ⟨by rfl, ?_⟩) ?_ ?_
        rotate_left
        · intro w'
          go_simp
          with_reducible rfl
        rotate_left
        · simp only [Act.put, List.setIfInBounds_toArray, List.set_cons_zero, List.set_cons_succ, i64_w, i32_w]
          rfl
        refine pure_ (i := 2) (N := some 28) (v := ?_) (a' := ?_) #[true, true, true, false, false, false, false, false, false, false, false, false] rfl rfl (by kernel_rfl) (fun _ _ _ h => h) (Or.inl ⟨by rfl, ?_⟩) ?_ ?_
        rotate_left
        · intro w'
          go_simp
          with_reducible rfl
        rotate_left
        · simp only [Act.put, List.setIfInBounds_toArray, List.set_cons_zero, List.set_cons_succ, i64_w, i32_w]
          rfl
        refine pure_ (i := 4) (N := some 30) (v := ?_) (a' := ?_) #[true, true, true, false, true, false, false, false, false, false, false, false] rfl rfl (by kernel_rfl) (fun _ _ _ h => h) (Or.inl ⟨by rfl, ?_⟩) ?_ ?_
        rotate_left
        · intro w'
          go_simp
          with_reducible rfl
        rotate_left
        · simp only [Act.put, List.setIfInBounds_toArray, List.set_cons_zero, List.set_cons_succ, i64_w, i32_w]
          rfl
        refine pure_ (i := 5) (N := some 31) (v := ?_) (a' := ?_) #[true, true, true, false, true, true, false, false, false, false, false, false] rfl rfl (by kernel_rfl) (fun _ _ _ h => h) (Or.inl ⟨by rfl, ?_⟩) ?_ ?_
        rotate_left
        · intro w'
          go_simp
          with_reducible rfl
        rotate_left
        · simp only [Act.put, List.setIfInBounds_toArray, List.set_cons_zero, List.set_cons_succ, i64_w, i32_w]
          rfl
        refine pure_ (i := 7) (N := some 33) (v := ?_) (a' := ?_) #[true, true, true, false, true, true, false, true, false, false, false, false] rfl rfl (by kernel_rfl) (fun _ _ _ h => h) (Or.inl ⟨by rfl, ?_⟩) ?_ ?_
        rotate_left
        · intro w'
          go_simp
          with_reducible rfl
        rotate_left
        · simp only [Act.put, List.setIfInBounds_toArray, List.set_cons_zero, List.set_cons_succ, i64_w, i32_w]
          rfl
        refine take_ (i := 3) (N := some 29) (v := ?_) (a' := ?_) #[true, true, true, true, true, true, false, true, false, false, false, false] rfl rfl (by kernel_rfl) (fun _ _ _ h => h) (Or.inl ⟨by rfl, ?_⟩) hHeld ?_ ?_
        rotate_left
        · rintro w' ⟨s0, s1, s2, s3, s4, s5, s6, s7, s8, s9, s10, s11⟩
          go_simp
          with_reducible rfl
        rotate_left
        · simp only [Act.put, List.setIfInBounds_toArray, List.set_cons_zero, List.set_cons_succ, i64_w, i32_w]
          rfl
        refine take_ (i := 6) (N := some 32) (v := ?_) (a' := ?_) #[true, true, true, true, true, true, true, true, false, false, false, false] rfl rfl (by kernel_rfl) (fun _ _ _ h => h) (Or.inl ⟨by rfl, ?_⟩) hHeld ?_ ?_
        rotate_left
        · rintro w' ⟨s0, s1, s2, s3, s4, s5, s6, s7, s8, s9, s10, s11⟩
          go_simp
          with_reducible rfl
        rotate_left
        · simp only [Act.put, List.setIfInBounds_toArray, List.set_cons_zero, List.set_cons_succ, i64_w, i32_w]
          rfl
        refine take_ (i := 8) (N := some 34) (v := ?_) (a' := ?_) #[true, true, true, true, true, true, true, true, true, false, false, false] rfl rfl (by kernel_rfl) (fun _ _ _ h => h) (Or.inl ⟨by rfl, ?_⟩) hHeld ?_ ?_
        rotate_left
        · rintro w' ⟨s0, s1, s2, s3, s4, s5, s6, s7, s8, s9, s10, s11⟩
          go_simp
          with_reducible rfl
        rotate_left
        · simp only [Act.put, List.setIfInBounds_toArray, List.set_cons_zero, List.set_cons_succ, i64_w, i32_w]
          rfl
        refine pure_ (i := 9) (N := some 35) (v := ?_) (a' := ?_) #[true, true, true, true, true, true, true, true, true, true, false, false] rfl rfl (by kernel_rfl) (fun _ _ _ h => h) (Or.inl ⟨by rfl, ?_⟩) ?_ ?_
        rotate_left
        · intro w'
          go_simp
          with_reducible rfl
        rotate_left
        · simp only [Act.put, List.setIfInBounds_toArray, List.set_cons_zero, List.set_cons_succ, i64_w, i32_w]
          rfl
        refine take_ (i := 10) (N := some 36) (v := ?_) (a' := ?_) #[true, true, true, true, true, true, true, true, true, true, true, false] rfl rfl (by kernel_rfl) (fun _ _ _ h => h) (Or.inl ⟨by rfl, ?_⟩) hHeld ?_ ?_
        rotate_left
        · rintro w' ⟨s0, s1, s2, s3, s4, s5, s6, s7, s8, s9, s10, s11⟩
          go_simp
          with_reducible rfl
        rotate_left
        · simp only [Act.put, List.setIfInBounds_toArray, List.set_cons_zero, List.set_cons_succ, i64_w, i32_w]
          rfl
        refine last_ (i := 11) (N := none) #[true, true, true, true, true, true, true, true, true, true, true, true] rfl rfl (by kernel_rfl) (by decide) (fun K hK => ?_)
        refine skip_ (w1 := _) (by rfl) rfl (run_mapUpdate rfl rfl rfl rfl hrun) ?_
        refine hK.out _ _ ?_
        clear hK K
        refine done_ (by kernel_rfl) ?_
        (try simp only [Exit.inBlock, Exit.then])
        go_wp2_with fail
        go_ret
        rw [HR.out]
        exact ⟨rfl, HMO.out, (Mv.of_below (HB5.out.drew)).setBlock (.inl (by simp)) o⟩
end
end Go.Proofs.Ytalmemcidbmdgaa.PM




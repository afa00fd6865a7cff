-- written by xprint.py, a program of this session, over the kit's print (functions told by hand: see the texts)
import Derived.Test.YtcbnmmkmgpbfiaaProg
import Derived.Below
import Derived.Deep.Draws
import Derived.Deep.AppendLies
import Derived.Maps.AppendAt
import Derived.OwnWalk
import Derived.Laws.BytesArg
import Derived.Laws.MakeOwn
import Derived.Laws.OwnMore
import Derived.Deep.OwnRows
import Derived.Tactics
import Derived.Lib.ConvBytes
import Derived.Laws.Slices
import Derived.WalkKit
import Derived.KernelRfl
import Derived.RowKit3
import Derived.Deep.LoopGhost
import Derived.Deep.QuietTactic
import Derived.BigQuiet
import Derived.WideLaws
import Derived.Deep.DeepCutAuto
import Derived.Deep.CutBlock
import Derived.Deep.RegionHeld3
import Derived.Laws.Rows
import Derived.Lib.AppendStr
import Derived.ArgAppend
import Derived.Laws.IdiomCopy
import Derived.OrdersHeld
import Derived.Laws.BitsLemmas
import Derived.RowKit
import Derived.Test.YtcbnmmkmgpbfiaaWWords
import Derived.Test.YtcbnmmkmgpbfiaaWLast
import Derived.Test.YtcbnmmkmgpbfiaaWTab
import Derived.Test.YtcbnmmkmgpbfiaaWFour
import Derived.Test.YtcbnmmkmgpbfiaaWQPut
import Derived.Test.YtcbnmmkmgpbfiaaWApart
import Derived.Test.YtcbnmmkmgpbfiaaWArr
import Derived.Test.YtcbnmmkmgpbfiaaWZeros
import Derived.Test.YtcbnmmkmgpbfiaaWFoot
import Derived.Test.YtcbnmmkmgpbfiaaWKept
import Derived.Test.YtcbnmmkmgpbfiaaWShare
import Derived.Test.YtcbnmmkmgpbfiaaWN
import Derived.Test.YtcbnmmkmgpbfiaaWFootNe
import Derived.Test.YtcbnmmkmgpbfiaaWAt
import Derived.Test.YtcbnmmkmgpbfiaaWEqStruct
import Derived.Test.YtcbnmmkmgpbfiaaWRepsOne
import Derived.Test.YtcbnmmkmgpbfiaaWInv
import Derived.Test.YtcbnmmkmgpbfiaaWInvWords
import Derived.Test.YtcbnmmkmgpbfiaaWGuard
import Derived.Test.YtcbnmmkmgpbfiaaWNEv
import Derived.Test.YtcbnmmkmgpbfiaaWMore
namespace Go.Proofs.Ytcbnmmkmgpbfiaa.PN
open Go.RowKit Go.Proofs.YtcbnmmkmgpbfiaaW.PrintWords Go.Proofs.YtcbnmmkmgpbfiaaW.PrintLast Go.Proofs.YtcbnmmkmgpbfiaaW.PrintMore
attribute [local go_sem] max2_int min2_int max_two min_two max_three min_three max_four min_four   -- for this text's walks alone
set_option linter.unusedVariables false
set_option linter.unusedSimpArgs false



def errW : Option Int → Value
  | none => .nilIface
  | some c => .iface 0 (.int .i64 c)
theorem errW_none : errW none = .nilIface := rfl
theorem errW_some (c : Int) : errW (some c) = .iface 0 (.int .i64 c) := rfl

theorem info30 : (Try.prog.info? 30).map (fun i => (i.zero, i.size, i.bytes)) = some (some (.agg #[(.int .u64 0), (.int .i64 0), (.int .u64 0), (.bool false), (.bool false), (.bool false), (.bool false), (.bool false), (.bool false), (.bool false), (.bool false)]), 11, 32) := by kernel_rfl
theorem info32 : (Try.prog.info? 32).map (fun i => (i.zero, i.size, i.bytes)) = some (some (.agg #[(.int .i64 0), (.int .i64 0), (.int .u64 0), (.int .u64 0), (.bool false), (.bool false), (.bool false), (.bool false), (.bool false), (.bool false), (.bool false)]), 11, 40) := by kernel_rfl
-- the values' own types
/-! #### struct type 28 -/
structure S28 where
  f0 : Bool
  f1 : Bool
  f2 : Bool
  f3 : Bool
  f4 : Bool
  f5 : Bool
def z28 : S28 := ⟨false, false, false, false, false, false⟩
def k28 : Kd S28 := Kd.iso (Kd.pair Kd.bool (Kd.pair Kd.bool (Kd.pair Kd.bool (Kd.pair Kd.bool (Kd.pair Kd.bool Kd.bool))))) (fun x : S28 => (x.f0, x.f1, x.f2, x.f3, x.f4, x.f5))
theorem k28_open {w : World} {x : S28} {cs : List Value} (h : k28.K w x cs) : cs = [.bool x.f0, .bool x.f1, .bool x.f2, .bool x.f3, .bool x.f4, .bool x.f5] := by
  obtain ⟨_, _, rfl, rfl, ⟨_, _, rfl, rfl, ⟨_, _, rfl, rfl, ⟨_, _, rfl, rfl, ⟨_, _, rfl, rfl, rfl⟩⟩⟩⟩⟩ := h
  exact rfl
theorem k28_openM {w : World} {base : Nat} {ok : Nat → Prop} {x : S28} {cs : List Value} (h : k28.M w base ok x cs) : cs = [.bool x.f0, .bool x.f1, .bool x.f2, .bool x.f3, .bool x.f4, .bool x.f5] := by
  obtain ⟨_, _, rfl, rfl, ⟨_, _, rfl, rfl, ⟨_, _, rfl, rfl, ⟨_, _, rfl, rfl, ⟨_, _, rfl, rfl, rfl⟩⟩⟩⟩⟩ := h
  exact rfl
theorem k28_mk (w : World) (x : S28)  : k28.K w x [.bool x.f0, .bool x.f1, .bool x.f2, .bool x.f3, .bool x.f4, .bool x.f5] := ⟨[.bool x.f0], [.bool x.f1, .bool x.f2, .bool x.f3, .bool x.f4, .bool x.f5], rfl, rfl, ⟨[.bool x.f1], [.bool x.f2, .bool x.f3, .bool x.f4, .bool x.f5], rfl, rfl, ⟨[.bool x.f2], [.bool x.f3, .bool x.f4, .bool x.f5], rfl, rfl, ⟨[.bool x.f3], [.bool x.f4, .bool x.f5], rfl, rfl, ⟨[.bool x.f4], [.bool x.f5], rfl, rfl, rfl⟩⟩⟩⟩⟩
theorem k28_mkM (w : World) (base : Nat) (ok : Nat → Prop) (x : S28)  : k28.M w base ok x [.bool x.f0, .bool x.f1, .bool x.f2, .bool x.f3, .bool x.f4, .bool x.f5] := ⟨[.bool x.f0], [.bool x.f1, .bool x.f2, .bool x.f3, .bool x.f4, .bool x.f5], rfl, rfl, ⟨[.bool x.f1], [.bool x.f2, .bool x.f3, .bool x.f4, .bool x.f5], rfl, rfl, ⟨[.bool x.f2], [.bool x.f3, .bool x.f4, .bool x.f5], rfl, rfl, ⟨[.bool x.f3], [.bool x.f4, .bool x.f5], rfl, rfl, ⟨[.bool x.f4], [.bool x.f5], rfl, rfl, rfl⟩⟩⟩⟩⟩
def rd_T28 (xs : List S28) (i : Int) : S28 := xs.getD i.toNat z28
theorem at_T28 {w : World} {A : Option Addr} {n : Nat} {xs : List S28} (h : Kd.C k28 w A n xs) (i : Int) (h0 : 0 ≤ i) (h1 : i < n) : ∃ ad , A = some ad ∧ w.cell? (ad.add (i.toNat * 6)) = some (.bool (rd_T28 xs i).f0) ∧ w.cell? ⟨(ad.add (i.toNat * 6)).block, (ad.add (i.toNat * 6)).off + 1, none⟩ = some (.bool (rd_T28 xs i).f1) ∧ w.cell? ⟨(ad.add (i.toNat * 6)).block, (ad.add (i.toNat * 6)).off + 2, none⟩ = some (.bool (rd_T28 xs i).f2) ∧ w.cell? ⟨(ad.add (i.toNat * 6)).block, (ad.add (i.toNat * 6)).off + 3, none⟩ = some (.bool (rd_T28 xs i).f3) ∧ w.cell? ⟨(ad.add (i.toNat * 6)).block, (ad.add (i.toNat * 6)).off + 4, none⟩ = some (.bool (rd_T28 xs i).f4) ∧ w.cell? ⟨(ad.add (i.toNat * 6)).block, (ad.add (i.toNat * 6)).off + 5, none⟩ = some (.bool (rd_T28 xs i).f5) := by
  obtain ⟨ad, c, e, _, hK, hc0⟩ := Kd.C_get h z28 i h0 h1
  have hc : ∀ j u, c[j]? = some u → w.cell? (ad.add (i.toNat * 6 + j)) = some u := hc0
  obtain rfl := k28_open hK
  exact ⟨ad, e, hc 0 _ rfl, by rw [← add_field _ _ 1 (by omega)]; exact hc 1 _ rfl, by rw [← add_field _ _ 2 (by omega)]; exact hc 2 _ rfl, by rw [← add_field _ _ 3 (by omega)]; exact hc 3 _ rfl, by rw [← add_field _ _ 4 (by omega)]; exact hc 4 _ rfl, by rw [← add_field _ _ 5 (by omega)]; exact hc 5 _ rfl⟩

/-! #### struct type 32 -/
structure S32 where
  f0 : Int
  f1 : Int
  f2 : Int
  f3 : Int
  f4 : S28
  f5 : Bool
def z32 : S32 := ⟨(0 : Int), (0 : Int), (0 : Int), (0 : Int), z28, false⟩
def k32 : Kd S32 := Kd.iso (Kd.pair (Kd.int .i64) (Kd.pair (Kd.int .i64) (Kd.pair (Kd.int .u64) (Kd.pair (Kd.int .u64) (Kd.pair k28 Kd.bool))))) (fun x : S32 => (x.f0, x.f1, x.f2, x.f3, x.f4, x.f5))
theorem k32_open {w : World} {x : S32} {cs : List Value} (h : k32.K w x cs) : cs = [.int .i64 x.f0, .int .i64 x.f1, .int .u64 x.f2, .int .u64 x.f3, .bool x.f4.f0, .bool x.f4.f1, .bool x.f4.f2, .bool x.f4.f3, .bool x.f4.f4, .bool x.f4.f5, .bool x.f5] := by
  obtain ⟨_, _, rfl, rfl, ⟨_, _, rfl, rfl, ⟨_, _, rfl, rfl, ⟨_, _, rfl, rfl, ⟨_, _, rfl, s4, rfl⟩⟩⟩⟩⟩ := h
  obtain rfl := k28_open s4
  exact rfl
theorem k32_openM {w : World} {base : Nat} {ok : Nat → Prop} {x : S32} {cs : List Value} (h : k32.M w base ok x cs) : cs = [.int .i64 x.f0, .int .i64 x.f1, .int .u64 x.f2, .int .u64 x.f3, .bool x.f4.f0, .bool x.f4.f1, .bool x.f4.f2, .bool x.f4.f3, .bool x.f4.f4, .bool x.f4.f5, .bool x.f5] := by
  obtain ⟨_, _, rfl, rfl, ⟨_, _, rfl, rfl, ⟨_, _, rfl, rfl, ⟨_, _, rfl, rfl, ⟨_, _, rfl, s4, rfl⟩⟩⟩⟩⟩ := h
  obtain rfl := k28_openM s4
  exact rfl
theorem k32_mk (w : World) (x : S32)  : k32.K w x [.int .i64 x.f0, .int .i64 x.f1, .int .u64 x.f2, .int .u64 x.f3, .bool x.f4.f0, .bool x.f4.f1, .bool x.f4.f2, .bool x.f4.f3, .bool x.f4.f4, .bool x.f4.f5, .bool x.f5] := ⟨[.int .i64 x.f0], [.int .i64 x.f1, .int .u64 x.f2, .int .u64 x.f3, .bool x.f4.f0, .bool x.f4.f1, .bool x.f4.f2, .bool x.f4.f3, .bool x.f4.f4, .bool x.f4.f5, .bool x.f5], rfl, rfl, ⟨[.int .i64 x.f1], [.int .u64 x.f2, .int .u64 x.f3, .bool x.f4.f0, .bool x.f4.f1, .bool x.f4.f2, .bool x.f4.f3, .bool x.f4.f4, .bool x.f4.f5, .bool x.f5], rfl, rfl, ⟨[.int .u64 x.f2], [.int .u64 x.f3, .bool x.f4.f0, .bool x.f4.f1, .bool x.f4.f2, .bool x.f4.f3, .bool x.f4.f4, .bool x.f4.f5, .bool x.f5], rfl, rfl, ⟨[.int .u64 x.f3], [.bool x.f4.f0, .bool x.f4.f1, .bool x.f4.f2, .bool x.f4.f3, .bool x.f4.f4, .bool x.f4.f5, .bool x.f5], rfl, rfl, ⟨[.bool x.f4.f0, .bool x.f4.f1, .bool x.f4.f2, .bool x.f4.f3, .bool x.f4.f4, .bool x.f4.f5], [.bool x.f5], rfl, (k28_mk w x.f4 ), rfl⟩⟩⟩⟩⟩
theorem k32_mkM (w : World) (base : Nat) (ok : Nat → Prop) (x : S32)  : k32.M w base ok x [.int .i64 x.f0, .int .i64 x.f1, .int .u64 x.f2, .int .u64 x.f3, .bool x.f4.f0, .bool x.f4.f1, .bool x.f4.f2, .bool x.f4.f3, .bool x.f4.f4, .bool x.f4.f5, .bool x.f5] := ⟨[.int .i64 x.f0], [.int .i64 x.f1, .int .u64 x.f2, .int .u64 x.f3, .bool x.f4.f0, .bool x.f4.f1, .bool x.f4.f2, .bool x.f4.f3, .bool x.f4.f4, .bool x.f4.f5, .bool x.f5], rfl, rfl, ⟨[.int .i64 x.f1], [.int .u64 x.f2, .int .u64 x.f3, .bool x.f4.f0, .bool x.f4.f1, .bool x.f4.f2, .bool x.f4.f3, .bool x.f4.f4, .bool x.f4.f5, .bool x.f5], rfl, rfl, ⟨[.int .u64 x.f2], [.int .u64 x.f3, .bool x.f4.f0, .bool x.f4.f1, .bool x.f4.f2, .bool x.f4.f3, .bool x.f4.f4, .bool x.f4.f5, .bool x.f5], rfl, rfl, ⟨[.int .u64 x.f3], [.bool x.f4.f0, .bool x.f4.f1, .bool x.f4.f2, .bool x.f4.f3, .bool x.f4.f4, .bool x.f4.f5, .bool x.f5], rfl, rfl, ⟨[.bool x.f4.f0, .bool x.f4.f1, .bool x.f4.f2, .bool x.f4.f3, .bool x.f4.f4, .bool x.f4.f5], [.bool x.f5], rfl, (k28_mkM w base ok x.f4 ), rfl⟩⟩⟩⟩⟩
def rd_T32 (xs : List S32) (i : Int) : S32 := xs.getD i.toNat z32
theorem at_T32 {w : World} {A : Option Addr} {n : Nat} {xs : List S32} (h : Kd.C k32 w A n xs) (i : Int) (h0 : 0 ≤ i) (h1 : i < n) : ∃ ad , A = some ad ∧ w.cell? (ad.add (i.toNat * 11)) = some (.int .i64 (rd_T32 xs i).f0) ∧ w.cell? ⟨(ad.add (i.toNat * 11)).block, (ad.add (i.toNat * 11)).off + 1, none⟩ = some (.int .i64 (rd_T32 xs i).f1) ∧ w.cell? ⟨(ad.add (i.toNat * 11)).block, (ad.add (i.toNat * 11)).off + 2, none⟩ = some (.int .u64 (rd_T32 xs i).f2) ∧ w.cell? ⟨(ad.add (i.toNat * 11)).block, (ad.add (i.toNat * 11)).off + 3, none⟩ = some (.int .u64 (rd_T32 xs i).f3) ∧ w.cell? ⟨(ad.add (i.toNat * 11)).block, (ad.add (i.toNat * 11)).off + 4, none⟩ = some (.bool (rd_T32 xs i).f4.f0) ∧ w.cell? ⟨(ad.add (i.toNat * 11)).block, (ad.add (i.toNat * 11)).off + 5, none⟩ = some (.bool (rd_T32 xs i).f4.f1) ∧ w.cell? ⟨(ad.add (i.toNat * 11)).block, (ad.add (i.toNat * 11)).off + 6, none⟩ = some (.bool (rd_T32 xs i).f4.f2) ∧ w.cell? ⟨(ad.add (i.toNat * 11)).block, (ad.add (i.toNat * 11)).off + 7, none⟩ = some (.bool (rd_T32 xs i).f4.f3) ∧ w.cell? ⟨(ad.add (i.toNat * 11)).block, (ad.add (i.toNat * 11)).off + 8, none⟩ = some (.bool (rd_T32 xs i).f4.f4) ∧ w.cell? ⟨(ad.add (i.toNat * 11)).block, (ad.add (i.toNat * 11)).off + 9, none⟩ = some (.bool (rd_T32 xs i).f4.f5) ∧ w.cell? ⟨(ad.add (i.toNat * 11)).block, (ad.add (i.toNat * 11)).off + 10, none⟩ = some (.bool (rd_T32 xs i).f5) := by
  obtain ⟨ad, c, e, _, hK, hc0⟩ := Kd.C_get h z32 i h0 h1
  have hc : ∀ j u, c[j]? = some u → w.cell? (ad.add (i.toNat * 11 + j)) = some u := hc0
  obtain rfl := k32_open hK
  exact ⟨ad, e, hc 0 _ rfl, by rw [← add_field _ _ 1 (by omega)]; exact hc 1 _ rfl, by rw [← add_field _ _ 2 (by omega)]; exact hc 2 _ rfl, by rw [← add_field _ _ 3 (by omega)]; exact hc 3 _ rfl, by rw [← add_field _ _ 4 (by omega)]; exact hc 4 _ rfl, by rw [← add_field _ _ 5 (by omega)]; exact hc 5 _ rfl, by rw [← add_field _ _ 6 (by omega)]; exact hc 6 _ rfl, by rw [← add_field _ _ 7 (by omega)]; exact hc 7 _ rfl, by rw [← add_field _ _ 8 (by omega)]; exact hc 8 _ rfl, by rw [← add_field _ _ 9 (by omega)]; exact hc 9 _ rfl, by rw [← add_field _ _ 10 (by omega)]; exact hc 10 _ rfl⟩

/-! #### struct type 30 -/
structure S30 where
  f0 : Int
  f1 : Int
  f2 : Int
  f3 : S28
  f4 : Bool
  f5 : Bool
def z30 : S30 := ⟨(0 : Int), (0 : Int), (0 : Int), z28, false, false⟩
def k30 : Kd S30 := Kd.iso (Kd.pair (Kd.int .u64) (Kd.pair (Kd.int .i64) (Kd.pair (Kd.int .u64) (Kd.pair k28 (Kd.pair Kd.bool Kd.bool))))) (fun x : S30 => (x.f0, x.f1, x.f2, x.f3, x.f4, x.f5))
theorem k30_open {w : World} {x : S30} {cs : List Value} (h : k30.K w x cs) : cs = [.int .u64 x.f0, .int .i64 x.f1, .int .u64 x.f2, .bool x.f3.f0, .bool x.f3.f1, .bool x.f3.f2, .bool x.f3.f3, .bool x.f3.f4, .bool x.f3.f5, .bool x.f4, .bool x.f5] := by
  obtain ⟨_, _, rfl, rfl, ⟨_, _, rfl, rfl, ⟨_, _, rfl, rfl, ⟨_, _, rfl, s3, ⟨_, _, rfl, rfl, rfl⟩⟩⟩⟩⟩ := h
  obtain rfl := k28_open s3
  exact rfl
theorem k30_openM {w : World} {base : Nat} {ok : Nat → Prop} {x : S30} {cs : List Value} (h : k30.M w base ok x cs) : cs = [.int .u64 x.f0, .int .i64 x.f1, .int .u64 x.f2, .bool x.f3.f0, .bool x.f3.f1, .bool x.f3.f2, .bool x.f3.f3, .bool x.f3.f4, .bool x.f3.f5, .bool x.f4, .bool x.f5] := by
  obtain ⟨_, _, rfl, rfl, ⟨_, _, rfl, rfl, ⟨_, _, rfl, rfl, ⟨_, _, rfl, s3, ⟨_, _, rfl, rfl, rfl⟩⟩⟩⟩⟩ := h
  obtain rfl := k28_openM s3
  exact rfl
theorem k30_mk (w : World) (x : S30)  : k30.K w x [.int .u64 x.f0, .int .i64 x.f1, .int .u64 x.f2, .bool x.f3.f0, .bool x.f3.f1, .bool x.f3.f2, .bool x.f3.f3, .bool x.f3.f4, .bool x.f3.f5, .bool x.f4, .bool x.f5] := ⟨[.int .u64 x.f0], [.int .i64 x.f1, .int .u64 x.f2, .bool x.f3.f0, .bool x.f3.f1, .bool x.f3.f2, .bool x.f3.f3, .bool x.f3.f4, .bool x.f3.f5, .bool x.f4, .bool x.f5], rfl, rfl, ⟨[.int .i64 x.f1], [.int .u64 x.f2, .bool x.f3.f0, .bool x.f3.f1, .bool x.f3.f2, .bool x.f3.f3, .bool x.f3.f4, .bool x.f3.f5, .bool x.f4, .bool x.f5], rfl, rfl, ⟨[.int .u64 x.f2], [.bool x.f3.f0, .bool x.f3.f1, .bool x.f3.f2, .bool x.f3.f3, .bool x.f3.f4, .bool x.f3.f5, .bool x.f4, .bool x.f5], rfl, rfl, ⟨[.bool x.f3.f0, .bool x.f3.f1, .bool x.f3.f2, .bool x.f3.f3, .bool x.f3.f4, .bool x.f3.f5], [.bool x.f4, .bool x.f5], rfl, (k28_mk w x.f3 ), ⟨[.bool x.f4], [.bool x.f5], rfl, rfl, rfl⟩⟩⟩⟩⟩
theorem k30_mkM (w : World) (base : Nat) (ok : Nat → Prop) (x : S30)  : k30.M w base ok x [.int .u64 x.f0, .int .i64 x.f1, .int .u64 x.f2, .bool x.f3.f0, .bool x.f3.f1, .bool x.f3.f2, .bool x.f3.f3, .bool x.f3.f4, .bool x.f3.f5, .bool x.f4, .bool x.f5] := ⟨[.int .u64 x.f0], [.int .i64 x.f1, .int .u64 x.f2, .bool x.f3.f0, .bool x.f3.f1, .bool x.f3.f2, .bool x.f3.f3, .bool x.f3.f4, .bool x.f3.f5, .bool x.f4, .bool x.f5], rfl, rfl, ⟨[.int .i64 x.f1], [.int .u64 x.f2, .bool x.f3.f0, .bool x.f3.f1, .bool x.f3.f2, .bool x.f3.f3, .bool x.f3.f4, .bool x.f3.f5, .bool x.f4, .bool x.f5], rfl, rfl, ⟨[.int .u64 x.f2], [.bool x.f3.f0, .bool x.f3.f1, .bool x.f3.f2, .bool x.f3.f3, .bool x.f3.f4, .bool x.f3.f5, .bool x.f4, .bool x.f5], rfl, rfl, ⟨[.bool x.f3.f0, .bool x.f3.f1, .bool x.f3.f2, .bool x.f3.f3, .bool x.f3.f4, .bool x.f3.f5], [.bool x.f4, .bool x.f5], rfl, (k28_mkM w base ok x.f3 ), ⟨[.bool x.f4], [.bool x.f5], rfl, rfl, rfl⟩⟩⟩⟩⟩
def rd_T30 (xs : List S30) (i : Int) : S30 := xs.getD i.toNat z30
theorem at_T30 {w : World} {A : Option Addr} {n : Nat} {xs : List S30} (h : Kd.C k30 w A n xs) (i : Int) (h0 : 0 ≤ i) (h1 : i < n) : ∃ ad , A = some ad ∧ w.cell? (ad.add (i.toNat * 11)) = some (.int .u64 (rd_T30 xs i).f0) ∧ w.cell? ⟨(ad.add (i.toNat * 11)).block, (ad.add (i.toNat * 11)).off + 1, none⟩ = some (.int .i64 (rd_T30 xs i).f1) ∧ w.cell? ⟨(ad.add (i.toNat * 11)).block, (ad.add (i.toNat * 11)).off + 2, none⟩ = some (.int .u64 (rd_T30 xs i).f2) ∧ w.cell? ⟨(ad.add (i.toNat * 11)).block, (ad.add (i.toNat * 11)).off + 3, none⟩ = some (.bool (rd_T30 xs i).f3.f0) ∧ w.cell? ⟨(ad.add (i.toNat * 11)).block, (ad.add (i.toNat * 11)).off + 4, none⟩ = some (.bool (rd_T30 xs i).f3.f1) ∧ w.cell? ⟨(ad.add (i.toNat * 11)).block, (ad.add (i.toNat * 11)).off + 5, none⟩ = some (.bool (rd_T30 xs i).f3.f2) ∧ w.cell? ⟨(ad.add (i.toNat * 11)).block, (ad.add (i.toNat * 11)).off + 6, none⟩ = some (.bool (rd_T30 xs i).f3.f3) ∧ w.cell? ⟨(ad.add (i.toNat * 11)).block, (ad.add (i.toNat * 11)).off + 7, none⟩ = some (.bool (rd_T30 xs i).f3.f4) ∧ w.cell? ⟨(ad.add (i.toNat * 11)).block, (ad.add (i.toNat * 11)).off + 8, none⟩ = some (.bool (rd_T30 xs i).f3.f5) ∧ w.cell? ⟨(ad.add (i.toNat * 11)).block, (ad.add (i.toNat * 11)).off + 9, none⟩ = some (.bool (rd_T30 xs i).f4) ∧ w.cell? ⟨(ad.add (i.toNat * 11)).block, (ad.add (i.toNat * 11)).off + 10, none⟩ = some (.bool (rd_T30 xs i).f5) := by
  obtain ⟨ad, c, e, _, hK, hc0⟩ := Kd.C_get h z30 i h0 h1
  have hc : ∀ j u, c[j]? = some u → w.cell? (ad.add (i.toNat * 11 + j)) = some u := hc0
  obtain rfl := k30_open hK
  exact ⟨ad, e, hc 0 _ rfl, by rw [← add_field _ _ 1 (by omega)]; exact hc 1 _ rfl, by rw [← add_field _ _ 2 (by omega)]; exact hc 2 _ rfl, by rw [← add_field _ _ 3 (by omega)]; exact hc 3 _ rfl, by rw [← add_field _ _ 4 (by omega)]; exact hc 4 _ rfl, by rw [← add_field _ _ 5 (by omega)]; exact hc 5 _ rfl, by rw [← add_field _ _ 6 (by omega)]; exact hc 6 _ rfl, by rw [← add_field _ _ 7 (by omega)]; exact hc 7 _ rfl, by rw [← add_field _ _ 8 (by omega)]; exact hc 8 _ rfl, by rw [← add_field _ _ 9 (by omega)]; exact hc 9 _ rfl, by rw [← add_field _ _ 10 (by omega)]; exact hc 10 _ rfl⟩

end Go.Proofs.Ytcbnmmkmgpbfiaa.PN

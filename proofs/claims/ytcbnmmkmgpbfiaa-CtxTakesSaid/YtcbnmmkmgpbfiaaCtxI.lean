/- A pool of numbers (layer 14): the iterator round's contract. -/
import Derived.RangeFuncNested
import Derived.RangeFuncBound
import Derived.RangeFuncCalls
import Derived.RangeFuncLeaves
import Derived.Shelf.Abstract
import Derived.Shelf.RegionOpen
import Derived.WalkKit
import Derived.OwnWalkIn
import Derived.TacticsInMore
import Derived.LoopNIn
import Derived.LoopIn
import Derived.Sort.LoopGhostIn
import Derived.Test.YtcbnmmkmgpbfiaaCtxW
namespace Go.Proofs.Ytcbnmmkmgpbfiaa.PP
open Go.RowKit Go.Proofs.Ytcbnmmkmgpbfiaa.PX Go.Proofs.YtcbnmmkmgpbfiaaW.PrintWords Go.Proofs.YtcbnmmkmgpbfiaaW.PrintLast Go.Proofs.YtcbnmmkmgpbfiaaW.PrintMore
attribute [local go_sem] max2_int min2_int max_two min_two max_three min_three max_four min_four   -- for this text's walks alone
set_option linter.unusedVariables false
set_option linter.unusedSimpArgs false
open Go.Shelf
attribute [local go_sem] Oper.semAt_some
/-- All numbers from the hand on. -/
def rot (n : Nat) (hand : Int) : List Int := (List.range n).map fun (i : Nat) => (hand - 1 + (i : Int)) % (n : Int) + 1
theorem rot_length (n : Nat) (hand : Int) : (rot n hand).length = n := by simp [rot]
theorem rot_get {n : Nat} {hand : Int} {i : Nat} (h : i < n) : (rot n hand)[i]? = some ((hand - 1 + (i : Int)) % (n : Int) + 1) := by simp [rot, h]
theorem rot_take {n : Nat} {hand : Int} {i : Nat} (h : i < n) : (rot n hand).take (i + 1) = (rot n hand).take i ++ [(hand - 1 + (i : Int)) % (n : Int) + 1] := by
  have hl : i < (rot n hand).length := by rw [rot_length]; exact h
  rw [List.take_succ_eq_append_getElem hl]
  congr 2
  have := rot_get (hand := hand) h
  rw [List.getElem?_eq_getElem hl] at this
  exact Option.some.inj this
def encI (x : Int) : Array Value := #[.int .i64 x]
set_option maxHeartbeats 4000000 in
set_option maxRecDepth 100000 in
theorem round_in (F : Fence) (n : Nat) (h69 : F.fn 69) (hro : F.round = none) (p0 : Option Addr) (w : World) :
    CallsIn F n Try.prog 69 #[.pointer p0] w fun e w' => e = .returned (.func (.func 90) #[] #[.pointer (some ⟨w.heap.size, 0, none⟩)]) ∧ w' = w.alloc (.cells #[.pointer p0] 52) := by
  refine callsIn_of_wp Try.func69 rfl h69 ?_ hro
  simp only [Try.ntmps69, List.size_toArray, List.length_cons, List.length_nil, Nat.reduceAdd, Nat.reduceSub, Array.replicate_succ, Array.replicate_zero, List.push_toArray, List.append_toArray, List.nil_append, List.cons_append]
  gi_wp2
  go_ret
  exact ⟨rfl, rfl⟩
section
variable {base B bm : Nat} {vo : Value} {os : List Int} {f : Int → Option Int} {c : Nat} {hand rounds : Int}
set_option maxHeartbeats 4000000 in
set_option maxRecDepth 100000 in
theorem round1_in (n : Nat) (hn : 1 ≤ n) (lq Bn n₀ : Nat) (J Jx : List Int → World → Prop) (hl : os.length ≤ 10000) (hh : 1 ≤ hand ∧ hand ≤ 10000)
    (hY : ∀ pre x W, J pre W → pre.length < os.length → 1 ≤ x ∧ x ≤ (os.length : Int) → YieldAt Fence.wide (n - 1) Try.prog lq (encI x) W fun e W' =>
      (e = .returned (.bool true) ∧ J (pre ++ [x]) W' ∧ Below n₀ W W') ∨ (e = .returned (.bool false) ∧ Jx (pre ++ [x]) W'))
    (hJd : ∀ pre W, J pre W → J pre W.drew)
    (W : World) (hBn : W.cell? ⟨Bn, 0, none⟩ = some (.pointer (some ⟨B, 0, none⟩))) (hBl : Bn < n₀) (hT : PA W base B bm vo os f c hand rounds) (hlt : ∀ k ∈ pid B bm vo, k < n₀) (h0 : J [] W) :
    CallsIn Fence.wide n Try.prog 90 #[.func (.yield lq) #[] #[], .pointer (some ⟨Bn, 0, none⟩)] W fun e W' => (∃ v, e = .returned v) ∧
      ((∃ ys, ys = rot os.length hand ∧ J ys W') ∨ (∃ pre, pre <+: rot os.length hand ∧ Jx pre W')) := by
  have c0 := hT.cell0
  obtain ⟨A, cap, hvo⟩ := hT.form
  subst hvo
  have HLT := Aside0.mk hlt
  have HT := Aside0.mk hT
  have HBN := Aside0.mk hBn
  clear hlt hT
  refine callsIn_of_wp Try.func90 rfl trivial ?_ rfl
  simp only [Try.ntmps90, List.size_toArray, List.length_cons, List.length_nil, Nat.reduceAdd, Nat.reduceSub, Array.replicate_succ, Array.replicate_zero, List.push_toArray, List.append_toArray, List.nil_append, List.cons_append]
  gi_wp2
  clear c0 hBn
  gi_loopw [9] (fun iv wr => ∃ i : Nat, iv = .int .i64 i ∧ i ≤ os.length ∧ J ((rot os.length hand).take i) wr ∧ Aside0 (PA wr base B bm (.slice A os.length cap) os f c hand rounds) ∧ Aside0 (wr.cell? ⟨Bn, 0, none⟩ = some (.pointer (some ⟨B, 0, none⟩)))) (fun iv _ => os.length - (intOf iv).toNat)
  case atStart => exact ⟨0, rfl, by omega, by simpa using h0, HT, HBN⟩
  case round =>
    obtain ⟨i, rfl, hi, hJ, HTr, HBr⟩ := hrel
    by_cases hil : (i : Int) < (os.length : Int)
    · have hil' : i < os.length := by omega
      have hild : decide ((i : Int) < (os.length : Int)) = true := decide_eq_true hil
      obtain ⟨x, hx⟩ : ∃ x, (hand - 1 + (i : Int)) % (os.length : Int) = x := ⟨_, rfl⟩
      have htk := rot_take (hand := hand) hil'
      rw [hx] at htk
      have hx1 := Int.emod_nonneg (hand - 1 + (i : Int)) (show (os.length : Int) ≠ 0 by omega)
      have hx2 := Int.emod_lt_of_pos (hand - 1 + (i : Int)) (show (0 : Int) < (os.length : Int) by omega)
      have hmod : Int.tmod (hand - 1 + (i : Int)) (os.length : Int) = x := by rw [← hx]; exact Int.tmod_eq_emod_of_nonneg (by omega)
      rw [hx] at hx1 hx2
      have hw1 : wrap64 (hand - 1) = hand - 1 := by unfold wrap64; omega
      have hw2 : wrap64 (hand - 1 + (i : Int)) = hand - 1 + (i : Int) := by unfold wrap64; omega
      have hw3 : wrap64 (x + 1) = x + 1 := by unfold wrap64; omega
      have hv1 : IntKind.i64.wrap (hand - 1) = hand - 1 := by rw [i64_w]; exact hw1
      have hv2 : IntKind.i64.wrap (hand - 1 + (i : Int)) = hand - 1 + (i : Int) := by rw [i64_w]; exact hw2
      have hv3 : IntKind.i64.wrap (x + 1) = x + 1 := by rw [i64_w]; exact hw3
      have hlz : ((os.length : Int) == 0) = false := by rw [beq_eq_false_iff_ne]; omega
      have hl0 : ¬ ((os.length : Int) = 0) := by omega
      have hl1 : ¬ (os.length = 0) := by omega
      have hl2 : ¬ (os = []) := by intro e; rw [e] at hil'; simp at hil'
      have c0 := HTr.out.cell0
      have c2 := HTr.out.cell2
      have cn := HBr.out
      have hpl : ((rot os.length hand).take i).length < os.length := by rw [List.length_take, rot_length]; omega
      have hpre : (rot os.length hand).take (i + 1) <+: rot os.length hand := List.take_prefix _ _
      obtain ⟨fn, tmps, assign, body, hy, hR⟩ := hY _ (x + 1) wr.drew (hJd _ _ hJ) hpl (by omega)
      have HTK := Aside0.mk htk
      have HPRE := Aside0.mk hpre
      have HY := Aside0.mk hY
      have HJ := Aside0.mk hJ
      clear hx htk hpre hpl hY hJ
      gi_wp2
      dsimp only [encI] at hy
      have hR2 := hR.mono (R' := fun e W' => ∃ rb : Bool, e = .returned (.bool rb) ∧ ((rb = true ∧ J ((rot os.length hand).take i ++ [x + 1]) W' ∧ Below n₀ wr.drew W') ∨ (rb = false ∧ Jx ((rot os.length hand).take i ++ [x + 1]) W'))) (fun e W' h => by
        rcases h with ⟨h1, h2⟩ | ⟨h1, h2⟩
        · exact ⟨true, h1, .inl ⟨rfl, h2⟩⟩
        · exact ⟨false, h1, .inr ⟨rfl, h2⟩⟩)
      clear hR
      refine Code.wpIn_mono (Q := fun e a' w' => match e with | .normal => ∃ (rb : Bool) (x12 x13 x14 x15 x16 x17 x18 x19 x20 x21 x22 x23 x24 x25 x26 : Value), (a' = { tmps := #[.func (.yield lq) #[] #[], .pointer (some ⟨Bn, 0, none⟩), undef, .int .i64 i, .pointer (some ⟨B, 0, none⟩), .pointer (some ⟨B, 0, none⟩), .pointer (some ⟨B, 0, none⟩), .slice A os.length cap, .int .i64 os.length, .int .i64 i, .bool true, .int .i64 i, x12, x13, x14, x15, x16, x17, x18, x19, x20, x21, x22, x23, x24, x25, x26, .bool rb, .bool (!rb), u29], defers := [] }) ∧ ((rb = true ∧ J ((rot os.length hand).take i ++ [x + 1]) w' ∧ Below n₀ wr.drew w') ∨ (rb = false ∧ Jx ((rot os.length hand).take i ++ [x + 1]) w')) | _ => False) ?_ ?_
      · rintro e a' w' hq
        cases e with
        | normal =>
          obtain ⟨rb, x12, x13, x14, x15, x16, x17, x18, x19, x20, x21, x22, x23, x24, x25, x26, rfl, ⟨rfl, hJ3, hk3⟩ | ⟨rfl, hJ3⟩⟩ := hq
          · have HT3 : Aside0 (PA w' base B bm (.slice A os.length cap) os f c hand rounds) := ⟨HTr.out.step (fun k hk => hk3.block k (HLT.out k hk))⟩
            have HB3 : Aside0 (w'.cell? ⟨Bn, 0, none⟩ = some (.pointer (some ⟨B, 0, none⟩))) := ⟨(hk3.cell (p := ⟨Bn, 0, none⟩) hBl).trans HBr.out⟩
            rw [← HTK.out] at hJ3
            have HJ3 := Aside0.mk hJ3
            have hwi : wrap64 ((i : Int) + 1) = (i : Int) + 1 := by unfold wrap64; omega
            clear hv1 hv2 hv3 hk3 hJ3 c0 c2 cn hmod hw1 hw2 hw3 hlz hy hR2 HY HJ HTr HBr
            gi_wp2
            go_roundw
            case rel => exact ⟨i + 1, by push_cast; rfl, by omega, HJ3.out, HT3, HB3⟩
            case measure => simp [intOf]; omega
          · gi_wp2
            refine bodyPost_ret (results_none rfl _ _ _) rfl ?_
            refine ⟨⟨_, rfl⟩, .inr ⟨_, HPRE.out, ?_⟩⟩
            rw [HTK.out]
            exact hJ3
        | _ => exact hq.elim
      · clear HLT HT HBN HTr HBr HTK HPRE HY HJ hJd h0 hil hil' hi hx1 hx2 hl hh hBl
        gi_region_with (refine hR2.mono ?_; rintro e W3 ⟨rb, rfl, hE2⟩; replace hE2 := Aside0.mk hE2)
        all_goals exact ⟨rb, _, _, _, _, _, _, _, _, _, _, _, _, _, _, _, rfl, hE2.out⟩
    · have hild : decide ((i : Int) < (os.length : Int)) = false := decide_eq_false hil
      obtain rfl : i = os.length := by omega
      rw [show (rot os.length hand).take os.length = rot os.length hand from by rw [List.take_of_length_le]; rw [rot_length]; exact Nat.le_refl _] at hJ
      gi_wp2
      go_end0
      exact ⟨⟨_, rfl⟩, .inl hJ⟩
end

end Go.Proofs.Ytcbnmmkmgpbfiaa.PP

/- hash.Table.All: the iterator's contract. -/
import Derived.RangeFuncNested
import Derived.RangeFuncBound
import Derived.RangeFuncCalls
import Derived.RangeFuncLeaves
import Derived.Shelf.Abstract
import Derived.Shelf.RegionOpen
import Derived.WalkKit
import Derived.OwnWalkIn
import Derived.TacticsInMore
import Derived.LoopNIn
import Derived.LoopIn
import Derived.Sort.LoopGhostIn
import Derived.Test.YtgmdlndiilibpaaTabK
set_option linter.unusedVariables false
set_option linter.unusedSimpArgs false
namespace Go.Proofs.Ytgmdlndiilibpaa.PH
open Go.RowKit Go.Shelf Go.Proofs.YtgmdlndiilibpaaW.PrintWords Go.Proofs.YtgmdlndiilibpaaW.PrintLast Go.Proofs.YtgmdlndiilibpaaW.PrintMore Go.Proofs.Ytgmdlndiilibpaa.Tab
attribute [local go_sem] Oper.semAt_some
theorem two_ways {e : Ending} {p q : Prop} (h : (e = .returned (.bool true) ∧ p) ∨ (e = .returned (.bool false) ∧ q)) : ∃ rb : Bool, e = .returned (.bool rb) ∧ ((rb = true ∧ p) ∨ (rb = false ∧ q)) := by
  rcases h with ⟨h1, h2⟩ | ⟨h1, h2⟩
  · exact ⟨true, h1, .inl ⟨rfl, h2⟩⟩
  · exact ⟨false, h1, .inr ⟨rfl, h2⟩⟩
def encN (n : Nd) : Array Value := #[.agg #[.int .i64 n.sp, .int .u64 n.va, .int .i64 n.sz], .int .i64 n.v]
set_option maxHeartbeats 4000000 in
set_option maxRecDepth 100000 in
theorem all_in (F : Fence) (n : Nat) (h71 : F.fn 71) (hro : F.round = none) (p0 : Option Addr) (w : World) :
    CallsIn F n Try.prog 71 #[.pointer p0] w fun e w' => e = .returned (.func (.func 92) #[] #[.pointer (some ⟨w.heap.size, 0, none⟩)]) ∧ w' = w.alloc (.cells #[.pointer p0] 58) := by
  refine callsIn_of_wp Try.func71 rfl h71 ?_ hro
  simp only [Try.ntmps71, List.size_toArray, List.length_cons, List.length_nil, Nat.reduceAdd, Nat.reduceSub, Array.replicate_succ, Array.replicate_zero, List.push_toArray, List.append_toArray, List.nil_append, List.cons_append]
  gi_wp2
  go_ret
  exact ⟨rfl, rfl⟩
theorem flat_split {L : List (List Nd)} {i : Nat} {l : List Nd} (h : L[i]? = some l) : L.flatten = (L.take i).flatten ++ (l ++ (L.drop (i + 1)).flatten) := by
  obtain ⟨hi, hl⟩ := List.getElem?_eq_some_iff.1 h
  rw [← List.flatten_cons, ← List.flatten_append, ← hl, ← List.drop_eq_getElem_cons hi, List.take_append_drop]
theorem flat_take {L : List (List Nd)} {i : Nat} {l : List Nd} (h : L[i]? = some l) : (L.take (i + 1)).flatten = (L.take i).flatten ++ l := by
  obtain ⟨hi, hl⟩ := List.getElem?_eq_some_iff.1 h
  rw [List.take_succ_eq_append_getElem hi, hl, List.flatten_append]
  simp
set_option maxHeartbeats 4000000 in
set_option maxRecDepth 100000 in
theorem all1_in (n : Nat) (hn : 1 ≤ n) (lq Bn n₀ b c : Nat) (L : List (List Nd)) (free m : Int) (J Jx : List Nd → World → Prop)
    (hY : ∀ pre x W, J pre W → pre.length < L.flatten.length → YieldAt Fence.wide (n - 1) Try.prog lq (encN x) W fun e W' =>
      (e = .returned (.bool true) ∧ J (pre ++ [x]) W' ∧ Below n₀ W W') ∨ (e = .returned (.bool false) ∧ Jx (pre ++ [x]) W'))
    (hJd : ∀ pre W, J pre W → J pre W.drew)
    (W : World) (hBn : W.cell? ⟨Bn, 0, none⟩ = some (.pointer (some ⟨b, 0, none⟩))) (hT : At 116 120 123 W b c L free m) (hlt : ∀ k ∈ ids b c L, k < n₀) (h0 : J [] W) :
    CallsIn Fence.wide n Try.prog 92 #[.func (.yield lq) #[] #[], .pointer (some ⟨Bn, 0, none⟩)] W fun e W' => (∃ v, e = .returned v) ∧
      ((∃ ys, ys = L.flatten ∧ J ys W') ∨ (∃ pre, pre <+: L.flatten ∧ Jx pre W')) := by
  have cb : W.cell? ⟨b, 0, none⟩ = some (.slice (some ⟨c, 0, none⟩) L.length L.length) := by rw [Lib.cell_of_heap hT.hb]; rfl
  have hsm := hT.small
  have HLT := Aside0.mk hlt
  have HT := Aside0.mk hT
  clear hlt hT
  refine callsIn_of_wp Try.func92 rfl trivial ?_ rfl
  simp only [Try.ntmps92, List.size_toArray, List.length_cons, List.length_nil, Nat.reduceAdd, Nat.reduceSub, Array.replicate_succ, Array.replicate_zero, List.push_toArray, List.append_toArray, List.nil_append, List.cons_append]
  gi_wp2
  gi_loopw [4, 10] (fun pv iv wr => ∃ i : Nat, iv = .int .i64 i ∧ i ≤ L.length ∧ J (L.take i).flatten wr ∧ Aside0 (At 116 120 123 wr b c L free m)) (fun _ iv _ => L.length - (intOf iv).toNat)
  case atStart => exact ⟨0, rfl, by omega, h0, HT⟩
  case round =>
    obtain ⟨i, rfl, hi, hJ, HTr⟩ := hrel
    by_cases hil : (i : Int) < (L.length : Int)
    · have hil' : i < L.length := by omega
      obtain ⟨l, hll⟩ : ∃ l, L[i]? = some l := ⟨_, List.getElem?_eq_getElem hil'⟩
      have hl2 : L[i] = l := (List.getElem?_eq_some_iff.1 hll).2
      have hc0 : wr.cell? ⟨c, i, none⟩ = some (ptr l) := by rw [HTr.out.cell_ptr i hil', hl2]
      obtain ⟨pa, hpa⟩ : ∃ pa : Option Addr, ptr l = .pointer pa := by cases l <;> exact ⟨_, rfl⟩
      rw [hpa] at hc0
      have HPA := Aside0.mk hpa
      have HL := Aside0.mk hll
      clear hl2 hll hpa
      gi_wp2
      gi_loopg [4] (l.length) (fun kq pv wr => ∃ j : Nat, j + kq = l.length ∧ pv = ptr (l.drop j) ∧ J ((L.take i).flatten ++ l.take j) wr ∧ Aside0 (At 116 120 123 wr b c L free m))
      case atStart => exact ⟨0, by omega, HPA.out.symm, by simpa using hJ, HTr⟩
      case round =>
        clear hJ HTr hc0
        obtain ⟨j, hjk, rfl, hJ, HTr⟩ := hrel
        by_cases hjl : j < l.length
        · have hnd := HTr.out.node (Below.refl _ _) HL.out j hjl
          have hdr : l.drop j = l[j] :: l.drop (j + 1) := List.drop_eq_getElem_cons hjl
          have htk : (L.take i).flatten ++ l.take (j + 1) = ((L.take i).flatten ++ l.take j) ++ [l[j]] := by rw [List.take_succ_eq_append_getElem hjl, List.append_assoc]
          have hpl : ((L.take i).flatten ++ l.take j).length < L.flatten.length := by
            rw [flat_split HL.out]
            simp only [List.length_append, List.length_take]
            omega
          have hmi : l[j].id ∈ ids b c L := mem_ids HL.out (List.getElem_mem hjl)
          have hpre : (L.take i).flatten ++ l.take (j + 1) <+: L.flatten := by
            rw [flat_split HL.out]
            exact (List.prefix_append_right_inj _).2 ((List.take_prefix _ _).trans (List.prefix_append _ _))
          obtain ⟨mm, hm⟩ : ∃ mm, l[j] = mm := ⟨_, rfl⟩
          rw [hm] at hnd hdr htk hmi
          rw [hdr]
          simp only [ptr]
          have d0 : wr.cell? ⟨mm.id, 0, none⟩ = some (.int .i64 mm.sp) := by rw [Lib.cell_of_heap hnd]; rfl
          have d1 : wr.cell? ⟨mm.id, 1, none⟩ = some (.int .u64 mm.va) := by rw [Lib.cell_of_heap hnd]; rfl
          have d2 : wr.cell? ⟨mm.id, 2, none⟩ = some (.int .i64 mm.sz) := by rw [Lib.cell_of_heap hnd]; rfl
          have d3 : wr.cell? ⟨mm.id, 3, none⟩ = some (.int .i64 mm.v) := by rw [Lib.cell_of_heap hnd]; rfl
          obtain ⟨pa2, hpa2⟩ : ∃ pa2 : Option Addr, ptr (l.drop (j + 1)) = .pointer pa2 := by cases l.drop (j + 1) <;> exact ⟨_, rfl⟩
          have HPA2 := Aside0.mk hpa2
          have HTK := Aside0.mk htk
          have HMI := Aside0.mk hmi
          have HM := Aside0.mk hm
          have HPRE := Aside0.mk hpre
          obtain ⟨fn, tmps, assign, body, hy, hR⟩ := hY _ mm wr.drew (hJd _ _ hJ) hpl
          clear hnd hdr htk hm hmi hpa2 hpl hpre
          gi_wp2
          dsimp only [encN] at hy
          have hR2 := hR.mono (R' := fun e W' => ∃ rb : Bool, e = .returned (.bool rb) ∧ ((rb = true ∧ J (((L.take i).flatten ++ l.take j) ++ [mm]) W' ∧ Below n₀ wr.drew W') ∨ (rb = false ∧ Jx (((L.take i).flatten ++ l.take j) ++ [mm]) W'))) (fun e W' h => two_ways h)
          have HY := Aside0.mk hY
          have HJ := Aside0.mk hJ
          clear hR hY hJ
          refine Code.wpIn_mono (Q := fun e a' w' => match e with | .normal => ∃ (rb : Bool) (x20 x21 x22 x23 x24 x25 x26 x27 x28 : Value), (a' = { tmps := #[.func (.yield lq) #[] #[], .pointer (some ⟨Bn, 0, none⟩), undef, undef, .pointer (some ⟨mm.id, 0, none⟩), .pointer (some ⟨b, 0, none⟩), .pointer (some ⟨b, 0, none⟩), .pointer (some ⟨b, 0, none⟩), .slice (some ⟨c, 0, none⟩) L.length L.length, .int .i64 L.length, .int .i64 i, .bool true, .pointer (some ⟨c, i, none⟩), .pointer pa, .pointer (some ⟨mm.id, 0, none⟩), .bool true, u16, u17, u18, u19, x20, x21, x22, x23, x24, x25, x26, x27, x28, .bool rb, .bool (!rb), u31], defers := [] }) ∧ ((rb = true ∧ J (((L.take i).flatten ++ l.take j) ++ [mm]) w' ∧ Below n₀ wr.drew w') ∨ (rb = false ∧ Jx (((L.take i).flatten ++ l.take j) ++ [mm]) w')) | _ => False) ?_ ?_
          · rintro e a' w' hq
            have HTr2 := HTr
            cases e with
            | normal =>
              obtain ⟨rb, x20, x21, x22, x23, x24, x25, x26, x27, x28, rfl, ⟨rfl, hJ3, hk3⟩ | ⟨rfl, hJ3⟩⟩ := hq
              · have HT3 : At 116 120 123 w' b c L free m := HTr.out.move (fun k hk => hk3.block k (HLT.out k hk))
                have hnd3 := HT3.node (Below.refl _ _) HL.out j hjl
                rw [HM.out] at hnd3
                have d4 : w'.cell? ⟨mm.id, 4, none⟩ = some (.pointer pa2) := by rw [Lib.cell_of_heap hnd3]; simp only [cells]; rw [HPA2.out]; rfl
                have HT3' := Aside0.mk HT3
                rw [List.append_assoc] at hJ3
                have hJ4 : J ((L.take i).flatten ++ l.take (j + 1)) w' := by rw [HTK.out]; simpa using hJ3
                have HJ4 := Aside0.mk hJ4
                clear hk3 HT3 hnd3 hJ3 hJ4 HTr HTr2
                gi_wp2
                go_roundg (l.length - (j + 1))
                case rel => exact ⟨j + 1, by omega, HPA2.out.symm, HJ4.out, HT3'⟩
                case measure => omega
              · gi_wp2
                refine bodyPost_ret (results_none rfl _ _ _) rfl ?_
                refine ⟨⟨_, rfl⟩, .inr ⟨_, ?_, hJ3⟩⟩
                rw [← HTK.out]
                exact HPRE.out
            | _ => exact hq.elim
          · clear HLT HT cb hBn h0 HPA HL hjk HTr HPA2 HTK HMI HM HPRE HY HJ hJd hsm hi hil hil' hjl
            gi_region_with (refine hR2.mono ?_; rintro e W3 ⟨rb, rfl, hE2⟩; replace hE2 := Aside0.mk hE2)
            all_goals exact ⟨rb, _, _, _, _, _, _, _, _, _, rfl, hE2.out⟩
        · obtain rfl : j = l.length := by omega
          have hd0 : l.drop l.length = [] := List.drop_length
          have hft := flat_take HL.out
          rw [List.take_length, ← hft] at hJ
          rw [hd0]
          simp only [ptr]
          have HJ := Aside0.mk hJ
          clear hft hd0 hJ
          gi_wp2
          exact ⟨⟨i + 1, by simp, by omega, HJ.out, HTr⟩, by simp [intOf]; omega⟩
    · obtain rfl : i = L.length := by omega
      rw [List.take_length] at hJ
      gi_wp2
      go_end0
      exact ⟨⟨_, rfl⟩, .inl hJ⟩
theorem at_lt {W : World} {b c : Nat} {L : List (List Nd)} {free m : Int} (h : At 116 120 123 W b c L free m) : ∀ k ∈ ids b c L, k < W.heap.size := h.lt
/-- What All hands back, as a contract for callers. -/
theorem all_stops (n : Nat) (hn : 1 ≤ n) (Bn n₀ b c : Nat) (L : List (List Nd)) (free m : Int) (w : World) (hBn : Bn < w.heap.size) (hn₀ : n₀ ≤ w.heap.size)
    (hc : w.cell? ⟨Bn, 0, none⟩ = some (.pointer (some ⟨b, 0, none⟩))) (hT : At 116 120 123 w b c L free m) (hlt : ∀ k ∈ ids b c L, k < n₀) :
    SeqStopsK Fence.wide n Try.prog 92 #[.pointer (some ⟨Bn, 0, none⟩)] encN (Below n₀) (fun ys => ys = L.flatten) (fun pre => pre <+: L.flatten) L.flatten.length w := fun l J Jx W hW hJ _ hY h0 =>
  all1_in n hn l Bn n₀ b c L free m J Jx hY (fun pre W' hw => hJ pre W' W'.drew none hw ⟨rfl, rfl, rfl, Nat.le_refl _, fun _ _ _ => rfl⟩ (fun r e => by cases e)) W ((hW.cell (p := ⟨Bn, 0, none⟩) hBn).trans hc) (hT.below hW) hlt h0
end Go.Proofs.Ytgmdlndiilibpaa.PH

import Derived.Test.YtgmdlndiilibpaaTab
import Derived.Test.YtgmdlndiilibpaaTabK
import Derived.Test.YtgmdlndiilibpaaPHx6
namespace Go.Proofs.Ytgmdlndiilibpaa.PH
open Go.RowKit Go.Proofs.YtgmdlndiilibpaaW.PrintWords Go.Proofs.YtgmdlndiilibpaaW.PrintLast Go.Proofs.YtgmdlndiilibpaaW.PrintMore Go.Proofs.Ytgmdlndiilibpaa.Tab
attribute [local go_sem] max2_int min2_int max_two min_two max_three min_three max_four min_four   -- for this text's walks alone
set_option linter.unusedVariables false
set_option linter.unusedSimpArgs false
open Go.Proofs.Ytgmdlndiilibpaa.KeyG
attribute [local go_sem high] eqA27
theorem info27 : (Try.prog.info? 27).map (fun i => (i.zero, i.size, i.bytes)) = some (some (.agg #[(.int .i64 0), (.int .u64 0), (.int .i64 0)]), 3, 24) := by kernel_rfl
def nk (n : Nd) : S24 := ⟨n.sp, n.va, n.sz⟩
def slen : Value → Nat
  | .slice _ n _ => n
  | _ => 0
set_option maxHeartbeats 8000000 in
set_option maxRecDepth 100000 in
theorem row_no (w : World) (b c : Nat) (L : List (List Nd)) (free n : Int) (hT : At 116 120 123 w b c L free n) (i : Int) (hi : i < 0 ∨ (L.length : Int) ≤ i) :
    Calls Try.prog 38 #[.pointer (some ⟨b, 0, none⟩), .int .i64 i] w fun e w' => e = .returned (.slice none 0 0) ∧ w = w' := by
  have cb : w.cell? ⟨b, 0, none⟩ = some (.slice (some ⟨c, 0, none⟩) L.length L.length) := by rw [Lib.cell_of_heap hT.hb]; rfl
  by_cases h0 : i < 0
  · go_enter Try.func38, Try.ntmps38
    go_wp2
    go_ret
    exact ⟨rfl, rfl⟩
  · have h1 : (L.length : Int) ≤ i := by omega
    go_enter Try.func38, Try.ntmps38
    go_wp2
    go_ret
    exact ⟨rfl, rfl⟩
set_option maxHeartbeats 8000000 in
set_option maxRecDepth 100000 in
theorem row_calls (w : World) (b c : Nat) (L : List (List Nd)) (free n : Int) (hT : At 116 120 123 w b c L free n) (i : Nat) (l : List Nd) (hli : L[i]? = some l) :
    Calls Try.prog 38 #[.pointer (some ⟨b, 0, none⟩), .int .i64 i] w fun e w' => ∃ v, e = .returned v ∧ Kd.R k24 27 w' w.heap.size (fun _ => True) v (l.map nk) ∧ Below w.heap.size w w' := by
  obtain ⟨hi, hl⟩ := List.getElem?_eq_some_iff.1 hli
  have cb : w.cell? ⟨b, 0, none⟩ = some (.slice (some ⟨c, 0, none⟩) L.length L.length) := by rw [Lib.cell_of_heap hT.hb]; rfl
  have hsm := hT.small
  have hfew : l.length ≤ 10000000 := hT.few l (by rw [← hl]; exact List.getElem_mem hi)
  have hi0 : (0 : Int) ≤ (i : Int) := by omega
  have hi1 : (i : Int) < (L.length : Int) := by omega
  have hc0 : w.cell? ⟨c, i, none⟩ = some (ptr l) := by rw [hT.cell_ptr i hi, hl]
  have HT := Aside0.mk hT
  have HL := Aside0.mk hli
  obtain ⟨pa, hpa⟩ : ∃ pa : Option Addr, ptr l = .pointer pa := by cases l <;> exact ⟨_, rfl⟩
  rw [hpa] at hc0
  have HPA := Aside0.mk hpa
  have hd1 : decide (L.length ≤ i) = false := decide_eq_false (by omega)
  clear hl hli hT hpa
  go_enter Try.func38, Try.ntmps38
  go_wp2_with fail
  go_loopw [5, 6] (fun ov pv wr => ∃ j : Nat, j ≤ l.length ∧ pv = ptr (l.drop j) ∧ slen ov = j ∧ Aside0 (Kd.R k24 27 wr w.heap.size (fun _ => True) ov ((l.take j).map nk)) ∧ Aside0 (Below w.heap.size w wr)) (fun ov _ _ => l.length - slen ov)
  case atStart => exact ⟨0, by omega, HPA.out.symm, rfl, ⟨Kd.R_nil _ _ _ _ _⟩, ⟨Below.refl _ _⟩⟩
  case round =>
    obtain ⟨j, hj, rfl, hsl, HO, HB⟩ := hrel
    obtain ⟨A, cc, hov, hcc, hcr⟩ := Kd.R_reads HO.out
    clear hcr
    subst hov
    rw [List.length_map, List.length_take, Nat.min_eq_left hj] at hcc
    have HO' : Aside0 (Kd.R k24 27 wr w.heap.size (fun _ => True) (.slice A j cc) ((l.take j).map nk)) := ⟨by have := HO.out; rwa [List.length_map, List.length_take, Nat.min_eq_left hj] at this⟩
    rw [List.length_map, List.length_take, Nat.min_eq_left hj]
    clear HO
    clear hsl
    by_cases hlt : j < l.length
    · have hnd := HT.out.node HB.out HL.out j hlt
      have hdr : l.drop j = l[j] :: l.drop (j + 1) := List.drop_eq_getElem_cons hlt
      have htk : (l.take (j + 1)).map nk = (l.take j).map nk ++ [nk l[j]] := by rw [List.take_succ_eq_append_getElem hlt, List.map_append]; rfl
      obtain ⟨m, hm⟩ : ∃ m, l[j] = m := ⟨_, rfl⟩
      rw [hm] at hnd hdr htk
      rw [hdr]
      simp only [ptr]
      have d0 : wr.cell? ⟨m.id, 0, none⟩ = some (.int .i64 m.sp) := by rw [Lib.cell_of_heap hnd]; rfl
      have d1 : wr.cell? ⟨m.id, 1, none⟩ = some (.int .u64 m.va) := by rw [Lib.cell_of_heap hnd]; rfl
      have d2 : wr.cell? ⟨m.id, 2, none⟩ = some (.int .i64 m.sz) := by rw [Lib.cell_of_heap hnd]; rfl
      have HN := Aside0.mk hnd
      have HTK := Aside0.mk htk
      obtain ⟨pa2, hpa2⟩ : ∃ pa2 : Option Addr, ptr (l.drop (j + 1)) = .pointer pa2 := by cases l.drop (j + 1) <;> exact ⟨_, rfl⟩
      have HPA2 := Aside0.mk hpa2
      have HMM := Aside0.mk hm
      clear hnd hm hdr htk hpa2
      go_wp2_with (first | ((with_reducible refine gate_builtin (b := .append) (xs := #[.tmp 31, .tmp 36]) rfl ?_); at_builtin; refine Kd.R_append k24 (w0 := w) w.heap.size rfl (.tmp 31) (.tmp 36) 66 27 (.agg #[(.int .i64 0), (.int .u64 0), (.int .i64 0)]) 24 rfl Try.underlying66 info27 rfl (by decide) (by omega) (.slice A j cc) ((l.take j).map nk) (nk m) [.int .i64 m.sp, .int .u64 m.va, .int .i64 m.sz] (fun _ => True) (fun _ => False) rfl rfl ?aP (fun _ hk => hk.elim) ?aF ?aO ?aB ?aS ?aL ?_; (case aP => exact k24_mkM _ _ _ (nk m)); (case aB => exact HB.out); (case aF => exact (fun _ _ => trivial)); (case aO => exact HO'.out); (case aS => exact HB.out.size); (case aL => rw [List.length_map, List.length_take, Nat.min_eq_left hj]; omega); intro v5 w5 ho5 hb5 hg5 hat5; have hn5 := HT.out.node hb5 HL.out j hlt; rw [HMM.out] at hn5; have d4 : w5.cell? ⟨m.id, 4, none⟩ = some (.pointer pa2) := (by rw [Lib.cell_of_heap hn5, ← HPA2.out]; rfl); have HO5 := Aside0.mk ho5; have HB5 := Aside0.mk hb5; clear hn5 ho5 hb5 hg5 hat5))
      obtain ⟨A5, c5, hv5, _, _⟩ := Kd.R_reads HO5.out
      have hs5 : slen v5 = j + 1 := by rw [hv5]; simp [slen]; omega
      go_wp2
      go_roundw
      case rel => exact ⟨j + 1, by omega, HPA2.out.symm, hs5, ⟨by rw [HTK.out]; exact HO5.out⟩, HB5⟩
      case measure => rw [hs5]; simp [slen]; omega
    · have hdr : l.drop j = [] := List.drop_of_length_le (by omega)
      have hjl : j = l.length := by omega
      rw [hdr]
      simp only [ptr]
      clear hdr
      go_wp2
      go_ret
      refine ⟨_, rfl, ?_, HB.out⟩
      have := HO'.out
      rwa [List.take_of_length_le (by omega)] at this
end Go.Proofs.Ytgmdlndiilibpaa.PH

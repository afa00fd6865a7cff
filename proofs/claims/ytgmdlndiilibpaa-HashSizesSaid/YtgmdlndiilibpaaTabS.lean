/- hash.Table.Set, Cut. -/
import Derived.Test.YtgmdlndiilibpaaTabP
import Derived.Test.YtgmdlndiilibpaaTabG
import Derived.Test.YtgmdlndiilibpaaTabC
namespace Go.Proofs.Ytgmdlndiilibpaa.PH
open Go.RowKit Go.Proofs.YtgmdlndiilibpaaW.PrintWords Go.Proofs.YtgmdlndiilibpaaW.PrintLast Go.Proofs.YtgmdlndiilibpaaW.PrintMore Go.Proofs.Ytgmdlndiilibpaa.Tab
attribute [local go_sem] max2_int min2_int max_two min_two max_three min_three max_four min_four   -- for this text's walks alone
set_option linter.unusedVariables false
set_option linter.unusedSimpArgs false
attribute [local go_sem high] eqA27
set_option maxHeartbeats 8000000 in
set_option maxRecDepth 100000 in
theorem set_arg (w : World) (t : Value) (sp va sz v : Int) (hmay : hash_May.f sp va sz = some false) :
    Calls Try.prog 34 #[t, .agg #[.int .i64 sp, .int .u64 va, .int .i64 sz], .int .i64 v] w fun e w' => e = .returned (.int .i64 10) ∧ Below w.heap.size w w' := by
  have hm := Aside0.mk hmay
  clear hmay
  go_enter Try.func34, Try.ntmps34
  go_wp2_with fail
  refine (get_no _ t sp va sz hm.out).mono ?_
  rintro e w1 ⟨rfl, hb1⟩
  replace hb1 := box_below hb1
  go_wp2
  go_ret
  exact ⟨rfl, hb1⟩
set_option maxHeartbeats 8000000 in
set_option maxRecDepth 100000 in
theorem set_none (w : World) (b c : Nat) (L : List (List Nd)) (free n : Int) (hT : At 116 120 123 w b c L free n) (sp va sz v : Int) (i : Nat) (l : List Nd) (hli : L[i]? = some l)
    (hmay : hash_May.f sp va sz = some true) (hch : hash_Chain.f sp va sz (L.length : Int) = some (i : Int)) (hlt : ¬ pos (sp, va, sz) l < l.length) :
    Calls Try.prog 34 #[.pointer (some ⟨b, 0, none⟩), .agg #[.int .i64 sp, .int .u64 va, .int .i64 sz], .int .i64 v] w fun e w' => e = .returned (.int .i64 10) ∧ Below w.heap.size w w' := by
  have hm := Aside0.mk hmay
  have hc := Aside0.mk hch
  have hl := Aside0.mk hli
  clear hmay hch hli
  have hTa := hT.below ((Below.refl _ w).alloc (Nat.le_refl _) (Obj.cells #[Value.int IntKind.i64 sp, Value.int IntKind.u64 va, Value.int IntKind.i64 sz] 27))
  have hg : getN (sp, va, sz) l = (0, l.length, false) := by unfold getN; rw [dif_neg hlt]
  have hgy := fun W hW => get_yes W b c L free n hW sp va sz i l hl.out hm.out hc.out
  rw [hg] at hgy
  have HG := Aside0.mk hgy
  clear hgy hg
  go_enter Try.func34, Try.ntmps34
  go_wp2_with fail
  refine (HG.out _ hTa).mono ?_
  rintro e w1 ⟨rfl, hb1⟩
  replace hb1 := box_below hb1
  go_wp2
  go_ret
  exact ⟨rfl, hb1⟩
set_option maxHeartbeats 8000000 in
set_option maxRecDepth 100000 in
theorem cut_arg (w : World) (t : Value) (sp va sz : Int) (hmay : hash_May.f sp va sz = some false) :
    Calls Try.prog 33 #[t, .agg #[.int .i64 sp, .int .u64 va, .int .i64 sz]] w fun e w' => e = .returned (.int .i64 10) ∧ Below w.heap.size w w' := by
  have hm := Aside0.mk hmay
  clear hmay
  go_enter Try.func33, Try.ntmps33
  go_wp2_with fail
  refine (get_no _ t sp va sz hm.out).mono ?_
  rintro e w1 ⟨rfl, hb1⟩
  replace hb1 := box_below hb1
  go_wp2
  go_ret
  exact ⟨rfl, hb1⟩
set_option maxHeartbeats 8000000 in
set_option maxRecDepth 100000 in
theorem cut_none (w : World) (b c : Nat) (L : List (List Nd)) (free n : Int) (hT : At 116 120 123 w b c L free n) (sp va sz : Int) (i : Nat) (l : List Nd) (hli : L[i]? = some l)
    (hmay : hash_May.f sp va sz = some true) (hch : hash_Chain.f sp va sz (L.length : Int) = some (i : Int)) (hlt : ¬ pos (sp, va, sz) l < l.length) :
    Calls Try.prog 33 #[.pointer (some ⟨b, 0, none⟩), .agg #[.int .i64 sp, .int .u64 va, .int .i64 sz]] w fun e w' => e = .returned (.int .i64 10) ∧ Below w.heap.size w w' := by
  have hm := Aside0.mk hmay
  have hc := Aside0.mk hch
  have hl := Aside0.mk hli
  clear hmay hch hli
  have hTa := hT.below ((Below.refl _ w).alloc (Nat.le_refl _) (Obj.cells #[Value.int IntKind.i64 sp, Value.int IntKind.u64 va, Value.int IntKind.i64 sz] 27))
  have hg : getN (sp, va, sz) l = (0, l.length, false) := by unfold getN; rw [dif_neg hlt]
  have hgy := fun W hW => get_yes W b c L free n hW sp va sz i l hl.out hm.out hc.out
  rw [hg] at hgy
  have HG := Aside0.mk hgy
  clear hgy hg
  go_enter Try.func33, Try.ntmps33
  go_wp2_with fail
  refine (HG.out _ hTa).mono ?_
  rintro e w1 ⟨rfl, hb1⟩
  replace hb1 := box_below hb1
  go_wp2
  go_ret
  exact ⟨rfl, hb1⟩
set_option maxHeartbeats 8000000 in
set_option maxRecDepth 100000 in
theorem set_ok (w : World) (b c : Nat) (L : List (List Nd)) (free n : Int) (hT : At 116 120 123 w b c L free n) (sp va sz v : Int) (i : Nat) (l : List Nd) (hli : L[i]? = some l)
    (hmay : hash_May.f sp va sz = some true) (hch : hash_Chain.f sp va sz (L.length : Int) = some (i : Int)) (hlt : pos (sp, va, sz) l < l.length) :
    Calls Try.prog 34 #[.pointer (some ⟨b, 0, none⟩), .agg #[.int .i64 sp, .int .u64 va, .int .i64 sz], .int .i64 v] w fun e w' => e = .returned (.int .i64 0) ∧
      At 116 120 123 w' b c (L.set i (l.set (pos (sp, va, sz) l) { (l[pos (sp, va, sz) l]'hlt) with v := v })) free n ∧ Mv (ids b c L) w w' := by
  have hm := Aside0.mk hmay
  have hc := Aside0.mk hch
  have hl := Aside0.mk hli
  clear hmay hch hli
  have hTa := hT.below ((Below.refl _ w).alloc (Nat.le_refl _) (Obj.cells #[Value.int IntKind.i64 sp, Value.int IntKind.u64 va, Value.int IntKind.i64 sz] 27))
  have hg : getN (sp, va, sz) l = ((l[pos (sp, va, sz) l]'hlt).v, pos (sp, va, sz) l + 1, true) := by unfold getN; rw [dif_pos hlt]
  have hgy := fun W hW => get_yes W b c L free n hW sp va sz i l hl.out hm.out hc.out
  rw [hg] at hgy
  have HG := Aside0.mk hgy
  clear hgy hg
  go_enter Try.func34, Try.ntmps34
  go_wp2_with fail
  refine (HG.out _ hTa).mono ?_
  rintro e w1 ⟨rfl, hb1⟩
  have q0 := pw_cell_below hb1 (a := ⟨w.heap.size, 0, none⟩) (v := .int .i64 sp) (by go_simp)
  have q1 := pw_cell_below hb1 (a := ⟨w.heap.size, 1, none⟩) (v := .int .u64 va) (by go_simp)
  have q2 := pw_cell_below hb1 (a := ⟨w.heap.size, 2, none⟩) (v := .int .i64 sz) (by go_simp)
  replace hb1 := box_below hb1
  go_wp2_with fail
  refine (find_calls _ b c L free n (hT.below hb1) sp va sz i l hl.out hc.out).mono ?_
  rintro e w2 ⟨j, hj, rfl, hb2⟩
  have hb3 := below_then hb1 hb1.size hb2
  have hlt2 : j < l.length := by rw [hj]; exact hlt
  have hs := (hT.slots hb3 hl.out j (Nat.le_of_lt hlt2)).1
  have hsf := (hT.slots hb3 hl.out j (Nat.le_of_lt hlt2)).2
  have hn := hT.node hb3 hl.out j hlt2
  rw [List.drop_eq_getElem_cons hlt2] at hs
  simp only [ptr] at hs
  rw [if_pos hlt2]
  have hT2 := hT.below hb3
  have hid : (l[j]'hlt2).id ∈ ids b c L := mem_ids hl.out (List.getElem_mem hlt2)
  have hset := hT2.setv hl.out j hlt2 v
  obtain ⟨m, hm2⟩ : ∃ m, (l[j]'hlt2) = m := ⟨_, rfl⟩
  rw [hm2] at hs hn hset hid
  have d3 : w2.cell? ⟨m.id, 3, none⟩ = some (.int .i64 m.v) := by rw [Lib.cell_of_heap hn]; rfl
  have f3 : w2.frozen? ⟨m.id, 3, none⟩ = false := Lib.frozen_of_heap hn 3
  have HS := Aside0.mk hset
  have HJ := Aside0.mk hj
  have HM := Aside0.mk hm2
  have HI := Aside0.mk hid
  clear hset hj hm2 hn hid
  go_wp2
  go_ret
  have hsz := hb3.size
  refine ⟨rfl, ?_, ⟨hb3.os, hb3.tape, hb3.output, by simp only [World.setCell, Array.size_modify]; exact hsz, fun k hk hkn => (heap_set_ne _ (fun (e : k = m.id) => hkn (by rw [e]; exact HI.out))).trans (hb3.block k hk)⟩⟩
  have := HS.out
  have hj := HJ.out
  subst hj
  have hid : m.id = (l[pos (sp, va, sz) l]'hlt).id := by rw [← HM.out]
  rw [hid]
  rw [← HM.out] at this
  exact this
set_option maxHeartbeats 8000000 in
set_option maxRecDepth 100000 in
theorem cut_ok (w : World) (b c : Nat) (L : List (List Nd)) (free n : Int) (hT : At 116 120 123 w b c L free n) (sp va sz : Int) (i : Nat) (l : List Nd) (hli : L[i]? = some l)
    (hmay : hash_May.f sp va sz = some true) (hch : hash_Chain.f sp va sz (L.length : Int) = some (i : Int)) (hlt : pos (sp, va, sz) l < l.length) (hf0 : 0 ≤ free) (hf2 : free ≤ 4611686018427387904) (hn0 : 0 < n) (hn2 : n ≤ 4611686018427387904) :
    Calls Try.prog 33 #[.pointer (some ⟨b, 0, none⟩), .agg #[.int .i64 sp, .int .u64 va, .int .i64 sz]] w fun e w' => e = .returned (.int .i64 0) ∧
      At 116 120 123 w' b c (L.set i (l.eraseIdx (pos (sp, va, sz) l))) (free + 1) (n - 1) ∧ Mv (ids b c L) w w' := by
  have hm := Aside0.mk hmay
  have hc := Aside0.mk hch
  have hl := Aside0.mk hli
  clear hmay hch hli
  have hTa := hT.below ((Below.refl _ w).alloc (Nat.le_refl _) (Obj.cells #[Value.int IntKind.i64 sp, Value.int IntKind.u64 va, Value.int IntKind.i64 sz] 27))
  have hg : getN (sp, va, sz) l = ((l[pos (sp, va, sz) l]'hlt).v, pos (sp, va, sz) l + 1, true) := by unfold getN; rw [dif_pos hlt]
  have hgy := fun W hW => get_yes W b c L free n hW sp va sz i l hl.out hm.out hc.out
  rw [hg] at hgy
  have HG := Aside0.mk hgy
  clear hgy hg
  go_enter Try.func33, Try.ntmps33
  go_wp2_with fail
  refine (HG.out _ hTa).mono ?_
  rintro e w1 ⟨rfl, hb1⟩
  have q0 := pw_cell_below hb1 (a := ⟨w.heap.size, 0, none⟩) (v := .int .i64 sp) (by go_simp)
  have q1 := pw_cell_below hb1 (a := ⟨w.heap.size, 1, none⟩) (v := .int .u64 va) (by go_simp)
  have q2 := pw_cell_below hb1 (a := ⟨w.heap.size, 2, none⟩) (v := .int .i64 sz) (by go_simp)
  replace hb1 := box_below hb1
  go_wp2_with fail
  refine (find_calls _ b c L free n (hT.below hb1) sp va sz i l hl.out hc.out).mono ?_
  rintro e w2 ⟨j, hj, rfl, hb2⟩
  have hb3 := below_then hb1 hb1.size hb2
  have hlt2 : j < l.length := by rw [hj]; exact hlt
  have hs := (hT.slots hb3 hl.out j (Nat.le_of_lt hlt2)).1
  have hsf := (hT.slots hb3 hl.out j (Nat.le_of_lt hlt2)).2
  have hn := hT.node hb3 hl.out j hlt2
  rw [List.drop_eq_getElem_cons hlt2] at hs
  simp only [ptr] at hs
  rw [if_pos hlt2]
  have hT2 := hT.below hb3
  have hcut := hT2.cut hl.out j hlt2
  have hsid : (slot c i l j).block ∈ ids b c L ∧ (slot c i l j).spot = none := by
    cases j with
    | zero => exact ⟨by simp [slot, ids], rfl⟩
    | succ j =>
      have hjl : j < l.length := by omega
      simp only [slot, List.getElem?_eq_getElem hjl]
      exact ⟨mem_ids hl.out (List.getElem_mem hjl), trivial⟩
  obtain ⟨m, hm2⟩ : ∃ m, (l[j]'hlt2) = m := ⟨_, rfl⟩
  rw [hm2] at hs hn
  have d4 : w2.cell? ⟨m.id, 4, none⟩ = some (ptr (l.drop (j + 1))) := by rw [Lib.cell_of_heap hn]; rfl
  obtain ⟨pa, hpa⟩ : ∃ pa : Option Addr, ptr (l.drop (j + 1)) = .pointer pa := by cases l.drop (j + 1) <;> exact ⟨_, rfl⟩
  rw [hpa] at d4 hcut
  obtain ⟨sl, hsl⟩ : ∃ sl, slot c i l j = sl := ⟨_, rfl⟩
  rw [hsl] at hs hsf hcut hsid ⊢
  have c1 : (w2.setCell sl (.pointer pa)).cell? ⟨b, 1, none⟩ = some (.int .i64 free) := by rw [Lib.cell_of_heap hcut.hb]; rfl
  have c2 : (w2.setCell sl (.pointer pa)).cell? ⟨b, 2, none⟩ = some (.int .i64 n) := by rw [Lib.cell_of_heap hcut.hb]; rfl
  have f1 : (w2.setCell sl (.pointer pa)).frozen? ⟨b, 1, none⟩ = false := Lib.frozen_of_heap hcut.hb 1
  have f2 : (w2.setCell sl (.pointer pa)).frozen? ⟨b, 2, none⟩ = false := Lib.frozen_of_heap hcut.hb 2
  have HC := Aside0.mk hcut
  have HJ := Aside0.mk hj
  have HI := Aside0.mk hsid
  have HP := Aside0.mk hpa
  clear hcut hj hn hsid hpa hm2 hsl
  go_wp2_with fail
  generalize hw3 : w2.setCell sl (.pointer pa) = w3 at *
  have HW := Aside0.mk hw3
  clear hw3
  go_wp2
  go_ret
  have hsz := hb3.size
  have hj := HJ.out
  subst hj
  have hother : ∀ k, k ≠ b → ((w3.setCell ⟨b, 1, none⟩ (.int .i64 (free + 1))).setCell ⟨b, 2, none⟩ (.int .i64 (n - 1))).heap[k]? = w3.heap[k]? := fun k hk => (heap_set_ne _ hk).trans (heap_set_ne _ hk)
  have h3 : ∀ k, k ∉ ids b c L → w3.heap[k]? = w2.heap[k]? := fun k hk => by rw [← HW.out]; exact Below.heap_setCell w2 sl _ k (fun e => hk (e ▸ HI.out.1))
  have hs3 : w3.heap.size = w2.heap.size := by rw [← HW.out]; simp [World.setCell]
  refine ⟨rfl, At.counts HC.out _ _ ?_ (fun k _ hk => hother k hk), ⟨?_, ?_, ?_, ?_, fun k hk hkn => (hother k (fun e => hkn (by rw [e]; simp [ids]))).trans ((h3 k hkn).trans (hb3.block k hk))⟩⟩
  · have := heap_set_same (o := 2) (.int .i64 (n - 1)) (heap_set_same (o := 1) (.int .i64 (free + 1)) HC.out.hb)
    simpa using this
  · show w3.os = w.os
    rw [← HW.out]; exact hb3.os
  · show w3.tape = w.tape
    rw [← HW.out]; exact hb3.tape
  · show w3.output = w.output
    rw [← HW.out]; exact hb3.output
  · simp only [World.setCell, Array.size_modify]
    omega
end Go.Proofs.Ytgmdlndiilibpaa.PH

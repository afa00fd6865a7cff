/- hash.Table.Put. -/
import Derived.Test.YtgmdlndiilibpaaTabP
import Derived.Test.YtgmdlndiilibpaaTabG
import Derived.Test.YtgmdlndiilibpaaTabW
namespace Go.Proofs.Ytgmdlndiilibpaa.PH
open Go.RowKit Go.Proofs.YtgmdlndiilibpaaW.PrintWords Go.Proofs.YtgmdlndiilibpaaW.PrintLast Go.Proofs.YtgmdlndiilibpaaW.PrintMore Go.Proofs.Ytgmdlndiilibpaa.Tab
attribute [local go_sem] max2_int min2_int max_two min_two max_three min_three max_four min_four   -- for this text's walks alone
set_option linter.unusedVariables false
set_option linter.unusedSimpArgs false
attribute [local go_sem high] eqA27
set_option maxHeartbeats 8000000 in
set_option maxRecDepth 100000 in
theorem put_arg (w : World) (t : Value) (sp va sz v : Int) (hmay : hash_May.f sp va sz = some false) :
    Calls Try.prog 32 #[t, .agg #[.int .i64 sp, .int .u64 va, .int .i64 sz], .int .i64 v] w fun e w' => e = .returned (.int .i64 1) ∧ Below w.heap.size w w' := by
  have hm := Aside0.mk hmay
  clear hmay
  go_enter Try.func32, Try.ntmps32
  go_wp2_with (first | (go_at_call 17; refine (hash_May.calls sp va sz false _ hm.out).mono ?_; rintro e w1 ⟨rfl, hb1⟩))
  go_ret
  exact ⟨rfl, box_below hb1⟩
set_option maxHeartbeats 8000000 in
set_option maxRecDepth 100000 in
theorem put_exist (w : World) (b c : Nat) (L : List (List Nd)) (free n : Int) (hT : At 116 120 123 w b c L free n) (sp va sz v : Int) (i : Nat) (l : List Nd) (hli : L[i]? = some l)
    (hmay : hash_May.f sp va sz = some true) (hch : hash_Chain.f sp va sz (L.length : Int) = some (i : Int)) (hlt : pos (sp, va, sz) l < l.length) :
    Calls Try.prog 32 #[.pointer (some ⟨b, 0, none⟩), .agg #[.int .i64 sp, .int .u64 va, .int .i64 sz], .int .i64 v] w fun e w' => e = .returned (.int .i64 9) ∧ Below w.heap.size w w' := by
  have hm := Aside0.mk hmay
  have hc := Aside0.mk hch
  have hl := Aside0.mk hli
  clear hmay hch hli
  go_enter Try.func32, Try.ntmps32
  go_wp2_with fail
  refine (hash_May.calls sp va sz true _ hm.out).mono ?_
  rintro e w1 ⟨rfl, hb1⟩
  have q0 := pw_cell_below hb1 (a := ⟨w.heap.size, 0, none⟩) (v := .int .i64 sp) (by go_simp)
  have q1 := pw_cell_below hb1 (a := ⟨w.heap.size, 1, none⟩) (v := .int .u64 va) (by go_simp)
  have q2 := pw_cell_below hb1 (a := ⟨w.heap.size, 2, none⟩) (v := .int .i64 sz) (by go_simp)
  replace hb1 := box_below hb1
  go_wp2_with fail
  refine (find_calls _ b c L free n (hT.below hb1) sp va sz i l hl.out hc.out).mono ?_
  rintro e w2 ⟨j, hj, rfl, hb2⟩
  have hb3 := below_then hb1 hb1.size hb2
  have hlt2 : j < l.length := by rw [hj]; exact hlt
  have hs := (hT.slots hb3 hl.out j (Nat.le_of_lt hlt2)).1
  rw [List.drop_eq_getElem_cons hlt2] at hs
  simp only [ptr] at hs
  rw [if_pos hlt2]
  clear hj
  go_wp2
  go_ret
  exact ⟨rfl, hb3⟩
set_option maxHeartbeats 8000000 in
set_option maxRecDepth 100000 in
theorem put_mem (w : World) (b c : Nat) (L : List (List Nd)) (free n : Int) (hT : At 116 120 123 w b c L free n) (sp va sz v : Int) (i : Nat) (l : List Nd) (hli : L[i]? = some l)
    (hmay : hash_May.f sp va sz = some true) (hch : hash_Chain.f sp va sz (L.length : Int) = some (i : Int)) (hlt : ¬ pos (sp, va, sz) l < l.length) (hfree : free = 0) :
    Calls Try.prog 32 #[.pointer (some ⟨b, 0, none⟩), .agg #[.int .i64 sp, .int .u64 va, .int .i64 sz], .int .i64 v] w fun e w' => e = .returned (.int .i64 6) ∧ Below w.heap.size w w' := by
  subst hfree
  have hm := Aside0.mk hmay
  have hc := Aside0.mk hch
  have hl := Aside0.mk hli
  clear hmay hch hli
  go_enter Try.func32, Try.ntmps32
  go_wp2_with fail
  refine (hash_May.calls sp va sz true _ hm.out).mono ?_
  rintro e w1 ⟨rfl, hb1⟩
  have q0 := pw_cell_below hb1 (a := ⟨w.heap.size, 0, none⟩) (v := .int .i64 sp) (by go_simp)
  have q1 := pw_cell_below hb1 (a := ⟨w.heap.size, 1, none⟩) (v := .int .u64 va) (by go_simp)
  have q2 := pw_cell_below hb1 (a := ⟨w.heap.size, 2, none⟩) (v := .int .i64 sz) (by go_simp)
  replace hb1 := box_below hb1
  go_wp2_with fail
  refine (find_calls _ b c L 0 n (hT.below hb1) sp va sz i l hl.out hc.out).mono ?_
  rintro e w2 ⟨j, hj, rfl, hb2⟩
  have hb3 := below_then hb1 hb1.size hb2
  have hjl : j = l.length := by have := pos_le (sp, va, sz) l; omega
  have hs := (hT.slots hb3 hl.out j (by omega)).1
  rw [List.drop_of_length_le (by omega)] at hs
  simp only [ptr] at hs
  rw [if_neg (by omega)]
  clear hj hjl
  have cf : w2.cell? ⟨b, 1, none⟩ = some (.int .i64 0) := by rw [Lib.cell_of_heap (hT.below hb3).hb]; rfl
  go_wp2
  go_ret
  exact ⟨rfl, hb3⟩
set_option maxHeartbeats 8000000 in
set_option maxRecDepth 100000 in
theorem put_ok (w : World) (b c : Nat) (L : List (List Nd)) (free n : Int) (hT : At 116 120 123 w b c L free n) (sp va sz v : Int) (i : Nat) (l : List Nd) (hli : L[i]? = some l)
    (hmay : hash_May.f sp va sz = some true) (hch : hash_Chain.f sp va sz (L.length : Int) = some (i : Int)) (hlt : ¬ pos (sp, va, sz) l < l.length) (hfree : 0 < free) (hf2 : free ≤ 4611686018427387904) (hn : 0 ≤ n) (hn2 : n ≤ 4611686018427387904) (hfew : l.length + 1 ≤ 10000000) :
    Calls Try.prog 32 #[.pointer (some ⟨b, 0, none⟩), .agg #[.int .i64 sp, .int .u64 va, .int .i64 sz], .int .i64 v] w fun e w' => e = .returned (.int .i64 0) ∧
      ∃ g, w.heap.size ≤ g ∧ At 116 120 123 w' b c (L.set i (⟨g, sp, va, sz, v⟩ :: l)) (free - 1) (n + 1) ∧ Mv (ids b c L) w w' := by
  have hm := Aside0.mk hmay
  have hc := Aside0.mk hch
  have hl := Aside0.mk hli
  clear hmay hch hli
  have hfz : (free == 0) = false := by simp; omega
  go_enter Try.func32, Try.ntmps32
  go_wp2_with fail
  refine (hash_May.calls sp va sz true _ hm.out).mono ?_
  rintro e w1 ⟨rfl, hb1⟩
  have q0 := pw_cell_below hb1 (a := ⟨w.heap.size, 0, none⟩) (v := .int .i64 sp) (by go_simp)
  have q1 := pw_cell_below hb1 (a := ⟨w.heap.size, 1, none⟩) (v := .int .u64 va) (by go_simp)
  have q2 := pw_cell_below hb1 (a := ⟨w.heap.size, 2, none⟩) (v := .int .i64 sz) (by go_simp)
  replace hb1 := box_below hb1
  go_wp2_with fail
  refine (find_calls _ b c L free n (hT.below hb1) sp va sz i l hl.out hc.out).mono ?_
  rintro e w2 ⟨j, hj, rfl, hb2⟩
  have hb3 := below_then hb1 hb1.size hb2
  have r0 := pw_cell_below hb2 q0
  have r1 := pw_cell_below hb2 q1
  have r2 := pw_cell_below hb2 q2
  have hjl : j = l.length := by have := pos_le (sp, va, sz) l; omega
  have hs := (hT.slots hb3 hl.out j (by omega)).1
  rw [List.drop_of_length_le (by omega)] at hs
  simp only [ptr] at hs
  rw [if_neg (by omega)]
  clear hj hjl
  have cf : w2.cell? ⟨b, 1, none⟩ = some (.int .i64 free) := by rw [Lib.cell_of_heap (hT.below hb3).hb]; rfl
  go_wp2_with fail
  refine (push_calls _ b c L free n (hT.below hb3) sp va sz v i l hl.out hfew hc.out).mono ?_
  rintro e w3 ⟨rfl, g, hg, hT3, hmv3⟩
  have c1 : w3.cell? ⟨b, 1, none⟩ = some (.int .i64 free) := by rw [Lib.cell_of_heap hT3.hb]; rfl
  have c2 : w3.cell? ⟨b, 2, none⟩ = some (.int .i64 n) := by rw [Lib.cell_of_heap hT3.hb]; rfl
  have f1 : w3.frozen? ⟨b, 1, none⟩ = false := Lib.frozen_of_heap hT3.hb 1
  have f2 : w3.frozen? ⟨b, 2, none⟩ = false := Lib.frozen_of_heap hT3.hb 2
  go_wp2
  go_ret
  have hsz := hb3.size
  have hs3 := hmv3.size
  have hother : ∀ k, k ≠ b → (((w3.setCell ⟨b, 1, none⟩ (.int .i64 (free - 1))).setCell ⟨b, 2, none⟩ (.int .i64 (n + 1)))).heap[k]? = w3.heap[k]? := fun k hk =>
    (Below.heap_setCell _ ⟨b, 2, none⟩ _ k hk).trans (Below.heap_setCell _ ⟨b, 1, none⟩ _ k hk)
  refine ⟨rfl, g, by omega, At.counts hT3 _ _ ?_ (fun k _ hk => hother k hk), ⟨hmv3.os.trans hb3.os, hmv3.tape.trans hb3.tape, hmv3.output.trans hb3.output, ?_, fun k hk hkn => (hother k (fun e => hkn (by rw [e]; simp [ids]))).trans ((hmv3.block k (by omega) (fun e => hkn (by rw [List.mem_singleton.1 e]; simp [ids]))).trans (hb3.block k hk))⟩⟩
  · have := heap_set_same (o := 2) (.int .i64 (n + 1)) (heap_set_same (o := 1) (.int .i64 (free - 1)) hT3.hb)
    simpa using this
  · simp only [World.setCell, Array.size_modify]
    omega
end Go.Proofs.Ytgmdlndiilibpaa.PH

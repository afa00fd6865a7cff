/- hash.Table.Get: what stands at a key. -/
import Derived.Test.YtgmdlndiilibpaaTabF
namespace Go.Proofs.Ytgmdlndiilibpaa.PH
open Go.RowKit Go.Proofs.YtgmdlndiilibpaaW.PrintWords Go.Proofs.YtgmdlndiilibpaaW.PrintLast Go.Proofs.YtgmdlndiilibpaaW.PrintMore Go.Proofs.Ytgmdlndiilibpaa.Tab
attribute [local go_sem] max2_int min2_int max_two min_two max_three min_three max_four min_four   -- for this text's walks alone
set_option linter.unusedVariables false
set_option linter.unusedSimpArgs false
attribute [local go_sem high] eqA27
theorem box_below {w : World} {o : Obj} {w1 : World} (hb : Below (w.alloc o).heap.size (w.alloc o) w1) : Below w.heap.size w w1 := below_then ((Below.refl _ w).alloc (Nat.le_refl _) _) (by simp) hb
set_option maxHeartbeats 8000000 in
set_option maxRecDepth 100000 in
theorem get_no (w : World) (t : Value) (sp va sz : Int) (hmay : hash_May.f sp va sz = some false) :
    Calls Try.prog 35 #[t, .agg #[.int .i64 sp, .int .u64 va, .int .i64 sz]] w fun e w' => e = .returned (.tuple #[.int .i64 0, .int .i64 0, .bool false]) ∧ Below w.heap.size w w' := by
  have hm := Aside0.mk hmay
  clear hmay
  go_enter Try.func35, Try.ntmps35
  go_wp2_with (first | (go_at_call 17; refine (hash_May.calls sp va sz false _ hm.out).mono ?_; rintro e w1 ⟨rfl, hb1⟩))
  go_ret3
  exact ⟨rfl, box_below hb1⟩
set_option maxHeartbeats 8000000 in
set_option maxRecDepth 100000 in
theorem get_yes (w : World) (b c : Nat) (L : List (List Nd)) (free n : Int) (hT : At 116 120 123 w b c L free n) (sp va sz : Int) (i : Nat) (l : List Nd) (hli : L[i]? = some l)
    (hmay : hash_May.f sp va sz = some true) (hch : hash_Chain.f sp va sz (L.length : Int) = some (i : Int)) :
    Calls Try.prog 35 #[.pointer (some ⟨b, 0, none⟩), .agg #[.int .i64 sp, .int .u64 va, .int .i64 sz]] w fun e w' =>
      e = .returned (.tuple #[.int .i64 (getN (sp, va, sz) l).1, .int .i64 ((getN (sp, va, sz) l).2.1 : Nat), .bool (getN (sp, va, sz) l).2.2]) ∧ Below w.heap.size w w' := by
  have hm := Aside0.mk hmay
  have hc := Aside0.mk hch
  have hl := Aside0.mk hli
  clear hmay hch hli
  by_cases hlt : pos (sp, va, sz) l < l.length
  · obtain ⟨m, hmm⟩ : ∃ m, l[pos (sp, va, sz) l] = m := ⟨_, rfl⟩
    have hg : getN (sp, va, sz) l = (m.v, pos (sp, va, sz) l + 1, true) := by unfold getN; rw [dif_pos hlt, hmm]
    rw [hg]
    have hM := Aside0.mk hmm
    clear hg hmm
    go_enter Try.func35, Try.ntmps35
    go_wp2_with fail
    refine (hash_May.calls sp va sz true _ hm.out).mono ?_
    rintro e w1 ⟨rfl, hb1⟩
    have q0 := pw_cell_below hb1 (a := ⟨w.heap.size, 0, none⟩) (v := .int .i64 sp) (by go_simp)
    have q1 := pw_cell_below hb1 (a := ⟨w.heap.size, 1, none⟩) (v := .int .u64 va) (by go_simp)
    have q2 := pw_cell_below hb1 (a := ⟨w.heap.size, 2, none⟩) (v := .int .i64 sz) (by go_simp)
    replace hb1 := box_below hb1
    go_wp2_with fail
    refine (find_calls _ b c L free n (hT.below hb1) sp va sz i l hl.out hc.out).mono ?_
    rintro e w2 ⟨j, hj, rfl, hb2⟩
    have hb3 := below_then hb1 hb1.size hb2
    have hlt2 : j < l.length := by rw [hj]; exact hlt
    have hjm : l[j] = m := by rw [← hM.out]; congr 1
    have hs := (hT.slots hb3 hl.out j (Nat.le_of_lt hlt2)).1
    have hn := hT.node hb3 hl.out j hlt2
    rw [List.drop_eq_getElem_cons hlt2, hjm] at hs
    rw [hjm] at hn
    simp only [ptr] at hs
    have d3 : w2.cell? ⟨m.id, 3, none⟩ = some (.int .i64 m.v) := by rw [Lib.cell_of_heap hn]; rfl
    rw [if_pos hlt2]
    have hJ := Aside0.mk hj
    clear hn hjm hj
    go_wp2
    go_ret3
    exact ⟨by rw [hJ.out]; rfl, hb3⟩
  · have hg : getN (sp, va, sz) l = (0, l.length, false) := by unfold getN; rw [dif_neg hlt]
    have hpl := pos_le (sp, va, sz) l
    rw [hg]
    clear hg
    go_enter Try.func35, Try.ntmps35
    go_wp2_with fail
    refine (hash_May.calls sp va sz true _ hm.out).mono ?_
    rintro e w1 ⟨rfl, hb1⟩
    have q0 := pw_cell_below hb1 (a := ⟨w.heap.size, 0, none⟩) (v := .int .i64 sp) (by go_simp)
    have q1 := pw_cell_below hb1 (a := ⟨w.heap.size, 1, none⟩) (v := .int .u64 va) (by go_simp)
    have q2 := pw_cell_below hb1 (a := ⟨w.heap.size, 2, none⟩) (v := .int .i64 sz) (by go_simp)
    replace hb1 := box_below hb1
    go_wp2_with fail
    refine (find_calls _ b c L free n (hT.below hb1) sp va sz i l hl.out hc.out).mono ?_
    rintro e w2 ⟨j, hj, rfl, hb2⟩
    have hb3 := below_then hb1 hb1.size hb2
    have hjl : j = l.length := by omega
    have hs := (hT.slots hb3 hl.out j (by omega)).1
    rw [List.drop_of_length_le (by omega)] at hs
    simp only [ptr] at hs
    rw [if_neg (by omega)]
    have hJ := Aside0.mk hjl
    clear hjl hj
    go_wp2
    go_ret3
    exact ⟨by rw [hJ.out]; rfl, hb3⟩
end Go.Proofs.Ytgmdlndiilibpaa.PH

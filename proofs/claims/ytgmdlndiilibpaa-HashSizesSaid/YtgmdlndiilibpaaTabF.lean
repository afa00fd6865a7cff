/- hash.Table.find: where a key is looked for. -/
import Derived.Test.YtgmdlndiilibpaaPHx4
import Derived.Test.YtgmdlndiilibpaaTabR
namespace Go.Proofs.Ytgmdlndiilibpaa.PH
open Go.RowKit Go.Proofs.YtgmdlndiilibpaaW.PrintWords Go.Proofs.YtgmdlndiilibpaaW.PrintLast Go.Proofs.YtgmdlndiilibpaaW.PrintMore Go.Proofs.Ytgmdlndiilibpaa.Tab
attribute [local go_sem] max2_int min2_int max_two min_two max_three min_three max_four min_four   -- for this text's walks alone
set_option linter.unusedVariables false
set_option linter.unusedSimpArgs false
theorem eqA27 (d : Nat) (w : World) (x0 y0 : Int) (x1 y1 : Int) (x2 y2 : Int) :
    (Op.equalIn (d + 2) 27 (.agg #[.int .i64 x0, .int .u64 x1, .int .i64 x2]) (.agg #[.int .i64 y0, .int .u64 y1, .int .i64 y2])).run Try.prog w = .ok (x0 == y0 && (x1 == y1 && (x2 == y2))) w := by
  refine eqA_of Try.underlying27 (by kernel_rfl) ?_
  refine eqf_cons (by rfl) (by go_simp; rfl) (by go_simp; rfl) (by go_simp) ?_
  refine eqf_cons (by rfl) (by go_simp; rfl) (by go_simp; rfl) (by go_simp) ?_
  exact eqf_last (by rfl) (by go_simp; rfl) (by go_simp; rfl) (by go_simp)
attribute [local go_sem high] eqA27
set_option maxHeartbeats 8000000 in
set_option maxRecDepth 100000 in
theorem find_calls (w : World) (b c : Nat) (L : List (List Nd)) (free n : Int) (hT : At 116 120 123 w b c L free n) (sp va sz : Int) (i : Nat) (l : List Nd) (hli : L[i]? = some l)
    (hch : hash_Chain.f sp va sz (L.length : Int) = some (i : Int)) :
    Calls Try.prog 66 #[.pointer (some ⟨b, 0, none⟩), .agg #[.int .i64 sp, .int .u64 va, .int .i64 sz]] w fun e w' => ∃ j : Nat, j = pos (sp, va, sz) l ∧
      e = .returned (.tuple #[.pointer (some (slot c i l j)), .int .i64 (if j < l.length then j + 1 else j : Nat)]) ∧ Below w.heap.size w w' := by
  obtain ⟨hi, hl⟩ := List.getElem?_eq_some_iff.1 hli
  have hbl : b < w.heap.size := hT.lt b (by simp [ids])
  have cb : w.cell? ⟨b, 0, none⟩ = some (.slice (some ⟨c, 0, none⟩) L.length L.length) := by rw [Lib.cell_of_heap hT.hb]; rfl
  have hch' := Aside0.mk hch
  have hsm := hT.small
  have hfew : l.length ≤ 10000000 := hT.few l (by rw [← hl]; exact List.getElem_mem hi)
  have hi0 : (0 : Int) ≤ (i : Int) := by omega
  have hi1 : (i : Int) < (L.length : Int) := by omega
  clear hch
  go_enter Try.func66, Try.ntmps66
  go_wp2_with fail
  have hB0 : Below w.heap.size w (w.alloc (Obj.cells #[Value.int IntKind.i64 sp, Value.int IntKind.u64 va, Value.int IntKind.i64 sz] 27)).drew := ((Below.refl _ w).alloc (Nat.le_refl _) _).drew
  go_region_held3 (fun w' => Below w.heap.size w w' ∧ w'.cell? ⟨b, 0, none⟩ = some (.slice (some ⟨c, 0, none⟩) L.length L.length) ∧ w'.cell? ⟨w.heap.size, 0, none⟩ = some (.int .i64 sp) ∧ w'.cell? ⟨w.heap.size, 1, none⟩ = some (.int .u64 va) ∧ w'.cell? ⟨w.heap.size, 2, none⟩ = some (.int .i64 sz))
    (first | go_keep | (refine ⟨((Below.refl _ w).alloc (Nat.le_refl _) _).drew, ?_, ?_, ?_, ?_⟩ <;> go_simp) | (go_split_ands; refine ⟨?_, pw_cell_below hbel (by assumption), pw_cell_below hbel (by assumption), pw_cell_below hbel (by assumption), pw_cell_below hbel (by assumption)⟩; exact below_then (by assumption) (Below.size (by assumption)) hbel))
    ((go_at_call 15; refine (hash_Chain.calls sp va sz _ _ _ hch'.out).mono ?_; rintro e w' ⟨rfl, hbel⟩))
  rename_i hS
  obtain ⟨hB, g0, g1, g2, g3⟩ := hS
  go_wp2
  have hT1 := hT.below hB
  have hslot : ∀ (wr : World), Below w.heap.size w wr → ∀ j, j ≤ l.length → wr.cell? (slot c i l j) = some (ptr (l.drop j)) := fun wr hbw j hj => by
    have := (hT.below hbw).cell_slot i hi j (by rw [hl]; exact hj)
    rw [hl] at this
    exact this.1
  have hnode : ∀ (wr : World), Below w.heap.size w wr → ∀ j (hj : j < l.length), wr.heap[(l[j]'hj).id]? = some (.cells (cells (l[j]'hj) (l.drop (j + 1))) 123 (0, 0)) := fun wr hbw j hj => by
    have := (hT.below hbw).hl L[i] (List.getElem_mem hi)
    rw [hl] at this
    exact this.at_ j hj
  have Hslot := Aside0.mk hslot
  have Hnode := Aside0.mk hnode
  clear hslot hnode hT1 hB0
  go_loopw [6, 7] (fun pv nv wr => ∃ j : Nat, j ≤ l.length ∧ (∀ q (hq : q < l.length), q < j → (l[q]'hq).key ≠ (sp, va, sz)) ∧ pv = .pointer (some (slot c i l j)) ∧ nv = .int .i64 j ∧ Below w.heap.size w wr ∧
      wr.cell? ⟨w.heap.size, 0, none⟩ = some (.int .i64 sp) ∧ wr.cell? ⟨w.heap.size, 1, none⟩ = some (.int .u64 va) ∧ wr.cell? ⟨w.heap.size, 2, none⟩ = some (.int .i64 sz)) (fun _ nv _ => l.length - (intOf nv).toNat)
  case atStart => exact ⟨0, by omega, fun q hq h => by omega, rfl, rfl, hB, g1, g2, g3⟩
  case round =>
    obtain ⟨j, hj, hno, rfl, rfl, hbw, k1, k2, k3⟩ := hrel
    have hcs := Hslot.out wr hbw j hj
    have Hno := Aside0.mk hno
    clear hno
    by_cases hlt : j < l.length
    · have hnd := Hnode.out wr hbw j hlt
      rw [List.drop_eq_getElem_cons hlt] at hcs
      obtain ⟨m, hm⟩ : ∃ m, l[j] = m := ⟨_, rfl⟩
      rw [hm] at hcs hnd
      simp only [ptr] at hcs
      have d0 : wr.cell? ⟨m.id, 0, none⟩ = some (.int .i64 m.sp) := by rw [Lib.cell_of_heap hnd]; rfl
      have d1 : wr.cell? ⟨m.id, 1, none⟩ = some (.int .u64 m.va) := by rw [Lib.cell_of_heap hnd]; rfl
      have d2 : wr.cell? ⟨m.id, 2, none⟩ = some (.int .i64 m.sz) := by rw [Lib.cell_of_heap hnd]; rfl
      have d4 : wr.cell? ⟨m.id, 4, none⟩ = some (ptr (l.drop (j + 1))) := by rw [Lib.cell_of_heap hnd]; rfl
      have hM := Aside0.mk hm
      clear hnd hm
      go_wp2
      go_quiet (fail)
      go_wp2
      · go_ret2
        have ee : (m.sp == sp) = true ∧ (m.va == va) = true ∧ (m.sz == sz) = true := by assumption
        obtain ⟨e1, e2, e3⟩ := ee
        have hk : (l[j]'hlt).key = (sp, va, sz) := by
          rw [hM.out]
          simp only [beq_iff_eq] at e1 e2 e3
          rw [Nd.key, e1, e2, e3]
        have hp := pos_at hlt Hno.out hk
        exact ⟨j, hp.symm, by rw [if_pos hlt]; rfl, pw_below_drewN hbw _⟩
      · rename_i hne
        go_roundw
        case rel =>
          refine ⟨j + 1, by omega, ?_, ?_, by go_num, pw_below_drewN hbw _, k1, k2, k3⟩
          · intro q hq hlt2
            by_cases hqj : q = j
            · subst hqj
              intro hk
              rw [hM.out] at hk
              simp only [Nd.key, Prod.mk.injEq] at hk
              obtain ⟨h1, h2, h3⟩ := hk
              simp [h1, h2, h3] at hne
            · exact Hno.out q hq (by omega)
          · simp only [slot, List.getElem?_eq_getElem hlt, hM.out]
        case measure => simp [intOf]; omega
    · have hjl : j = l.length := by omega
      rw [List.drop_of_length_le (by omega)] at hcs
      simp only [ptr] at hcs
      clear hjl
      go_wp2
      go_ret2
      have hp := pos_none (l := l) (key := (sp, va, sz)) (fun q hq => Hno.out q hq (by omega))
      have hjl : j = l.length := by omega
      exact ⟨j, by rw [hp]; exact hjl, by rw [if_neg hlt]; rfl, hbw⟩
end Go.Proofs.Ytgmdlndiilibpaa.PH

/- hash.Table.Longest. -/
import Derived.Test.YtgmdlndiilibpaaTabL
import Derived.Test.YtgmdlndiilibpaaTabN
namespace Go.Proofs.Ytgmdlndiilibpaa.PH
open Go.RowKit Go.Proofs.YtgmdlndiilibpaaW.PrintWords Go.Proofs.YtgmdlndiilibpaaW.PrintLast Go.Proofs.YtgmdlndiilibpaaW.PrintMore Go.Proofs.Ytgmdlndiilibpaa.Tab
attribute [local go_sem] max2_int min2_int max_two min_two max_three min_three max_four min_four   -- for this text's walks alone
set_option linter.unusedVariables false
set_option linter.unusedSimpArgs false
/-- How many blocks the longest of the first i chains has. -/
def longL (L : List (List Nd)) (i : Nat) : Nat := ((L.take i).map List.length).foldl max 0
theorem longL_succ {L : List (List Nd)} {i : Nat} (h : i < L.length) : longL L (i + 1) = max (longL L i) L[i].length := by
  unfold longL
  rw [List.take_succ_eq_append_getElem h, List.map_append, List.foldl_append]
  rfl
theorem foldl_max_le {l : List Nat} {a b : Nat} (ha : a ≤ b) (h : ∀ x ∈ l, x ≤ b) : l.foldl max a ≤ b := by
  induction l generalizing a with
  | nil => exact ha
  | cons x l ih => exact ih (by have := h x (by simp); omega) (fun y hy => h y (by simp [hy]))
theorem le_foldl_max (l : List Nat) (a : Nat) : a ≤ l.foldl max a ∧ ∀ x ∈ l, x ≤ l.foldl max a := by
  induction l generalizing a with
  | nil => exact ⟨Nat.le_refl _, by simp⟩
  | cons x l ih =>
    have h := ih (max a x)
    refine ⟨Nat.le_trans (Nat.le_max_left _ _) h.1, fun y hy => ?_⟩
    rcases List.mem_cons.1 hy with rfl | hy
    · exact Nat.le_trans (Nat.le_max_right _ _) h.1
    · exact h.2 y hy
theorem longL_bd {L : List (List Nd)} (hL : ∀ l ∈ L, l.length ≤ 10000000) (i : Nat) : longL L i ≤ 10000000 := by
  unfold longL
  refine foldl_max_le (by omega) (fun x hx => ?_)
  obtain ⟨l, hl, rfl⟩ := List.mem_map.1 hx
  exact hL l (List.mem_of_mem_take hl)
set_option maxHeartbeats 8000000 in
set_option maxRecDepth 100000 in
theorem longest_calls (w : World) (b c : Nat) (L : List (List Nd)) (free n : Int) (hT : At 116 120 123 w b c L free n) :
    Calls Try.prog 49 #[.pointer (some ⟨b, 0, none⟩)] w fun e w' => e = .returned (.int .i64 (longL L L.length : Nat)) ∧ Below w.heap.size w w' := by
  have cb : w.cell? ⟨b, 0, none⟩ = some (.slice (some ⟨c, 0, none⟩) L.length L.length) := by rw [Lib.cell_of_heap hT.hb]; rfl
  have HT := Aside0.mk hT
  have hsm := hT.small
  clear hT
  go_enter Try.func49, Try.ntmps49
  go_wp2_with fail
  clear cb
  go_loopg [3, 10] L.length (fun k nv iv wr => ∃ i : Nat, iv = .int .i64 i ∧ nv = .int .i64 (longL L i : Nat) ∧ i + k = L.length ∧ Aside0 (Below w.heap.size w wr))
  case atStart => exact ⟨0, rfl, rfl, by omega, ⟨Below.refl _ _⟩⟩
  case round =>
    obtain ⟨i, rfl, rfl, hik, HB⟩ := hrel
    have HIK := Aside0.mk hik
    clear hik
    by_cases hi : (i : Int) < (L.length : Int)
    · have hil : i < L.length := by omega
      obtain ⟨l, hl⟩ : ∃ l, L[i]? = some l := ⟨_, List.getElem?_eq_getElem hil⟩
      have hl2 : L[i] = l := (List.getElem?_eq_some_iff.1 hl).2
      have hls := longL_succ hil
      rw [hl2] at hls
      have HLS := Aside0.mk hls
      have hlb := longL_bd HT.out.few i
      have hll : l.length ≤ 10000000 := HT.out.few l (hl2 ▸ List.getElem_mem hil)
      have HR := Aside0.mk (row_calls wr b c L free n (HT.out.below HB.out) i l hl)
      clear hls hl hl2
      generalize longL L i = m at *
      go_wp2_with fail
      refine HR.out.mono ?_
      rintro e w2 ⟨v, rfl, hR, hb2⟩
      obtain ⟨A, cc, rfl⟩ := Kd.R_slice hR
      have HB2 := Aside0.mk (HB.out.trans (hb2.mono HB.out.size))
      clear hR hb2 HB
      have hln : (l.map nk).length = l.length := List.length_map _
      rw [hln]
      clear hln
      by_cases hm : (m : Int) < (l.length : Int)
      · go_wp2
        have hik := HIK.out
        go_roundg (gk - 1)
        case measure => omega
        case rel => exact ⟨i + 1, by push_cast; rfl, by rw [HLS.out, Nat.max_eq_right (by omega)], by omega, HB2⟩
      · go_wp2
        have hik := HIK.out
        go_roundg (gk - 1)
        case measure => omega
        case rel => exact ⟨i + 1, by push_cast; rfl, by rw [HLS.out, Nat.max_eq_left (by omega)], by omega, HB2⟩
    · have hir : i = L.length := by have := HIK.out; omega
      rw [hir]
      rw [hir] at hi
      clear hir
      go_wp2
      go_ret
      exact ⟨rfl, HB.out⟩

end Go.Proofs.Ytgmdlndiilibpaa.PH

/- A pool of numbers (layer 14): a number stolen. -/
import Derived.Test.YtcbnmmkmgpbfiaaCtxQ
namespace Go.Proofs.Ytcbnmmkmgpbfiaa.PP
open Go.RowKit Go.Proofs.Ytcbnmmkmgpbfiaa.PX Go.Proofs.YtcbnmmkmgpbfiaaW.PrintWords Go.Proofs.YtcbnmmkmgpbfiaaW.PrintLast Go.Proofs.YtcbnmmkmgpbfiaaW.PrintMore
attribute [local go_sem] max2_int min2_int max_two min_two max_three min_three max_four min_four   -- for this text's walks alone
set_option linter.unusedVariables false
set_option linter.unusedSimpArgs false
def StealP (base B bm : Nat) (vo : Value) (os : List Int) (f : Int → Option Int) (c : Nat) (hand rounds : Int) (n s : Int) (w : World) (e : Ending) (w' : World) : Prop :=
  if s < 0 ∨ inP n os.length = false then e = .returned (.tuple #[.int .i64 0, .int .i64 1]) ∧ PA w' base B bm vo os f c hand rounds ∧ Mv (pid B bm vo) w w' else
  if (f s).isSome = true then e = .returned (.tuple #[.int .i64 0, .int .i64 9]) ∧ PA w' base B bm vo os f c hand rounds ∧ Mv (pid B bm vo) w w' else
  if (ownerP os n).2 = false then e = .returned (.tuple #[.int .i64 0, .int .i64 10]) ∧ PA w' base B bm vo os f c hand rounds ∧ Mv (pid B bm vo) w w' else
  e = .returned (.tuple #[.int .i64 (ownerP os n).1, .int .i64 0]) ∧ Mv (pid B bm vo) w w' ∧
    OwnR base B bm vo os (fun j => if j = (ownerP os n).1 then none else f j) (c - (if (f (ownerP os n).1).isSome then 1 else 0)) hand rounds (n - 1).toNat s w'
section
variable {w w1 w' : World} {base B bm : Nat} {vo : Value} {os : List Int} {f : Int → Option Int} {c : Nat} {hand rounds : Int}
set_option maxHeartbeats 8000000 in
set_option maxRecDepth 100000 in
theorem steal_calls (h : PA w base B bm vo os f c hand rounds) (n s : Int) (hn : Wf n) (hs : Wf s) (hl : os.length ≤ 10000) (hc : c < 1000000) (hr : -1000000000 ≤ rounds ∧ rounds ≤ 1000000000) (hh : Wf hand) (hos : ∀ x ∈ os, Wf x) :
    Calls Try.prog 38 #[.pointer (some ⟨B, 0, none⟩), .int .i64 n, .int .i64 s] w (StealP base B bm vo os f c hand rounds n s w) := by
  have c1 := h.cell1
  have hlk := h.hM.look hs
  have HP := Aside0.mk h
  have HN := Aside0.mk hn
  have HS := Aside0.mk hs
  have HH := Aside0.mk hh
  have HOS := Aside0.mk hos
  have HR := Aside0.mk hr
  clear hn hs hh hos hr
  obtain ⟨fv, hfv⟩ : ∃ fv, f s = fv := ⟨_, rfl⟩
  rw [hfv] at hlk
  have HF := Aside0.mk hfv
  clear hfv h
  go_enter Try.func38, Try.ntmps38
  go_wp2_with fail
  refine (owner_calls HP.out n (by omega)).mono ?_
  rintro e w' ⟨rfl, rfl⟩
  obtain ⟨o, ho⟩ : ∃ o, ownerP os n = o := ⟨_, rfl⟩
  rw [ho]
  have HO := Aside0.mk ho
  clear ho
  obtain ⟨o1, o2⟩ := o
  dsimp only []
  by_cases hs0 : s < 0
  · have hsd : decide (s < 0) = true := decide_eq_true hs0
    go_wp2
    go_ret2
    unfold StealP
    rw [if_pos (.inl hs0)]
    exact ⟨rfl, HP.out, Mv.refl _ _⟩
  have hsd : decide (s < 0) = false := decide_eq_false hs0
  go_wp2_with fail
  refine (in_calls HP.out n).mono ?_
  rintro e w'' ⟨rfl, rfl⟩
  cases hin : inP n os.length with
  | false =>
    go_wp2
    go_ret2
    unfold StealP
    rw [if_pos (.inr hin)]
    exact ⟨rfl, HP.out, Mv.refl _ _⟩
  | true =>
    have HIN := Aside0.mk hin
    clear hin
    cases fv with
    | some x =>
      have hlk2 : (Instr.lookup 101 (.map (some bm)) (.int .i64 s) true).run Try.prog w'' = .ok (.tuple #[.int .i64 x, .bool true]) w'' := hlk
      go_wp2
      go_ret2
      unfold StealP
      rw [if_neg (by rw [HIN.out]; simp; omega), HF.out, if_pos (by simp)]
      exact ⟨rfl, HP.out, Mv.refl _ _⟩
    | none =>
      have hlk2 : (Instr.lookup 101 (.map (some bm)) (.int .i64 s) true).run Try.prog w'' = .ok (.tuple #[.int .i64 0, .bool false]) w'' := hlk
      clear hlk
      cases o2 with
      | false =>
        go_wp2
        go_ret2
        unfold StealP
        rw [if_neg (by rw [HIN.out]; simp; omega), HF.out, if_neg (by simp), HO.out, if_pos rfl]
        exact ⟨rfl, HP.out, Mv.refl _ _⟩
      | true =>
        have hin2 : 1 ≤ n ∧ n ≤ (os.length : Int) := by have := HIN.out; unfold inP at this; simpa using this
        obtain ⟨i, hi⟩ : ∃ i : Nat, n = (i : Int) + 1 := ⟨(n - 1).toNat, by omega⟩
        subst hi
        have hil : i < os.length := by omega
        have ho1 : o1 = os[i] := by
          have := HO.out
          unfold ownerP at this
          rw [show ((i : Int) + 1 - 1).toNat = i by omega] at this
          split at this
          · injection this with this _
            rw [← this]
            simp [List.getD_eq_getElem?_getD, List.getElem?_eq_getElem hil]
          · injection this with _ this; cases this
        have hwo : Wf o1 := by rw [ho1]; exact HOS.out _ (List.getElem_mem hil)
        obtain ⟨wd, hdr, hda, hdt⟩ := HP.out.drop hwo
        have HDA := Aside0.mk hda
        have HDT := Aside0.mk hdt
        clear hda hdt ho1
        go_wp2_with fail
        refine (own_calls HDA.out i hil s HS.out hl (by omega) HR.out HH.out).mono ?_
        rintro e w3 ⟨rfl, hr, hm⟩
        have HRR := Aside0.mk hr
        have HRM := Aside0.mk hm
        clear hr hm
        go_wp2
        go_ret2
        unfold StealP
        rw [if_neg (by rw [HIN.out]; simp; omega), HF.out, if_neg (by simp), HO.out, if_neg (by simp)]
        refine ⟨rfl, HDT.out.trans HRM.out (fun k hk => .inl hk), ?_⟩
        rw [show ((i : Int) + 1 - 1).toNat = i by omega]
        exact HRR.out
end

end Go.Proofs.Ytcbnmmkmgpbfiaa.PP

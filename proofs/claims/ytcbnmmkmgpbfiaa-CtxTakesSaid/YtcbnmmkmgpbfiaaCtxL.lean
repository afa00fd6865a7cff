/- A pool of numbers (layer 14): the document's example (lives). -/
import Derived.Test.YtcbnmmkmgpbfiaaCtxX
import Derived.Test.YtcbnmmkmgpbfiaaCtxT
namespace Go.Proofs.Ytcbnmmkmgpbfiaa.PP
open Go.RowKit Go.Proofs.Ytcbnmmkmgpbfiaa.PX Go.Proofs.YtcbnmmkmgpbfiaaW.PrintWords Go.Proofs.YtcbnmmkmgpbfiaaW.PrintLast Go.Proofs.YtcbnmmkmgpbfiaaW.PrintMore
attribute [local go_sem] max2_int min2_int max_two min_two max_three min_three max_four min_four   -- for this text's walks alone
set_option linter.unusedVariables false
set_option linter.unusedSimpArgs false
theorem rot21 : rot 2 1 = [1, 2] := by decide
theorem rot22 : rot 2 2 = [2, 1] := by decide
theorem C_nil (w : World) (A : Option Addr) : (Kd.int .i64).C w A ([] : List Int).length [] := ⟨rfl, Nat.zero_le _, fun h => absurd h (by decide)⟩
/-- The example's first number taken. -/
theorem live1 {w w' : World} {base B bm : Nat} {vo : Value} {e : Ending} (h : TakeP base B bm vo [-1, -1] (fun _ => none) 0 1 0 5 w e w') :
    e = .returned (.tuple #[.int .i64 1, .int .i64 0]) ∧ PA w' base B bm vo [5, -1] (fun j => if j = 5 then some 1 else none) 1 2 0 ∧ Mv (pid B bm vo) w w' := by
  unfold TakeP at h
  rw [if_neg (by decide)] at h
  simp only [List.length_cons, List.length_nil, Nat.reduceAdd, rot21] at h
  rw [show List.find? (free? [-1, -1]) [1, 2] = some 1 by decide] at h
  simpa [OwnR] using h
theorem live2 {w w' : World} {base B bm : Nat} {vo : Value} {e : Ending} (h : TakeP base B bm vo [5, -1] (fun j => if j = 5 then some 1 else none) 1 2 0 6 w e w') :
    e = .returned (.tuple #[.int .i64 2, .int .i64 0]) ∧ PA w' base B bm vo [5, 6] (fun j => if j = 6 then some 2 else if j = 5 then some 1 else none) 2 1 1 ∧ Mv (pid B bm vo) w w' := by
  unfold TakeP at h
  rw [if_neg (by decide)] at h
  simp only [List.length_cons, List.length_nil, Nat.reduceAdd, rot22] at h
  rw [show List.find? (free? [5, -1]) [2, 1] = some 2 by decide] at h
  simpa [OwnR] using h
theorem live3 {w w' : World} {base B bm : Nat} {vo : Value} {e : Ending} (h : TakeP base B bm vo [5, 6] (fun j => if j = 6 then some 2 else if j = 5 then some 1 else none) 2 1 1 7 w e w') :
    e = .returned (.tuple #[.int .i64 0, .int .i64 8]) ∧ PA w' base B bm vo [5, 6] (fun j => if j = 6 then some 2 else if j = 5 then some 1 else none) 2 1 1 ∧ Mv (pid B bm vo) w w' := by
  unfold TakeP at h
  rw [if_neg (by decide)] at h
  simp only [List.length_cons, List.length_nil, Nat.reduceAdd, rot21] at h
  rw [show List.find? (free? [5, 6]) [1, 2] = none by decide] at h
  simpa using h
theorem live4 {w w' : World} {e : Ending} (h : VictimP [5, 6] [] 1 w e w') : e = .returned (.tuple #[.int .i64 1, .int .i64 5, .int .i64 0]) ∧ Below w.heap.size w w' := by
  unfold VictimP at h
  simp only [List.length_cons, List.length_nil, Nat.reduceAdd, rot21] at h
  rw [show List.find? (vok [5, 6] []) [1, 2] = some 1 by decide] at h
  exact h
set_option maxHeartbeats 4000000 in
set_option maxRecDepth 100000 in
theorem lives_calls (w : World) : Calls Try.prog 36 #[] w fun e w' => e = .returned (.bool true) ∧ Below w.heap.size w w' := by
  go_enter Try.func36, Try.ntmps36
  go_wp2_with fail
  refine (new_calls w 2 2 (by decide) (by decide)).mono ?_
  rintro e w1 ⟨B, bm, vo, rfl, h1, hb1⟩
  have H1 := Aside0.mk h1
  have HB1 := Aside0.mk hb1
  clear h1 hb1
  go_wp2_with fail
  refine (take_calls H1.out 5 (by unfold Wf; decide) (by decide) (by decide) (by decide) (by decide)).mono ?_
  intro e w2 h
  obtain ⟨rfl, h2, m2⟩ := live1 h
  have H2 := Aside0.mk h2
  have M2 := Aside0.mk m2
  clear h h2 m2
  go_wp2_with fail
  refine (take_calls H2.out 6 (by unfold Wf; decide) (by decide) (by decide) (by decide) (by decide)).mono ?_
  intro e w3 h
  obtain ⟨rfl, h3, m3⟩ := live2 h
  have H3 := Aside0.mk h3
  have M3 := Aside0.mk m3
  clear h h3 m3
  go_wp2_with fail
  refine (take_calls H3.out 7 (by unfold Wf; decide) (by decide) (by decide) (by decide) (by decide)).mono ?_
  intro e w4 h
  obtain ⟨rfl, h4, m4⟩ := live3 h
  have H4 := Aside0.mk h4
  have M4 := Aside0.mk m4
  clear h h4 m4
  go_wp2_with fail
  refine (victim_calls H4.out (by decide) (by decide) none 0 [] (C_nil _ _) (Nat.le_refl _) (by decide)).mono ?_
  intro e w5 h
  obtain ⟨rfl, hb5⟩ := live4 h
  have HB5 := Aside0.mk hb5
  clear h hb5
  go_wp2
  go_ret
  have hge := pid_ge H1.out
  have hs := HB1.out.size
  have a2 := M2.out.below hs hge
  have a3 := M3.out.below (Nat.le_trans hs M2.out.size) hge
  have a4 := M4.out.below (Nat.le_trans (Nat.le_trans hs M2.out.size) M3.out.size) hge
  have a5 := HB5.out.mono (Nat.le_trans (Nat.le_trans (Nat.le_trans hs M2.out.size) M3.out.size) M4.out.size)
  exact ⟨rfl, (((HB1.out.trans a2).trans a3).trans a4).trans a5⟩

end Go.Proofs.Ytcbnmmkmgpbfiaa.PP

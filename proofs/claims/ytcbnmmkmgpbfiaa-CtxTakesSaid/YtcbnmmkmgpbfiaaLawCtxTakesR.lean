/- The law CtxTakes of layer 14: its row (written by mkrow.py: the parameters opened by hand). -/
import Derived.Test.YtcbnmmkmgpbfiaaRows
import Derived.Test.YtcbnmmkmgpbfiaaCtxRcTakes
import Derived.Test.YtcbnmmkmgpbfiaaCtxQa
import Derived.WalkKit
import Derived.ProofKit
import Derived.OpenShut
import Derived.ShutString
import Derived.ChangeOld
import Derived.Below
import Derived.SizedLaws
import Derived.Carry
namespace Go.Proofs.Ytcbnmmkmgpbfiaa.ctxTakes
open Go.ChangeShapes Go.WideShapes Go.ChangeAt Go.RowKit
set_option linter.unusedVariables false
theorem own : ownKnob Try.prog.godebug = none := by kernel_rfl
theorem laid : laidOutB Try.prog = true := by kernel_rfl
theorem rec3 : Try.prog.readableRec 3 = true := by kernel_rfl
theorem lt3 : 3 < Try.prog.types.size := of_decide_eq_true (by kernel_rfl)
theorem rec65 : Try.prog.readableRec 65 = true := by kernel_rfl
theorem lt65 : 65 < Try.prog.types.size := of_decide_eq_true (by kernel_rfl)
set_option maxRecDepth 100000 in
theorem lifted (os : Os) (started : os.Started) (H : Type) (enc : TypeId × Value → H) :
    ReturnsInHanded {} Try.checked os 9 .any (Rows.ctxTakesSpec.pre6 enc Try.prog Try.f9 Rows.ctxTakesRow.domain false) (Rows.ctxTakesSpec.post enc Try.prog Try.f9 false true false false) := by
  refine returnsInHanded_of_change_sized (C := Try.checked) own started (by kernel_rfl) Try.func9
    (ChangeSpec.witness6 (enc := enc) (C := Try.checked) false ⟨#[], #[.int .i64 0, .slice none 0 0, .int .i64 0], []⟩ 8 (by kernel_rfl) (by kernel_rfl) (by kernel_rfl) (by kernel_rfl)) ?_
  intro W base args ds gs before hval0 hW hcnd hsz0 _
  have hval : ∀ (j : Nat) t v, Try.f9.params[j]? = some t → args[j]? = some v → Value.okWide Try.prog W .any base t v := hval0
  have hW' := hW
  obtain ⟨p, q, hA0, hV, rfl, hfz, hnd⟩ := hW
  have hA : DataW.TrodAll enc Try.prog W 0 (fun _ => true) true Try.f9.params.toList args.toList ds p := hA0
  rw [Try.params9] at hA hval
  obtain ⟨v0, vs0, d0, ds0, p0, q0, hargs, rfl, rfl, h0, r0⟩ := trodAll_cons hA
  obtain ⟨v1, vs1, d1, ds1, p1, q1, rfl, rfl, rfl, h1, r1⟩ := trodAll_cons r0
  obtain ⟨v2, vs2, d2, ds2, p2, q2, rfl, rfl, rfl, h2, r2⟩ := trodAll_cons r1
  obtain ⟨rfl, rfl, rfl⟩ := trodAll_nil r2
  obtain rfl : args = #[v0, v1, v2] := by cases args; simp_all
  obtain ⟨rfl, rfl⟩ := trodVars_none hV
  have hlt0 : ∀ x ∈ p0, x.block < W.heap.size := fun x hx => by
    obtain ⟨fuel, hf⟩ := h0
    exact DataW.trod_lt fuel _ _ _ hf x hx
  have hlt1 : ∀ x ∈ p1, x.block < W.heap.size := fun x hx => by
    obtain ⟨fuel, hf⟩ := h1
    exact DataW.trod_lt fuel _ _ _ hf x hx
  have hlt2 : ∀ x ∈ p2, x.block < W.heap.size := fun x hx => by
    obtain ⟨fuel, hf⟩ := h2
    exact DataW.trod_lt fuel _ _ _ hf x hx
  obtain ⟨n, rfl, hn⟩ : ∃ a, v0 = .int .i64 a ∧ (Lit.int .i64 a).wf = true := (open_int Try.underlying3 (hval 0 3 v0 rfl rfl) h0).elim fun a h => ⟨a, h.1, h.2.2.2⟩
  obtain ⟨A, c, xs, rfl, hxc, hD⟩ := OpenD3.open_ds (hval 1 65 v1 rfl rfl) h1
  obtain ⟨sp, rfl, hsp⟩ : ∃ a, v2 = .int .i64 a ∧ (Lit.int .i64 a).wf = true := (open_int Try.underlying3 (hval 2 3 v2 rfl rfl) h2).elim fun a h => ⟨a, h.1, h.2.2.2⟩
  clear hA0 hval0 hsz0
  refine (PP.takes_law n A c xs sp (PP.wf_of hn) (PP.wf_of hsp) W hD hxc).mono fun e W' ⟨he, bel⟩ => ?_
  subst he
  exact ⟨_, rfl, _, _, _, [], _, [], hW', trodAll_mk1 (shut_bool Try.underlying4 _), (trodAll_cons_mk (Below.trod laid rec3 lt3 h0 bel hlt0) (trodAll_cons_mk (Below.trod laid rec65 lt65 h1 bel hlt1) (trodAll_cons_mk (Below.trod laid rec3 lt3 h2 bel hlt2) trodAll_mk0))), rfl, bel.frame _, fun h => by cases h⟩
theorem over : Rows.ctxTakesRow.holds Try.pinned (OpenSpec.ofChange Rows.ctxTakesSpec) :=
  OpenClaim.holds_of_wide 9 Try.f9 rfl rfl rfl rfl rfl rfl rfl ⟨rfl, rfl, rfl, rfl, rfl⟩ rfl rfl rfl rfl rfl (by kernel_rfl) Try.func9 (by kernel_rfl)
    (of_decide_eq_true (by kernel_rfl)) (by unfold Func.isWrapper; first | (rw [if_pos (by decide +kernel)]; kernel_rfl) | (rw [if_neg (by decide +kernel)]; exact ⟨rfl, rfl⟩))
    (fun os started H enc _ => lifted os started H enc)
theorem proved : Rows.CtxTakesSaid := over
#print axioms proved
end Go.Proofs.Ytcbnmmkmgpbfiaa.ctxTakes
namespace Go.Proofs.Ytcbnmmkmgpbfiaa
/-- The row, under a short name, for the claim. -/
theorem ctxTakes_holds : Rows.CtxTakesSaid := ctxTakes.proved
end Go.Proofs.Ytcbnmmkmgpbfiaa

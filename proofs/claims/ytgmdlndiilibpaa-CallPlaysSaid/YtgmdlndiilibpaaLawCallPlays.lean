/- The law CallPlays of layer 15: its row (written by mkrow.py: the parameters opened by hand). -/
import Derived.Test.YtgmdlndiilibpaaRows
import Derived.Test.YtgmdlndiilibpaaPlaysW
import Derived.Test.YtgmdlndiilibpaaOpenD
import Derived.WalkKit
import Derived.ProofKit
import Derived.OpenShut
import Derived.ShutString
import Derived.ChangeOld
import Derived.Below
import Derived.SizedLaws
import Derived.Carry
namespace Go.Proofs.Ytgmdlndiilibpaa.callPlays
open Go.ChangeShapes Go.WideShapes Go.ChangeAt Go.RowKit
set_option linter.unusedVariables false
theorem own : ownKnob Try.prog.godebug = none := by kernel_rfl
theorem laid : laidOutB Try.prog = true := by kernel_rfl
theorem rec3 : Try.prog.readableRec 3 = true := by kernel_rfl
theorem lt3 : 3 < Try.prog.types.size := of_decide_eq_true (by kernel_rfl)
theorem rec78 : Try.prog.readableRec 78 = true := by kernel_rfl
theorem lt78 : 78 < Try.prog.types.size := of_decide_eq_true (by kernel_rfl)
set_option maxRecDepth 100000 in
theorem lifted (os : Os) (started : os.Started) (H : Type) (enc : TypeId × Value → H) :
    ReturnsInHanded {} Try.checked os 10 .any (Rows.callPlaysSpec.pre6 enc Try.prog Try.f10 Rows.callPlaysRow.domain false) (Rows.callPlaysSpec.post enc Try.prog Try.f10 false true false false) := by
  refine returnsInHanded_of_change_sized (C := Try.checked) own started (by kernel_rfl) Try.func10
    (ChangeSpec.witness6 (enc := enc) (C := Try.checked) false ⟨#[], #[.int .i64 0, .slice none 0 0], []⟩ 8 (by kernel_rfl) (by kernel_rfl) (by kernel_rfl) (by kernel_rfl)) ?_
  intro W base args ds gs before hval0 hW hcnd hsz0 _
  have hval : ∀ (j : Nat) t v, Try.f10.params[j]? = some t → args[j]? = some v → Value.okWide Try.prog W .any base t v := hval0
  have hW' := hW
  obtain ⟨p, q, hA0, hV, rfl, hfz, hnd⟩ := hW
  have hA : DataW.TrodAll enc Try.prog W 0 (fun _ => true) true Try.f10.params.toList args.toList ds p := hA0
  rw [Try.params10] at hA hval
  obtain ⟨v0, vs0, d0, ds0, p0, q0, hargs, rfl, rfl, h0, r0⟩ := trodAll_cons hA
  obtain ⟨v1, vs1, d1, ds1, p1, q1, rfl, rfl, rfl, h1, r1⟩ := trodAll_cons r0
  obtain ⟨rfl, rfl, rfl⟩ := trodAll_nil r1
  obtain rfl : args = #[v0, v1] := by cases args; simp_all
  obtain ⟨rfl, rfl⟩ := trodVars_none hV
  have hlt0 : ∀ x ∈ p0, x.block < W.heap.size := fun x hx => by
    obtain ⟨fuel, hf⟩ := h0
    exact DataW.trod_lt fuel _ _ _ hf x hx
  have hlt1 : ∀ x ∈ p1, x.block < W.heap.size := fun x hx => by
    obtain ⟨fuel, hf⟩ := h1
    exact DataW.trod_lt fuel _ _ _ hf x hx
  obtain ⟨a, rfl, ha⟩ : ∃ a, v0 = .int .i64 a ∧ (Lit.int .i64 a).wf = true := (open_int Try.underlying3 (hval 0 3 v0 rfl rfl) h0).elim fun a h => ⟨a, h.1, h.2.2.2⟩
  obtain ⟨A, c, xs, rfl, hxc, hC⟩ := OpenD.open_ds (hval 1 78 v1 rfl rfl) h1
  clear hA0 hval0 hsz0
  refine (PC.plays_calls W a A c xs hC hxc).mono fun e W' ⟨he, bel⟩ => ?_
  subst he
  exact ⟨_, rfl, _, _, _, [], _, [], hW', trodAll_mk1 (shut_bool Try.underlying4 _), (trodAll_cons_mk (Below.trod laid rec3 lt3 h0 bel hlt0) (trodAll_cons_mk (Below.trod laid rec78 lt78 h1 bel hlt1) trodAll_mk0)), rfl, bel.frame _, fun h => by cases h⟩
theorem over : Rows.callPlaysRow.holds Try.pinned (OpenSpec.ofChange Rows.callPlaysSpec) :=
  OpenClaim.holds_of_wide 10 Try.f10 rfl rfl rfl rfl rfl rfl rfl ⟨rfl, rfl, rfl, rfl, rfl⟩ rfl rfl rfl rfl rfl (by kernel_rfl) Try.func10 (by kernel_rfl)
    (of_decide_eq_true (by kernel_rfl)) (by unfold Func.isWrapper; first | (rw [if_pos (by decide +kernel)]; kernel_rfl) | (rw [if_neg (by decide +kernel)]; exact ⟨rfl, rfl⟩))
    (fun os started H enc _ => lifted os started H enc)
theorem proved : Rows.CallPlaysSaid := over
#print axioms proved
end Go.Proofs.Ytgmdlndiilibpaa.callPlays
namespace Go.Proofs.Ytgmdlndiilibpaa
/-- The row, under a short name, for the claim. -/
theorem callPlays_holds : Rows.CallPlaysSaid := callPlays.proved
end Go.Proofs.Ytgmdlndiilibpaa

/- The law ModelReads of layer 16: its row (written by mkrow.py: the parameters opened by hand). -/
import Derived.Test.YtalmemcidbmdgaaRows
import Derived.Test.YtalmemcidbmdgaaZMj7
import Derived.WalkKit
import Derived.ProofKit
import Derived.OpenShut
import Derived.ShutString
import Derived.ChangeOld
import Derived.Below
import Derived.SizedLaws
import Derived.Carry
namespace Go.Proofs.Ytalmemcidbmdgaa.modelReads
open Go.ChangeShapes Go.WideShapes Go.ChangeAt Go.RowKit
set_option linter.unusedVariables false
theorem own : ownKnob Try.prog.godebug = none := by kernel_rfl
theorem laid : laidOutB Try.prog = true := by kernel_rfl
theorem rec5 : Try.prog.readableRec 5 = true := by kernel_rfl
theorem lt5 : 5 < Try.prog.types.size := of_decide_eq_true (by kernel_rfl)
theorem rec22 : Try.prog.readableRec 22 = true := by kernel_rfl
theorem lt22 : 22 < Try.prog.types.size := of_decide_eq_true (by kernel_rfl)
theorem rec23 : Try.prog.readableRec 23 = true := by kernel_rfl
theorem lt23 : 23 < Try.prog.types.size := of_decide_eq_true (by kernel_rfl)
theorem rec50 : Try.prog.readableRec 50 = true := by kernel_rfl
theorem lt50 : 50 < Try.prog.types.size := of_decide_eq_true (by kernel_rfl)
set_option maxRecDepth 100000 in
theorem lifted (os : Os) (started : os.Started) (H : Type) (enc : TypeId × Value → H) :
    ReturnsInHanded {} Try.checked os 5 .any (Rows.modelReadsSpec.pre6 enc Try.prog Try.f5 Rows.modelReadsRow.domain false) (Rows.modelReadsSpec.post enc Try.prog Try.f5 false true false false) := by
  refine returnsInHanded_of_change_sized (C := Try.checked) own started (by kernel_rfl) Try.func5
    (ChangeSpec.witness6 (enc := enc) (C := Try.checked) false ⟨#[], #[.slice none 0 0, .agg #[.int .u64 0, .int .i64 0, .int .u64 0, .bool false, .bool false, .bool false, .bool false, .bool false, .bool false, .bool false, .bool false], .int .u64 0, .int .u8 0, .int .u8 0], []⟩ 8 (by kernel_rfl) (by kernel_rfl) (by kernel_rfl) (by kernel_rfl)) ?_
  intro W base args ds gs before hval0 hW hcnd hsz0 _
  have hval : ∀ (j : Nat) t v, Try.f5.params[j]? = some t → args[j]? = some v → Value.okWide Try.prog W .any base t v := hval0
  have hW' := hW
  obtain ⟨p, q, hA0, hV, rfl, hfz, hnd⟩ := hW
  have hA : DataW.TrodAll enc Try.prog W 0 (fun _ => true) true Try.f5.params.toList args.toList ds p := hA0
  rw [Try.params5] at hA hval
  obtain ⟨v0, vs0, d0, ds0, p0, q0, hargs, rfl, rfl, h0, r0⟩ := trodAll_cons hA
  obtain ⟨v1, vs1, d1, ds1, p1, q1, rfl, rfl, rfl, h1, r1⟩ := trodAll_cons r0
  obtain ⟨v2, vs2, d2, ds2, p2, q2, rfl, rfl, rfl, h2, r2⟩ := trodAll_cons r1
  obtain ⟨v3, vs3, d3, ds3, p3, q3, rfl, rfl, rfl, h3, r3⟩ := trodAll_cons r2
  obtain ⟨v4, vs4, d4, ds4, p4, q4, rfl, rfl, rfl, h4, r4⟩ := trodAll_cons r3
  obtain ⟨rfl, rfl, rfl⟩ := trodAll_nil r4
  obtain rfl : args = #[v0, v1, v2, v3, v4] := by cases args; simp_all
  obtain ⟨rfl, rfl⟩ := trodVars_none hV
  have hlt0 : ∀ x ∈ p0, x.block < W.heap.size := fun x hx => by
    obtain ⟨fuel, hf⟩ := h0
    exact DataW.trod_lt fuel _ _ _ hf x hx
  have hlt1 : ∀ x ∈ p1, x.block < W.heap.size := fun x hx => by
    obtain ⟨fuel, hf⟩ := h1
    exact DataW.trod_lt fuel _ _ _ hf x hx
  have hlt2 : ∀ x ∈ p2, x.block < W.heap.size := fun x hx => by
    obtain ⟨fuel, hf⟩ := h2
    exact DataW.trod_lt fuel _ _ _ hf x hx
  have hlt3 : ∀ x ∈ p3, x.block < W.heap.size := fun x hx => by
    obtain ⟨fuel, hf⟩ := h3
    exact DataW.trod_lt fuel _ _ _ hf x hx
  have hlt4 : ∀ x ∈ p4, x.block < W.heap.size := fun x hx => by
    obtain ⟨fuel, hf⟩ := h4
    exact DataW.trod_lt fuel _ _ _ hf x hx
  obtain ⟨A, c, xs, rfl, hxc, hxl, hrow⟩ := OpenA.open_asks (hval 0 22 v0 rfl rfl) h0
  obtain ⟨p, rfl, hp⟩ := OpenA.open_page (hval 1 50 v1 rfl rfl) h1
  obtain ⟨off, rfl, hoff⟩ : ∃ a, v2 = .int .u64 a ∧ (Lit.int .u64 a).wf = true := (open_int Try.underlying23 (hval 2 23 v2 rfl rfl) h2).elim fun a h => ⟨a, h.1, h.2.2.2⟩
  obtain ⟨a, rfl, ha⟩ := OpenA.open_u8 (hval 3 5 v3 rfl rfl) h3
  obtain ⟨b, rfl, hb⟩ := OpenA.open_u8 (hval 4 5 v4 rfl rfl) h4
  clear hA0 hval0 hsz0
  refine (PM.reads_law A c xs hrow p hp.va hp.sz hp.pa off hoff a b ha hb).mono fun e W' ⟨he, bel⟩ => ?_
  subst he
  exact ⟨_, rfl, _, _, _, [], _, [], hW', trodAll_mk1 (shut_bool Try.underlying4 _), (trodAll_cons_mk (Below.trod laid rec22 lt22 h0 bel hlt0) (trodAll_cons_mk (Below.trod laid rec50 lt50 h1 bel hlt1) (trodAll_cons_mk (Below.trod laid rec23 lt23 h2 bel hlt2) (trodAll_cons_mk (Below.trod laid rec5 lt5 h3 bel hlt3) (trodAll_cons_mk (Below.trod laid rec5 lt5 h4 bel hlt4) trodAll_mk0))))), rfl, bel.frame _, fun h => by cases h⟩
theorem over : Rows.modelReadsRow.holds Try.pinned (OpenSpec.ofChange Rows.modelReadsSpec) :=
  OpenClaim.holds_of_wide 5 Try.f5 rfl rfl rfl rfl rfl rfl rfl ⟨rfl, rfl, rfl, rfl, rfl⟩ rfl rfl rfl rfl rfl (by kernel_rfl) Try.func5 (by kernel_rfl)
    (of_decide_eq_true (by kernel_rfl)) (by unfold Func.isWrapper; first | (rw [if_pos (by decide +kernel)]; kernel_rfl) | (rw [if_neg (by decide +kernel)]; exact ⟨rfl, rfl⟩))
    (fun os started H enc _ => lifted os started H enc)
theorem proved : Rows.ModelReadsSaid := over
#print axioms proved
end Go.Proofs.Ytalmemcidbmdgaa.modelReads
namespace Go.Proofs.Ytalmemcidbmdgaa
/-- The row, under a short name, for the claim. -/
theorem modelReads_holds : Rows.ModelReadsSaid := modelReads.proved
end Go.Proofs.Ytalmemcidbmdgaa


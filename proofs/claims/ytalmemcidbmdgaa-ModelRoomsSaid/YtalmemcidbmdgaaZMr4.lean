/- The law ModelRooms of layer 16: its row (written by mkrow.py: the parameters opened by hand). -/
import Derived.Test.YtalmemcidbmdgaaZMr3
import Derived.Test.YtalmemcidbmdgaaRows
import Derived.WalkKit
import Derived.ProofKit
import Derived.OpenShut
import Derived.ShutString
import Derived.ChangeOld
import Derived.Below
import Derived.SizedLaws
import Derived.Carry
/- A model (layer 16): the law ModelRooms: the walk. -/
set_option linter.unusedVariables false
set_option linter.unusedSimpArgs false
namespace Go.Proofs.Ytalmemcidbmdgaa.PM
open Go.RowKit Go.Proofs.YtalmemcidbmdgaaW.PrintWords Go.Proofs.YtalmemcidbmdgaaW.PrintLast Go.Proofs.YtalmemcidbmdgaaW.PrintMore Go.Proofs.Ytalmemcidbmdgaa.PageG
attribute [local go_sem] max2_int min2_int max_two min_two max_three min_three max_four min_four   -- for this text's walks alone
set_option maxHeartbeats 8000000 in
set_option maxRecDepth 100000 in
theorem rooms_law (n : Int) (hn : (Lit.int .i64 n).wf = true) (w : World) : Calls Try.prog 7 #[.int .i64 n] w fun e w' => e = .returned (.bool true) ∧ Below w.heap.size w w' := by
  have hc : n = 6 ∨ n = 7 ∨ n = 8 ∨ (n ≠ 6 ∧ n ≠ 7 ∧ n ≠ 8) := by omega
  rcases hc with rfl | rfl | rfl | ⟨h6, h7, h8⟩
  · go_enter Try.func7, Try.ntmps7
    go_wp2_with fail
    refine (model_Frees.calls 6 true w rfl).mono ?_
    rintro e w1 ⟨rfl, hd⟩
    have HB := Aside0.mk hd.below
    clear hd
    go_wp2_with fail
    refine (lives16_calls _).mono ?_
    rintro e w2 ⟨rfl, hb⟩
    have HB2 := Aside0.mk (HB.out.trans (hb.mono HB.out.size))
    clear hb
    go_wp2_with fail
    go_ret
    exact ⟨rfl, HB2.out⟩
  · go_enter Try.func7, Try.ntmps7
    go_wp2_with fail
    refine (model_Frees.calls 7 true w rfl).mono ?_
    rintro e w1 ⟨rfl, hd⟩
    have HB := Aside0.mk hd.below
    clear hd
    go_wp2_with fail
    refine (lives16_calls _).mono ?_
    rintro e w2 ⟨rfl, hb⟩
    have HB2 := Aside0.mk (HB.out.trans (hb.mono HB.out.size))
    clear hb
    go_wp2_with fail
    go_ret
    exact ⟨rfl, HB2.out⟩
  · go_enter Try.func7, Try.ntmps7
    go_wp2_with fail
    refine (model_Frees.calls 8 true w rfl).mono ?_
    rintro e w1 ⟨rfl, hd⟩
    have HB := Aside0.mk hd.below
    clear hd
    go_wp2_with fail
    refine (lives16_calls _).mono ?_
    rintro e w2 ⟨rfl, hb⟩
    have HB2 := Aside0.mk (HB.out.trans (hb.mono HB.out.size))
    clear hb
    go_wp2_with fail
    go_ret
    exact ⟨rfl, HB2.out⟩
  · have b6 : (n == 6) = false := beq_eq_false_iff_ne.2 h6
    have b7 : (n == 7) = false := beq_eq_false_iff_ne.2 h7
    have b8 : (n == 8) = false := beq_eq_false_iff_ne.2 h8
    have hf : model_Frees.f n = some false := by
      unfold model_Frees.f
      rw [if_neg h6, if_neg h7, b8]
    have HF := Aside0.mk hf
    clear h6 h7 h8 hf
    go_enter Try.func7, Try.ntmps7
    go_wp2_with fail
    refine (model_Frees.calls n false w HF.out).mono ?_
    rintro e w1 ⟨rfl, hd⟩
    have HB := Aside0.mk hd.below
    clear hd
    go_wp2_with fail
    refine (lives16_calls _).mono ?_
    rintro e w2 ⟨rfl, hb⟩
    have HB2 := Aside0.mk (HB.out.trans (hb.mono HB.out.size))
    clear hb
    go_wp2_with fail
    go_ret
    exact ⟨rfl, HB2.out⟩
end Go.Proofs.Ytalmemcidbmdgaa.PM


namespace Go.Proofs.Ytalmemcidbmdgaa.modelRooms
open Go.ChangeShapes Go.WideShapes Go.ChangeAt Go.RowKit
set_option linter.unusedVariables false
theorem own : ownKnob Try.prog.godebug = none := by kernel_rfl
theorem laid : laidOutB Try.prog = true := by kernel_rfl
theorem rec3 : Try.prog.readableRec 3 = true := by kernel_rfl
theorem lt3 : 3 < Try.prog.types.size := of_decide_eq_true (by kernel_rfl)
set_option maxRecDepth 100000 in
theorem lifted (os : Os) (started : os.Started) (H : Type) (enc : TypeId × Value → H) :
    ReturnsInHanded {} Try.checked os 7 .any (Rows.modelRoomsSpec.pre6 enc Try.prog Try.f7 Rows.modelRoomsRow.domain false) (Rows.modelRoomsSpec.post enc Try.prog Try.f7 false true false false) := by
  refine returnsInHanded_of_change_sized (C := Try.checked) own started (by kernel_rfl) Try.func7
    (ChangeSpec.witness6 (enc := enc) (C := Try.checked) false ⟨#[], #[.int .i64 0], []⟩ 8 (by kernel_rfl) (by kernel_rfl) (by kernel_rfl) (by kernel_rfl)) ?_
  intro W base args ds gs before hval0 hW hcnd hsz0 _
  have hval : ∀ (j : Nat) t v, Try.f7.params[j]? = some t → args[j]? = some v → Value.okWide Try.prog W .any base t v := hval0
  have hW' := hW
  obtain ⟨p, q, hA0, hV, rfl, hfz, hnd⟩ := hW
  have hA : DataW.TrodAll enc Try.prog W 0 (fun _ => true) true Try.f7.params.toList args.toList ds p := hA0
  rw [Try.params7] at hA hval
  obtain ⟨v0, vs0, d0, ds0, p0, q0, hargs, rfl, rfl, h0, r0⟩ := trodAll_cons hA
  obtain ⟨rfl, rfl, rfl⟩ := trodAll_nil r0
  obtain rfl : args = #[v0] := by cases args; simp_all
  obtain ⟨rfl, rfl⟩ := trodVars_none hV
  have hlt0 : ∀ x ∈ p0, x.block < W.heap.size := fun x hx => by
    obtain ⟨fuel, hf⟩ := h0
    exact DataW.trod_lt fuel _ _ _ hf x hx
  obtain ⟨n, rfl, hn⟩ : ∃ a, v0 = .int .i64 a ∧ (Lit.int .i64 a).wf = true := (open_int Try.underlying3 (hval 0 3 v0 rfl rfl) h0).elim fun a h => ⟨a, h.1, h.2.2.2⟩
  clear hA0 hval0 hsz0
  refine (PM.rooms_law n hn W).mono fun e W' ⟨he, bel⟩ => ?_
  subst he
  exact ⟨_, rfl, _, _, _, [], _, [], hW', trodAll_mk1 (shut_bool Try.underlying4 _), (trodAll_cons_mk (Below.trod laid rec3 lt3 h0 bel hlt0) trodAll_mk0), rfl, bel.frame _, fun h => by cases h⟩
theorem over : Rows.modelRoomsRow.holds Try.pinned (OpenSpec.ofChange Rows.modelRoomsSpec) :=
  OpenClaim.holds_of_wide 7 Try.f7 rfl rfl rfl rfl rfl rfl rfl ⟨rfl, rfl, rfl, rfl, rfl⟩ rfl rfl rfl rfl rfl (by kernel_rfl) Try.func7 (by kernel_rfl)
    (of_decide_eq_true (by kernel_rfl)) (by unfold Func.isWrapper; first | (rw [if_pos (by decide +kernel)]; kernel_rfl) | (rw [if_neg (by decide +kernel)]; exact ⟨rfl, rfl⟩))
    (fun os started H enc _ => lifted os started H enc)
theorem proved : Rows.ModelRoomsSaid := over
#print axioms proved
end Go.Proofs.Ytalmemcidbmdgaa.modelRooms
namespace Go.Proofs.Ytalmemcidbmdgaa
/-- The row, under a short name, for the claim. -/
theorem modelRooms_holds : Rows.ModelRoomsSaid := modelRooms.proved
end Go.Proofs.Ytalmemcidbmdgaa


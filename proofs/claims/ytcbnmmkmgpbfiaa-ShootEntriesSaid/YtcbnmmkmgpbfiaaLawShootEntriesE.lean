/- The law ShootEntries of layer 19: its row, by hand (a parameter is a slice of structs). -/
import Derived.Test.YtcbnmmkmgpbfiaaRows
import Derived.Test.YtcbnmmkmgpbfiaaShEE
import Derived.Test.YtcbnmmkmgpbfiaaOpenEE
import Derived.WalkKit
import Derived.ProofKit
import Derived.OpenShut
import Derived.ShutString
import Derived.ChangeOld
import Derived.Below
import Derived.SizedLaws
import Derived.Carry
import Derived.Lib.SmallJoins
namespace Go.Proofs.Ytcbnmmkmgpbfiaa.shootEntries
open Go.ChangeShapes Go.WideShapes Go.ChangeAt Go.RowKit Go.Joins
set_option linter.unusedVariables false
theorem trod_bool_mk {H : Type} {enc : TypeId × Value → H} {P : Program} {w : World} {base : Nat} {sp : Nat → Bool} {held : Bool} {t : TypeId} {b : Bool} (ht : P.underlying t = some .bool) : DataW.trod enc P w base sp held 1 t [.bool b] = some (.lit (.bool b), []) := by
  simp [DataW.trod, ht]
theorem cells39 : Try.prog.cellsOf 39 = 3 := by kernel_rfl
theorem own : ownKnob Try.prog.godebug = none := by kernel_rfl
set_option maxRecDepth 100000 in
theorem lifted (os : Os) (started : os.Started) (H : Type) (enc : TypeId × Value → H) :
    ReturnsInHanded {} Try.checked os 4 .any (Rows.shootEntriesSpec.pre6 enc Try.prog Try.f4 Rows.shootEntriesRow.domain false) (Rows.shootEntriesSpec.post enc Try.prog Try.f4 false true false false) := by
  refine returnsInHanded_of_change_sized (C := Try.checked) own started (by kernel_rfl) Try.func4
    (ChangeSpec.witness6 (enc := enc) (C := Try.checked) false ⟨#[], #[.slice none 0 0, .agg #[.int .i64 0, .bool false, .int .u64 0], .int .i64 0], []⟩ 8 (by kernel_rfl) (by kernel_rfl) (by kernel_rfl) (by kernel_rfl)) ?_
  intro W base args ds gs before hval0 hW hcnd hsz0 _
  have hval : ∀ (j : Nat) t v, Try.f4.params[j]? = some t → args[j]? = some v → Value.okWide Try.prog W .any base t v := hval0
  have hW' := hW
  obtain ⟨p, q, hA0, hV, rfl, hfz, hnd⟩ := hW
  have hA : DataW.TrodAll enc Try.prog W 0 (fun _ => true) true Try.f4.params.toList args.toList ds p := hA0
  rw [Try.params4] at hA hval
  obtain ⟨v0, vs0, d0, ds0, p0, q0, hargs, rfl, rfl, h0, r0⟩ := trodAll_cons hA
  obtain ⟨v1, vs1, d1, ds1, p1, q1, rfl, rfl, rfl, h1, r1⟩ := trodAll_cons r0
  obtain ⟨v2, vs2, d2, ds2, p2, q2, rfl, rfl, rfl, h2, r2⟩ := trodAll_cons r1
  obtain ⟨rfl, rfl, rfl⟩ := trodAll_nil r2
  obtain rfl : args = #[v0, v1, v2] := by cases args; simp_all
  obtain ⟨rfl, rfl⟩ := trodVars_none hV
  obtain ⟨A, n, c, xs, rfl, hxc, hC, hok⟩ := OpenE.open_entries (hval 0 22 v0 rfl rfl) h0
  obtain ⟨c0, c1, c2, y0, y1, y2, m, rfl, rfl, rfl, hy0, hy1, hy2⟩ := open_agg3 Try.underlying39 (by kernel_rfl) cells39 (hval 1 39 v1 rfl rfl) h1
  obtain ⟨x, e0, rfl, wx⟩ := DataW.trod_int Try.underlying3 hy0
  obtain ⟨y, e1, rfl⟩ := DataW.trod_bool Try.underlying4 hy1
  obtain ⟨f, e2, rfl, wf⟩ := DataW.trod_int Try.underlying26 hy2
  simp at e0 e1 e2
  subst e0 e1 e2
  obtain ⟨a2, rfl, rfl, rfl, w2⟩ := open_int Try.underlying3 (hval 2 3 v2 rfl rfl) h2
  clear hA0 hval0 hsz0
  obtain ⟨fva0, fva1⟩ := OpenE.wf_u64 wf
  refine (PS.lookasidelaw19_ShootEntries.calls 300 A c xs x y f a2 true W hC hxc (PS.shoot_entries xs hok x (by have := OpenE.wf_i64 wx; omega) y f ⟨fva0, by omega⟩ a2)).mono fun e W' ⟨he, bel⟩ => ?_
  subst he
  have hlt : ∀ x ∈ p0, x.block < W.heap.size := fun x hx => by
    obtain ⟨fuel, hf⟩ := h0
    exact DataW.trod_lt fuel _ _ _ hf x hx
  exact ⟨_, rfl, _, _, _, [], _, [], hW', trodAll_mk1 (shut_bool Try.underlying4 _), (trodAll_cons_mk (Below.trod OpenE.laid OpenE.rec22 OpenE.lt22 h0 bel hlt) (trodAll_cons_mk (shut_agg3 Try.underlying39 (by kernel_rfl) cells39 ⟨1, trod_int_mk 0 Try.underlying3 wx⟩ ⟨1, trod_bool_mk Try.underlying4⟩ ⟨1, trod_int_mk 0 Try.underlying26 wf⟩) (trodAll_cons_mk (shut_int Try.underlying3 w2) trodAll_mk0))), rfl, bel.frame _, fun h => by cases h⟩
theorem over : Rows.shootEntriesRow.holds Try.pinned (OpenSpec.ofChange Rows.shootEntriesSpec) :=
  OpenClaim.holds_of_wide 4 Try.f4 rfl rfl rfl rfl rfl rfl rfl ⟨rfl, rfl, rfl, rfl, rfl⟩ rfl rfl rfl rfl rfl (by kernel_rfl) Try.func4 (by kernel_rfl)
    (of_decide_eq_true (by kernel_rfl)) (by unfold Func.isWrapper; first | (rw [if_pos (by decide +kernel)]; kernel_rfl) | (rw [if_neg (by decide +kernel)]; exact ⟨rfl, rfl⟩))
    (fun os started H enc _ => lifted os started H enc)
theorem proved : Rows.ShootEntriesSaid := over
#print axioms proved
end Go.Proofs.Ytcbnmmkmgpbfiaa.shootEntries
namespace Go.Proofs.Ytcbnmmkmgpbfiaa
/-- The row, under a short name, for the claim. -/
theorem shootEntries_holds : Rows.ShootEntriesSaid := shootEntries.proved
end Go.Proofs.Ytcbnmmkmgpbfiaa


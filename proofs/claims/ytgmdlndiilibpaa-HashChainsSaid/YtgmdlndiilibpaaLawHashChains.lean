/- The law HashChains of layer 11: which keys may be and which chain is whose, for every key and number; its row, by hand (a parameter is a struct). -/
import Derived.Test.YtgmdlndiilibpaaRows
import Derived.Test.YtgmdlndiilibpaaPHx6
import Derived.Test.YtgmdlndiilibpaaKeyG
import Derived.WalkKit
import Derived.ProofKit
import Derived.OpenShut
import Derived.ShutString
import Derived.ChangeOld
import Derived.Below
import Derived.SizedLaws
import Derived.Lib.SmallJoins
namespace Go.Proofs.Ytgmdlndiilibpaa.hashChains
open Go.ChangeShapes Go.WideShapes Go.ChangeAt Go.RowKit Go.Joins
set_option linter.unusedVariables false
open KeyG PH in
theorem pure_j0 (m : Nat) (hm : m < 2 ^ 63) (sp : Int) (va : Nat) (s : Int) (hsp : -9223372036854775808 ≤ sp ∧ sp ≤ 9223372036854775807) (hv : va < 2 ^ 64) (hs : -9223372036854775808 ≤ s ∧ s ≤ 9223372036854775807) :
    lookasidelaw11_HashChains.j0 1 (m : Int) sp va s = some true := by
  rw [show (1 : Nat) = 0 + 1 from rfl, lookasidelaw11_HashChains.j0]
  obtain ⟨g, v, z, hg, g1, g2, g3, g4⟩ := good sp va s hsp hv hs
  have hn : wrap64 (1 + Int.tmod (m : Int) 10000) = ((1 + m % 10000 : Nat) : Int) := by
    rw [show (10000 : Int) = ((10000 : Nat) : Int) from rfl, tmod_nat, wi _ (by omega) (by omega)]
    omega
  have hN0 : 0 < 1 + m % 10000 := by omega
  have hN1 : 1 + m % 10000 ≤ 10000000 := by omega
  rw [hg, hn]
  generalize 1 + m % 10000 = N at hN0 hN1 ⊢
  have hlt := chN_lt g v z N hN0
  unfold lookasidelaw11_key.f
  rw [Option.bind_some, Option.bind_some]
  rw [ch_p g v z N g1 g2 g3 hN0 hN1]
  rw [Option.bind_some, Option.bind_some]
  rw [may_p sp va s hv, may_r sp va s hv]
  rw [Option.bind_some, Option.bind_some]
  rw [if_pos (by simp)]
  rw [Option.bind_some]
  rw [may_p g v z g2, g4]
  rw [Option.bind_some]
  rw [if_pos rfl]
  rw [ch_r g v z N g1 g2 g3 hN0 hN1]
  rw [Option.bind_some]
  rw [if_pos rfl, if_pos (by omega), if_pos (by omega)]
  rfl
open KeyG PH in
theorem pure (sp : Int) (va : Nat) (s n : Int) (hsp : -9223372036854775808 ≤ sp ∧ sp ≤ 9223372036854775807) (hv : va < 2 ^ 64) (hs : -9223372036854775808 ≤ s ∧ s ≤ 9223372036854775807) (hn : -9223372036854775808 ≤ n ∧ n ≤ 9223372036854775807) :
    lookasidelaw11_HashChains.f 1 sp va s n = some true := by
  unfold lookasidelaw11_HashChains.f
  by_cases h : n < 0
  · obtain ⟨m, e, hm⟩ := norm n hn h
    rw [if_pos h, e]
    exact pure_j0 m hm sp va s hsp hv hs
  · obtain ⟨m, rfl⟩ : ∃ m : Nat, n = m := ⟨n.toNat, by omega⟩
    rw [if_neg h]
    exact pure_j0 m (by omega) sp va s hsp hv hs
theorem own : ownKnob Try.prog.godebug = none := by kernel_rfl
theorem cells24 : Try.prog.cellsOf 24 = 3 := by kernel_rfl
set_option maxRecDepth 100000 in
theorem lifted (os : Os) (started : os.Started) (H : Type) (enc : TypeId × Value → H) :
    ReturnsInHanded {} Try.checked os 3 .any (Rows.hashChainsSpec.pre6 enc Try.prog Try.f3 Rows.hashChainsRow.domain false) (Rows.hashChainsSpec.post enc Try.prog Try.f3 false true false false) := by
  refine returnsInHanded_of_change_sized (C := Try.checked) own started (by kernel_rfl) Try.func3
    (ChangeSpec.witness6 (enc := enc) (C := Try.checked) false ⟨#[], #[.agg #[.int .i64 0, .int .u64 0, .int .i64 0], .int .i64 0], []⟩ 8 (by kernel_rfl) (by kernel_rfl) (by kernel_rfl) (by kernel_rfl)) ?_
  intro W base args ds gs before hval0 hW hcnd hsz0 _
  have hval : ∀ (j : Nat) t v, Try.f3.params[j]? = some t → args[j]? = some v → Value.okWide Try.prog W .any base t v := hval0
  have hW' := hW
  obtain ⟨p, q, hA0, hV, rfl, hfz, hnd⟩ := hW
  have hA : DataW.TrodAll enc Try.prog W 0 (fun _ => true) true Try.f3.params.toList args.toList ds p := hA0
  rw [Try.params3] at hA hval
  obtain ⟨v0, vs0, d0, ds0, p0, q0, hargs, rfl, rfl, h0, r0⟩ := trodAll_cons hA
  obtain ⟨v1, vs1, d1, ds1, p1, q1, rfl, rfl, rfl, h1, r1⟩ := trodAll_cons r0
  obtain ⟨rfl, rfl, rfl⟩ := trodAll_nil r1
  obtain rfl : args = #[v0, v1] := by cases args; simp_all
  obtain ⟨rfl, rfl⟩ := trodVars_none hV
  obtain ⟨c0, c1, c2, y0, y1, y2, m, rfl, rfl, rfl, hy0, hy1, hy2⟩ := open_agg3 Try.underlying24 (by kernel_rfl) cells24 (hval 0 24 v0 rfl rfl) h0
  obtain ⟨x, e0, rfl, wx⟩ := DataW.trod_int Try.underlying3 hy0
  obtain ⟨y, e1, rfl, wy⟩ := DataW.trod_int Try.underlying22 hy1
  obtain ⟨f, e2, rfl, wf⟩ := DataW.trod_int Try.underlying3 hy2
  simp at e0 e1 e2
  subst e0 e1 e2
  obtain ⟨a1, rfl, rfl, rfl, w1⟩ := open_int Try.underlying3 (hval 1 3 v1 rfl rfl) h1
  clear hA0 hval0 hsz0
  obtain ⟨va, rfl, hva⟩ := FieldG.wf_u64 wy
  refine (PH.lookasidelaw11_HashChains.calls 1 x va f a1 true W (pure x va f a1 (FieldG.wf_i64 wx) hva (FieldG.wf_i64 wf) (FieldG.wf_i64 w1))).mono fun e W' ⟨he, bel⟩ => ?_
  subst he
  exact ⟨_, rfl, _, _, _, [], _, [], hW', trodAll_mk1 (shut_bool Try.underlying4 _), (trodAll_cons_mk (shut_agg3 Try.underlying24 (by kernel_rfl) cells24 ⟨1, trod_int_mk 0 Try.underlying3 wx⟩ ⟨1, trod_int_mk 0 Try.underlying22 wy⟩ ⟨1, trod_int_mk 0 Try.underlying3 wf⟩) (trodAll_cons_mk (shut_int Try.underlying3 w1) trodAll_mk0)), rfl, bel.frame _, fun h => by cases h⟩
theorem over : Rows.hashChainsRow.holds Try.pinned (OpenSpec.ofChange Rows.hashChainsSpec) :=
  OpenClaim.holds_of_wide 3 Try.f3 rfl rfl rfl rfl rfl rfl rfl ⟨rfl, rfl, rfl, rfl, rfl⟩ rfl rfl rfl rfl rfl (by kernel_rfl) Try.func3 (by kernel_rfl)
    (of_decide_eq_true (by kernel_rfl)) (by unfold Func.isWrapper; first | (rw [if_pos (by decide +kernel)]; kernel_rfl) | (rw [if_neg (by decide +kernel)]; exact ⟨rfl, rfl⟩))
    (fun os started H enc _ => lifted os started H enc)
theorem proved : Rows.HashChainsSaid := over
#print axioms proved
end Go.Proofs.Ytgmdlndiilibpaa.hashChains
namespace Go.Proofs.Ytgmdlndiilibpaa
/-- The row, under a short name, for the claim. -/
theorem hashChains_holds : Rows.HashChainsSaid := hashChains.proved
end Go.Proofs.Ytgmdlndiilibpaa

/- The law PointPointers of layer 8: where an address is looked for, how many entries there are and whether they are split is told as the reference tells it, for every register, address and size. -/
import Derived.Test.YtlkojjkgbcpjjaaPointG
namespace Go.Proofs.Ytlkojjkgbcpjjaa.Pure
open Go.RowKit Go.Proofs.Ytlkojjkgbcpjjaa.PA Go.Proofs.Ytlkojjkgbcpjjaa.BitsN Go.Proofs.Ytlkojjkgbcpjjaa.FieldG  Go.Proofs.Ytlkojjkgbcpjjaa.PointG Go.Proofs.YtlkojjkgbcpjjaaW.PrintWords Go.Proofs.YtlkojjkgbcpjjaaW.PrintLast Go.Proofs.YtlkojjkgbcpjjaaW.PrintMore
set_option linter.unusedVariables false
set_option linter.unusedSimpArgs false

theorem PointPointers : lookasidelaw08_PointPointers.Pure := by
  intro t va s ht0 hv0 hs0
  obtain ⟨t, rfl, ht⟩ := wf_u64 ht0
  obtain ⟨va, rfl, hv⟩ := wf_u64 hv0
  have hs := wf_i64 hs0
  refine ⟨12, ?_⟩
  have hb := ent_bounds t
  unfold lookasidelaw08_PointPointers.f
  have tail : ((point_Entries.f t).bind fun t120 => ((lookasideref08_Entries.f 12 t).bind fun t121 => (if (IntKind.u64.wrap (t120)) = t121 then ((point_Split.f t).bind fun t122 => ((lookasideref08_Split.f t).bind fun t123 => (if (t122 == t123) = true then ((lookasidelaw08_lives.f).bind fun t124 => (some t124)) else (some false)))) else (some false)))) = some true := by
    rw [entries t ht, Option.bind_some, ref_entries t 12 (by omega), Option.bind_some, wu _ (by omega) (by omega), if_pos rfl, split t ht, Option.bind_some, ref_split t ht, Option.bind_some, beq_self_eq_true, if_pos rfl, lives, Option.bind_some]
  by_cases h : s = 0 ∨ s = 1
  · obtain ⟨s, rfl⟩ : ∃ n : Nat, s = n := ⟨s.toNat, by omega⟩
    rw [pointer t va s ht hv (by omega), Option.bind_some, ref_pointer t va s 12 ht hv (by omega) (by omega), Option.bind_some]
    rw [if_pos rfl, beq_self_eq_true, if_pos rfl]
    exact tail
  · have e : point_Pointer.f t va s = some (0, false) := by unfold point_Pointer.f; rw [if_neg h]
    rw [e, Option.bind_some, ref_ptr_no t va s 11 (by omega), Option.bind_some]
    rw [if_pos rfl, beq_self_eq_true, if_pos rfl]
    exact tail
end Go.Proofs.Ytlkojjkgbcpjjaa.Pure

/- Keys that came in; words for the walks of the hash laws. -/
import Derived.Test.YtgmdlndiilibpaaTab
import Derived.Test.YtgmdlndiilibpaaTabV
namespace Go.Proofs.Ytgmdlndiilibpaa.PH
open Go.RowKit Go.Proofs.YtgmdlndiilibpaaW.PrintWords Go.Proofs.YtgmdlndiilibpaaW.PrintLast Go.Proofs.YtgmdlndiilibpaaW.PrintMore Go.Proofs.Ytgmdlndiilibpaa.Tab
attribute [local go_sem] max2_int min2_int max_two min_two max_three min_three max_four min_four   -- for this text's walks alone
set_option linter.unusedVariables false
set_option linter.unusedSimpArgs false
open Go.Proofs.Ytgmdlndiilibpaa.KeyG
/-- A key that was read. -/
def Ok24 (x : S24) : Prop := (-9223372036854775808 ≤ x.f0 ∧ x.f0 ≤ 9223372036854775807) ∧ (∃ v : Nat, x.f1 = v ∧ v < 2 ^ 64) ∧ (-9223372036854775808 ≤ x.f2 ∧ x.f2 ≤ 9223372036854775807)
theorem good24 {x : S24} (h : Ok24 x) : ∃ y : S24, lookasideref11_Good.f x.f0 x.f1 x.f2 = some (y.f0, y.f1, y.f2) ∧ Gk y := by
  obtain ⟨a, b, c⟩ := x
  obtain ⟨h0, ⟨v, rfl, hv⟩, h2⟩ := h
  obtain ⟨g, v', z, hg, g1, g2, g3, g4⟩ := good a v c h0 hv h2
  exact ⟨⟨g, v', z⟩, hg, g, v', z, rfl, g1, g2, g3, g4⟩
theorem info24 : (Try.prog.info? 24).map (fun i => (i.zero, i.size, i.bytes)) = some (some (.agg #[(.int .i64 0), (.int .u64 0), (.int .i64 0)]), 3, 24) := by kernel_rfl
theorem own_mv {S S' : List Nat} {base : Nat} {w w' : World} {v : Value} {xs : List S24} (h : Kd.R k24 24 w base (fun k => k ∉ S) v xs) (hm : Mv S w w') (hS : ∀ k ∈ S', k ∈ S ∨ w.heap.size ≤ k) : Kd.R k24 24 w' base (fun k => k ∉ S') v xs :=
  Kd.R_mono (Kd.R_move (Kd.R_bound h) (fun k hk => hm.block k hk.2.2.1 hk.1)) (fun k hk hmem => (hS k hmem).elim hk.1 (fun hge => absurd hk.2.2.1 (Nat.not_lt.2 hge)))

end Go.Proofs.Ytgmdlndiilibpaa.PH

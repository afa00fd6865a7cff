import Derived.Test.YtgmdlndiilibpaaTabS
import Derived.Test.YtgmdlndiilibpaaTabQ
import Derived.Test.YtgmdlndiilibpaaTabN
namespace Go.Proofs.Ytgmdlndiilibpaa.PH
open Go.RowKit Go.Proofs.YtgmdlndiilibpaaW.PrintWords Go.Proofs.YtgmdlndiilibpaaW.PrintLast Go.Proofs.YtgmdlndiilibpaaW.PrintMore Go.Proofs.Ytgmdlndiilibpaa.Tab
attribute [local go_sem] max2_int min2_int max_two min_two max_three min_three max_four min_four   -- for this text's walks alone
set_option linter.unusedVariables false
set_option linter.unusedSimpArgs false
attribute [local go_sem high] eqA27
def lookasidelaw11_lives.f : Option Bool := some true
theorem may1 : hash_May.f 0 8192 0 = some true := by kernel_rfl
theorem may2 : hash_May.f 0 16384 0 = some true := by kernel_rfl
theorem ch1 : hash_Chain.f 0 8192 0 4 = some 1 := by kernel_rfl
theorem ch2 : hash_Chain.f 0 16384 0 4 = some 2 := by kernel_rfl
set_option maxHeartbeats 8000000 in
set_option maxRecDepth 100000 in
theorem lookasidelaw11_lives.calls (r : Bool) (w : World) (h : lookasidelaw11_lives.f = some r) :
    Calls Try.prog 20 #[] w fun e w' => e = .returned (.bool r) ∧ Below w.heap.size w w' := by
  obtain rfl : true = r := Option.some.inj h
  clear h
  go_enter Try.func20, Try.ntmps20
  go_wp2_with fail
  refine (new_calls w 1 4 4 (by decide) (by decide)).mono ?_
  rintro e w1 ⟨b, c, rfl, hT1, hb1, hc1, hB1⟩
  rw [show max (1 : Int) 0 = 1 from rfl] at hT1
  have hs1 := hB1.size
  go_wp2_with fail
  refine (put_ok w1 b c _ _ _ hT1 0 8192 0 5 1 [] rfl may1 ch1 (by simp) (by omega) (by omega) (by omega) (by omega) (by simp)).mono ?_
  rintro e w2 ⟨rfl, g1, hg1, hT2, hM2⟩
  rw [show (1 : Int) - 1 = 0 from rfl, show (0 : Int) + 1 = 1 from rfl] at hT2
  have hb2 : w1.heap.size ≤ w2.heap.size := hM2.size
  go_wp2_with fail
  refine (put_mem w2 b c _ _ _ hT2 0 16384 0 6 2 [] rfl may2 ch2 (by simp) rfl).mono ?_
  rintro e w3 ⟨rfl, hB3⟩
  have hT3 := hT2.below hB3
  have hb3 := hB3.size
  go_wp2_with fail
  refine (cut_ok w3 b c _ _ _ hT3 0 8192 0 1 [⟨g1, 0, 8192, 0, 5⟩] rfl may1 ch1 (show pos (0, 8192, 0) [⟨g1, 0, 8192, 0, 5⟩] < 1 from Nat.zero_lt_one) (by omega) (by omega) (by omega) (by omega)).mono ?_
  rintro e w4 ⟨rfl, hT4, hM4⟩
  rw [show (1 : Int) - 1 = 0 from rfl, show (0 : Int) + 1 = 1 from rfl] at hT4
  rw [show List.eraseIdx [(⟨g1, 0, 8192, 0, 5⟩ : Nd)] (pos (0, 8192, 0) [⟨g1, 0, 8192, 0, 5⟩]) = [] from rfl] at hT4
  have hb4 := hM4.size
  go_wp2_with fail
  refine (put_ok w4 b c _ _ _ hT4 0 16384 0 6 2 [] rfl may2 ch2 (by simp) (by omega) (by omega) (by omega) (by omega) (by simp)).mono ?_
  rintro e w5 ⟨rfl, g2, hg2, hT5, hM5⟩
  go_wp2_with fail
  refine (get_yes w5 b c _ _ _ hT5 0 16384 0 2 [⟨g2, 0, 16384, 0, 6⟩] rfl may2 ch2).mono ?_
  rintro e w6 ⟨rfl, hB6⟩
  rw [show getN (0, 16384, 0) [⟨g2, 0, 16384, 0, 6⟩] = (6, 1, true) from rfl]
  go_wp2
  go_ret
  have hi1 : ∀ k ∈ ids b c (List.replicate 4 []), w.heap.size ≤ k := by
    intro k hk
    simp [ids] at hk
    rcases hk with rfl | rfl <;> assumption
  have hi2 : ∀ k ∈ ids b c ((List.replicate 4 []).set 1 [⟨g1, 0, 8192, 0, 5⟩]), w.heap.size ≤ k := by
    intro k hk
    rcases ids_set hk with hk | hk
    · exact hi1 k hk
    · simp at hk; omega
  have hi4 : ∀ k ∈ ids b c (((List.replicate 4 []).set 1 [⟨g1, 0, 8192, 0, 5⟩]).set 1 []), w.heap.size ≤ k := by
    intro k hk
    rcases ids_set hk with hk | hk
    · exact hi2 k hk
    · simp at hk
  have B2 := hB1.trans (hM2.below hs1 hi1)
  have B3 := below_then B2 B2.size hB3
  have B4 := B3.trans (hM4.below B3.size hi2)
  have B5 := B4.trans (hM5.below B4.size hi4)
  exact ⟨rfl, below_then B5 B5.size hB6⟩
end Go.Proofs.Ytgmdlndiilibpaa.PH

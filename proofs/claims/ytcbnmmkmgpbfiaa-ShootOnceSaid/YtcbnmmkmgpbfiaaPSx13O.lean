-- written by xprint.py, a program of this session, over the kit's print (functions told by hand: see the texts)
import Derived.Test.YtcbnmmkmgpbfiaaPSx0O
import Derived.Test.YtcbnmmkmgpbfiaaPSx7O
import Derived.Test.YtcbnmmkmgpbfiaaPSx12O
namespace Go.Proofs.Ytcbnmmkmgpbfiaa.PS
open Go.RowKit Go.Proofs.YtcbnmmkmgpbfiaaW.PrintWords Go.Proofs.YtcbnmmkmgpbfiaaW.PrintLast Go.Proofs.YtcbnmmkmgpbfiaaW.PrintMore
attribute [local go_sem] max2_int min2_int max_two min_two max_three min_three max_four min_four   -- for this text's walks alone
set_option linter.unusedVariables false
set_option linter.unusedSimpArgs false

/-! ### lookasideref19_Reach: function 25 -/
def lookasideref19_Reach.T5 : Bool × List (List Nat × List Nat) := (true, [([], []), ([], []), ([0, 1], [0, 1]), ([2], [2]), ([], []), ([4], [4]), ([], []), ([], []), ([6, 7], [6, 7]), ([8], [8]), ([9], [9]), ([3, 5, 10], [3, 5, 10]), ([11, 11, 0, 1, 2, 3, 4, 5, 6, 7, 8, 9, 10, 11], [11])])
def lookasideref19_Reach.B5 : List Nat := [0, 0, 3, 7, 0, 16, 0, 0, 192, 448, 960, 2047, 4095]
theorem lookasideref19_Reach.tab5 : rtab .any (opsOf Try.f25 5) = lookasideref19_Reach.T5 := by kernel_rfl
theorem lookasideref19_Reach.bits5 : waitsOk lookasideref19_Reach.T5.2 lookasideref19_Reach.B5 = true := by kernel_rfl
end Go.Proofs.Ytcbnmmkmgpbfiaa.PS


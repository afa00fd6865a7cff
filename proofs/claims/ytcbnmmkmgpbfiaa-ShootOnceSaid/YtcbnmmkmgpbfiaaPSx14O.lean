-- written by xprint.py, a program of this session, over the kit's print (functions told by hand: see the texts)
import Derived.Test.YtcbnmmkmgpbfiaaPSx0O
import Derived.Test.YtcbnmmkmgpbfiaaPSx4O
import Derived.Test.YtcbnmmkmgpbfiaaPSx9O
import Derived.Test.YtcbnmmkmgpbfiaaPSx10O
import Derived.Test.YtcbnmmkmgpbfiaaPSx11O
import Derived.Test.YtcbnmmkmgpbfiaaPSx12O
import Derived.Test.YtcbnmmkmgpbfiaaPSx13O
namespace Go.Proofs.Ytcbnmmkmgpbfiaa.PS
open Go.RowKit Go.Proofs.YtcbnmmkmgpbfiaaW.PrintWords Go.Proofs.YtcbnmmkmgpbfiaaW.PrintLast Go.Proofs.YtcbnmmkmgpbfiaaW.PrintMore
attribute [local go_sem] max2_int min2_int max_two min_two max_three min_three max_four min_four   -- for this text's walks alone
set_option linter.unusedVariables false
set_option linter.unusedSimpArgs false

/-! ### lookasidelaw19_ShootEntries: function 4 -/
def lookasidelaw19_ShootEntries.T5 : Bool × List (List Nat × List Nat) := (true, [([], []), ([0], [0]), ([], []), ([2, 1], [2]), ([1, 3], [1, 3]), ([4, 3], [4]), ([5], [5]), ([5], [5]), ([6, 7, 5, 5], [5, 6, 7]), ([5], [5]), ([5], [5]), ([9, 10, 8, 5], [5, 9, 10]), ([8, 11, 11, 5], [5, 8, 11]), ([5, 12], [5, 12]), ([13, 12], [13]), ([14, 14], [14]), ([14, 15], [14, 15]), ([16, 15, 0, 1, 2, 3, 4, 5, 6, 7, 8, 9, 10, 11, 12, 13, 14, 15, 16], [16])])
def lookasidelaw19_ShootEntries.B5 : List Nat := [0, 1, 0, 7, 15, 31, 63, 63, 255, 63, 63, 2047, 4095, 8191, 16383, 32767, 65535, 131071]
theorem lookasidelaw19_ShootEntries.tab5 : rtab .any (opsOf Try.f4 5) = lookasidelaw19_ShootEntries.T5 := by kernel_rfl
theorem lookasidelaw19_ShootEntries.bits5 : waitsOk lookasidelaw19_ShootEntries.T5.2 lookasidelaw19_ShootEntries.B5 = true := by kernel_rfl
end Go.Proofs.Ytcbnmmkmgpbfiaa.PS


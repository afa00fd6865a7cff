-- written by xprint.py, a program of this session, over the kit's print (functions told by hand: see the texts)
import Derived.Test.YtcbnmmkmgpbfiaaProg
import Derived.Below
import Derived.Deep.Draws
import Derived.Deep.AppendLies
import Derived.Maps.AppendAt
import Derived.OwnWalk
import Derived.Laws.BytesArg
import Derived.Laws.MakeOwn
import Derived.Laws.OwnMore
import Derived.Deep.OwnRows
import Derived.Tactics
import Derived.Lib.ConvBytes
import Derived.Laws.Slices
import Derived.WalkKit
import Derived.KernelRfl
import Derived.RowKit3
import Derived.Deep.LoopGhost
import Derived.Deep.QuietTactic
import Derived.BigQuiet
import Derived.WideLaws
import Derived.Deep.DeepCutAuto
import Derived.Deep.CutBlock
import Derived.Deep.RegionHeld3
import Derived.Laws.Rows
import Derived.Lib.AppendStr
import Derived.ArgAppend
import Derived.Laws.IdiomCopy
import Derived.OrdersHeld
import Derived.Laws.BitsLemmas
import Derived.RowKit
import Derived.Test.YtcbnmmkmgpbfiaaWWords
import Derived.Test.YtcbnmmkmgpbfiaaWLast
import Derived.Test.YtcbnmmkmgpbfiaaWTab
import Derived.Test.YtcbnmmkmgpbfiaaWFour
import Derived.Test.YtcbnmmkmgpbfiaaWQPut
import Derived.Test.YtcbnmmkmgpbfiaaWApart
import Derived.Test.YtcbnmmkmgpbfiaaWArr
import Derived.Test.YtcbnmmkmgpbfiaaWZeros
import Derived.Test.YtcbnmmkmgpbfiaaWFoot
import Derived.Test.YtcbnmmkmgpbfiaaWKept
import Derived.Test.YtcbnmmkmgpbfiaaWShare
import Derived.Test.YtcbnmmkmgpbfiaaWN
import Derived.Test.YtcbnmmkmgpbfiaaWFootNe
import Derived.Test.YtcbnmmkmgpbfiaaWAt
import Derived.Test.YtcbnmmkmgpbfiaaWEqStruct
import Derived.Test.YtcbnmmkmgpbfiaaWRepsOne
import Derived.Test.YtcbnmmkmgpbfiaaWInv
import Derived.Test.YtcbnmmkmgpbfiaaWInvWords
import Derived.Test.YtcbnmmkmgpbfiaaWGuard
import Derived.Test.YtcbnmmkmgpbfiaaWNEv
import Derived.Test.YtcbnmmkmgpbfiaaWMore
namespace Go.Proofs.Ytcbnmmkmgpbfiaa.PX
open Go.RowKit Go.Proofs.YtcbnmmkmgpbfiaaW.PrintWords Go.Proofs.YtcbnmmkmgpbfiaaW.PrintLast Go.Proofs.YtcbnmmkmgpbfiaaW.PrintMore
attribute [local go_sem] max2_int min2_int max_two min_two max_three min_three max_four min_four   -- for this text's walks alone
set_option linter.unusedVariables false
set_option linter.unusedSimpArgs false



def errW : Option Int → Value
  | none => .nilIface
  | some c => .iface 0 (.int .i64 c)
theorem errW_none : errW none = .nilIface := rfl
theorem errW_some (c : Int) : errW (some c) = .iface 0 (.int .i64 c) := rfl

theorem info3 : (Try.prog.info? 3).map (fun i => (i.zero, i.size, i.bytes)) = some (some (.int .i64 0), 1, 8) := by kernel_rfl
-- the values' own types

end Go.Proofs.Ytcbnmmkmgpbfiaa.PX

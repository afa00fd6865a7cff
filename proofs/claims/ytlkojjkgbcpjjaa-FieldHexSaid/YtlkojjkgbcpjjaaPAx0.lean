-- written by xprint.py, a program of this session, over the kit's print (functions told by hand: see the texts)
import Derived.Test.YtlkojjkgbcpjjaaProg
import Derived.Below
import Derived.Deep.Draws
import Derived.Deep.AppendLies
import Derived.Maps.AppendAt
import Derived.OwnWalk
import Derived.Laws.BytesArg
import Derived.Laws.MakeOwn
import Derived.Laws.OwnMore
import Derived.Deep.OwnRows
import Derived.Tactics
import Derived.Lib.ConvBytes
import Derived.Laws.Slices
import Derived.WalkKit
import Derived.KernelRfl
import Derived.RowKit3
import Derived.Deep.LoopGhost
import Derived.Deep.QuietTactic
import Derived.BigQuiet
import Derived.WideLaws
import Derived.Deep.DeepCutAuto
import Derived.Deep.CutBlock
import Derived.Deep.RegionHeld3
import Derived.Laws.Rows
import Derived.Lib.AppendStr
import Derived.ArgAppend
import Derived.Laws.IdiomCopy
import Derived.OrdersHeld
import Derived.Laws.BitsLemmas
import Derived.RowKit
import Derived.Test.YtlkojjkgbcpjjaaWWords
import Derived.Test.YtlkojjkgbcpjjaaWLast
import Derived.Test.YtlkojjkgbcpjjaaWTab
import Derived.Test.YtlkojjkgbcpjjaaWFour
import Derived.Test.YtlkojjkgbcpjjaaWQPut
import Derived.Test.YtlkojjkgbcpjjaaWApart
import Derived.Test.YtlkojjkgbcpjjaaWArr
import Derived.Test.YtlkojjkgbcpjjaaWZeros
import Derived.Test.YtlkojjkgbcpjjaaWFoot
import Derived.Test.YtlkojjkgbcpjjaaWKept
import Derived.Test.YtlkojjkgbcpjjaaWShare
import Derived.Test.YtlkojjkgbcpjjaaWN
import Derived.Test.YtlkojjkgbcpjjaaWFootNe
import Derived.Test.YtlkojjkgbcpjjaaWAt
import Derived.Test.YtlkojjkgbcpjjaaWEqStruct
import Derived.Test.YtlkojjkgbcpjjaaWRepsOne
import Derived.Test.YtlkojjkgbcpjjaaWInv
import Derived.Test.YtlkojjkgbcpjjaaWInvWords
import Derived.Test.YtlkojjkgbcpjjaaWGuard
import Derived.Test.YtlkojjkgbcpjjaaWNEv
import Derived.Test.YtlkojjkgbcpjjaaWMore
namespace Go.Proofs.Ytlkojjkgbcpjjaa.PA
open Go.RowKit Go.Proofs.YtlkojjkgbcpjjaaW.PrintWords Go.Proofs.YtlkojjkgbcpjjaaW.PrintLast Go.Proofs.YtlkojjkgbcpjjaaW.PrintMore
attribute [local go_sem] max2_int min2_int max_two min_two max_three min_three max_four min_four   -- for this text's walks alone
set_option linter.unusedVariables false
set_option linter.unusedSimpArgs false



def errW : Option Int → Value
  | none => .nilIface
  | some c => .iface 0 (.int .i64 c)
theorem errW_none : errW none = .nilIface := rfl
theorem errW_some (c : Int) : errW (some c) = .iface 0 (.int .i64 c) := rfl

theorem info5 : (Try.prog.info? 5).map (fun i => (i.zero, i.size, i.bytes)) = some (some (.int .u8 0), 1, 1) := by kernel_rfl
-- the values' own types

end Go.Proofs.Ytlkojjkgbcpjjaa.PA

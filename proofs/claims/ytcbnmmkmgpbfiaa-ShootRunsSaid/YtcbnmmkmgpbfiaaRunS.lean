/- slices.Compact at []uint64, by the shelf's contract; what it computes on a rising list: plain. -/
import Derived.Shelf.SlicesE.Compact
import Derived.Test.YtcbnmmkmgpbfiaaProg
namespace Go.Proofs.Ytcbnmmkmgpbfiaa.RunS
open Go.Shelf Go.Lib
def ren : Go.Shelf.Ren := ⟨fun | 43 => 82 | n => n, fun | 22 => 77 | 23 => 26 | n => n, fun | n => n⟩
theorem lays : Go.Proofs.SlLaysE.n43 Try.prog ren := {
  mixed := by kernel_rfl
  f43 := ⟨Try.f82.name, by decide, Try.func82.trans (congrArg some (by kernel_rfl))⟩
  t0 := Try.underlying0
  a0 := Try.isAgg0
  z0 := Try.sizeOf0
  v0 := Try.zeroValue0
  t3 := Try.underlying3
  a3 := Try.isAgg3
  z3 := Try.sizeOf3
  v3 := Try.zeroValue3
  t4 := Try.underlying4
  a4 := Try.isAgg4
  z4 := Try.sizeOf4
  v4 := Try.zeroValue4
  t22 := Try.underlying77
  a22 := Try.isAgg77
  z22 := Try.sizeOf77
  v22 := Try.zeroValue77
  a23 := Try.isAgg26
  z23 := Try.sizeOf26
}
end Go.Proofs.Ytcbnmmkmgpbfiaa.RunS

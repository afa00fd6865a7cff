/- A number of a row is within its bounds. -/
import Derived.Test.YtcbnmmkmgpbfiaaCtxM
namespace Go.Proofs.Ytcbnmmkmgpbfiaa.PP
theorem wf_of {k : Int} (h : (Lit.int .i64 k).wf = true) : Wf k := by
  simp [Lit.wf, IntKind.min, IntKind.max, IntKind.signed, IntKind.bits] at h
  unfold Wf
  omega
end Go.Proofs.Ytcbnmmkmgpbfiaa.PP

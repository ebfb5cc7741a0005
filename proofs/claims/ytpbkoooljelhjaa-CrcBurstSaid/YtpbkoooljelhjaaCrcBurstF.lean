/-
  CrcBurst: the row's closed facts, asked of the kernel.
-/
import Derived.Test.YtpbkoooljelhjaaRows
import Derived.WalkKit
import Derived.ProofKit
namespace Go.Proofs.Ytpbkoooljelhjaa.CrcBurst
theorem own : ownKnob Try.prog.godebug = none := by kernel_rfl
theorem laidOut : laidOutB Try.prog = true := by kernel_rfl
theorem named : Try.pinned.checked.prog.funcNamed Rows.crcBurstRow.func = some 4 := by kernel_rfl
theorem facts : joinedFacts Try.pinned.checked.prog 4 Try.f4 Rows.crcBurstSpec Rows.crcBurstRow = true := by kernel_rfl
end Go.Proofs.Ytpbkoooljelhjaa.CrcBurst

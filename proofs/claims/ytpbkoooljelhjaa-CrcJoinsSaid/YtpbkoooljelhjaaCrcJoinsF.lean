/-
  CrcJoins: the row's closed facts, asked of the kernel.
-/
import Derived.Test.YtpbkoooljelhjaaRows
import Derived.WalkKit
import Derived.ProofKit
namespace Go.Proofs.Ytpbkoooljelhjaa.CrcJoins
theorem own : ownKnob Try.prog.godebug = none := by kernel_rfl
theorem laidOut : laidOutB Try.prog = true := by kernel_rfl
theorem named : Try.pinned.checked.prog.funcNamed Rows.crcJoinsRow.func = some 5 := by kernel_rfl
theorem facts : joinedFacts Try.pinned.checked.prog 5 Try.f5 Rows.crcJoinsSpec Rows.crcJoinsRow = true := by kernel_rfl
end Go.Proofs.Ytpbkoooljelhjaa.CrcJoins

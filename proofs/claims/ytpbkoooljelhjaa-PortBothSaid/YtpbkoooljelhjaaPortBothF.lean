/-
  PortBoth: the row's closed facts, asked of the kernel.
-/
import Derived.Test.YtpbkoooljelhjaaRows
import Derived.WalkKit
import Derived.ProofKit
namespace Go.Proofs.Ytpbkoooljelhjaa.PortBoth
set_option linter.unusedVariables false
set_option linter.unusedSimpArgs false
theorem own : ownKnob Try.prog.godebug = none := by kernel_rfl
theorem laidOut : laidOutB Try.prog = true := by kernel_rfl
theorem named : Try.pinned.checked.prog.funcNamed Rows.portBothRow.func = some 14 := by kernel_rfl
theorem facts : joinedFacts Try.pinned.checked.prog 14 Try.f14 Rows.portBothSpec Rows.portBothRow = true := by kernel_rfl
end Go.Proofs.Ytpbkoooljelhjaa.PortBoth

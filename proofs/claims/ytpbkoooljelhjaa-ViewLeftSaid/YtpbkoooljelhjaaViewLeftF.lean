/-
  ViewLeft: the row's closed facts, asked of the kernel.
-/
import Derived.Test.YtpbkoooljelhjaaRows
import Derived.WalkKit
import Derived.ProofKit
namespace Go.Proofs.Ytpbkoooljelhjaa.ViewLeft
set_option linter.unusedVariables false
set_option linter.unusedSimpArgs false
theorem own : ownKnob Try.prog.godebug = none := by kernel_rfl
theorem laidOut : laidOutB Try.prog = true := by kernel_rfl
theorem named : Try.pinned.checked.prog.funcNamed Rows.viewLeftRow.func = some 6 := by kernel_rfl
theorem facts : joinedFacts Try.pinned.checked.prog 6 Try.f6 Rows.viewLeftSpec Rows.viewLeftRow = true := by kernel_rfl
end Go.Proofs.Ytpbkoooljelhjaa.ViewLeft

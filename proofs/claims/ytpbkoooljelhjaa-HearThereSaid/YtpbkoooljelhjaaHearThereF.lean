/-
  HearThere: the row's closed facts, asked of the kernel.
-/
import Derived.Test.YtpbkoooljelhjaaRows
import Derived.WalkKit
import Derived.ProofKit
namespace Go.Proofs.Ytpbkoooljelhjaa.HearThere
set_option linter.unusedVariables false
set_option linter.unusedSimpArgs false
theorem own : ownKnob Try.prog.godebug = none := by kernel_rfl
theorem laidOut : laidOutB Try.prog = true := by kernel_rfl
theorem named : Try.pinned.checked.prog.funcNamed Rows.hearThereRow.func = some 17 := by kernel_rfl
theorem facts : joinedFacts Try.pinned.checked.prog 17 Try.f17 Rows.hearThereSpec Rows.hearThereRow = true := by kernel_rfl
end Go.Proofs.Ytpbkoooljelhjaa.HearThere

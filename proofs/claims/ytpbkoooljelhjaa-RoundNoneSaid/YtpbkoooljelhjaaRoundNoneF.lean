/-
  RoundNone: the row's closed facts, asked of the kernel.
-/
import Derived.Test.YtpbkoooljelhjaaRows
import Derived.WalkKit
import Derived.ProofKit
namespace Go.Proofs.Ytpbkoooljelhjaa.RoundNone
set_option linter.unusedVariables false
set_option linter.unusedSimpArgs false
theorem own : ownKnob Try.prog.godebug = none := by kernel_rfl
theorem laidOut : laidOutB Try.prog = true := by kernel_rfl
theorem named : Try.pinned.checked.prog.funcNamed Rows.roundNoneRow.func = some 22 := by kernel_rfl
theorem facts : joinedFacts Try.pinned.checked.prog 22 Try.f22 Rows.roundNoneSpec Rows.roundNoneRow = true := by kernel_rfl
end Go.Proofs.Ytpbkoooljelhjaa.RoundNone

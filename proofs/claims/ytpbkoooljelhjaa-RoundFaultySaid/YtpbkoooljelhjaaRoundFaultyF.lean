/-
  RoundFaulty: the row's closed facts, asked of the kernel.
-/
import Derived.Test.YtpbkoooljelhjaaRows
import Derived.WalkKit
import Derived.ProofKit
namespace Go.Proofs.Ytpbkoooljelhjaa.RoundFaulty
set_option linter.unusedVariables false
set_option linter.unusedSimpArgs false
theorem own : ownKnob Try.prog.godebug = none := by kernel_rfl
theorem laidOut : laidOutB Try.prog = true := by kernel_rfl
theorem named : Try.pinned.checked.prog.funcNamed Rows.roundFaultyRow.func = some 20 := by kernel_rfl
theorem facts : joinedFacts Try.pinned.checked.prog 20 Try.f20 Rows.roundFaultySpec Rows.roundFaultyRow = true := by kernel_rfl
end Go.Proofs.Ytpbkoooljelhjaa.RoundFaulty

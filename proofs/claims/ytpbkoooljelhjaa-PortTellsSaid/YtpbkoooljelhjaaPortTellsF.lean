/-
  PortTells: the row's closed facts, asked of the kernel.
-/
import Derived.Test.YtpbkoooljelhjaaRows
import Derived.WalkKit
import Derived.ProofKit
namespace Go.Proofs.Ytpbkoooljelhjaa.PortTells
set_option linter.unusedVariables false
set_option linter.unusedSimpArgs false
theorem own : ownKnob Try.prog.godebug = none := by kernel_rfl
theorem laidOut : laidOutB Try.prog = true := by kernel_rfl
theorem named : Try.pinned.checked.prog.funcNamed Rows.portTellsRow.func = some 18 := by kernel_rfl
theorem facts : joinedFacts Try.pinned.checked.prog 18 Try.f18 Rows.portTellsSpec Rows.portTellsRow = true := by kernel_rfl
end Go.Proofs.Ytpbkoooljelhjaa.PortTells

/-
  SyncTells: the row's closed facts, asked of the kernel.
-/
import Derived.Test.YtpbkoooljelhjaaRows
import Derived.WalkKit
import Derived.ProofKit
namespace Go.Proofs.Ytpbkoooljelhjaa.SyncTells
set_option linter.unusedVariables false
set_option linter.unusedSimpArgs false
theorem own : ownKnob Try.prog.godebug = none := by kernel_rfl
theorem laidOut : laidOutB Try.prog = true := by kernel_rfl
theorem named : Try.pinned.checked.prog.funcNamed Rows.syncTellsRow.func = some 15 := by kernel_rfl
theorem facts : joinedFacts Try.pinned.checked.prog 15 Try.f15 Rows.syncTellsSpec Rows.syncTellsRow = true := by kernel_rfl
end Go.Proofs.Ytpbkoooljelhjaa.SyncTells

/-
  CrcTells: the row's closed facts, asked of the kernel.
-/
import Derived.Test.YtpbkoooljelhjaaRows
import Derived.WalkKit
import Derived.ProofKit
namespace Go.Proofs.Ytpbkoooljelhjaa.CrcTells
theorem own : ownKnob Try.prog.godebug = none := by kernel_rfl
theorem laidOut : laidOutB Try.prog = true := by kernel_rfl
theorem named : Try.pinned.checked.prog.funcNamed Rows.crcTellsRow.func = some 3 := by kernel_rfl
theorem facts : joinedFacts Try.pinned.checked.prog 3 Try.f3 Rows.crcTellsSpec Rows.crcTellsRow = true := by kernel_rfl
end Go.Proofs.Ytpbkoooljelhjaa.CrcTells

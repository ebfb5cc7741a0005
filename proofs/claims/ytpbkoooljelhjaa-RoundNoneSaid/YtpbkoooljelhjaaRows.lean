/-
  No cell of these rows narrows 'for every input' (looked for: loops, veiled, ifaces, maps, wideKeys, modest, calm, conditions, laid).
  DERIVED. THE GIVEN ROWS OF THIS SEAT. 20 by the template 'for every input the law returns true; each argument reads behind the call as it read before'; 0 by the template 'total and deterministic' (their statements: YtpbkoooljelhjaaTotals.lean).
  GIVEN WITH THE SEED: the statements are not yours to turn. If you find one false, say at which input.
  Laid BY PROGRAM, IN A SANDBOX (cutbox-rows.mjs): the forced cells as the released guide's own fill.sh prints them over the translation 4dc7a8ae8aa59718… (all of the seat's roots in one cut). By AI agents, Wed Nov 11 2026. No macro, syntax, notation, axiom, sorry.
-/
import Derived.Test.YtpbkoooljelhjaaChecked
import GoSem.Claim
import GoSem.ClaimJoined
import GoSem.ClaimMapViews
import Derived.JoinedTies
import Derived.KernelRfl
namespace Go.Proofs.Ytpbkoooljelhjaa
/- THE CELL 'sum', in the pinned program and in every row, IS THE sha256 OF THE DUMP (.gsa) THAT YtpbkoooljelhjaaProg.lean LOADS. Nothing in Lean hashes anything: it is a label: what it is worth is what the hold of that sum in a sandbox is worth. -/
noncomputable def Try.pinned : Pinned := { name := "ytpbkoooljelhjaa", sum := "4dc7a8ae8aa597182c13a31fe170ba76591b946b95c50c8359c7f7db8aaf5ac2", checked := Try.checked }
namespace Rows
def none {H : Type} : Left H := { results := [], args := [] }

/-- 'daybreaklaw01.CrcTells': WHATEVER THE INPUT: true; the input reads as it did. -/
def crcTellsSpec : ChangeSpec := { name := "crcTells", fn := fun _ => fun
  | [d1, d2, d3] => { results := [.lit (.bool true)], args := [d1, d2, d3] }
  | _ => none }
def crcTellsRow : OpenClaim := { program := "ytpbkoooljelhjaa", sum := "4dc7a8ae8aa597182c13a31fe170ba76591b946b95c50c8359c7f7db8aaf5ac2", func := "daybreak/daybreaklaw01.CrcTells", spec := "crcTells", apart := false }
def CrcTellsSaid : Prop := crcTellsRow.holds Try.pinned (OpenSpec.ofChange crcTellsSpec)

/-- ITS FALSE NEIGHBOUR: 'it returns false'. Refute it at one input. -/
def crcTellsWrong : ChangeSpec := { name := "crcTells", fn := fun _ => fun
  | [d1, d2, d3] => { results := [.lit (.bool false)], args := [d1, d2, d3] }
  | _ => none }
def CrcTellsWrongFalsely : Prop := crcTellsRow.holds Try.pinned (OpenSpec.ofChange crcTellsWrong)

/-- 'daybreaklaw01.CrcBurst': WHATEVER THE INPUT: true; the input reads as it did. -/
def crcBurstSpec : ChangeSpec := { name := "crcBurst", fn := fun _ => fun
  | [d1, d2, d3] => { results := [.lit (.bool true)], args := [d1, d2, d3] }
  | _ => none }
def crcBurstRow : OpenClaim := { program := "ytpbkoooljelhjaa", sum := "4dc7a8ae8aa597182c13a31fe170ba76591b946b95c50c8359c7f7db8aaf5ac2", func := "daybreak/daybreaklaw01.CrcBurst", spec := "crcBurst", apart := false }
def CrcBurstSaid : Prop := crcBurstRow.holds Try.pinned (OpenSpec.ofChange crcBurstSpec)

/-- ITS FALSE NEIGHBOUR: 'it returns false'. Refute it at one input. -/
def crcBurstWrong : ChangeSpec := { name := "crcBurst", fn := fun _ => fun
  | [d1, d2, d3] => { results := [.lit (.bool false)], args := [d1, d2, d3] }
  | _ => none }
def CrcBurstWrongFalsely : Prop := crcBurstRow.holds Try.pinned (OpenSpec.ofChange crcBurstWrong)

/-- 'daybreaklaw01.CrcJoins': WHATEVER THE INPUT: true; the input reads as it did. -/
def crcJoinsSpec : ChangeSpec := { name := "crcJoins", fn := fun _ => fun
  | [d1, d2] => { results := [.lit (.bool true)], args := [d1, d2] }
  | _ => none }
def crcJoinsRow : OpenClaim := { program := "ytpbkoooljelhjaa", sum := "4dc7a8ae8aa597182c13a31fe170ba76591b946b95c50c8359c7f7db8aaf5ac2", func := "daybreak/daybreaklaw01.CrcJoins", spec := "crcJoins", apart := false }
def CrcJoinsSaid : Prop := crcJoinsRow.holds Try.pinned (OpenSpec.ofChange crcJoinsSpec)

/-- ITS FALSE NEIGHBOUR: 'it returns false'. Refute it at one input. -/
def crcJoinsWrong : ChangeSpec := { name := "crcJoins", fn := fun _ => fun
  | [d1, d2] => { results := [.lit (.bool false)], args := [d1, d2] }
  | _ => none }
def CrcJoinsWrongFalsely : Prop := crcJoinsRow.holds Try.pinned (OpenSpec.ofChange crcJoinsWrong)

/-- 'daybreaklaw20.ViewLeft': WHATEVER THE INPUT: true; the input reads as it did. -/
def viewLeftSpec : ChangeSpec := { name := "viewLeft", fn := fun _ => fun
  | [d1, d2, d3] => { results := [.lit (.bool true)], args := [d1, d2, d3] }
  | _ => none }
def viewLeftRow : OpenClaim := { program := "ytpbkoooljelhjaa", sum := "4dc7a8ae8aa597182c13a31fe170ba76591b946b95c50c8359c7f7db8aaf5ac2", func := "daybreak/daybreaklaw20.ViewLeft", spec := "viewLeft", unfollowed := true, recurses := true, apart := false }
def ViewLeftSaid : Prop := viewLeftRow.holds Try.pinned (OpenSpec.ofChange viewLeftSpec)

/-- ITS FALSE NEIGHBOUR: 'it returns false'. Refute it at one input. -/
def viewLeftWrong : ChangeSpec := { name := "viewLeft", fn := fun _ => fun
  | [d1, d2, d3] => { results := [.lit (.bool false)], args := [d1, d2, d3] }
  | _ => none }
def ViewLeftWrongFalsely : Prop := viewLeftRow.holds Try.pinned (OpenSpec.ofChange viewLeftWrong)

/-- 'daybreaklaw20.ViewModes': WHATEVER THE INPUT: true; the input reads as it did. -/
def viewModesSpec : ChangeSpec := { name := "viewModes", fn := fun _ => fun
  | [d] => { results := [.lit (.bool true)], args := [d] }
  | _ => none }
def viewModesRow : OpenClaim := { program := "ytpbkoooljelhjaa", sum := "4dc7a8ae8aa597182c13a31fe170ba76591b946b95c50c8359c7f7db8aaf5ac2", func := "daybreak/daybreaklaw20.ViewModes", spec := "viewModes", unfollowed := true, recurses := true, apart := false }
def ViewModesSaid : Prop := viewModesRow.holds Try.pinned (OpenSpec.ofChange viewModesSpec)

/-- ITS FALSE NEIGHBOUR: 'it returns false'. Refute it at one input. -/
def viewModesWrong : ChangeSpec := { name := "viewModes", fn := fun _ => fun
  | [d] => { results := [.lit (.bool false)], args := [d] }
  | _ => none }
def ViewModesWrongFalsely : Prop := viewModesRow.holds Try.pinned (OpenSpec.ofChange viewModesWrong)

/-- 'daybreaklaw20.ViewTells': WHATEVER THE INPUT: true; the input reads as it did. -/
def viewTellsSpec : ChangeSpec := { name := "viewTells", fn := fun _ => fun
  | [d1, d2, d3] => { results := [.lit (.bool true)], args := [d1, d2, d3] }
  | _ => none }
def viewTellsRow : OpenClaim := { program := "ytpbkoooljelhjaa", sum := "4dc7a8ae8aa597182c13a31fe170ba76591b946b95c50c8359c7f7db8aaf5ac2", func := "daybreak/daybreaklaw20.ViewTells", spec := "viewTells", unfollowed := true, recurses := true, apart := false }
def ViewTellsSaid : Prop := viewTellsRow.holds Try.pinned (OpenSpec.ofChange viewTellsSpec)

/-- ITS FALSE NEIGHBOUR: 'it returns false'. Refute it at one input. -/
def viewTellsWrong : ChangeSpec := { name := "viewTells", fn := fun _ => fun
  | [d1, d2, d3] => { results := [.lit (.bool false)], args := [d1, d2, d3] }
  | _ => none }
def ViewTellsWrongFalsely : Prop := viewTellsRow.holds Try.pinned (OpenSpec.ofChange viewTellsWrong)

/-- 'daybreaklaw02.WireTells': WHATEVER THE INPUT: true; the input reads as it did. -/
def wireTellsSpec : ChangeSpec := { name := "wireTells", fn := fun _ => fun
  | [d1, d2] => { results := [.lit (.bool true)], args := [d1, d2] }
  | _ => none }
def wireTellsRow : OpenClaim := { program := "ytpbkoooljelhjaa", sum := "4dc7a8ae8aa597182c13a31fe170ba76591b946b95c50c8359c7f7db8aaf5ac2", func := "daybreak/daybreaklaw02.WireTells", spec := "wireTells", apart := false }
def WireTellsSaid : Prop := wireTellsRow.holds Try.pinned (OpenSpec.ofChange wireTellsSpec)

/-- ITS FALSE NEIGHBOUR: 'it returns false'. Refute it at one input. -/
def wireTellsWrong : ChangeSpec := { name := "wireTells", fn := fun _ => fun
  | [d1, d2] => { results := [.lit (.bool false)], args := [d1, d2] }
  | _ => none }
def WireTellsWrongFalsely : Prop := wireTellsRow.holds Try.pinned (OpenSpec.ofChange wireTellsWrong)

/-- 'daybreaklaw02.WireBack': WHATEVER THE INPUT: true; the input reads as it did. -/
def wireBackSpec : ChangeSpec := { name := "wireBack", fn := fun _ => fun
  | [d1, d2] => { results := [.lit (.bool true)], args := [d1, d2] }
  | _ => none }
def wireBackRow : OpenClaim := { program := "ytpbkoooljelhjaa", sum := "4dc7a8ae8aa597182c13a31fe170ba76591b946b95c50c8359c7f7db8aaf5ac2", func := "daybreak/daybreaklaw02.WireBack", spec := "wireBack", apart := false }
def WireBackSaid : Prop := wireBackRow.holds Try.pinned (OpenSpec.ofChange wireBackSpec)

/-- ITS FALSE NEIGHBOUR: 'it returns false'. Refute it at one input. -/
def wireBackWrong : ChangeSpec := { name := "wireBack", fn := fun _ => fun
  | [d1, d2] => { results := [.lit (.bool false)], args := [d1, d2] }
  | _ => none }
def WireBackWrongFalsely : Prop := wireBackRow.holds Try.pinned (OpenSpec.ofChange wireBackWrong)

/-- 'daybreaklaw02.WireUnlike': WHATEVER THE INPUT: true; the input reads as it did. -/
def wireUnlikeSpec : ChangeSpec := { name := "wireUnlike", fn := fun _ => fun
  | [d1, d2, d3] => { results := [.lit (.bool true)], args := [d1, d2, d3] }
  | _ => none }
def wireUnlikeRow : OpenClaim := { program := "ytpbkoooljelhjaa", sum := "4dc7a8ae8aa597182c13a31fe170ba76591b946b95c50c8359c7f7db8aaf5ac2", func := "daybreak/daybreaklaw02.WireUnlike", spec := "wireUnlike", apart := false }
def WireUnlikeSaid : Prop := wireUnlikeRow.holds Try.pinned (OpenSpec.ofChange wireUnlikeSpec)

/-- ITS FALSE NEIGHBOUR: 'it returns false'. Refute it at one input. -/
def wireUnlikeWrong : ChangeSpec := { name := "wireUnlike", fn := fun _ => fun
  | [d1, d2, d3] => { results := [.lit (.bool false)], args := [d1, d2, d3] }
  | _ => none }
def WireUnlikeWrongFalsely : Prop := wireUnlikeRow.holds Try.pinned (OpenSpec.ofChange wireUnlikeWrong)

/-- 'daybreaklaw10.PortOwn': WHATEVER THE INPUT: true; the input reads as it did. -/
def portOwnSpec : ChangeSpec := { name := "portOwn", fn := fun _ => fun
  | [d1, d2] => { results := [.lit (.bool true)], args := [d1, d2] }
  | _ => none }
def portOwnRow : OpenClaim := { program := "ytpbkoooljelhjaa", sum := "4dc7a8ae8aa597182c13a31fe170ba76591b946b95c50c8359c7f7db8aaf5ac2", func := "daybreak/daybreaklaw10.PortOwn", spec := "portOwn", apart := false }
def PortOwnSaid : Prop := portOwnRow.holds Try.pinned (OpenSpec.ofChange portOwnSpec)

/-- ITS FALSE NEIGHBOUR: 'it returns false'. Refute it at one input. -/
def portOwnWrong : ChangeSpec := { name := "portOwn", fn := fun _ => fun
  | [d1, d2] => { results := [.lit (.bool false)], args := [d1, d2] }
  | _ => none }
def PortOwnWrongFalsely : Prop := portOwnRow.holds Try.pinned (OpenSpec.ofChange portOwnWrong)

/-- 'daybreaklaw21.SyncCuts': WHATEVER THE INPUT: true; the input reads as it did. -/
def syncCutsSpec : ChangeSpec := { name := "syncCuts", fn := fun _ => fun
  | [d] => { results := [.lit (.bool true)], args := [d] }
  | _ => none }
def syncCutsRow : OpenClaim := { program := "ytpbkoooljelhjaa", sum := "4dc7a8ae8aa597182c13a31fe170ba76591b946b95c50c8359c7f7db8aaf5ac2", func := "daybreak/daybreaklaw21.SyncCuts", spec := "syncCuts", unfollowed := true, recurses := true, apart := false }
def SyncCutsSaid : Prop := syncCutsRow.holds Try.pinned (OpenSpec.ofChange syncCutsSpec)

/-- ITS FALSE NEIGHBOUR: 'it returns false'. Refute it at one input. -/
def syncCutsWrong : ChangeSpec := { name := "syncCuts", fn := fun _ => fun
  | [d] => { results := [.lit (.bool false)], args := [d] }
  | _ => none }
def SyncCutsWrongFalsely : Prop := syncCutsRow.holds Try.pinned (OpenSpec.ofChange syncCutsWrong)

/-- 'daybreaklaw10.PortBoth': WHATEVER THE INPUT: true; the input reads as it did. -/
def portBothSpec : ChangeSpec := { name := "portBoth", fn := fun _ => fun
  | [d1, d2] => { results := [.lit (.bool true)], args := [d1, d2] }
  | _ => none }
def portBothRow : OpenClaim := { program := "ytpbkoooljelhjaa", sum := "4dc7a8ae8aa597182c13a31fe170ba76591b946b95c50c8359c7f7db8aaf5ac2", func := "daybreak/daybreaklaw10.PortBoth", spec := "portBoth", apart := false }
def PortBothSaid : Prop := portBothRow.holds Try.pinned (OpenSpec.ofChange portBothSpec)

/-- ITS FALSE NEIGHBOUR: 'it returns false'. Refute it at one input. -/
def portBothWrong : ChangeSpec := { name := "portBoth", fn := fun _ => fun
  | [d1, d2] => { results := [.lit (.bool false)], args := [d1, d2] }
  | _ => none }
def PortBothWrongFalsely : Prop := portBothRow.holds Try.pinned (OpenSpec.ofChange portBothWrong)

/-- 'daybreaklaw21.SyncTells': WHATEVER THE INPUT: true; the input reads as it did. -/
def syncTellsSpec : ChangeSpec := { name := "syncTells", fn := fun _ => fun
  | [d1, d2, d3] => { results := [.lit (.bool true)], args := [d1, d2, d3] }
  | _ => none }
def syncTellsRow : OpenClaim := { program := "ytpbkoooljelhjaa", sum := "4dc7a8ae8aa597182c13a31fe170ba76591b946b95c50c8359c7f7db8aaf5ac2", func := "daybreak/daybreaklaw21.SyncTells", spec := "syncTells", unfollowed := true, recurses := true, apart := false }
def SyncTellsSaid : Prop := syncTellsRow.holds Try.pinned (OpenSpec.ofChange syncTellsSpec)

/-- ITS FALSE NEIGHBOUR: 'it returns false'. Refute it at one input. -/
def syncTellsWrong : ChangeSpec := { name := "syncTells", fn := fun _ => fun
  | [d1, d2, d3] => { results := [.lit (.bool false)], args := [d1, d2, d3] }
  | _ => none }
def SyncTellsWrongFalsely : Prop := syncTellsRow.holds Try.pinned (OpenSpec.ofChange syncTellsWrong)

/-- 'daybreaklaw21.SyncThere': WHATEVER THE INPUT: true; the input reads as it did. -/
def syncThereSpec : ChangeSpec := { name := "syncThere", fn := fun _ => fun
  | [d1, d2, d3] => { results := [.lit (.bool true)], args := [d1, d2, d3] }
  | _ => none }
def syncThereRow : OpenClaim := { program := "ytpbkoooljelhjaa", sum := "4dc7a8ae8aa597182c13a31fe170ba76591b946b95c50c8359c7f7db8aaf5ac2", func := "daybreak/daybreaklaw21.SyncThere", spec := "syncThere", unfollowed := true, recurses := true, apart := false }
def SyncThereSaid : Prop := syncThereRow.holds Try.pinned (OpenSpec.ofChange syncThereSpec)

/-- ITS FALSE NEIGHBOUR: 'it returns false'. Refute it at one input. -/
def syncThereWrong : ChangeSpec := { name := "syncThere", fn := fun _ => fun
  | [d1, d2, d3] => { results := [.lit (.bool false)], args := [d1, d2, d3] }
  | _ => none }
def SyncThereWrongFalsely : Prop := syncThereRow.holds Try.pinned (OpenSpec.ofChange syncThereWrong)

/-- 'daybreaklaw07.HearThere': WHATEVER THE INPUT: true; the input reads as it did. -/
def hearThereSpec : ChangeSpec := { name := "hearThere", fn := fun _ => fun
  | [d] => { results := [.lit (.bool true)], args := [d] }
  | _ => none }
def hearThereRow : OpenClaim := { program := "ytpbkoooljelhjaa", sum := "4dc7a8ae8aa597182c13a31fe170ba76591b946b95c50c8359c7f7db8aaf5ac2", func := "daybreak/daybreaklaw07.HearThere", spec := "hearThere", unfollowed := true, recurses := true, apart := false }
def HearThereSaid : Prop := hearThereRow.holds Try.pinned (OpenSpec.ofChange hearThereSpec)

/-- ITS FALSE NEIGHBOUR: 'it returns false'. Refute it at one input. -/
def hearThereWrong : ChangeSpec := { name := "hearThere", fn := fun _ => fun
  | [d] => { results := [.lit (.bool false)], args := [d] }
  | _ => none }
def HearThereWrongFalsely : Prop := hearThereRow.holds Try.pinned (OpenSpec.ofChange hearThereWrong)

/-- 'daybreaklaw10.PortTells': WHATEVER THE INPUT: true; the input reads as it did. -/
def portTellsSpec : ChangeSpec := { name := "portTells", fn := fun _ => fun
  | [d] => { results := [.lit (.bool true)], args := [d] }
  | _ => none }
def portTellsRow : OpenClaim := { program := "ytpbkoooljelhjaa", sum := "4dc7a8ae8aa597182c13a31fe170ba76591b946b95c50c8359c7f7db8aaf5ac2", func := "daybreak/daybreaklaw10.PortTells", spec := "portTells", apart := false }
def PortTellsSaid : Prop := portTellsRow.holds Try.pinned (OpenSpec.ofChange portTellsSpec)

/-- ITS FALSE NEIGHBOUR: 'it returns false'. Refute it at one input. -/
def portTellsWrong : ChangeSpec := { name := "portTells", fn := fun _ => fun
  | [d] => { results := [.lit (.bool false)], args := [d] }
  | _ => none }
def PortTellsWrongFalsely : Prop := portTellsRow.holds Try.pinned (OpenSpec.ofChange portTellsWrong)

/-- 'daybreaklaw07.HearTells': WHATEVER THE INPUT: true; the input reads as it did. -/
def hearTellsSpec : ChangeSpec := { name := "hearTells", fn := fun _ => fun
  | [d] => { results := [.lit (.bool true)], args := [d] }
  | _ => none }
def hearTellsRow : OpenClaim := { program := "ytpbkoooljelhjaa", sum := "4dc7a8ae8aa597182c13a31fe170ba76591b946b95c50c8359c7f7db8aaf5ac2", func := "daybreak/daybreaklaw07.HearTells", spec := "hearTells", unfollowed := true, recurses := true, apart := false }
def HearTellsSaid : Prop := hearTellsRow.holds Try.pinned (OpenSpec.ofChange hearTellsSpec)

/-- ITS FALSE NEIGHBOUR: 'it returns false'. Refute it at one input. -/
def hearTellsWrong : ChangeSpec := { name := "hearTells", fn := fun _ => fun
  | [d] => { results := [.lit (.bool false)], args := [d] }
  | _ => none }
def HearTellsWrongFalsely : Prop := hearTellsRow.holds Try.pinned (OpenSpec.ofChange hearTellsWrong)

/-- 'daybreaklaw22.RoundFaulty': WHATEVER THE INPUT: true; the input reads as it did. -/
def roundFaultySpec : ChangeSpec := { name := "roundFaulty", fn := fun _ => fun
  | [d] => { results := [.lit (.bool true)], args := [d] }
  | _ => none }
def roundFaultyRow : OpenClaim := { program := "ytpbkoooljelhjaa", sum := "4dc7a8ae8aa597182c13a31fe170ba76591b946b95c50c8359c7f7db8aaf5ac2", func := "daybreak/daybreaklaw22.RoundFaulty", spec := "roundFaulty", unfollowed := true, recurses := true, apart := false }
def RoundFaultySaid : Prop := roundFaultyRow.holds Try.pinned (OpenSpec.ofChange roundFaultySpec)

/-- ITS FALSE NEIGHBOUR: 'it returns false'. Refute it at one input. -/
def roundFaultyWrong : ChangeSpec := { name := "roundFaulty", fn := fun _ => fun
  | [d] => { results := [.lit (.bool false)], args := [d] }
  | _ => none }
def RoundFaultyWrongFalsely : Prop := roundFaultyRow.holds Try.pinned (OpenSpec.ofChange roundFaultyWrong)

/-- 'daybreaklaw22.RoundTells': WHATEVER THE INPUT: true; the input reads as it did. -/
def roundTellsSpec : ChangeSpec := { name := "roundTells", fn := fun _ => fun
  | [d] => { results := [.lit (.bool true)], args := [d] }
  | _ => none }
def roundTellsRow : OpenClaim := { program := "ytpbkoooljelhjaa", sum := "4dc7a8ae8aa597182c13a31fe170ba76591b946b95c50c8359c7f7db8aaf5ac2", func := "daybreak/daybreaklaw22.RoundTells", spec := "roundTells", unfollowed := true, recurses := true, apart := false }
def RoundTellsSaid : Prop := roundTellsRow.holds Try.pinned (OpenSpec.ofChange roundTellsSpec)

/-- ITS FALSE NEIGHBOUR: 'it returns false'. Refute it at one input. -/
def roundTellsWrong : ChangeSpec := { name := "roundTells", fn := fun _ => fun
  | [d] => { results := [.lit (.bool false)], args := [d] }
  | _ => none }
def RoundTellsWrongFalsely : Prop := roundTellsRow.holds Try.pinned (OpenSpec.ofChange roundTellsWrong)

/-- 'daybreaklaw22.RoundNone': WHATEVER THE INPUT: true; the input reads as it did. -/
def roundNoneSpec : ChangeSpec := { name := "roundNone", fn := fun _ => fun
  | [d1, d2] => { results := [.lit (.bool true)], args := [d1, d2] }
  | _ => none }
def roundNoneRow : OpenClaim := { program := "ytpbkoooljelhjaa", sum := "4dc7a8ae8aa597182c13a31fe170ba76591b946b95c50c8359c7f7db8aaf5ac2", func := "daybreak/daybreaklaw22.RoundNone", spec := "roundNone", unfollowed := true, recurses := true, apart := false }
def RoundNoneSaid : Prop := roundNoneRow.holds Try.pinned (OpenSpec.ofChange roundNoneSpec)

/-- ITS FALSE NEIGHBOUR: 'it returns false'. Refute it at one input. -/
def roundNoneWrong : ChangeSpec := { name := "roundNone", fn := fun _ => fun
  | [d1, d2] => { results := [.lit (.bool false)], args := [d1, d2] }
  | _ => none }
def RoundNoneWrongFalsely : Prop := roundNoneRow.holds Try.pinned (OpenSpec.ofChange roundNoneWrong)

/- THE SECOND FORM. 'bulk': how many values and letters a reading holds, each counted each time it is reached (what is shared counts as often as it is met; a slice's spare places count too). A statement '..UptoSaid' is the law's where the arguments, and the package variables that the reading takes, are together of bulk at most 1048576: NARROWER than '..Said'. Prove '..Said' where nothing that the law and all that it calls make is longer than what came in: it says more and counts as full. Else prove '..UptoSaid'. A law counts once. -/
mutual
def uptoBulk {H : Type} : DataW H → Nat
  | .lit (.string bytes) => bytes.length + 1
  | .lit _ => 1
  | .nil => 1
  | .ptr d => uptoBulk d + 1
  | .slice elems spare => uptoBulkAll elems + uptoBulkAll spare + 1
  | .agg parts => uptoBulkAll parts + 1
  | .iface _ d => uptoBulk d + 1
  | .map entries => uptoBulkEntries entries + 1
  | .held _ => 1
def uptoBulkAll {H : Type} : List (DataW H) → Nat
  | [] => 0
  | d :: r => uptoBulk d + uptoBulkAll r
def uptoBulkEntries {H : Type} : List (Lit × DataW H) → Nat
  | [] => 0
  | x :: r => uptoBulkEntry x + uptoBulkEntries r
def uptoBulkEntry {H : Type} : Lit × DataW H → Nat
  | (.string bytes, d) => bytes.length + uptoBulk d + 1
  | (_, d) => uptoBulk d + 1
 end
def uptoSmall : (H : Type) → List (DataW H) → Bool := fun _ ds => decide (uptoBulkAll ds ≤ 1048576)
def OpenSpec.upto (s : _root_.Go.ChangeSpec) : _root_.Go.OpenSpec := { _root_.Go.OpenSpec.ofChange s with cond := some uptoSmall }

/-- 'daybreaklaw01.CrcTells', WHERE WHAT IT READS IS OF BULK AT MOST 1048576: true; the input reads as it did. -/
def crcTellsUptoRow : OpenClaim := { program := "ytpbkoooljelhjaa", sum := "4dc7a8ae8aa597182c13a31fe170ba76591b946b95c50c8359c7f7db8aaf5ac2", func := "daybreak/daybreaklaw01.CrcTells", spec := "crcTells", apart := false, narrowed := true }
def CrcTellsUptoSaid : Prop := crcTellsUptoRow.holds Try.pinned (OpenSpec.upto crcTellsSpec)

/-- 'daybreaklaw01.CrcBurst', WHERE WHAT IT READS IS OF BULK AT MOST 1048576: true; the input reads as it did. -/
def crcBurstUptoRow : OpenClaim := { program := "ytpbkoooljelhjaa", sum := "4dc7a8ae8aa597182c13a31fe170ba76591b946b95c50c8359c7f7db8aaf5ac2", func := "daybreak/daybreaklaw01.CrcBurst", spec := "crcBurst", apart := false, narrowed := true }
def CrcBurstUptoSaid : Prop := crcBurstUptoRow.holds Try.pinned (OpenSpec.upto crcBurstSpec)

/-- 'daybreaklaw01.CrcJoins', WHERE WHAT IT READS IS OF BULK AT MOST 1048576: true; the input reads as it did. -/
def crcJoinsUptoRow : OpenClaim := { program := "ytpbkoooljelhjaa", sum := "4dc7a8ae8aa597182c13a31fe170ba76591b946b95c50c8359c7f7db8aaf5ac2", func := "daybreak/daybreaklaw01.CrcJoins", spec := "crcJoins", apart := false, narrowed := true }
def CrcJoinsUptoSaid : Prop := crcJoinsUptoRow.holds Try.pinned (OpenSpec.upto crcJoinsSpec)

/-- 'daybreaklaw20.ViewLeft', WHERE WHAT IT READS IS OF BULK AT MOST 1048576: true; the input reads as it did. -/
def viewLeftUptoRow : OpenClaim := { program := "ytpbkoooljelhjaa", sum := "4dc7a8ae8aa597182c13a31fe170ba76591b946b95c50c8359c7f7db8aaf5ac2", func := "daybreak/daybreaklaw20.ViewLeft", spec := "viewLeft", unfollowed := true, recurses := true, apart := false, narrowed := true }
def ViewLeftUptoSaid : Prop := viewLeftUptoRow.holds Try.pinned (OpenSpec.upto viewLeftSpec)

/-- 'daybreaklaw20.ViewModes', WHERE WHAT IT READS IS OF BULK AT MOST 1048576: true; the input reads as it did. -/
def viewModesUptoRow : OpenClaim := { program := "ytpbkoooljelhjaa", sum := "4dc7a8ae8aa597182c13a31fe170ba76591b946b95c50c8359c7f7db8aaf5ac2", func := "daybreak/daybreaklaw20.ViewModes", spec := "viewModes", unfollowed := true, recurses := true, apart := false, narrowed := true }
def ViewModesUptoSaid : Prop := viewModesUptoRow.holds Try.pinned (OpenSpec.upto viewModesSpec)

/-- 'daybreaklaw20.ViewTells', WHERE WHAT IT READS IS OF BULK AT MOST 1048576: true; the input reads as it did. -/
def viewTellsUptoRow : OpenClaim := { program := "ytpbkoooljelhjaa", sum := "4dc7a8ae8aa597182c13a31fe170ba76591b946b95c50c8359c7f7db8aaf5ac2", func := "daybreak/daybreaklaw20.ViewTells", spec := "viewTells", unfollowed := true, recurses := true, apart := false, narrowed := true }
def ViewTellsUptoSaid : Prop := viewTellsUptoRow.holds Try.pinned (OpenSpec.upto viewTellsSpec)

/-- 'daybreaklaw02.WireTells', WHERE WHAT IT READS IS OF BULK AT MOST 1048576: true; the input reads as it did. -/
def wireTellsUptoRow : OpenClaim := { program := "ytpbkoooljelhjaa", sum := "4dc7a8ae8aa597182c13a31fe170ba76591b946b95c50c8359c7f7db8aaf5ac2", func := "daybreak/daybreaklaw02.WireTells", spec := "wireTells", apart := false, narrowed := true }
def WireTellsUptoSaid : Prop := wireTellsUptoRow.holds Try.pinned (OpenSpec.upto wireTellsSpec)

/-- 'daybreaklaw02.WireBack', WHERE WHAT IT READS IS OF BULK AT MOST 1048576: true; the input reads as it did. -/
def wireBackUptoRow : OpenClaim := { program := "ytpbkoooljelhjaa", sum := "4dc7a8ae8aa597182c13a31fe170ba76591b946b95c50c8359c7f7db8aaf5ac2", func := "daybreak/daybreaklaw02.WireBack", spec := "wireBack", apart := false, narrowed := true }
def WireBackUptoSaid : Prop := wireBackUptoRow.holds Try.pinned (OpenSpec.upto wireBackSpec)

/-- 'daybreaklaw02.WireUnlike', WHERE WHAT IT READS IS OF BULK AT MOST 1048576: true; the input reads as it did. -/
def wireUnlikeUptoRow : OpenClaim := { program := "ytpbkoooljelhjaa", sum := "4dc7a8ae8aa597182c13a31fe170ba76591b946b95c50c8359c7f7db8aaf5ac2", func := "daybreak/daybreaklaw02.WireUnlike", spec := "wireUnlike", apart := false, narrowed := true }
def WireUnlikeUptoSaid : Prop := wireUnlikeUptoRow.holds Try.pinned (OpenSpec.upto wireUnlikeSpec)

/-- 'daybreaklaw10.PortOwn', WHERE WHAT IT READS IS OF BULK AT MOST 1048576: true; the input reads as it did. -/
def portOwnUptoRow : OpenClaim := { program := "ytpbkoooljelhjaa", sum := "4dc7a8ae8aa597182c13a31fe170ba76591b946b95c50c8359c7f7db8aaf5ac2", func := "daybreak/daybreaklaw10.PortOwn", spec := "portOwn", apart := false, narrowed := true }
def PortOwnUptoSaid : Prop := portOwnUptoRow.holds Try.pinned (OpenSpec.upto portOwnSpec)

/-- 'daybreaklaw21.SyncCuts', WHERE WHAT IT READS IS OF BULK AT MOST 1048576: true; the input reads as it did. -/
def syncCutsUptoRow : OpenClaim := { program := "ytpbkoooljelhjaa", sum := "4dc7a8ae8aa597182c13a31fe170ba76591b946b95c50c8359c7f7db8aaf5ac2", func := "daybreak/daybreaklaw21.SyncCuts", spec := "syncCuts", unfollowed := true, recurses := true, apart := false, narrowed := true }
def SyncCutsUptoSaid : Prop := syncCutsUptoRow.holds Try.pinned (OpenSpec.upto syncCutsSpec)

/-- 'daybreaklaw10.PortBoth', WHERE WHAT IT READS IS OF BULK AT MOST 1048576: true; the input reads as it did. -/
def portBothUptoRow : OpenClaim := { program := "ytpbkoooljelhjaa", sum := "4dc7a8ae8aa597182c13a31fe170ba76591b946b95c50c8359c7f7db8aaf5ac2", func := "daybreak/daybreaklaw10.PortBoth", spec := "portBoth", apart := false, narrowed := true }
def PortBothUptoSaid : Prop := portBothUptoRow.holds Try.pinned (OpenSpec.upto portBothSpec)

/-- 'daybreaklaw21.SyncTells', WHERE WHAT IT READS IS OF BULK AT MOST 1048576: true; the input reads as it did. -/
def syncTellsUptoRow : OpenClaim := { program := "ytpbkoooljelhjaa", sum := "4dc7a8ae8aa597182c13a31fe170ba76591b946b95c50c8359c7f7db8aaf5ac2", func := "daybreak/daybreaklaw21.SyncTells", spec := "syncTells", unfollowed := true, recurses := true, apart := false, narrowed := true }
def SyncTellsUptoSaid : Prop := syncTellsUptoRow.holds Try.pinned (OpenSpec.upto syncTellsSpec)

/-- 'daybreaklaw21.SyncThere', WHERE WHAT IT READS IS OF BULK AT MOST 1048576: true; the input reads as it did. -/
def syncThereUptoRow : OpenClaim := { program := "ytpbkoooljelhjaa", sum := "4dc7a8ae8aa597182c13a31fe170ba76591b946b95c50c8359c7f7db8aaf5ac2", func := "daybreak/daybreaklaw21.SyncThere", spec := "syncThere", unfollowed := true, recurses := true, apart := false, narrowed := true }
def SyncThereUptoSaid : Prop := syncThereUptoRow.holds Try.pinned (OpenSpec.upto syncThereSpec)

/-- 'daybreaklaw07.HearThere', WHERE WHAT IT READS IS OF BULK AT MOST 1048576: true; the input reads as it did. -/
def hearThereUptoRow : OpenClaim := { program := "ytpbkoooljelhjaa", sum := "4dc7a8ae8aa597182c13a31fe170ba76591b946b95c50c8359c7f7db8aaf5ac2", func := "daybreak/daybreaklaw07.HearThere", spec := "hearThere", unfollowed := true, recurses := true, apart := false, narrowed := true }
def HearThereUptoSaid : Prop := hearThereUptoRow.holds Try.pinned (OpenSpec.upto hearThereSpec)

/-- 'daybreaklaw10.PortTells', WHERE WHAT IT READS IS OF BULK AT MOST 1048576: true; the input reads as it did. -/
def portTellsUptoRow : OpenClaim := { program := "ytpbkoooljelhjaa", sum := "4dc7a8ae8aa597182c13a31fe170ba76591b946b95c50c8359c7f7db8aaf5ac2", func := "daybreak/daybreaklaw10.PortTells", spec := "portTells", apart := false, narrowed := true }
def PortTellsUptoSaid : Prop := portTellsUptoRow.holds Try.pinned (OpenSpec.upto portTellsSpec)

/-- 'daybreaklaw07.HearTells', WHERE WHAT IT READS IS OF BULK AT MOST 1048576: true; the input reads as it did. -/
def hearTellsUptoRow : OpenClaim := { program := "ytpbkoooljelhjaa", sum := "4dc7a8ae8aa597182c13a31fe170ba76591b946b95c50c8359c7f7db8aaf5ac2", func := "daybreak/daybreaklaw07.HearTells", spec := "hearTells", unfollowed := true, recurses := true, apart := false, narrowed := true }
def HearTellsUptoSaid : Prop := hearTellsUptoRow.holds Try.pinned (OpenSpec.upto hearTellsSpec)

/-- 'daybreaklaw22.RoundFaulty', WHERE WHAT IT READS IS OF BULK AT MOST 1048576: true; the input reads as it did. -/
def roundFaultyUptoRow : OpenClaim := { program := "ytpbkoooljelhjaa", sum := "4dc7a8ae8aa597182c13a31fe170ba76591b946b95c50c8359c7f7db8aaf5ac2", func := "daybreak/daybreaklaw22.RoundFaulty", spec := "roundFaulty", unfollowed := true, recurses := true, apart := false, narrowed := true }
def RoundFaultyUptoSaid : Prop := roundFaultyUptoRow.holds Try.pinned (OpenSpec.upto roundFaultySpec)

/-- 'daybreaklaw22.RoundTells', WHERE WHAT IT READS IS OF BULK AT MOST 1048576: true; the input reads as it did. -/
def roundTellsUptoRow : OpenClaim := { program := "ytpbkoooljelhjaa", sum := "4dc7a8ae8aa597182c13a31fe170ba76591b946b95c50c8359c7f7db8aaf5ac2", func := "daybreak/daybreaklaw22.RoundTells", spec := "roundTells", unfollowed := true, recurses := true, apart := false, narrowed := true }
def RoundTellsUptoSaid : Prop := roundTellsUptoRow.holds Try.pinned (OpenSpec.upto roundTellsSpec)

/-- 'daybreaklaw22.RoundNone', WHERE WHAT IT READS IS OF BULK AT MOST 1048576: true; the input reads as it did. -/
def roundNoneUptoRow : OpenClaim := { program := "ytpbkoooljelhjaa", sum := "4dc7a8ae8aa597182c13a31fe170ba76591b946b95c50c8359c7f7db8aaf5ac2", func := "daybreak/daybreaklaw22.RoundNone", spec := "roundNone", unfollowed := true, recurses := true, apart := false, narrowed := true }
def RoundNoneUptoSaid : Prop := roundNoneUptoRow.holds Try.pinned (OpenSpec.upto roundNoneSpec)

end Rows
end Go.Proofs.Ytpbkoooljelhjaa

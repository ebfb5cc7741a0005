/-
  DERIVED. GIVEN WITH THE SEED: THE CARDS: each row of YtgiojagdmglinaaGreatDoorRows.lean that lists a variable, with what it lists TIED to the program's text (the seventh form; the later family's looks); each row that meets fmt, with fmt's text TOLD by the authors' own Lean function (tested against real Go, not proved from fmt's source: count such statements apart). THE CARD IS WHAT COUNTS. Prove the row's statement (the work); the ties are given (YtgiojagdmglinaaGreatDoorTie.lean); close each card by the builder's one call (the guide's Derived/Test/ToyasCard.lean, 'card_holds'). Laid BY PROGRAM, IN A SANDBOX (cutbox-door.mjs). By AI agents, Wed Nov 11 2026. No macro, syntax, notation, axiom, sorry.
-/
import Derived.Test.YtgiojagdmglinaaGreatDoorRows
import GoSem.ClaimSeven
namespace Go.Proofs.YtgiojagdmglinaaGreatDoor
namespace Rows

/-- THE TIED CARD OF 'daybreaktop.WholeWorlds'. -/
def wholeWorldsCard : Claim7 := { stood := { row := wholeWorldsRow, standIns := [], harness := (true, "bc756e22a1b164c7e6f02c199b2fccdb787ee550ccd8ea457d36e9ca7ed46377"), looks := false }, kinds := [], alts := [], laidByText := true, laidKinds := [.data, .data, .data], laidTests := true, laidLooks := .later }
def WholeWorldsCardSaid : Prop := Claim7.holds Tryz.pinned (.plain (OpenSpec.ofChange wholeWorldsSpec)) wholeWorldsCard

/-- THE TIED CARD OF 'daybreaktop.WholeTwins'. -/
def wholeTwinsCard : Claim7 := { stood := { row := wholeTwinsRow, standIns := [], harness := (true, "bc756e22a1b164c7e6f02c199b2fccdb787ee550ccd8ea457d36e9ca7ed46377"), looks := false }, kinds := [], alts := [], laidByText := true, laidKinds := [.data, .data, .data], laidTests := true, laidLooks := .later }
def WholeTwinsCardSaid : Prop := Claim7.holds Tryz.pinned (.plain (OpenSpec.ofChange wholeTwinsSpec)) wholeTwinsCard

/-- THE TIED CARD OF 'daybreaktop.WholePower'. -/
def wholePowerCard : Claim7 := { stood := { row := wholePowerRow, standIns := [], harness := (true, "bc756e22a1b164c7e6f02c199b2fccdb787ee550ccd8ea457d36e9ca7ed46377"), looks := false }, kinds := [], alts := [], laidByText := true, laidKinds := [.data, .data, .data], laidTests := true, laidLooks := .later }
def WholePowerCardSaid : Prop := Claim7.holds Tryz.pinned (.plain (OpenSpec.ofChange wholePowerSpec)) wholePowerCard

/-- THE TIED CARD OF 'daybreaktop.WholeMasks'. -/
def wholeMasksCard : Claim7 := { stood := { row := wholeMasksRow, standIns := [], harness := (true, "bc756e22a1b164c7e6f02c199b2fccdb787ee550ccd8ea457d36e9ca7ed46377"), looks := false }, kinds := [], alts := [], laidByText := true, laidKinds := [.data, .data, .data], laidTests := true, laidLooks := .later }
def WholeMasksCardSaid : Prop := Claim7.holds Tryz.pinned (.plain (OpenSpec.ofChange wholeMasksSpec)) wholeMasksCard

/-- THE TIED CARD OF 'daybreaktop.WholeLate'. -/
def wholeLateCard : Claim7 := { stood := { row := wholeLateRow, standIns := [], harness := (true, "bc756e22a1b164c7e6f02c199b2fccdb787ee550ccd8ea457d36e9ca7ed46377"), looks := false }, kinds := [], alts := [], laidByText := true, laidKinds := [.data, .data, .data], laidTests := true, laidLooks := .later }
def WholeLateCardSaid : Prop := Claim7.holds Tryz.pinned (.plain (OpenSpec.ofChange wholeLateSpec)) wholeLateCard

/-- THE TIED CARD OF 'daybreaktop.WholeQuick'. -/
def wholeQuickCard : Claim7 := { stood := { row := wholeQuickRow, standIns := [], harness := (true, "bc756e22a1b164c7e6f02c199b2fccdb787ee550ccd8ea457d36e9ca7ed46377"), looks := false }, kinds := [], alts := [], laidByText := true, laidKinds := [.data, .data, .data], laidTests := true, laidLooks := .later }
def WholeQuickCardSaid : Prop := Claim7.holds Tryz.pinned (.plain (OpenSpec.ofChange wholeQuickSpec)) wholeQuickCard

/-- THE TIED CARD OF 'daybreaktop.WholeAgrees'. -/
def wholeAgreesCard : Claim7 := { stood := { row := wholeAgreesRow, standIns := [], harness := (true, "bc756e22a1b164c7e6f02c199b2fccdb787ee550ccd8ea457d36e9ca7ed46377"), looks := false }, kinds := [], alts := [], laidByText := true, laidKinds := [.data, .data, .data], laidTests := true, laidLooks := .later }
def WholeAgreesCardSaid : Prop := Claim7.holds Tryz.pinned (.plain (OpenSpec.ofChange wholeAgreesSpec)) wholeAgreesCard

/-- THE SECOND FORM's CARD OF 'daybreaktop.WholeWorlds'. -/
def wholeWorldsUptoCard : Claim7 := { stood := { row := wholeWorldsUptoRow, standIns := [], harness := (true, "bc756e22a1b164c7e6f02c199b2fccdb787ee550ccd8ea457d36e9ca7ed46377"), looks := false }, kinds := [], alts := [], laidByText := true, laidKinds := [.data, .data, .data], laidTests := true, laidLooks := .later }
def WholeWorldsUptoCardSaid : Prop := Claim7.holds Tryz.pinned (.plain (OpenSpec.upto wholeWorldsSpec)) wholeWorldsUptoCard

/-- THE SECOND FORM's CARD OF 'daybreaktop.WholeTwins'. -/
def wholeTwinsUptoCard : Claim7 := { stood := { row := wholeTwinsUptoRow, standIns := [], harness := (true, "bc756e22a1b164c7e6f02c199b2fccdb787ee550ccd8ea457d36e9ca7ed46377"), looks := false }, kinds := [], alts := [], laidByText := true, laidKinds := [.data, .data, .data], laidTests := true, laidLooks := .later }
def WholeTwinsUptoCardSaid : Prop := Claim7.holds Tryz.pinned (.plain (OpenSpec.upto wholeTwinsSpec)) wholeTwinsUptoCard

/-- THE SECOND FORM's CARD OF 'daybreaktop.WholePower'. -/
def wholePowerUptoCard : Claim7 := { stood := { row := wholePowerUptoRow, standIns := [], harness := (true, "bc756e22a1b164c7e6f02c199b2fccdb787ee550ccd8ea457d36e9ca7ed46377"), looks := false }, kinds := [], alts := [], laidByText := true, laidKinds := [.data, .data, .data], laidTests := true, laidLooks := .later }
def WholePowerUptoCardSaid : Prop := Claim7.holds Tryz.pinned (.plain (OpenSpec.upto wholePowerSpec)) wholePowerUptoCard

/-- THE SECOND FORM's CARD OF 'daybreaktop.WholeMasks'. -/
def wholeMasksUptoCard : Claim7 := { stood := { row := wholeMasksUptoRow, standIns := [], harness := (true, "bc756e22a1b164c7e6f02c199b2fccdb787ee550ccd8ea457d36e9ca7ed46377"), looks := false }, kinds := [], alts := [], laidByText := true, laidKinds := [.data, .data, .data], laidTests := true, laidLooks := .later }
def WholeMasksUptoCardSaid : Prop := Claim7.holds Tryz.pinned (.plain (OpenSpec.upto wholeMasksSpec)) wholeMasksUptoCard

/-- THE SECOND FORM's CARD OF 'daybreaktop.WholeLate'. -/
def wholeLateUptoCard : Claim7 := { stood := { row := wholeLateUptoRow, standIns := [], harness := (true, "bc756e22a1b164c7e6f02c199b2fccdb787ee550ccd8ea457d36e9ca7ed46377"), looks := false }, kinds := [], alts := [], laidByText := true, laidKinds := [.data, .data, .data], laidTests := true, laidLooks := .later }
def WholeLateUptoCardSaid : Prop := Claim7.holds Tryz.pinned (.plain (OpenSpec.upto wholeLateSpec)) wholeLateUptoCard

/-- THE SECOND FORM's CARD OF 'daybreaktop.WholeQuick'. -/
def wholeQuickUptoCard : Claim7 := { stood := { row := wholeQuickUptoRow, standIns := [], harness := (true, "bc756e22a1b164c7e6f02c199b2fccdb787ee550ccd8ea457d36e9ca7ed46377"), looks := false }, kinds := [], alts := [], laidByText := true, laidKinds := [.data, .data, .data], laidTests := true, laidLooks := .later }
def WholeQuickUptoCardSaid : Prop := Claim7.holds Tryz.pinned (.plain (OpenSpec.upto wholeQuickSpec)) wholeQuickUptoCard

/-- THE SECOND FORM's CARD OF 'daybreaktop.WholeAgrees'. -/
def wholeAgreesUptoCard : Claim7 := { stood := { row := wholeAgreesUptoRow, standIns := [], harness := (true, "bc756e22a1b164c7e6f02c199b2fccdb787ee550ccd8ea457d36e9ca7ed46377"), looks := false }, kinds := [], alts := [], laidByText := true, laidKinds := [.data, .data, .data], laidTests := true, laidLooks := .later }
def WholeAgreesUptoCardSaid : Prop := Claim7.holds Tryz.pinned (.plain (OpenSpec.upto wholeAgreesSpec)) wholeAgreesUptoCard
end Rows
end Go.Proofs.YtgiojagdmglinaaGreatDoor

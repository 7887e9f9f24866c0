/-
  DERIVED. GIVEN WITH THE SEED: THE CARDS: each row of YtchpbaaabnkkkaaGreatDoorRows.lean that lists a variable, with what it lists TIED to the program's text (the seventh form; the later family's looks); each row that meets fmt, with fmt's text TOLD by the authors' own Lean function (tested against real Go, not proved from fmt's source: count such statements apart). THE CARD IS WHAT COUNTS. Prove the row's statement (the work); the ties are given (YtchpbaaabnkkkaaGreatDoorTie.lean); close each card by the builder's one call (the guide's Derived/Test/ToyasCard.lean, 'card_holds'). Laid BY PROGRAM, IN A SANDBOX (cutbox-door.mjs). By AI agents, Wed Nov 11 2026. No macro, syntax, notation, axiom, sorry.
-/
import Derived.Test.YtchpbaaabnkkkaaGreatDoorRows
import GoSem.ClaimSeven
namespace Go.Proofs.YtchpbaaabnkkkaaGreatDoor
namespace Rows

/-- THE TIED CARD OF 'exoduslaw20.PlacementInitial'. -/
def placementInitialCard : Claim7 := { stood := { row := placementInitialRow, standIns := [], harness := (true, "fdc3113d911dc159979603fa5e3d7c3aefe118d2acfcfe54d5c85cd17e010b02"), looks := false }, kinds := [], alts := [], laidByText := true, laidKinds := [.listed, .data], laidTests := true, laidLooks := .later }
def PlacementInitialCardSaid : Prop := Claim7.holds Tryz.pinned (.plain (OpenSpec.ofChange placementInitialSpec)) placementInitialCard

/-- THE TIED CARD OF 'exoduslaw20.PlacementValid'. -/
def placementValidCard : Claim7 := { stood := { row := placementValidRow, standIns := [], harness := (true, "fdc3113d911dc159979603fa5e3d7c3aefe118d2acfcfe54d5c85cd17e010b02"), looks := false }, kinds := [], alts := [], laidByText := true, laidKinds := [.listed, .data], laidTests := true, laidLooks := .later }
def PlacementValidCardSaid : Prop := Claim7.holds Tryz.pinned (.plain (OpenSpec.ofChange placementValidSpec)) placementValidCard

/-- THE TIED CARD OF 'exoduslaw20.PlacementOrder'. -/
def placementOrderCard : Claim7 := { stood := { row := placementOrderRow, standIns := [], harness := (true, "fdc3113d911dc159979603fa5e3d7c3aefe118d2acfcfe54d5c85cd17e010b02"), looks := false }, kinds := [], alts := [], laidByText := true, laidKinds := [.listed, .data], laidTests := true, laidLooks := .later }
def PlacementOrderCardSaid : Prop := Claim7.holds Tryz.pinned (.plain (OpenSpec.ofChange placementOrderSpec)) placementOrderCard

/-- THE TIED CARD OF 'exoduslaw20.PlacementChanges'. -/
def placementChangesCard : Claim7 := { stood := { row := placementChangesRow, standIns := [], harness := (true, "fdc3113d911dc159979603fa5e3d7c3aefe118d2acfcfe54d5c85cd17e010b02"), looks := false }, kinds := [], alts := [], laidByText := true, laidKinds := [.listed, .data], laidTests := true, laidLooks := .later }
def PlacementChangesCardSaid : Prop := Claim7.holds Tryz.pinned (.plain (OpenSpec.ofChange placementChangesSpec)) placementChangesCard

/-- THE TIED CARD OF 'exoduslaw20.PlacementSingle'. -/
def placementSingleCard : Claim7 := { stood := { row := placementSingleRow, standIns := [], harness := (true, "fdc3113d911dc159979603fa5e3d7c3aefe118d2acfcfe54d5c85cd17e010b02"), looks := false }, kinds := [], alts := [], laidByText := true, laidKinds := [.listed, .data], laidTests := true, laidLooks := .later }
def PlacementSingleCardSaid : Prop := Claim7.holds Tryz.pinned (.plain (OpenSpec.ofChange placementSingleSpec)) placementSingleCard

/-- THE TIED CARD OF 'exoduslaw20.PlacementCounts'. -/
def placementCountsCard : Claim7 := { stood := { row := placementCountsRow, standIns := [], harness := (true, "fdc3113d911dc159979603fa5e3d7c3aefe118d2acfcfe54d5c85cd17e010b02"), looks := false }, kinds := [], alts := [], laidByText := true, laidKinds := [.listed, .data], laidTests := true, laidLooks := .later }
def PlacementCountsCardSaid : Prop := Claim7.holds Tryz.pinned (.plain (OpenSpec.ofChange placementCountsSpec)) placementCountsCard

/-- THE TIED CARD OF 'exoduslaw20.PlacementSums'. -/
def placementSumsCard : Claim7 := { stood := { row := placementSumsRow, standIns := [], harness := (true, "fdc3113d911dc159979603fa5e3d7c3aefe118d2acfcfe54d5c85cd17e010b02"), looks := false }, kinds := [], alts := [], laidByText := true, laidKinds := [.listed, .data], laidTests := true, laidLooks := .later }
def PlacementSumsCardSaid : Prop := Claim7.holds Tryz.pinned (.plain (OpenSpec.ofChange placementSumsSpec)) placementSumsCard

/-- THE TIED CARD OF 'exoduslaw23.MovesEffects'. -/
def movesEffectsCard : Claim7 := { stood := { row := movesEffectsRow, standIns := [], harness := (true, "fdc3113d911dc159979603fa5e3d7c3aefe118d2acfcfe54d5c85cd17e010b02"), looks := false }, kinds := [], alts := [], laidByText := true, laidKinds := [.listed, .data], laidTests := true, laidLooks := .later }
def MovesEffectsCardSaid : Prop := Claim7.holds Tryz.pinned (.plain (OpenSpec.ofChange movesEffectsSpec)) movesEffectsCard

/-- THE TIED CARD OF 'exoduslaw23.MovesWhole'. -/
def movesWholeCard : Claim7 := { stood := { row := movesWholeRow, standIns := [], harness := (true, "fdc3113d911dc159979603fa5e3d7c3aefe118d2acfcfe54d5c85cd17e010b02"), looks := false }, kinds := [], alts := [], laidByText := true, laidKinds := [.listed, .data], laidTests := true, laidLooks := .later }
def MovesWholeCardSaid : Prop := Claim7.holds Tryz.pinned (.plain (OpenSpec.ofChange movesWholeSpec)) movesWholeCard

/-- THE SECOND FORM's CARD OF 'exoduslaw20.PlacementInitial'. -/
def placementInitialUptoCard : Claim7 := { stood := { row := placementInitialUptoRow, standIns := [], harness := (true, "fdc3113d911dc159979603fa5e3d7c3aefe118d2acfcfe54d5c85cd17e010b02"), looks := false }, kinds := [], alts := [], laidByText := true, laidKinds := [.listed, .data], laidTests := true, laidLooks := .later }
def PlacementInitialUptoCardSaid : Prop := Claim7.holds Tryz.pinned (.plain (OpenSpec.upto placementInitialSpec)) placementInitialUptoCard

/-- THE SECOND FORM's CARD OF 'exoduslaw20.PlacementValid'. -/
def placementValidUptoCard : Claim7 := { stood := { row := placementValidUptoRow, standIns := [], harness := (true, "fdc3113d911dc159979603fa5e3d7c3aefe118d2acfcfe54d5c85cd17e010b02"), looks := false }, kinds := [], alts := [], laidByText := true, laidKinds := [.listed, .data], laidTests := true, laidLooks := .later }
def PlacementValidUptoCardSaid : Prop := Claim7.holds Tryz.pinned (.plain (OpenSpec.upto placementValidSpec)) placementValidUptoCard

/-- THE SECOND FORM's CARD OF 'exoduslaw20.PlacementOrder'. -/
def placementOrderUptoCard : Claim7 := { stood := { row := placementOrderUptoRow, standIns := [], harness := (true, "fdc3113d911dc159979603fa5e3d7c3aefe118d2acfcfe54d5c85cd17e010b02"), looks := false }, kinds := [], alts := [], laidByText := true, laidKinds := [.listed, .data], laidTests := true, laidLooks := .later }
def PlacementOrderUptoCardSaid : Prop := Claim7.holds Tryz.pinned (.plain (OpenSpec.upto placementOrderSpec)) placementOrderUptoCard

/-- THE SECOND FORM's CARD OF 'exoduslaw20.PlacementChanges'. -/
def placementChangesUptoCard : Claim7 := { stood := { row := placementChangesUptoRow, standIns := [], harness := (true, "fdc3113d911dc159979603fa5e3d7c3aefe118d2acfcfe54d5c85cd17e010b02"), looks := false }, kinds := [], alts := [], laidByText := true, laidKinds := [.listed, .data], laidTests := true, laidLooks := .later }
def PlacementChangesUptoCardSaid : Prop := Claim7.holds Tryz.pinned (.plain (OpenSpec.upto placementChangesSpec)) placementChangesUptoCard

/-- THE SECOND FORM's CARD OF 'exoduslaw20.PlacementSingle'. -/
def placementSingleUptoCard : Claim7 := { stood := { row := placementSingleUptoRow, standIns := [], harness := (true, "fdc3113d911dc159979603fa5e3d7c3aefe118d2acfcfe54d5c85cd17e010b02"), looks := false }, kinds := [], alts := [], laidByText := true, laidKinds := [.listed, .data], laidTests := true, laidLooks := .later }
def PlacementSingleUptoCardSaid : Prop := Claim7.holds Tryz.pinned (.plain (OpenSpec.upto placementSingleSpec)) placementSingleUptoCard

/-- THE SECOND FORM's CARD OF 'exoduslaw20.PlacementCounts'. -/
def placementCountsUptoCard : Claim7 := { stood := { row := placementCountsUptoRow, standIns := [], harness := (true, "fdc3113d911dc159979603fa5e3d7c3aefe118d2acfcfe54d5c85cd17e010b02"), looks := false }, kinds := [], alts := [], laidByText := true, laidKinds := [.listed, .data], laidTests := true, laidLooks := .later }
def PlacementCountsUptoCardSaid : Prop := Claim7.holds Tryz.pinned (.plain (OpenSpec.upto placementCountsSpec)) placementCountsUptoCard

/-- THE SECOND FORM's CARD OF 'exoduslaw20.PlacementSums'. -/
def placementSumsUptoCard : Claim7 := { stood := { row := placementSumsUptoRow, standIns := [], harness := (true, "fdc3113d911dc159979603fa5e3d7c3aefe118d2acfcfe54d5c85cd17e010b02"), looks := false }, kinds := [], alts := [], laidByText := true, laidKinds := [.listed, .data], laidTests := true, laidLooks := .later }
def PlacementSumsUptoCardSaid : Prop := Claim7.holds Tryz.pinned (.plain (OpenSpec.upto placementSumsSpec)) placementSumsUptoCard

/-- THE SECOND FORM's CARD OF 'exoduslaw23.MovesEffects'. -/
def movesEffectsUptoCard : Claim7 := { stood := { row := movesEffectsUptoRow, standIns := [], harness := (true, "fdc3113d911dc159979603fa5e3d7c3aefe118d2acfcfe54d5c85cd17e010b02"), looks := false }, kinds := [], alts := [], laidByText := true, laidKinds := [.listed, .data], laidTests := true, laidLooks := .later }
def MovesEffectsUptoCardSaid : Prop := Claim7.holds Tryz.pinned (.plain (OpenSpec.upto movesEffectsSpec)) movesEffectsUptoCard

/-- THE SECOND FORM's CARD OF 'exoduslaw23.MovesWhole'. -/
def movesWholeUptoCard : Claim7 := { stood := { row := movesWholeUptoRow, standIns := [], harness := (true, "fdc3113d911dc159979603fa5e3d7c3aefe118d2acfcfe54d5c85cd17e010b02"), looks := false }, kinds := [], alts := [], laidByText := true, laidKinds := [.listed, .data], laidTests := true, laidLooks := .later }
def MovesWholeUptoCardSaid : Prop := Claim7.holds Tryz.pinned (.plain (OpenSpec.upto movesWholeSpec)) movesWholeUptoCard
end Rows
end Go.Proofs.YtchpbaaabnkkkaaGreatDoor

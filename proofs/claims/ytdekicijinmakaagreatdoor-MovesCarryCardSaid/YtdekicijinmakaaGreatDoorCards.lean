/-
  DERIVED. GIVEN WITH THE SEED: THE CARDS: each row of YtdekicijinmakaaGreatDoorRows.lean that lists a variable, with what it lists TIED to the program's text (the seventh form; the later family's looks); each row that meets fmt, with fmt's text TOLD by the authors' own Lean function (tested against real Go, not proved from fmt's source: count such statements apart). THE CARD IS WHAT COUNTS. Prove the row's statement (the work); the ties are given (YtdekicijinmakaaGreatDoorTie.lean); close each card by the builder's one call (the guide's Derived/Test/ToyasCard.lean, 'card_holds'). Laid BY PROGRAM, IN A SANDBOX (cutbox-door.mjs). By AI agents, Wed Nov 11 2026. No macro, syntax, notation, axiom, sorry.
-/
import Derived.Test.YtdekicijinmakaaGreatDoorRows
import GoSem.ClaimSeven
namespace Go.Proofs.YtdekicijinmakaaGreatDoor
namespace Rows

/-- THE TIED CARD OF 'exoduslaw23.MovesValid'. -/
def movesValidCard : Claim7 := { stood := { row := movesValidRow, standIns := [], harness := (true, "1e592fb2b725cf06940d1873c52202be6a7c3208d3fe858f11afb135793e644a"), looks := false }, kinds := [], alts := [], laidByText := true, laidKinds := [.listed, .data], laidTests := true, laidLooks := .later }
def MovesValidCardSaid : Prop := Claim7.holds Tryz.pinned (.plain (OpenSpec.ofChange movesValidSpec)) movesValidCard

/-- THE TIED CARD OF 'exoduslaw23.MovesParts'. -/
def movesPartsCard : Claim7 := { stood := { row := movesPartsRow, standIns := [], harness := (true, "1e592fb2b725cf06940d1873c52202be6a7c3208d3fe858f11afb135793e644a"), looks := false }, kinds := [], alts := [], laidByText := true, laidKinds := [.listed, .data], laidTests := true, laidLooks := .later }
def MovesPartsCardSaid : Prop := Claim7.holds Tryz.pinned (.plain (OpenSpec.ofChange movesPartsSpec)) movesPartsCard

/-- THE TIED CARD OF 'exoduslaw23.MovesCandidates'. -/
def movesCandidatesCard : Claim7 := { stood := { row := movesCandidatesRow, standIns := [], harness := (true, "1e592fb2b725cf06940d1873c52202be6a7c3208d3fe858f11afb135793e644a"), looks := false }, kinds := [], alts := [], laidByText := true, laidKinds := [.listed, .data], laidTests := true, laidLooks := .later }
def MovesCandidatesCardSaid : Prop := Claim7.holds Tryz.pinned (.plain (OpenSpec.ofChange movesCandidatesSpec)) movesCandidatesCard

/-- THE TIED CARD OF 'exoduslaw23.MovesOrder'. -/
def movesOrderCard : Claim7 := { stood := { row := movesOrderRow, standIns := [], harness := (true, "1e592fb2b725cf06940d1873c52202be6a7c3208d3fe858f11afb135793e644a"), looks := false }, kinds := [], alts := [], laidByText := true, laidKinds := [.listed, .data], laidTests := true, laidLooks := .later }
def MovesOrderCardSaid : Prop := Claim7.holds Tryz.pinned (.plain (OpenSpec.ofChange movesOrderSpec)) movesOrderCard

/-- THE TIED CARD OF 'exoduslaw23.MovesCarry'. -/
def movesCarryCard : Claim7 := { stood := { row := movesCarryRow, standIns := [], harness := (true, "1e592fb2b725cf06940d1873c52202be6a7c3208d3fe858f11afb135793e644a"), looks := false }, kinds := [], alts := [], laidByText := true, laidKinds := [.listed, .data], laidTests := true, laidLooks := .later }
def MovesCarryCardSaid : Prop := Claim7.holds Tryz.pinned (.plain (OpenSpec.ofChange movesCarrySpec)) movesCarryCard

/-- THE TIED CARD OF 'exoduslaw23.MovesEffects'. -/
def movesEffectsCard : Claim7 := { stood := { row := movesEffectsRow, standIns := [], harness := (true, "1e592fb2b725cf06940d1873c52202be6a7c3208d3fe858f11afb135793e644a"), looks := false }, kinds := [], alts := [], laidByText := true, laidKinds := [.listed, .data], laidTests := true, laidLooks := .later }
def MovesEffectsCardSaid : Prop := Claim7.holds Tryz.pinned (.plain (OpenSpec.ofChange movesEffectsSpec)) movesEffectsCard

/-- THE TIED CARD OF 'exoduslaw23.MovesWhole'. -/
def movesWholeCard : Claim7 := { stood := { row := movesWholeRow, standIns := [], harness := (true, "1e592fb2b725cf06940d1873c52202be6a7c3208d3fe858f11afb135793e644a"), looks := false }, kinds := [], alts := [], laidByText := true, laidKinds := [.listed, .data], laidTests := true, laidLooks := .later }
def MovesWholeCardSaid : Prop := Claim7.holds Tryz.pinned (.plain (OpenSpec.ofChange movesWholeSpec)) movesWholeCard

/-- THE SECOND FORM's CARD OF 'exoduslaw23.MovesValid'. -/
def movesValidUptoCard : Claim7 := { stood := { row := movesValidUptoRow, standIns := [], harness := (true, "1e592fb2b725cf06940d1873c52202be6a7c3208d3fe858f11afb135793e644a"), looks := false }, kinds := [], alts := [], laidByText := true, laidKinds := [.listed, .data], laidTests := true, laidLooks := .later }
def MovesValidUptoCardSaid : Prop := Claim7.holds Tryz.pinned (.plain (OpenSpec.upto movesValidSpec)) movesValidUptoCard

/-- THE SECOND FORM's CARD OF 'exoduslaw23.MovesParts'. -/
def movesPartsUptoCard : Claim7 := { stood := { row := movesPartsUptoRow, standIns := [], harness := (true, "1e592fb2b725cf06940d1873c52202be6a7c3208d3fe858f11afb135793e644a"), looks := false }, kinds := [], alts := [], laidByText := true, laidKinds := [.listed, .data], laidTests := true, laidLooks := .later }
def MovesPartsUptoCardSaid : Prop := Claim7.holds Tryz.pinned (.plain (OpenSpec.upto movesPartsSpec)) movesPartsUptoCard

/-- THE SECOND FORM's CARD OF 'exoduslaw23.MovesCandidates'. -/
def movesCandidatesUptoCard : Claim7 := { stood := { row := movesCandidatesUptoRow, standIns := [], harness := (true, "1e592fb2b725cf06940d1873c52202be6a7c3208d3fe858f11afb135793e644a"), looks := false }, kinds := [], alts := [], laidByText := true, laidKinds := [.listed, .data], laidTests := true, laidLooks := .later }
def MovesCandidatesUptoCardSaid : Prop := Claim7.holds Tryz.pinned (.plain (OpenSpec.upto movesCandidatesSpec)) movesCandidatesUptoCard

/-- THE SECOND FORM's CARD OF 'exoduslaw23.MovesOrder'. -/
def movesOrderUptoCard : Claim7 := { stood := { row := movesOrderUptoRow, standIns := [], harness := (true, "1e592fb2b725cf06940d1873c52202be6a7c3208d3fe858f11afb135793e644a"), looks := false }, kinds := [], alts := [], laidByText := true, laidKinds := [.listed, .data], laidTests := true, laidLooks := .later }
def MovesOrderUptoCardSaid : Prop := Claim7.holds Tryz.pinned (.plain (OpenSpec.upto movesOrderSpec)) movesOrderUptoCard

/-- THE SECOND FORM's CARD OF 'exoduslaw23.MovesCarry'. -/
def movesCarryUptoCard : Claim7 := { stood := { row := movesCarryUptoRow, standIns := [], harness := (true, "1e592fb2b725cf06940d1873c52202be6a7c3208d3fe858f11afb135793e644a"), looks := false }, kinds := [], alts := [], laidByText := true, laidKinds := [.listed, .data], laidTests := true, laidLooks := .later }
def MovesCarryUptoCardSaid : Prop := Claim7.holds Tryz.pinned (.plain (OpenSpec.upto movesCarrySpec)) movesCarryUptoCard

/-- THE SECOND FORM's CARD OF 'exoduslaw23.MovesEffects'. -/
def movesEffectsUptoCard : Claim7 := { stood := { row := movesEffectsUptoRow, standIns := [], harness := (true, "1e592fb2b725cf06940d1873c52202be6a7c3208d3fe858f11afb135793e644a"), looks := false }, kinds := [], alts := [], laidByText := true, laidKinds := [.listed, .data], laidTests := true, laidLooks := .later }
def MovesEffectsUptoCardSaid : Prop := Claim7.holds Tryz.pinned (.plain (OpenSpec.upto movesEffectsSpec)) movesEffectsUptoCard

/-- THE SECOND FORM's CARD OF 'exoduslaw23.MovesWhole'. -/
def movesWholeUptoCard : Claim7 := { stood := { row := movesWholeUptoRow, standIns := [], harness := (true, "1e592fb2b725cf06940d1873c52202be6a7c3208d3fe858f11afb135793e644a"), looks := false }, kinds := [], alts := [], laidByText := true, laidKinds := [.listed, .data], laidTests := true, laidLooks := .later }
def MovesWholeUptoCardSaid : Prop := Claim7.holds Tryz.pinned (.plain (OpenSpec.upto movesWholeSpec)) movesWholeUptoCard
end Rows
end Go.Proofs.YtdekicijinmakaaGreatDoor

/-
  DERIVED. GIVEN WITH THE SEED: THE CARDS: each row of YtnlocdijdfclcaaGreatDoorRows.lean that lists a variable, with what it lists TIED to the program's text (the seventh form; the later family's looks); each row that meets fmt, with fmt's text TOLD by the authors' own Lean function (tested against real Go, not proved from fmt's source: count such statements apart). THE CARD IS WHAT COUNTS. Prove the row's statement (the work); the ties are given (YtnlocdijdfclcaaGreatDoorTie.lean); close each card by the builder's one call (the guide's Derived/Test/ToyasCard.lean, 'card_holds'). Laid BY PROGRAM, IN A SANDBOX (cutbox-door.mjs). By AI agents, Wed Nov 11 2026. No macro, syntax, notation, axiom, sorry.
-/
import Derived.Test.YtnlocdijdfclcaaGreatDoorRows
import GoSem.ClaimSeven
namespace Go.Proofs.YtnlocdijdfclcaaGreatDoor
namespace Rows

/-- THE TIED CARD OF 'exoduslaw23.MovesEffects'. -/
def movesEffectsCard : Claim7 := { stood := { row := movesEffectsRow, standIns := [], harness := (true, "e4fbaed08ebbc54791f01cbd259afa46ae6086cc578462801b8d4b9fd30eb8bc"), looks := false }, kinds := [], alts := [], laidByText := true, laidKinds := [.listed, .data], laidTests := true, laidLooks := .later }
def MovesEffectsCardSaid : Prop := Claim7.holds Tryz.pinned (.plain (OpenSpec.ofChange movesEffectsSpec)) movesEffectsCard

/-- THE TIED CARD OF 'exoduslaw23.MovesWhole'. -/
def movesWholeCard : Claim7 := { stood := { row := movesWholeRow, standIns := [], harness := (true, "e4fbaed08ebbc54791f01cbd259afa46ae6086cc578462801b8d4b9fd30eb8bc"), looks := false }, kinds := [], alts := [], laidByText := true, laidKinds := [.listed, .data], laidTests := true, laidLooks := .later }
def MovesWholeCardSaid : Prop := Claim7.holds Tryz.pinned (.plain (OpenSpec.ofChange movesWholeSpec)) movesWholeCard

/-- THE SECOND FORM's CARD OF 'exoduslaw23.MovesEffects'. -/
def movesEffectsUptoCard : Claim7 := { stood := { row := movesEffectsUptoRow, standIns := [], harness := (true, "e4fbaed08ebbc54791f01cbd259afa46ae6086cc578462801b8d4b9fd30eb8bc"), looks := false }, kinds := [], alts := [], laidByText := true, laidKinds := [.listed, .data], laidTests := true, laidLooks := .later }
def MovesEffectsUptoCardSaid : Prop := Claim7.holds Tryz.pinned (.plain (OpenSpec.upto movesEffectsSpec)) movesEffectsUptoCard

/-- THE SECOND FORM's CARD OF 'exoduslaw23.MovesWhole'. -/
def movesWholeUptoCard : Claim7 := { stood := { row := movesWholeUptoRow, standIns := [], harness := (true, "e4fbaed08ebbc54791f01cbd259afa46ae6086cc578462801b8d4b9fd30eb8bc"), looks := false }, kinds := [], alts := [], laidByText := true, laidKinds := [.listed, .data], laidTests := true, laidLooks := .later }
def MovesWholeUptoCardSaid : Prop := Claim7.holds Tryz.pinned (.plain (OpenSpec.upto movesWholeSpec)) movesWholeUptoCard
end Rows
end Go.Proofs.YtnlocdijdfclcaaGreatDoor

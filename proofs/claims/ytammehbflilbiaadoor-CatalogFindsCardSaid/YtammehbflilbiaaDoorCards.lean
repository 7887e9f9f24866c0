/-
  DERIVED. GIVEN WITH THE SEED: THE CARDS: each row of YtammehbflilbiaaDoorRows.lean that lists a variable, with what it lists TIED to the program's text (the seventh form; the later family's looks); each row that meets fmt, with fmt's text TOLD by the authors' own Lean function (tested against real Go, not proved from fmt's source: count such statements apart). THE CARD IS WHAT COUNTS. Prove the row's statement (the work); the ties are given (YtammehbflilbiaaDoorTie.lean); close each card by the builder's one call (the guide's Derived/Test/ToyasCard.lean, 'card_holds'). Laid BY PROGRAM, IN A SANDBOX (cutbox-door.mjs). By AI agents, Wed Nov 11 2026. No macro, syntax, notation, axiom, sorry.
-/
import Derived.Test.YtammehbflilbiaaDoorRows
import GoSem.ClaimSeven
namespace Go.Proofs.YtammehbflilbiaaDoor
namespace Rows

/-- THE TIED CARD OF 'exoduslaw15.CatalogNames'. -/
def catalogNamesCard : Claim7 := { stood := { row := catalogNamesRow, standIns := [], harness := (true, "b05192d313441273c82e1839cb06d709be6519cf1a0133b4aed014f211906866"), looks := false }, kinds := [], alts := [], laidByText := true, laidKinds := [.listed, .data], laidTests := true, laidLooks := .later }
def CatalogNamesCardSaid : Prop := Claim7.holds Tryd.pinned (.plain (OpenSpec.ofChange catalogNamesSpec)) catalogNamesCard

/-- THE TIED CARD OF 'exoduslaw15.CatalogFinds'. -/
def catalogFindsCard : Claim7 := { stood := { row := catalogFindsRow, standIns := [], harness := (true, "b05192d313441273c82e1839cb06d709be6519cf1a0133b4aed014f211906866"), looks := false }, kinds := [], alts := [], laidByText := true, laidKinds := [.listed, .data], laidTests := true, laidLooks := .later }
def CatalogFindsCardSaid : Prop := Claim7.holds Tryd.pinned (.plain (OpenSpec.ofChange catalogFindsSpec)) catalogFindsCard

/-- THE SECOND FORM's CARD OF 'exoduslaw15.CatalogNames'. -/
def catalogNamesUptoCard : Claim7 := { stood := { row := catalogNamesUptoRow, standIns := [], harness := (true, "b05192d313441273c82e1839cb06d709be6519cf1a0133b4aed014f211906866"), looks := false }, kinds := [], alts := [], laidByText := true, laidKinds := [.listed, .data], laidTests := true, laidLooks := .later }
def CatalogNamesUptoCardSaid : Prop := Claim7.holds Tryd.pinned (.plain (OpenSpec.upto catalogNamesSpec)) catalogNamesUptoCard

/-- THE SECOND FORM's CARD OF 'exoduslaw15.CatalogFinds'. -/
def catalogFindsUptoCard : Claim7 := { stood := { row := catalogFindsUptoRow, standIns := [], harness := (true, "b05192d313441273c82e1839cb06d709be6519cf1a0133b4aed014f211906866"), looks := false }, kinds := [], alts := [], laidByText := true, laidKinds := [.listed, .data], laidTests := true, laidLooks := .later }
def CatalogFindsUptoCardSaid : Prop := Claim7.holds Tryd.pinned (.plain (OpenSpec.upto catalogFindsSpec)) catalogFindsUptoCard
end Rows
end Go.Proofs.YtammehbflilbiaaDoor

/-
  DERIVED. GIVEN WITH THE SEED: THE CARDS: each row of YtammehbflilbiaaGreatDoorRows.lean that lists a variable, with what it lists TIED to the program's text (the seventh form; the later family's looks); each row that meets fmt, with fmt's text TOLD by the authors' own Lean function (tested against real Go, not proved from fmt's source: count such statements apart). THE CARD IS WHAT COUNTS. Prove the row's statement (the work); the ties are given (YtammehbflilbiaaGreatDoorTie.lean); close each card by the builder's one call (the guide's Derived/Test/ToyasCard.lean, 'card_holds'). Laid BY PROGRAM, IN A SANDBOX (cutbox-door.mjs). By AI agents, Wed Nov 11 2026. No macro, syntax, notation, axiom, sorry.
-/
import Derived.Test.YtammehbflilbiaaGreatDoorRows
import GoSem.ClaimSeven
namespace Go.Proofs.YtammehbflilbiaaGreatDoor
namespace Rows

/-- THE TIED CARD OF 'exoduslaw15.CatalogValid'. -/
def catalogValidCard : Claim7 := { stood := { row := catalogValidRow, standIns := [], harness := (true, "99aed7a0a29f87b055663d5c25d623f2eb099d482bd0325ef9bdc6320526c46f"), looks := false }, kinds := [], alts := [], laidByText := true, laidKinds := [.listed, .data], laidTests := true, laidLooks := .later }
def CatalogValidCardSaid : Prop := Claim7.holds Tryz.pinned (.plain (OpenSpec.ofChange catalogValidSpec)) catalogValidCard

/-- THE TIED CARD OF 'exoduslaw15.CatalogNamed'. -/
def catalogNamedCard : Claim7 := { stood := { row := catalogNamedRow, standIns := [], harness := (true, "99aed7a0a29f87b055663d5c25d623f2eb099d482bd0325ef9bdc6320526c46f"), looks := false }, kinds := [], alts := [], laidByText := true, laidKinds := [.listed, .data], laidTests := true, laidLooks := .later }
def CatalogNamedCardSaid : Prop := Claim7.holds Tryz.pinned (.plain (OpenSpec.ofChange catalogNamedSpec)) catalogNamedCard

/-- THE TIED CARD OF 'exoduslaw15.CatalogSums'. -/
def catalogSumsCard : Claim7 := { stood := { row := catalogSumsRow, standIns := [], harness := (true, "99aed7a0a29f87b055663d5c25d623f2eb099d482bd0325ef9bdc6320526c46f"), looks := false }, kinds := [], alts := [], laidByText := true, laidKinds := [.listed, .data], laidTests := true, laidLooks := .later }
def CatalogSumsCardSaid : Prop := Claim7.holds Tryz.pinned (.plain (OpenSpec.ofChange catalogSumsSpec)) catalogSumsCard

/-- THE TIED CARD OF 'exoduslaw15.CatalogRenames'. -/
def catalogRenamesCard : Claim7 := { stood := { row := catalogRenamesRow, standIns := [], harness := (true, "99aed7a0a29f87b055663d5c25d623f2eb099d482bd0325ef9bdc6320526c46f"), looks := false }, kinds := [], alts := [], laidByText := true, laidKinds := [.listed, .data], laidTests := true, laidLooks := .later }
def CatalogRenamesCardSaid : Prop := Claim7.holds Tryz.pinned (.plain (OpenSpec.ofChange catalogRenamesSpec)) catalogRenamesCard

/-- THE SECOND FORM's CARD OF 'exoduslaw15.CatalogValid'. -/
def catalogValidUptoCard : Claim7 := { stood := { row := catalogValidUptoRow, standIns := [], harness := (true, "99aed7a0a29f87b055663d5c25d623f2eb099d482bd0325ef9bdc6320526c46f"), looks := false }, kinds := [], alts := [], laidByText := true, laidKinds := [.listed, .data], laidTests := true, laidLooks := .later }
def CatalogValidUptoCardSaid : Prop := Claim7.holds Tryz.pinned (.plain (OpenSpec.upto catalogValidSpec)) catalogValidUptoCard

/-- THE SECOND FORM's CARD OF 'exoduslaw15.CatalogNamed'. -/
def catalogNamedUptoCard : Claim7 := { stood := { row := catalogNamedUptoRow, standIns := [], harness := (true, "99aed7a0a29f87b055663d5c25d623f2eb099d482bd0325ef9bdc6320526c46f"), looks := false }, kinds := [], alts := [], laidByText := true, laidKinds := [.listed, .data], laidTests := true, laidLooks := .later }
def CatalogNamedUptoCardSaid : Prop := Claim7.holds Tryz.pinned (.plain (OpenSpec.upto catalogNamedSpec)) catalogNamedUptoCard

/-- THE SECOND FORM's CARD OF 'exoduslaw15.CatalogSums'. -/
def catalogSumsUptoCard : Claim7 := { stood := { row := catalogSumsUptoRow, standIns := [], harness := (true, "99aed7a0a29f87b055663d5c25d623f2eb099d482bd0325ef9bdc6320526c46f"), looks := false }, kinds := [], alts := [], laidByText := true, laidKinds := [.listed, .data], laidTests := true, laidLooks := .later }
def CatalogSumsUptoCardSaid : Prop := Claim7.holds Tryz.pinned (.plain (OpenSpec.upto catalogSumsSpec)) catalogSumsUptoCard

/-- THE SECOND FORM's CARD OF 'exoduslaw15.CatalogRenames'. -/
def catalogRenamesUptoCard : Claim7 := { stood := { row := catalogRenamesUptoRow, standIns := [], harness := (true, "99aed7a0a29f87b055663d5c25d623f2eb099d482bd0325ef9bdc6320526c46f"), looks := false }, kinds := [], alts := [], laidByText := true, laidKinds := [.listed, .data], laidTests := true, laidLooks := .later }
def CatalogRenamesUptoCardSaid : Prop := Claim7.holds Tryz.pinned (.plain (OpenSpec.upto catalogRenamesSpec)) catalogRenamesUptoCard
end Rows
end Go.Proofs.YtammehbflilbiaaGreatDoor

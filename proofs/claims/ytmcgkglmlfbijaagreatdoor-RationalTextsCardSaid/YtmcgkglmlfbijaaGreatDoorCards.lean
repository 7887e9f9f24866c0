/-
  DERIVED. GIVEN WITH THE SEED: THE CARDS: each row of YtmcgkglmlfbijaaGreatDoorRows.lean that lists a variable, with what it lists TIED to the program's text (the seventh form; the later family's looks); each row that meets fmt, with fmt's text TOLD by the authors' own Lean function (tested against real Go, not proved from fmt's source: count such statements apart). THE CARD IS WHAT COUNTS. Prove the row's statement (the work); the ties are given (YtmcgkglmlfbijaaGreatDoorTie.lean); close each card by the builder's one call (the guide's Derived/Test/ToyasCard.lean, 'card_holds'). Laid BY PROGRAM, IN A SANDBOX (cutbox-door.mjs). By AI agents, Wed Nov 11 2026. No macro, syntax, notation, axiom, sorry.
-/
import Derived.Test.YtmcgkglmlfbijaaGreatDoorRows
import GoSem.ClaimSeven
namespace Go.Proofs.YtmcgkglmlfbijaaGreatDoor
namespace Rows

/-- THE TIED CARD OF 'exoduslaw03.RationalRounds'. -/
def rationalRoundsCard : Claim7 := { stood := { row := rationalRoundsRow, standIns := [], harness := (true, "0a0a8452eee2c0af8ecdca7eb1b4b87cbe89c2d6655d611f9cadb04f5bb8a0aa"), looks := false }, kinds := [], alts := [], laidByText := true, laidKinds := [.data, .data, .data], laidTests := true, laidLooks := .later }
def RationalRoundsCardSaid : Prop := Claim7.holds Tryz.pinned (.plain (OpenSpec.ofChange rationalRoundsSpec)) rationalRoundsCard

/-- THE TIED CARD OF 'exoduslaw03.RationalLowest'. -/
def rationalLowestCard : Claim7 := { stood := { row := rationalLowestRow, standIns := [], harness := (true, "0a0a8452eee2c0af8ecdca7eb1b4b87cbe89c2d6655d611f9cadb04f5bb8a0aa"), looks := false }, kinds := [], alts := [], laidByText := true, laidKinds := [.data, .data, .data], laidTests := true, laidLooks := .later }
def RationalLowestCardSaid : Prop := Claim7.holds Tryz.pinned (.plain (OpenSpec.ofChange rationalLowestSpec)) rationalLowestCard

/-- THE TIED CARD OF 'exoduslaw03.RationalOrder'. -/
def rationalOrderCard : Claim7 := { stood := { row := rationalOrderRow, standIns := [], harness := (true, "0a0a8452eee2c0af8ecdca7eb1b4b87cbe89c2d6655d611f9cadb04f5bb8a0aa"), looks := false }, kinds := [], alts := [], laidByText := true, laidKinds := [.data, .data, .data], laidTests := true, laidLooks := .later }
def RationalOrderCardSaid : Prop := Claim7.holds Tryz.pinned (.plain (OpenSpec.ofChange rationalOrderSpec)) rationalOrderCard

/-- THE TIED CARD OF 'exoduslaw03.RationalField'. -/
def rationalFieldCard : Claim7 := { stood := { row := rationalFieldRow, standIns := [], harness := (true, "0a0a8452eee2c0af8ecdca7eb1b4b87cbe89c2d6655d611f9cadb04f5bb8a0aa"), looks := false }, kinds := [], alts := [], laidByText := true, laidKinds := [.data, .data, .data], laidTests := true, laidLooks := .later }
def RationalFieldCardSaid : Prop := Claim7.holds Tryz.pinned (.plain (OpenSpec.ofChange rationalFieldSpec)) rationalFieldCard

/-- THE TIED CARD OF 'exoduslaw03.RationalSums'. -/
def rationalSumsCard : Claim7 := { stood := { row := rationalSumsRow, standIns := [], harness := (true, "0a0a8452eee2c0af8ecdca7eb1b4b87cbe89c2d6655d611f9cadb04f5bb8a0aa"), looks := false }, kinds := [], alts := [], laidByText := true, laidKinds := [.data, .data, .data], laidTests := true, laidLooks := .later }
def RationalSumsCardSaid : Prop := Claim7.holds Tryz.pinned (.plain (OpenSpec.ofChange rationalSumsSpec)) rationalSumsCard

/-- THE TIED CARD OF 'exoduslaw03.RationalForms'. -/
def rationalFormsCard : Claim7 := { stood := { row := rationalFormsRow, standIns := [], harness := (true, "0a0a8452eee2c0af8ecdca7eb1b4b87cbe89c2d6655d611f9cadb04f5bb8a0aa"), looks := false }, kinds := [], alts := [], laidByText := true, laidKinds := [.data, .data, .data], laidTests := true, laidLooks := .later }
def RationalFormsCardSaid : Prop := Claim7.holds Tryz.pinned (.plain (OpenSpec.ofChange rationalFormsSpec)) rationalFormsCard

/-- THE TIED CARD OF 'exoduslaw03.RationalTexts'. -/
def rationalTextsCard : Claim7 := { stood := { row := rationalTextsRow, standIns := [], harness := (true, "0a0a8452eee2c0af8ecdca7eb1b4b87cbe89c2d6655d611f9cadb04f5bb8a0aa"), looks := false }, kinds := [], alts := [], laidByText := true, laidKinds := [.data, .data, .data], laidTests := true, laidLooks := .later }
def RationalTextsCardSaid : Prop := Claim7.holds Tryz.pinned (.plain (OpenSpec.ofChange rationalTextsSpec)) rationalTextsCard

/-- THE SECOND FORM's CARD OF 'exoduslaw03.RationalRounds'. -/
def rationalRoundsUptoCard : Claim7 := { stood := { row := rationalRoundsUptoRow, standIns := [], harness := (true, "0a0a8452eee2c0af8ecdca7eb1b4b87cbe89c2d6655d611f9cadb04f5bb8a0aa"), looks := false }, kinds := [], alts := [], laidByText := true, laidKinds := [.data, .data, .data], laidTests := true, laidLooks := .later }
def RationalRoundsUptoCardSaid : Prop := Claim7.holds Tryz.pinned (.plain (OpenSpec.upto rationalRoundsSpec)) rationalRoundsUptoCard

/-- THE SECOND FORM's CARD OF 'exoduslaw03.RationalLowest'. -/
def rationalLowestUptoCard : Claim7 := { stood := { row := rationalLowestUptoRow, standIns := [], harness := (true, "0a0a8452eee2c0af8ecdca7eb1b4b87cbe89c2d6655d611f9cadb04f5bb8a0aa"), looks := false }, kinds := [], alts := [], laidByText := true, laidKinds := [.data, .data, .data], laidTests := true, laidLooks := .later }
def RationalLowestUptoCardSaid : Prop := Claim7.holds Tryz.pinned (.plain (OpenSpec.upto rationalLowestSpec)) rationalLowestUptoCard

/-- THE SECOND FORM's CARD OF 'exoduslaw03.RationalOrder'. -/
def rationalOrderUptoCard : Claim7 := { stood := { row := rationalOrderUptoRow, standIns := [], harness := (true, "0a0a8452eee2c0af8ecdca7eb1b4b87cbe89c2d6655d611f9cadb04f5bb8a0aa"), looks := false }, kinds := [], alts := [], laidByText := true, laidKinds := [.data, .data, .data], laidTests := true, laidLooks := .later }
def RationalOrderUptoCardSaid : Prop := Claim7.holds Tryz.pinned (.plain (OpenSpec.upto rationalOrderSpec)) rationalOrderUptoCard

/-- THE SECOND FORM's CARD OF 'exoduslaw03.RationalField'. -/
def rationalFieldUptoCard : Claim7 := { stood := { row := rationalFieldUptoRow, standIns := [], harness := (true, "0a0a8452eee2c0af8ecdca7eb1b4b87cbe89c2d6655d611f9cadb04f5bb8a0aa"), looks := false }, kinds := [], alts := [], laidByText := true, laidKinds := [.data, .data, .data], laidTests := true, laidLooks := .later }
def RationalFieldUptoCardSaid : Prop := Claim7.holds Tryz.pinned (.plain (OpenSpec.upto rationalFieldSpec)) rationalFieldUptoCard

/-- THE SECOND FORM's CARD OF 'exoduslaw03.RationalSums'. -/
def rationalSumsUptoCard : Claim7 := { stood := { row := rationalSumsUptoRow, standIns := [], harness := (true, "0a0a8452eee2c0af8ecdca7eb1b4b87cbe89c2d6655d611f9cadb04f5bb8a0aa"), looks := false }, kinds := [], alts := [], laidByText := true, laidKinds := [.data, .data, .data], laidTests := true, laidLooks := .later }
def RationalSumsUptoCardSaid : Prop := Claim7.holds Tryz.pinned (.plain (OpenSpec.upto rationalSumsSpec)) rationalSumsUptoCard

/-- THE SECOND FORM's CARD OF 'exoduslaw03.RationalForms'. -/
def rationalFormsUptoCard : Claim7 := { stood := { row := rationalFormsUptoRow, standIns := [], harness := (true, "0a0a8452eee2c0af8ecdca7eb1b4b87cbe89c2d6655d611f9cadb04f5bb8a0aa"), looks := false }, kinds := [], alts := [], laidByText := true, laidKinds := [.data, .data, .data], laidTests := true, laidLooks := .later }
def RationalFormsUptoCardSaid : Prop := Claim7.holds Tryz.pinned (.plain (OpenSpec.upto rationalFormsSpec)) rationalFormsUptoCard

/-- THE SECOND FORM's CARD OF 'exoduslaw03.RationalTexts'. -/
def rationalTextsUptoCard : Claim7 := { stood := { row := rationalTextsUptoRow, standIns := [], harness := (true, "0a0a8452eee2c0af8ecdca7eb1b4b87cbe89c2d6655d611f9cadb04f5bb8a0aa"), looks := false }, kinds := [], alts := [], laidByText := true, laidKinds := [.data, .data, .data], laidTests := true, laidLooks := .later }
def RationalTextsUptoCardSaid : Prop := Claim7.holds Tryz.pinned (.plain (OpenSpec.upto rationalTextsSpec)) rationalTextsUptoCard
end Rows
end Go.Proofs.YtmcgkglmlfbijaaGreatDoor

/-
  DERIVED. GIVEN WITH THE SEED: THE CARDS: each row of YtakcolmgbahgiaaDoorRows.lean that lists a variable, with what it lists TIED to the program's text (the seventh form; the later family's looks); each row that meets fmt, with fmt's text TOLD by the authors' own Lean function (tested against real Go, not proved from fmt's source: count such statements apart). THE CARD IS WHAT COUNTS. Prove the row's statement (the work); the ties are given (YtakcolmgbahgiaaDoorTie.lean); close each card by the builder's one call (the guide's Derived/Test/ToyasCard.lean, 'card_holds'). Laid BY PROGRAM, IN A SANDBOX (cutbox-door.mjs). By AI agents, Wed Nov 11 2026. No macro, syntax, notation, axiom, sorry.
-/
import Derived.Test.YtakcolmgbahgiaaDoorRows
import GoSem.ClaimSeven
namespace Go.Proofs.YtakcolmgbahgiaaDoor
namespace Rows

/-- THE TIED CARD OF 'exoduslaw16.LexerScans'. -/
def lexerScansCard : Claim7 := { stood := { row := lexerScansRow, standIns := [], harness := (true, "2e885c7c3ff2a6d15133e21ace34bdec954aa09282e2608a8d4dc8ac4d0e1e52"), looks := false }, kinds := [], alts := [], laidByText := true, laidKinds := [.listed, .data], laidTests := true, laidLooks := .later }
def LexerScansCardSaid : Prop := Claim7.holds Tryd.pinned (.plain (OpenSpec.ofChange lexerScansSpec)) lexerScansCard

/-- THE TIED CARD OF 'exoduslaw16.LexerLines'. -/
def lexerLinesCard : Claim7 := { stood := { row := lexerLinesRow, standIns := [], harness := (true, "2e885c7c3ff2a6d15133e21ace34bdec954aa09282e2608a8d4dc8ac4d0e1e52"), looks := false }, kinds := [], alts := [], laidByText := true, laidKinds := [.listed, .data], laidTests := true, laidLooks := .later }
def LexerLinesCardSaid : Prop := Claim7.holds Tryd.pinned (.plain (OpenSpec.ofChange lexerLinesSpec)) lexerLinesCard

/-- THE TIED CARD OF 'exoduslaw16.LexerCovers'. -/
def lexerCoversCard : Claim7 := { stood := { row := lexerCoversRow, standIns := [], harness := (true, "2e885c7c3ff2a6d15133e21ace34bdec954aa09282e2608a8d4dc8ac4d0e1e52"), looks := false }, kinds := [], alts := [], laidByText := true, laidKinds := [.listed, .data], laidTests := true, laidLooks := .later }
def LexerCoversCardSaid : Prop := Claim7.holds Tryd.pinned (.plain (OpenSpec.ofChange lexerCoversSpec)) lexerCoversCard

/-- THE TIED CARD OF 'exoduslaw16.LexerAgain'. -/
def lexerAgainCard : Claim7 := { stood := { row := lexerAgainRow, standIns := [], harness := (true, "2e885c7c3ff2a6d15133e21ace34bdec954aa09282e2608a8d4dc8ac4d0e1e52"), looks := false }, kinds := [], alts := [], laidByText := true, laidKinds := [.listed, .data], laidTests := true, laidLooks := .later }
def LexerAgainCardSaid : Prop := Claim7.holds Tryd.pinned (.plain (OpenSpec.ofChange lexerAgainSpec)) lexerAgainCard

/-- THE TIED CARD OF 'exoduslaw16.LexerComments'. -/
def lexerCommentsCard : Claim7 := { stood := { row := lexerCommentsRow, standIns := [], harness := (true, "2e885c7c3ff2a6d15133e21ace34bdec954aa09282e2608a8d4dc8ac4d0e1e52"), looks := false }, kinds := [], alts := [], laidByText := true, laidKinds := [.listed, .data], laidTests := true, laidLooks := .later }
def LexerCommentsCardSaid : Prop := Claim7.holds Tryd.pinned (.plain (OpenSpec.ofChange lexerCommentsSpec)) lexerCommentsCard

/-- THE TIED CARD OF 'exoduslaw16.LexerWords'. -/
def lexerWordsCard : Claim7 := { stood := { row := lexerWordsRow, standIns := [], harness := (true, "2e885c7c3ff2a6d15133e21ace34bdec954aa09282e2608a8d4dc8ac4d0e1e52"), looks := false }, kinds := [], alts := [], laidByText := true, laidKinds := [.listed, .data], laidTests := true, laidLooks := .later }
def LexerWordsCardSaid : Prop := Claim7.holds Tryd.pinned (.plain (OpenSpec.ofChange lexerWordsSpec)) lexerWordsCard

/-- THE SECOND FORM's CARD OF 'exoduslaw16.LexerScans'. -/
def lexerScansUptoCard : Claim7 := { stood := { row := lexerScansUptoRow, standIns := [], harness := (true, "2e885c7c3ff2a6d15133e21ace34bdec954aa09282e2608a8d4dc8ac4d0e1e52"), looks := false }, kinds := [], alts := [], laidByText := true, laidKinds := [.listed, .data], laidTests := true, laidLooks := .later }
def LexerScansUptoCardSaid : Prop := Claim7.holds Tryd.pinned (.plain (OpenSpec.upto lexerScansSpec)) lexerScansUptoCard

/-- THE SECOND FORM's CARD OF 'exoduslaw16.LexerLines'. -/
def lexerLinesUptoCard : Claim7 := { stood := { row := lexerLinesUptoRow, standIns := [], harness := (true, "2e885c7c3ff2a6d15133e21ace34bdec954aa09282e2608a8d4dc8ac4d0e1e52"), looks := false }, kinds := [], alts := [], laidByText := true, laidKinds := [.listed, .data], laidTests := true, laidLooks := .later }
def LexerLinesUptoCardSaid : Prop := Claim7.holds Tryd.pinned (.plain (OpenSpec.upto lexerLinesSpec)) lexerLinesUptoCard

/-- THE SECOND FORM's CARD OF 'exoduslaw16.LexerCovers'. -/
def lexerCoversUptoCard : Claim7 := { stood := { row := lexerCoversUptoRow, standIns := [], harness := (true, "2e885c7c3ff2a6d15133e21ace34bdec954aa09282e2608a8d4dc8ac4d0e1e52"), looks := false }, kinds := [], alts := [], laidByText := true, laidKinds := [.listed, .data], laidTests := true, laidLooks := .later }
def LexerCoversUptoCardSaid : Prop := Claim7.holds Tryd.pinned (.plain (OpenSpec.upto lexerCoversSpec)) lexerCoversUptoCard

/-- THE SECOND FORM's CARD OF 'exoduslaw16.LexerAgain'. -/
def lexerAgainUptoCard : Claim7 := { stood := { row := lexerAgainUptoRow, standIns := [], harness := (true, "2e885c7c3ff2a6d15133e21ace34bdec954aa09282e2608a8d4dc8ac4d0e1e52"), looks := false }, kinds := [], alts := [], laidByText := true, laidKinds := [.listed, .data], laidTests := true, laidLooks := .later }
def LexerAgainUptoCardSaid : Prop := Claim7.holds Tryd.pinned (.plain (OpenSpec.upto lexerAgainSpec)) lexerAgainUptoCard

/-- THE SECOND FORM's CARD OF 'exoduslaw16.LexerComments'. -/
def lexerCommentsUptoCard : Claim7 := { stood := { row := lexerCommentsUptoRow, standIns := [], harness := (true, "2e885c7c3ff2a6d15133e21ace34bdec954aa09282e2608a8d4dc8ac4d0e1e52"), looks := false }, kinds := [], alts := [], laidByText := true, laidKinds := [.listed, .data], laidTests := true, laidLooks := .later }
def LexerCommentsUptoCardSaid : Prop := Claim7.holds Tryd.pinned (.plain (OpenSpec.upto lexerCommentsSpec)) lexerCommentsUptoCard

/-- THE SECOND FORM's CARD OF 'exoduslaw16.LexerWords'. -/
def lexerWordsUptoCard : Claim7 := { stood := { row := lexerWordsUptoRow, standIns := [], harness := (true, "2e885c7c3ff2a6d15133e21ace34bdec954aa09282e2608a8d4dc8ac4d0e1e52"), looks := false }, kinds := [], alts := [], laidByText := true, laidKinds := [.listed, .data], laidTests := true, laidLooks := .later }
def LexerWordsUptoCardSaid : Prop := Claim7.holds Tryd.pinned (.plain (OpenSpec.upto lexerWordsSpec)) lexerWordsUptoCard
end Rows
end Go.Proofs.YtakcolmgbahgiaaDoor

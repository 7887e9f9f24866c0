/-
  DERIVED. GIVEN WITH THE SEED: THE CARDS: each row of YtmcgkglmlfbijaaDoorRows.lean that lists a variable, with what it lists TIED to the program's text (the seventh form; the later family's looks); each row that meets fmt, with fmt's text TOLD by the authors' own Lean function (tested against real Go, not proved from fmt's source: count such statements apart). THE CARD IS WHAT COUNTS. Prove the row's statement (the work); the ties are given (YtmcgkglmlfbijaaDoorTie.lean); close each card by the builder's one call (the guide's Derived/Test/ToyasCard.lean, 'card_holds'). Laid BY PROGRAM, IN A SANDBOX (cutbox-door.mjs). By AI agents, Wed Nov 11 2026. No macro, syntax, notation, axiom, sorry.
-/
import Derived.Test.YtmcgkglmlfbijaaDoorRows
import GoSem.ClaimSeven
namespace Go.Proofs.YtmcgkglmlfbijaaDoor
namespace Rows

/-- THE TIED CARD OF 'exoduslaw02.IntegerForms'. -/
def integerFormsCard : Claim7 := { stood := { row := integerFormsRow, standIns := [], harness := (true, "21f7e21f13c82a55c1ea38c1f3cb73868b0b75a57ffb9ca98bf683f9a6e125d6"), looks := false }, kinds := [], alts := [], laidByText := true, laidKinds := [.data, .data, .data], laidTests := true, laidLooks := .later }
def IntegerFormsCardSaid : Prop := Claim7.holds Tryd.pinned (.plain (OpenSpec.ofChange integerFormsSpec)) integerFormsCard

/-- THE TIED CARD OF 'exoduslaw02.IntegerTexts'. -/
def integerTextsCard : Claim7 := { stood := { row := integerTextsRow, standIns := [], harness := (true, "21f7e21f13c82a55c1ea38c1f3cb73868b0b75a57ffb9ca98bf683f9a6e125d6"), looks := false }, kinds := [], alts := [], laidByText := true, laidKinds := [.data, .data, .data], laidTests := true, laidLooks := .later }
def IntegerTextsCardSaid : Prop := Claim7.holds Tryd.pinned (.plain (OpenSpec.ofChange integerTextsSpec)) integerTextsCard

/-- THE SECOND FORM's CARD OF 'exoduslaw02.IntegerForms'. -/
def integerFormsUptoCard : Claim7 := { stood := { row := integerFormsUptoRow, standIns := [], harness := (true, "21f7e21f13c82a55c1ea38c1f3cb73868b0b75a57ffb9ca98bf683f9a6e125d6"), looks := false }, kinds := [], alts := [], laidByText := true, laidKinds := [.data, .data, .data], laidTests := true, laidLooks := .later }
def IntegerFormsUptoCardSaid : Prop := Claim7.holds Tryd.pinned (.plain (OpenSpec.upto integerFormsSpec)) integerFormsUptoCard

/-- THE SECOND FORM's CARD OF 'exoduslaw02.IntegerTexts'. -/
def integerTextsUptoCard : Claim7 := { stood := { row := integerTextsUptoRow, standIns := [], harness := (true, "21f7e21f13c82a55c1ea38c1f3cb73868b0b75a57ffb9ca98bf683f9a6e125d6"), looks := false }, kinds := [], alts := [], laidByText := true, laidKinds := [.data, .data, .data], laidTests := true, laidLooks := .later }
def IntegerTextsUptoCardSaid : Prop := Claim7.holds Tryd.pinned (.plain (OpenSpec.upto integerTextsSpec)) integerTextsUptoCard
end Rows
end Go.Proofs.YtmcgkglmlfbijaaDoor

/-
  DERIVED. GIVEN WITH THE SEED: THE CARDS: each row of YtcjgimlcefhhmaaGreatDoorRows.lean that lists a variable, with what it lists TIED to the program's text (the seventh form; the later family's looks); each row that meets fmt, with fmt's text TOLD by the authors' own Lean function (tested against real Go, not proved from fmt's source: count such statements apart). THE CARD IS WHAT COUNTS. Prove the row's statement (the work); the ties are given (YtcjgimlcefhhmaaGreatDoorTie.lean); close each card by the builder's one call (the guide's Derived/Test/ToyasCard.lean, 'card_holds'). Laid BY PROGRAM, IN A SANDBOX (cutbox-door.mjs). By AI agents, Wed Nov 11 2026. No macro, syntax, notation, axiom, sorry.
-/
import Derived.Test.YtcjgimlcefhhmaaGreatDoorRows
import GoSem.ClaimSeven
namespace Go.Proofs.YtcjgimlcefhhmaaGreatDoor
namespace Rows

/-- THE TIED CARD OF 'exoduslaw09.ProofChecks'. -/
def proofChecksCard : Claim7 := { stood := { row := proofChecksRow, standIns := [], harness := (true, "ee852439bcde034b66adee5329636392fd6f75bee2788c99fc96101d61936c8a"), looks := true }, kinds := [], alts := [], laidByText := true, laidKinds := [.data, .data, .data, .data, .sentinel, .sentinel, .pinned], laidTests := true, laidLooks := .later }
def ProofChecksCardSaid : Prop := Claim7.holds Tryz.pinned (.plain (OpenSpec.ofChange proofChecksSpec)) proofChecksCard

/-- THE TIED CARD OF 'exoduslaw09.ProofExcludes'. -/
def proofExcludesCard : Claim7 := { stood := { row := proofExcludesRow, standIns := [], harness := (true, "ee852439bcde034b66adee5329636392fd6f75bee2788c99fc96101d61936c8a"), looks := true }, kinds := [], alts := [], laidByText := true, laidKinds := [.data, .data, .data, .data, .sentinel, .sentinel, .pinned], laidTests := true, laidLooks := .later }
def ProofExcludesCardSaid : Prop := Claim7.holds Tryz.pinned (.plain (OpenSpec.ofChange proofExcludesSpec)) proofExcludesCard

/-- THE TIED CARD OF 'exoduslaw09.ProofSingle'. -/
def proofSingleCard : Claim7 := { stood := { row := proofSingleRow, standIns := [], harness := (true, "ee852439bcde034b66adee5329636392fd6f75bee2788c99fc96101d61936c8a"), looks := true }, kinds := [], alts := [], laidByText := true, laidKinds := [.data, .data, .data, .data, .sentinel, .sentinel, .pinned], laidTests := true, laidLooks := .later }
def ProofSingleCardSaid : Prop := Claim7.holds Tryz.pinned (.plain (OpenSpec.ofChange proofSingleSpec)) proofSingleCard

/-- THE TIED CARD OF 'exoduslaw09.ProofWhole'. -/
def proofWholeCard : Claim7 := { stood := { row := proofWholeRow, standIns := [], harness := (true, "ee852439bcde034b66adee5329636392fd6f75bee2788c99fc96101d61936c8a"), looks := true }, kinds := [], alts := [], laidByText := true, laidKinds := [.data, .data, .data, .data, .sentinel, .sentinel, .pinned], laidTests := true, laidLooks := .later }
def ProofWholeCardSaid : Prop := Claim7.holds Tryz.pinned (.plain (OpenSpec.ofChange proofWholeSpec)) proofWholeCard

/-- THE SECOND FORM's CARD OF 'exoduslaw09.ProofChecks'. -/
def proofChecksUptoCard : Claim7 := { stood := { row := proofChecksUptoRow, standIns := [], harness := (true, "ee852439bcde034b66adee5329636392fd6f75bee2788c99fc96101d61936c8a"), looks := true }, kinds := [], alts := [], laidByText := true, laidKinds := [.data, .data, .data, .data, .sentinel, .sentinel, .pinned], laidTests := true, laidLooks := .later }
def ProofChecksUptoCardSaid : Prop := Claim7.holds Tryz.pinned (.plain (OpenSpec.upto proofChecksSpec)) proofChecksUptoCard

/-- THE SECOND FORM's CARD OF 'exoduslaw09.ProofExcludes'. -/
def proofExcludesUptoCard : Claim7 := { stood := { row := proofExcludesUptoRow, standIns := [], harness := (true, "ee852439bcde034b66adee5329636392fd6f75bee2788c99fc96101d61936c8a"), looks := true }, kinds := [], alts := [], laidByText := true, laidKinds := [.data, .data, .data, .data, .sentinel, .sentinel, .pinned], laidTests := true, laidLooks := .later }
def ProofExcludesUptoCardSaid : Prop := Claim7.holds Tryz.pinned (.plain (OpenSpec.upto proofExcludesSpec)) proofExcludesUptoCard

/-- THE SECOND FORM's CARD OF 'exoduslaw09.ProofSingle'. -/
def proofSingleUptoCard : Claim7 := { stood := { row := proofSingleUptoRow, standIns := [], harness := (true, "ee852439bcde034b66adee5329636392fd6f75bee2788c99fc96101d61936c8a"), looks := true }, kinds := [], alts := [], laidByText := true, laidKinds := [.data, .data, .data, .data, .sentinel, .sentinel, .pinned], laidTests := true, laidLooks := .later }
def ProofSingleUptoCardSaid : Prop := Claim7.holds Tryz.pinned (.plain (OpenSpec.upto proofSingleSpec)) proofSingleUptoCard

/-- THE SECOND FORM's CARD OF 'exoduslaw09.ProofWhole'. -/
def proofWholeUptoCard : Claim7 := { stood := { row := proofWholeUptoRow, standIns := [], harness := (true, "ee852439bcde034b66adee5329636392fd6f75bee2788c99fc96101d61936c8a"), looks := true }, kinds := [], alts := [], laidByText := true, laidKinds := [.data, .data, .data, .data, .sentinel, .sentinel, .pinned], laidTests := true, laidLooks := .later }
def ProofWholeUptoCardSaid : Prop := Claim7.holds Tryz.pinned (.plain (OpenSpec.upto proofWholeSpec)) proofWholeUptoCard
end Rows
end Go.Proofs.YtcjgimlcefhhmaaGreatDoor

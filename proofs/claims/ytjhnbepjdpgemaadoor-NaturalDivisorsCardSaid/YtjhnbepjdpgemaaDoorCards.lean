/-
  DERIVED. GIVEN WITH THE SEED: THE CARDS: each row of YtjhnbepjdpgemaaDoorRows.lean that lists a variable, with what it lists TIED to the program's text (the seventh form; the later family's looks); each row that meets fmt, with fmt's text TOLD by the authors' own Lean function (tested against real Go, not proved from fmt's source: count such statements apart). THE CARD IS WHAT COUNTS. Prove the row's statement (the work); the ties are given (YtjhnbepjdpgemaaDoorTie.lean); close each card by the builder's one call (the guide's Derived/Test/ToyasCard.lean, 'card_holds'). Laid BY PROGRAM, IN A SANDBOX (cutbox-door.mjs). By AI agents, Wed Nov 11 2026. No macro, syntax, notation, axiom, sorry.
-/
import Derived.Test.YtjhnbepjdpgemaaDoorRows
import GoSem.ClaimSeven
namespace Go.Proofs.YtjhnbepjdpgemaaDoor
namespace Rows

/-- THE TIED CARD OF 'exoduslaw01.NaturalQuotients'. -/
def naturalQuotientsCard : Claim7 := { stood := { row := naturalQuotientsRow, standIns := [], harness := (true, "8f6c03142eba79dc3fa39fc80284f714fba448981eaf55aaae876338d38b02c5"), looks := false }, kinds := [], alts := [], laidByText := true, laidKinds := [.data, .data, .data], laidTests := true, laidLooks := .later }
def NaturalQuotientsCardSaid : Prop := Claim7.holds Tryd.pinned (.plain (OpenSpec.ofChange naturalQuotientsSpec)) naturalQuotientsCard

/-- THE TIED CARD OF 'exoduslaw01.NaturalTexts'. -/
def naturalTextsCard : Claim7 := { stood := { row := naturalTextsRow, standIns := [], harness := (true, "8f6c03142eba79dc3fa39fc80284f714fba448981eaf55aaae876338d38b02c5"), looks := false }, kinds := [], alts := [], laidByText := true, laidKinds := [.data, .data, .data], laidTests := true, laidLooks := .later }
def NaturalTextsCardSaid : Prop := Claim7.holds Tryd.pinned (.plain (OpenSpec.ofChange naturalTextsSpec)) naturalTextsCard

/-- THE TIED CARD OF 'exoduslaw01.NaturalOrder'. -/
def naturalOrderCard : Claim7 := { stood := { row := naturalOrderRow, standIns := [], harness := (true, "8f6c03142eba79dc3fa39fc80284f714fba448981eaf55aaae876338d38b02c5"), looks := false }, kinds := [], alts := [], laidByText := true, laidKinds := [.data, .data, .data], laidTests := true, laidLooks := .later }
def NaturalOrderCardSaid : Prop := Claim7.holds Tryd.pinned (.plain (OpenSpec.ofChange naturalOrderSpec)) naturalOrderCard

/-- THE TIED CARD OF 'exoduslaw01.NaturalSums'. -/
def naturalSumsCard : Claim7 := { stood := { row := naturalSumsRow, standIns := [], harness := (true, "8f6c03142eba79dc3fa39fc80284f714fba448981eaf55aaae876338d38b02c5"), looks := false }, kinds := [], alts := [], laidByText := true, laidKinds := [.data, .data, .data], laidTests := true, laidLooks := .later }
def NaturalSumsCardSaid : Prop := Claim7.holds Tryd.pinned (.plain (OpenSpec.ofChange naturalSumsSpec)) naturalSumsCard

/-- THE TIED CARD OF 'exoduslaw01.NaturalRing'. -/
def naturalRingCard : Claim7 := { stood := { row := naturalRingRow, standIns := [], harness := (true, "8f6c03142eba79dc3fa39fc80284f714fba448981eaf55aaae876338d38b02c5"), looks := false }, kinds := [], alts := [], laidByText := true, laidKinds := [.data, .data, .data], laidTests := true, laidLooks := .later }
def NaturalRingCardSaid : Prop := Claim7.holds Tryd.pinned (.plain (OpenSpec.ofChange naturalRingSpec)) naturalRingCard

/-- THE TIED CARD OF 'exoduslaw01.NaturalForms'. -/
def naturalFormsCard : Claim7 := { stood := { row := naturalFormsRow, standIns := [], harness := (true, "8f6c03142eba79dc3fa39fc80284f714fba448981eaf55aaae876338d38b02c5"), looks := false }, kinds := [], alts := [], laidByText := true, laidKinds := [.data, .data, .data], laidTests := true, laidLooks := .later }
def NaturalFormsCardSaid : Prop := Claim7.holds Tryd.pinned (.plain (OpenSpec.ofChange naturalFormsSpec)) naturalFormsCard

/-- THE TIED CARD OF 'exoduslaw01.NaturalDivisors'. -/
def naturalDivisorsCard : Claim7 := { stood := { row := naturalDivisorsRow, standIns := [], harness := (true, "8f6c03142eba79dc3fa39fc80284f714fba448981eaf55aaae876338d38b02c5"), looks := false }, kinds := [], alts := [], laidByText := true, laidKinds := [.data, .data, .data], laidTests := true, laidLooks := .later }
def NaturalDivisorsCardSaid : Prop := Claim7.holds Tryd.pinned (.plain (OpenSpec.ofChange naturalDivisorsSpec)) naturalDivisorsCard

/-- THE SECOND FORM's CARD OF 'exoduslaw01.NaturalQuotients'. -/
def naturalQuotientsUptoCard : Claim7 := { stood := { row := naturalQuotientsUptoRow, standIns := [], harness := (true, "8f6c03142eba79dc3fa39fc80284f714fba448981eaf55aaae876338d38b02c5"), looks := false }, kinds := [], alts := [], laidByText := true, laidKinds := [.data, .data, .data], laidTests := true, laidLooks := .later }
def NaturalQuotientsUptoCardSaid : Prop := Claim7.holds Tryd.pinned (.plain (OpenSpec.upto naturalQuotientsSpec)) naturalQuotientsUptoCard

/-- THE SECOND FORM's CARD OF 'exoduslaw01.NaturalTexts'. -/
def naturalTextsUptoCard : Claim7 := { stood := { row := naturalTextsUptoRow, standIns := [], harness := (true, "8f6c03142eba79dc3fa39fc80284f714fba448981eaf55aaae876338d38b02c5"), looks := false }, kinds := [], alts := [], laidByText := true, laidKinds := [.data, .data, .data], laidTests := true, laidLooks := .later }
def NaturalTextsUptoCardSaid : Prop := Claim7.holds Tryd.pinned (.plain (OpenSpec.upto naturalTextsSpec)) naturalTextsUptoCard

/-- THE SECOND FORM's CARD OF 'exoduslaw01.NaturalOrder'. -/
def naturalOrderUptoCard : Claim7 := { stood := { row := naturalOrderUptoRow, standIns := [], harness := (true, "8f6c03142eba79dc3fa39fc80284f714fba448981eaf55aaae876338d38b02c5"), looks := false }, kinds := [], alts := [], laidByText := true, laidKinds := [.data, .data, .data], laidTests := true, laidLooks := .later }
def NaturalOrderUptoCardSaid : Prop := Claim7.holds Tryd.pinned (.plain (OpenSpec.upto naturalOrderSpec)) naturalOrderUptoCard

/-- THE SECOND FORM's CARD OF 'exoduslaw01.NaturalSums'. -/
def naturalSumsUptoCard : Claim7 := { stood := { row := naturalSumsUptoRow, standIns := [], harness := (true, "8f6c03142eba79dc3fa39fc80284f714fba448981eaf55aaae876338d38b02c5"), looks := false }, kinds := [], alts := [], laidByText := true, laidKinds := [.data, .data, .data], laidTests := true, laidLooks := .later }
def NaturalSumsUptoCardSaid : Prop := Claim7.holds Tryd.pinned (.plain (OpenSpec.upto naturalSumsSpec)) naturalSumsUptoCard

/-- THE SECOND FORM's CARD OF 'exoduslaw01.NaturalRing'. -/
def naturalRingUptoCard : Claim7 := { stood := { row := naturalRingUptoRow, standIns := [], harness := (true, "8f6c03142eba79dc3fa39fc80284f714fba448981eaf55aaae876338d38b02c5"), looks := false }, kinds := [], alts := [], laidByText := true, laidKinds := [.data, .data, .data], laidTests := true, laidLooks := .later }
def NaturalRingUptoCardSaid : Prop := Claim7.holds Tryd.pinned (.plain (OpenSpec.upto naturalRingSpec)) naturalRingUptoCard

/-- THE SECOND FORM's CARD OF 'exoduslaw01.NaturalForms'. -/
def naturalFormsUptoCard : Claim7 := { stood := { row := naturalFormsUptoRow, standIns := [], harness := (true, "8f6c03142eba79dc3fa39fc80284f714fba448981eaf55aaae876338d38b02c5"), looks := false }, kinds := [], alts := [], laidByText := true, laidKinds := [.data, .data, .data], laidTests := true, laidLooks := .later }
def NaturalFormsUptoCardSaid : Prop := Claim7.holds Tryd.pinned (.plain (OpenSpec.upto naturalFormsSpec)) naturalFormsUptoCard

/-- THE SECOND FORM's CARD OF 'exoduslaw01.NaturalDivisors'. -/
def naturalDivisorsUptoCard : Claim7 := { stood := { row := naturalDivisorsUptoRow, standIns := [], harness := (true, "8f6c03142eba79dc3fa39fc80284f714fba448981eaf55aaae876338d38b02c5"), looks := false }, kinds := [], alts := [], laidByText := true, laidKinds := [.data, .data, .data], laidTests := true, laidLooks := .later }
def NaturalDivisorsUptoCardSaid : Prop := Claim7.holds Tryd.pinned (.plain (OpenSpec.upto naturalDivisorsSpec)) naturalDivisorsUptoCard
end Rows
end Go.Proofs.YtjhnbepjdpgemaaDoor

/-
  NARROWER THAN 'FOR EVERY INPUT', by the rows' own cells (each row's printed sentence says how): PlacementInitial: laid · PlacementValid: laid · PlacementOrder: laid · PlacementChanges: laid · PlacementSingle: laid · PlacementCounts: laid · PlacementSums: laid · MovesEffects: laid · MovesWhole: laid.
  DERIVED. THE GIVEN ROWS OF THIS SEAT. 9 by the template 'for every input the law returns true; each argument reads behind the call as it read before'; 0 by the template 'total and deterministic' (their statements: YtchpbaaabnkkkaaGreatDoorTotals.lean).
  GIVEN WITH THE SEED: the statements are not yours to turn. If you find one false, say at which input.
  Laid BY PROGRAM, IN A SANDBOX (cutbox-rows.mjs): the forced cells as the released guide's own fill.sh prints them over the translation 8674c47d91b4bb39… (all of the seat's roots in one cut). By AI agents, Wed Nov 11 2026. No macro, syntax, notation, axiom, sorry.
-/
import Derived.Test.YtchpbaaabnkkkaaGreatDoorChecked
import GoSem.Claim
import GoSem.ClaimJoined
import GoSem.ClaimMapViews
import Derived.JoinedTies
import Derived.KernelRfl
namespace Go.Proofs.YtchpbaaabnkkkaaGreatDoor
/- THE CELL 'sum', in the pinned program and in every row, IS THE sha256 OF THE DUMP (.gsa) THAT YtchpbaaabnkkkaaGreatDoorProg.lean LOADS. Nothing in Lean hashes anything: it is a label: what it is worth is what the hold of that sum in a sandbox is worth. -/
noncomputable def Tryz.pinned : Pinned := { name := "ytchpbaaabnkkkaagreatdoor", sum := "8674c47d91b4bb39af51ef4f986a634706369cf16711d626af49eda018af8bb4", checked := Tryz.checked }
namespace Rows
def none {H : Type} : Left H := { results := [], args := [] }

/- WHAT THE LISTED PACKAGE-LEVEL VARIABLES READ AS WHEN THE CALL BEGINS. Each datum BY PROGRAM (the guide's laid-datum.mjs) off the statement by which the dump's own 'gosem.cut.vars' lays the variable. In a bare row this is a premise. The card (YtchpbaaabnkkkaaGreatDoorCards.lean) ties it to the program's text. -/
def laid_unicode_White_Space {H : Type} : DataW H := .ptr (.agg [.slice [.agg [.lit (.int .u16 9), .lit (.int .u16 13), .lit (.int .u16 1)], .agg [.lit (.int .u16 32), .lit (.int .u16 133), .lit (.int .u16 101)], .agg [.lit (.int .u16 160), .lit (.int .u16 5760), .lit (.int .u16 5600)], .agg [.lit (.int .u16 8192), .lit (.int .u16 8202), .lit (.int .u16 1)], .agg [.lit (.int .u16 8232), .lit (.int .u16 8233), .lit (.int .u16 1)], .agg [.lit (.int .u16 8239), .lit (.int .u16 8287), .lit (.int .u16 48)], .agg [.lit (.int .u16 12288), .lit (.int .u16 12288), .lit (.int .u16 1)]] [], .nil, .lit (.int .i64 2)])
def laid_strings_asciiSpace {H : Type} : DataW H := .agg [.lit (.int .u8 0), .lit (.int .u8 0), .lit (.int .u8 0), .lit (.int .u8 0), .lit (.int .u8 0), .lit (.int .u8 0), .lit (.int .u8 0), .lit (.int .u8 0), .lit (.int .u8 0), .lit (.int .u8 1), .lit (.int .u8 1), .lit (.int .u8 1), .lit (.int .u8 1), .lit (.int .u8 1), .lit (.int .u8 0), .lit (.int .u8 0), .lit (.int .u8 0), .lit (.int .u8 0), .lit (.int .u8 0), .lit (.int .u8 0), .lit (.int .u8 0), .lit (.int .u8 0), .lit (.int .u8 0), .lit (.int .u8 0), .lit (.int .u8 0), .lit (.int .u8 0), .lit (.int .u8 0), .lit (.int .u8 0), .lit (.int .u8 0), .lit (.int .u8 0), .lit (.int .u8 0), .lit (.int .u8 0), .lit (.int .u8 1), .lit (.int .u8 0), .lit (.int .u8 0), .lit (.int .u8 0), .lit (.int .u8 0), .lit (.int .u8 0), .lit (.int .u8 0), .lit (.int .u8 0), .lit (.int .u8 0), .lit (.int .u8 0), .lit (.int .u8 0), .lit (.int .u8 0), .lit (.int .u8 0), .lit (.int .u8 0), .lit (.int .u8 0), .lit (.int .u8 0), .lit (.int .u8 0), .lit (.int .u8 0), .lit (.int .u8 0), .lit (.int .u8 0), .lit (.int .u8 0), .lit (.int .u8 0), .lit (.int .u8 0), .lit (.int .u8 0), .lit (.int .u8 0), .lit (.int .u8 0), .lit (.int .u8 0), .lit (.int .u8 0), .lit (.int .u8 0), .lit (.int .u8 0), .lit (.int .u8 0), .lit (.int .u8 0), .lit (.int .u8 0), .lit (.int .u8 0), .lit (.int .u8 0), .lit (.int .u8 0), .lit (.int .u8 0), .lit (.int .u8 0), .lit (.int .u8 0), .lit (.int .u8 0), .lit (.int .u8 0), .lit (.int .u8 0), .lit (.int .u8 0), .lit (.int .u8 0), .lit (.int .u8 0), .lit (.int .u8 0), .lit (.int .u8 0), .lit (.int .u8 0), .lit (.int .u8 0), .lit (.int .u8 0), .lit (.int .u8 0), .lit (.int .u8 0), .lit (.int .u8 0), .lit (.int .u8 0), .lit (.int .u8 0), .lit (.int .u8 0), .lit (.int .u8 0), .lit (.int .u8 0), .lit (.int .u8 0), .lit (.int .u8 0), .lit (.int .u8 0), .lit (.int .u8 0), .lit (.int .u8 0), .lit (.int .u8 0), .lit (.int .u8 0), .lit (.int .u8 0), .lit (.int .u8 0), .lit (.int .u8 0), .lit (.int .u8 0), .lit (.int .u8 0), .lit (.int .u8 0), .lit (.int .u8 0), .lit (.int .u8 0), .lit (.int .u8 0), .lit (.int .u8 0), .lit (.int .u8 0), .lit (.int .u8 0), .lit (.int .u8 0), .lit (.int .u8 0), .lit (.int .u8 0), .lit (.int .u8 0), .lit (.int .u8 0), .lit (.int .u8 0), .lit (.int .u8 0), .lit (.int .u8 0), .lit (.int .u8 0), .lit (.int .u8 0), .lit (.int .u8 0), .lit (.int .u8 0), .lit (.int .u8 0), .lit (.int .u8 0), .lit (.int .u8 0), .lit (.int .u8 0), .lit (.int .u8 0), .lit (.int .u8 0), .lit (.int .u8 0), .lit (.int .u8 0), .lit (.int .u8 0), .lit (.int .u8 0), .lit (.int .u8 0), .lit (.int .u8 0), .lit (.int .u8 0), .lit (.int .u8 0), .lit (.int .u8 0), .lit (.int .u8 0), .lit (.int .u8 0), .lit (.int .u8 0), .lit (.int .u8 0), .lit (.int .u8 0), .lit (.int .u8 0), .lit (.int .u8 0), .lit (.int .u8 0), .lit (.int .u8 0), .lit (.int .u8 0), .lit (.int .u8 0), .lit (.int .u8 0), .lit (.int .u8 0), .lit (.int .u8 0), .lit (.int .u8 0), .lit (.int .u8 0), .lit (.int .u8 0), .lit (.int .u8 0), .lit (.int .u8 0), .lit (.int .u8 0), .lit (.int .u8 0), .lit (.int .u8 0), .lit (.int .u8 0), .lit (.int .u8 0), .lit (.int .u8 0), .lit (.int .u8 0), .lit (.int .u8 0), .lit (.int .u8 0), .lit (.int .u8 0), .lit (.int .u8 0), .lit (.int .u8 0), .lit (.int .u8 0), .lit (.int .u8 0), .lit (.int .u8 0), .lit (.int .u8 0), .lit (.int .u8 0), .lit (.int .u8 0), .lit (.int .u8 0), .lit (.int .u8 0), .lit (.int .u8 0), .lit (.int .u8 0), .lit (.int .u8 0), .lit (.int .u8 0), .lit (.int .u8 0), .lit (.int .u8 0), .lit (.int .u8 0), .lit (.int .u8 0), .lit (.int .u8 0), .lit (.int .u8 0), .lit (.int .u8 0), .lit (.int .u8 0), .lit (.int .u8 0), .lit (.int .u8 0), .lit (.int .u8 0), .lit (.int .u8 0), .lit (.int .u8 0), .lit (.int .u8 0), .lit (.int .u8 0), .lit (.int .u8 0), .lit (.int .u8 0), .lit (.int .u8 0), .lit (.int .u8 0), .lit (.int .u8 0), .lit (.int .u8 0), .lit (.int .u8 0), .lit (.int .u8 0), .lit (.int .u8 0), .lit (.int .u8 0), .lit (.int .u8 0), .lit (.int .u8 0), .lit (.int .u8 0), .lit (.int .u8 0), .lit (.int .u8 0), .lit (.int .u8 0), .lit (.int .u8 0), .lit (.int .u8 0), .lit (.int .u8 0), .lit (.int .u8 0), .lit (.int .u8 0), .lit (.int .u8 0), .lit (.int .u8 0), .lit (.int .u8 0), .lit (.int .u8 0), .lit (.int .u8 0), .lit (.int .u8 0), .lit (.int .u8 0), .lit (.int .u8 0), .lit (.int .u8 0), .lit (.int .u8 0), .lit (.int .u8 0), .lit (.int .u8 0), .lit (.int .u8 0), .lit (.int .u8 0), .lit (.int .u8 0), .lit (.int .u8 0), .lit (.int .u8 0), .lit (.int .u8 0), .lit (.int .u8 0), .lit (.int .u8 0), .lit (.int .u8 0), .lit (.int .u8 0), .lit (.int .u8 0), .lit (.int .u8 0), .lit (.int .u8 0), .lit (.int .u8 0), .lit (.int .u8 0), .lit (.int .u8 0), .lit (.int .u8 0), .lit (.int .u8 0), .lit (.int .u8 0), .lit (.int .u8 0), .lit (.int .u8 0), .lit (.int .u8 0), .lit (.int .u8 0), .lit (.int .u8 0), .lit (.int .u8 0), .lit (.int .u8 0), .lit (.int .u8 0), .lit (.int .u8 0), .lit (.int .u8 0)]

/-- 'exoduslaw20.PlacementInitial': WHATEVER THE INPUT: true; the input reads as it did. -/
def placementInitialSpec : ChangeSpec := { name := "placementInitial", fn := fun _ => fun
  | [d] => { results := [.lit (.bool true)], args := [d] }
  | _ => none }
def placementInitialRow : OpenClaim := { program := "ytchpbaaabnkkkaagreatdoor", sum := "8674c47d91b4bb39af51ef4f986a634706369cf16711d626af49eda018af8bb4", func := "exodus/exoduslaw20.PlacementInitial", spec := "placementInitial", inPlace := ["internal/abi.NoEscape", "internal/bytealg.MakeNoZero"], unfollowed := true, recurses := true, named := ["strings.asciiSpace", "unicode.White_Space"], apart := false, laid := [("unicode.White_Space", laid_unicode_White_Space), ("strings.asciiSpace", laid_strings_asciiSpace)] }
def PlacementInitialSaid : Prop := placementInitialRow.holds Tryz.pinned (OpenSpec.ofChange placementInitialSpec)

/-- ITS FALSE NEIGHBOUR: 'it returns false'. Refute it at one input. -/
def placementInitialWrong : ChangeSpec := { name := "placementInitial", fn := fun _ => fun
  | [d] => { results := [.lit (.bool false)], args := [d] }
  | _ => none }
def PlacementInitialWrongFalsely : Prop := placementInitialRow.holds Tryz.pinned (OpenSpec.ofChange placementInitialWrong)

/-- 'exoduslaw20.PlacementValid': WHATEVER THE INPUT: true; the input reads as it did. -/
def placementValidSpec : ChangeSpec := { name := "placementValid", fn := fun _ => fun
  | [d1, d2, d3] => { results := [.lit (.bool true)], args := [d1, d2, d3] }
  | _ => none }
def placementValidRow : OpenClaim := { program := "ytchpbaaabnkkkaagreatdoor", sum := "8674c47d91b4bb39af51ef4f986a634706369cf16711d626af49eda018af8bb4", func := "exodus/exoduslaw20.PlacementValid", spec := "placementValid", inPlace := ["internal/abi.NoEscape", "internal/bytealg.MakeNoZero"], unfollowed := true, recurses := true, named := ["strings.asciiSpace", "unicode.White_Space"], apart := false, laid := [("unicode.White_Space", laid_unicode_White_Space), ("strings.asciiSpace", laid_strings_asciiSpace)] }
def PlacementValidSaid : Prop := placementValidRow.holds Tryz.pinned (OpenSpec.ofChange placementValidSpec)

/-- ITS FALSE NEIGHBOUR: 'it returns false'. Refute it at one input. -/
def placementValidWrong : ChangeSpec := { name := "placementValid", fn := fun _ => fun
  | [d1, d2, d3] => { results := [.lit (.bool false)], args := [d1, d2, d3] }
  | _ => none }
def PlacementValidWrongFalsely : Prop := placementValidRow.holds Tryz.pinned (OpenSpec.ofChange placementValidWrong)

/-- 'exoduslaw20.PlacementOrder': WHATEVER THE INPUT: true; the input reads as it did. -/
def placementOrderSpec : ChangeSpec := { name := "placementOrder", fn := fun _ => fun
  | [d1, d2, d3, d4, d5, d6] => { results := [.lit (.bool true)], args := [d1, d2, d3, d4, d5, d6] }
  | _ => none }
def placementOrderRow : OpenClaim := { program := "ytchpbaaabnkkkaagreatdoor", sum := "8674c47d91b4bb39af51ef4f986a634706369cf16711d626af49eda018af8bb4", func := "exodus/exoduslaw20.PlacementOrder", spec := "placementOrder", inPlace := ["internal/abi.NoEscape", "internal/bytealg.MakeNoZero"], unfollowed := true, recurses := true, named := ["strings.asciiSpace", "unicode.White_Space"], apart := false, laid := [("unicode.White_Space", laid_unicode_White_Space), ("strings.asciiSpace", laid_strings_asciiSpace)] }
def PlacementOrderSaid : Prop := placementOrderRow.holds Tryz.pinned (OpenSpec.ofChange placementOrderSpec)

/-- ITS FALSE NEIGHBOUR: 'it returns false'. Refute it at one input. -/
def placementOrderWrong : ChangeSpec := { name := "placementOrder", fn := fun _ => fun
  | [d1, d2, d3, d4, d5, d6] => { results := [.lit (.bool false)], args := [d1, d2, d3, d4, d5, d6] }
  | _ => none }
def PlacementOrderWrongFalsely : Prop := placementOrderRow.holds Tryz.pinned (OpenSpec.ofChange placementOrderWrong)

/-- 'exoduslaw20.PlacementChanges': WHATEVER THE INPUT: true; the input reads as it did. -/
def placementChangesSpec : ChangeSpec := { name := "placementChanges", fn := fun _ => fun
  | [d1, d2, d3, d4] => { results := [.lit (.bool true)], args := [d1, d2, d3, d4] }
  | _ => none }
def placementChangesRow : OpenClaim := { program := "ytchpbaaabnkkkaagreatdoor", sum := "8674c47d91b4bb39af51ef4f986a634706369cf16711d626af49eda018af8bb4", func := "exodus/exoduslaw20.PlacementChanges", spec := "placementChanges", inPlace := ["internal/abi.NoEscape", "internal/bytealg.MakeNoZero"], unfollowed := true, recurses := true, named := ["strings.asciiSpace", "unicode.White_Space"], apart := false, laid := [("unicode.White_Space", laid_unicode_White_Space), ("strings.asciiSpace", laid_strings_asciiSpace)] }
def PlacementChangesSaid : Prop := placementChangesRow.holds Tryz.pinned (OpenSpec.ofChange placementChangesSpec)

/-- ITS FALSE NEIGHBOUR: 'it returns false'. Refute it at one input. -/
def placementChangesWrong : ChangeSpec := { name := "placementChanges", fn := fun _ => fun
  | [d1, d2, d3, d4] => { results := [.lit (.bool false)], args := [d1, d2, d3, d4] }
  | _ => none }
def PlacementChangesWrongFalsely : Prop := placementChangesRow.holds Tryz.pinned (OpenSpec.ofChange placementChangesWrong)

/-- 'exoduslaw20.PlacementSingle': WHATEVER THE INPUT: true; the input reads as it did. -/
def placementSingleSpec : ChangeSpec := { name := "placementSingle", fn := fun _ => fun
  | [d1, d2, d3, d4, d5] => { results := [.lit (.bool true)], args := [d1, d2, d3, d4, d5] }
  | _ => none }
def placementSingleRow : OpenClaim := { program := "ytchpbaaabnkkkaagreatdoor", sum := "8674c47d91b4bb39af51ef4f986a634706369cf16711d626af49eda018af8bb4", func := "exodus/exoduslaw20.PlacementSingle", spec := "placementSingle", inPlace := ["internal/abi.NoEscape", "internal/bytealg.MakeNoZero"], unfollowed := true, recurses := true, named := ["strings.asciiSpace", "unicode.White_Space"], apart := false, laid := [("unicode.White_Space", laid_unicode_White_Space), ("strings.asciiSpace", laid_strings_asciiSpace)] }
def PlacementSingleSaid : Prop := placementSingleRow.holds Tryz.pinned (OpenSpec.ofChange placementSingleSpec)

/-- ITS FALSE NEIGHBOUR: 'it returns false'. Refute it at one input. -/
def placementSingleWrong : ChangeSpec := { name := "placementSingle", fn := fun _ => fun
  | [d1, d2, d3, d4, d5] => { results := [.lit (.bool false)], args := [d1, d2, d3, d4, d5] }
  | _ => none }
def PlacementSingleWrongFalsely : Prop := placementSingleRow.holds Tryz.pinned (OpenSpec.ofChange placementSingleWrong)

/-- 'exoduslaw20.PlacementCounts': WHATEVER THE INPUT: true; the input reads as it did. -/
def placementCountsSpec : ChangeSpec := { name := "placementCounts", fn := fun _ => fun
  | [d1, d2, d3, d4] => { results := [.lit (.bool true)], args := [d1, d2, d3, d4] }
  | _ => none }
def placementCountsRow : OpenClaim := { program := "ytchpbaaabnkkkaagreatdoor", sum := "8674c47d91b4bb39af51ef4f986a634706369cf16711d626af49eda018af8bb4", func := "exodus/exoduslaw20.PlacementCounts", spec := "placementCounts", inPlace := ["internal/abi.NoEscape", "internal/bytealg.MakeNoZero"], unfollowed := true, recurses := true, named := ["strings.asciiSpace", "unicode.White_Space"], apart := false, laid := [("unicode.White_Space", laid_unicode_White_Space), ("strings.asciiSpace", laid_strings_asciiSpace)] }
def PlacementCountsSaid : Prop := placementCountsRow.holds Tryz.pinned (OpenSpec.ofChange placementCountsSpec)

/-- ITS FALSE NEIGHBOUR: 'it returns false'. Refute it at one input. -/
def placementCountsWrong : ChangeSpec := { name := "placementCounts", fn := fun _ => fun
  | [d1, d2, d3, d4] => { results := [.lit (.bool false)], args := [d1, d2, d3, d4] }
  | _ => none }
def PlacementCountsWrongFalsely : Prop := placementCountsRow.holds Tryz.pinned (OpenSpec.ofChange placementCountsWrong)

/-- 'exoduslaw20.PlacementSums': WHATEVER THE INPUT: true; the input reads as it did. -/
def placementSumsSpec : ChangeSpec := { name := "placementSums", fn := fun _ => fun
  | [d1, d2] => { results := [.lit (.bool true)], args := [d1, d2] }
  | _ => none }
def placementSumsRow : OpenClaim := { program := "ytchpbaaabnkkkaagreatdoor", sum := "8674c47d91b4bb39af51ef4f986a634706369cf16711d626af49eda018af8bb4", func := "exodus/exoduslaw20.PlacementSums", spec := "placementSums", inPlace := ["internal/abi.NoEscape", "internal/bytealg.MakeNoZero"], unfollowed := true, recurses := true, named := ["strings.asciiSpace", "unicode.White_Space"], apart := false, laid := [("unicode.White_Space", laid_unicode_White_Space), ("strings.asciiSpace", laid_strings_asciiSpace)] }
def PlacementSumsSaid : Prop := placementSumsRow.holds Tryz.pinned (OpenSpec.ofChange placementSumsSpec)

/-- ITS FALSE NEIGHBOUR: 'it returns false'. Refute it at one input. -/
def placementSumsWrong : ChangeSpec := { name := "placementSums", fn := fun _ => fun
  | [d1, d2] => { results := [.lit (.bool false)], args := [d1, d2] }
  | _ => none }
def PlacementSumsWrongFalsely : Prop := placementSumsRow.holds Tryz.pinned (OpenSpec.ofChange placementSumsWrong)

/-- 'exoduslaw23.MovesEffects': WHATEVER THE INPUT: true; the input reads as it did. -/
def movesEffectsSpec : ChangeSpec := { name := "movesEffects", fn := fun _ => fun
  | [d1, d2, d3] => { results := [.lit (.bool true)], args := [d1, d2, d3] }
  | _ => none }
def movesEffectsRow : OpenClaim := { program := "ytchpbaaabnkkkaagreatdoor", sum := "8674c47d91b4bb39af51ef4f986a634706369cf16711d626af49eda018af8bb4", func := "exodus/exoduslaw23.MovesEffects", spec := "movesEffects", unfollowed := true, recurses := true, named := ["strings.asciiSpace", "unicode.White_Space"], apart := false, laid := [("unicode.White_Space", laid_unicode_White_Space), ("strings.asciiSpace", laid_strings_asciiSpace)] }
def MovesEffectsSaid : Prop := movesEffectsRow.holds Tryz.pinned (OpenSpec.ofChange movesEffectsSpec)

/-- ITS FALSE NEIGHBOUR: 'it returns false'. Refute it at one input. -/
def movesEffectsWrong : ChangeSpec := { name := "movesEffects", fn := fun _ => fun
  | [d1, d2, d3] => { results := [.lit (.bool false)], args := [d1, d2, d3] }
  | _ => none }
def MovesEffectsWrongFalsely : Prop := movesEffectsRow.holds Tryz.pinned (OpenSpec.ofChange movesEffectsWrong)

/-- 'exoduslaw23.MovesWhole': WHATEVER THE INPUT: true; the input reads as it did. -/
def movesWholeSpec : ChangeSpec := { name := "movesWhole", fn := fun _ => fun
  | [d1, d2, d3] => { results := [.lit (.bool true)], args := [d1, d2, d3] }
  | _ => none }
def movesWholeRow : OpenClaim := { program := "ytchpbaaabnkkkaagreatdoor", sum := "8674c47d91b4bb39af51ef4f986a634706369cf16711d626af49eda018af8bb4", func := "exodus/exoduslaw23.MovesWhole", spec := "movesWhole", unfollowed := true, recurses := true, named := ["strings.asciiSpace", "unicode.White_Space"], apart := false, laid := [("unicode.White_Space", laid_unicode_White_Space), ("strings.asciiSpace", laid_strings_asciiSpace)] }
def MovesWholeSaid : Prop := movesWholeRow.holds Tryz.pinned (OpenSpec.ofChange movesWholeSpec)

/-- ITS FALSE NEIGHBOUR: 'it returns false'. Refute it at one input. -/
def movesWholeWrong : ChangeSpec := { name := "movesWhole", fn := fun _ => fun
  | [d1, d2, d3] => { results := [.lit (.bool false)], args := [d1, d2, d3] }
  | _ => none }
def MovesWholeWrongFalsely : Prop := movesWholeRow.holds Tryz.pinned (OpenSpec.ofChange movesWholeWrong)

/- THE SECOND FORM. 'bulk': how many values and letters a reading holds, each counted each time it is reached (what is shared counts as often as it is met; a slice's spare places count too). A statement '..UptoSaid' is the law's where the arguments, and the package variables that the reading takes, are together of bulk at most 1048576: NARROWER than '..Said'. Prove '..Said' where nothing that the law and all that it calls make is longer than what came in: it says more and counts as full. Else prove '..UptoSaid'. A law counts once. -/
mutual
def uptoBulk {H : Type} : DataW H → Nat
  | .lit (.string bytes) => bytes.length + 1
  | .lit _ => 1
  | .nil => 1
  | .ptr d => uptoBulk d + 1
  | .slice elems spare => uptoBulkAll elems + uptoBulkAll spare + 1
  | .agg parts => uptoBulkAll parts + 1
  | .iface _ d => uptoBulk d + 1
  | .map entries => uptoBulkEntries entries + 1
  | .held _ => 1
def uptoBulkAll {H : Type} : List (DataW H) → Nat
  | [] => 0
  | d :: r => uptoBulk d + uptoBulkAll r
def uptoBulkEntries {H : Type} : List (Lit × DataW H) → Nat
  | [] => 0
  | x :: r => uptoBulkEntry x + uptoBulkEntries r
def uptoBulkEntry {H : Type} : Lit × DataW H → Nat
  | (.string bytes, d) => bytes.length + uptoBulk d + 1
  | (_, d) => uptoBulk d + 1
 end
def uptoSmall : (H : Type) → List (DataW H) → Bool := fun _ ds => decide (uptoBulkAll ds ≤ 1048576)
def OpenSpec.upto (s : _root_.Go.ChangeSpec) : _root_.Go.OpenSpec := { _root_.Go.OpenSpec.ofChange s with cond := some uptoSmall }

/-- 'exoduslaw20.PlacementInitial', WHERE WHAT IT READS IS OF BULK AT MOST 1048576: true; the input reads as it did. -/
def placementInitialUptoRow : OpenClaim := { program := "ytchpbaaabnkkkaagreatdoor", sum := "8674c47d91b4bb39af51ef4f986a634706369cf16711d626af49eda018af8bb4", func := "exodus/exoduslaw20.PlacementInitial", spec := "placementInitial", inPlace := ["internal/abi.NoEscape", "internal/bytealg.MakeNoZero"], unfollowed := true, recurses := true, named := ["strings.asciiSpace", "unicode.White_Space"], apart := false, laid := [("unicode.White_Space", laid_unicode_White_Space), ("strings.asciiSpace", laid_strings_asciiSpace)], narrowed := true }
def PlacementInitialUptoSaid : Prop := placementInitialUptoRow.holds Tryz.pinned (OpenSpec.upto placementInitialSpec)

/-- 'exoduslaw20.PlacementValid', WHERE WHAT IT READS IS OF BULK AT MOST 1048576: true; the input reads as it did. -/
def placementValidUptoRow : OpenClaim := { program := "ytchpbaaabnkkkaagreatdoor", sum := "8674c47d91b4bb39af51ef4f986a634706369cf16711d626af49eda018af8bb4", func := "exodus/exoduslaw20.PlacementValid", spec := "placementValid", inPlace := ["internal/abi.NoEscape", "internal/bytealg.MakeNoZero"], unfollowed := true, recurses := true, named := ["strings.asciiSpace", "unicode.White_Space"], apart := false, laid := [("unicode.White_Space", laid_unicode_White_Space), ("strings.asciiSpace", laid_strings_asciiSpace)], narrowed := true }
def PlacementValidUptoSaid : Prop := placementValidUptoRow.holds Tryz.pinned (OpenSpec.upto placementValidSpec)

/-- 'exoduslaw20.PlacementOrder', WHERE WHAT IT READS IS OF BULK AT MOST 1048576: true; the input reads as it did. -/
def placementOrderUptoRow : OpenClaim := { program := "ytchpbaaabnkkkaagreatdoor", sum := "8674c47d91b4bb39af51ef4f986a634706369cf16711d626af49eda018af8bb4", func := "exodus/exoduslaw20.PlacementOrder", spec := "placementOrder", inPlace := ["internal/abi.NoEscape", "internal/bytealg.MakeNoZero"], unfollowed := true, recurses := true, named := ["strings.asciiSpace", "unicode.White_Space"], apart := false, laid := [("unicode.White_Space", laid_unicode_White_Space), ("strings.asciiSpace", laid_strings_asciiSpace)], narrowed := true }
def PlacementOrderUptoSaid : Prop := placementOrderUptoRow.holds Tryz.pinned (OpenSpec.upto placementOrderSpec)

/-- 'exoduslaw20.PlacementChanges', WHERE WHAT IT READS IS OF BULK AT MOST 1048576: true; the input reads as it did. -/
def placementChangesUptoRow : OpenClaim := { program := "ytchpbaaabnkkkaagreatdoor", sum := "8674c47d91b4bb39af51ef4f986a634706369cf16711d626af49eda018af8bb4", func := "exodus/exoduslaw20.PlacementChanges", spec := "placementChanges", inPlace := ["internal/abi.NoEscape", "internal/bytealg.MakeNoZero"], unfollowed := true, recurses := true, named := ["strings.asciiSpace", "unicode.White_Space"], apart := false, laid := [("unicode.White_Space", laid_unicode_White_Space), ("strings.asciiSpace", laid_strings_asciiSpace)], narrowed := true }
def PlacementChangesUptoSaid : Prop := placementChangesUptoRow.holds Tryz.pinned (OpenSpec.upto placementChangesSpec)

/-- 'exoduslaw20.PlacementSingle', WHERE WHAT IT READS IS OF BULK AT MOST 1048576: true; the input reads as it did. -/
def placementSingleUptoRow : OpenClaim := { program := "ytchpbaaabnkkkaagreatdoor", sum := "8674c47d91b4bb39af51ef4f986a634706369cf16711d626af49eda018af8bb4", func := "exodus/exoduslaw20.PlacementSingle", spec := "placementSingle", inPlace := ["internal/abi.NoEscape", "internal/bytealg.MakeNoZero"], unfollowed := true, recurses := true, named := ["strings.asciiSpace", "unicode.White_Space"], apart := false, laid := [("unicode.White_Space", laid_unicode_White_Space), ("strings.asciiSpace", laid_strings_asciiSpace)], narrowed := true }
def PlacementSingleUptoSaid : Prop := placementSingleUptoRow.holds Tryz.pinned (OpenSpec.upto placementSingleSpec)

/-- 'exoduslaw20.PlacementCounts', WHERE WHAT IT READS IS OF BULK AT MOST 1048576: true; the input reads as it did. -/
def placementCountsUptoRow : OpenClaim := { program := "ytchpbaaabnkkkaagreatdoor", sum := "8674c47d91b4bb39af51ef4f986a634706369cf16711d626af49eda018af8bb4", func := "exodus/exoduslaw20.PlacementCounts", spec := "placementCounts", inPlace := ["internal/abi.NoEscape", "internal/bytealg.MakeNoZero"], unfollowed := true, recurses := true, named := ["strings.asciiSpace", "unicode.White_Space"], apart := false, laid := [("unicode.White_Space", laid_unicode_White_Space), ("strings.asciiSpace", laid_strings_asciiSpace)], narrowed := true }
def PlacementCountsUptoSaid : Prop := placementCountsUptoRow.holds Tryz.pinned (OpenSpec.upto placementCountsSpec)

/-- 'exoduslaw20.PlacementSums', WHERE WHAT IT READS IS OF BULK AT MOST 1048576: true; the input reads as it did. -/
def placementSumsUptoRow : OpenClaim := { program := "ytchpbaaabnkkkaagreatdoor", sum := "8674c47d91b4bb39af51ef4f986a634706369cf16711d626af49eda018af8bb4", func := "exodus/exoduslaw20.PlacementSums", spec := "placementSums", inPlace := ["internal/abi.NoEscape", "internal/bytealg.MakeNoZero"], unfollowed := true, recurses := true, named := ["strings.asciiSpace", "unicode.White_Space"], apart := false, laid := [("unicode.White_Space", laid_unicode_White_Space), ("strings.asciiSpace", laid_strings_asciiSpace)], narrowed := true }
def PlacementSumsUptoSaid : Prop := placementSumsUptoRow.holds Tryz.pinned (OpenSpec.upto placementSumsSpec)

/-- 'exoduslaw23.MovesEffects', WHERE WHAT IT READS IS OF BULK AT MOST 1048576: true; the input reads as it did. -/
def movesEffectsUptoRow : OpenClaim := { program := "ytchpbaaabnkkkaagreatdoor", sum := "8674c47d91b4bb39af51ef4f986a634706369cf16711d626af49eda018af8bb4", func := "exodus/exoduslaw23.MovesEffects", spec := "movesEffects", unfollowed := true, recurses := true, named := ["strings.asciiSpace", "unicode.White_Space"], apart := false, laid := [("unicode.White_Space", laid_unicode_White_Space), ("strings.asciiSpace", laid_strings_asciiSpace)], narrowed := true }
def MovesEffectsUptoSaid : Prop := movesEffectsUptoRow.holds Tryz.pinned (OpenSpec.upto movesEffectsSpec)

/-- 'exoduslaw23.MovesWhole', WHERE WHAT IT READS IS OF BULK AT MOST 1048576: true; the input reads as it did. -/
def movesWholeUptoRow : OpenClaim := { program := "ytchpbaaabnkkkaagreatdoor", sum := "8674c47d91b4bb39af51ef4f986a634706369cf16711d626af49eda018af8bb4", func := "exodus/exoduslaw23.MovesWhole", spec := "movesWhole", unfollowed := true, recurses := true, named := ["strings.asciiSpace", "unicode.White_Space"], apart := false, laid := [("unicode.White_Space", laid_unicode_White_Space), ("strings.asciiSpace", laid_strings_asciiSpace)], narrowed := true }
def MovesWholeUptoSaid : Prop := movesWholeUptoRow.holds Tryz.pinned (OpenSpec.upto movesWholeSpec)

end Rows
end Go.Proofs.YtchpbaaabnkkkaaGreatDoor

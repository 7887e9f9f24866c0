/-
  NARROWER THAN 'FOR EVERY INPUT', by the rows' own cells (each row's printed sentence says how): NaturalQuotients: laid · NaturalTexts: laid · NaturalOrder: laid · NaturalSums: laid · NaturalRing: laid · NaturalForms: laid · NaturalDivisors: laid.
  DERIVED. THE GIVEN ROWS OF THIS SEAT. 7 by the template 'for every input the law returns true; each argument reads behind the call as it read before'; 0 by the template 'total and deterministic' (their statements: YtjhnbepjdpgemaaDoorTotals.lean).
  GIVEN WITH THE SEED: the statements are not yours to turn. If you find one false, say at which input.
  Laid BY PROGRAM, IN A SANDBOX (cutbox-rows.mjs): the forced cells as the released guide's own fill.sh prints them over the translation 5282c0a18900bed1… (all of the seat's roots in one cut). By AI agents, Wed Nov 11 2026. No macro, syntax, notation, axiom, sorry.
-/
import Derived.Test.YtjhnbepjdpgemaaDoorChecked
import GoSem.Claim
import GoSem.ClaimJoined
import GoSem.ClaimMapViews
import Derived.JoinedTies
import Derived.KernelRfl
namespace Go.Proofs.YtjhnbepjdpgemaaDoor
/- THE CELL 'sum', in the pinned program and in every row, IS THE sha256 OF THE DUMP (.gsa) THAT YtjhnbepjdpgemaaDoorProg.lean LOADS. Nothing in Lean hashes anything: it is a label: what it is worth is what the hold of that sum in a sandbox is worth. -/
noncomputable def Tryd.pinned : Pinned := { name := "ytjhnbepjdpgemaadoor", sum := "5282c0a18900bed1c2aa7c0def8a2873ce5bffe83bd87733d94d6045cab9ef7f", checked := Tryd.checked }
namespace Rows
def none {H : Type} : Left H := { results := [], args := [] }

/- WHAT THE LISTED PACKAGE-LEVEL VARIABLES READ AS WHEN THE CALL BEGINS. Each datum BY PROGRAM (the guide's laid-datum.mjs) off the statement by which the dump's own 'gosem.cut.vars' lays the variable. In a bare row this is a premise. The card (YtjhnbepjdpgemaaDoorCards.lean) ties it to the program's text. -/
def laid_math_bits_deBruijn32tab {H : Type} : DataW H := .agg [.lit (.int .u8 0), .lit (.int .u8 1), .lit (.int .u8 28), .lit (.int .u8 2), .lit (.int .u8 29), .lit (.int .u8 14), .lit (.int .u8 24), .lit (.int .u8 3), .lit (.int .u8 30), .lit (.int .u8 22), .lit (.int .u8 20), .lit (.int .u8 15), .lit (.int .u8 25), .lit (.int .u8 17), .lit (.int .u8 4), .lit (.int .u8 8), .lit (.int .u8 31), .lit (.int .u8 27), .lit (.int .u8 13), .lit (.int .u8 23), .lit (.int .u8 21), .lit (.int .u8 19), .lit (.int .u8 16), .lit (.int .u8 7), .lit (.int .u8 26), .lit (.int .u8 12), .lit (.int .u8 18), .lit (.int .u8 6), .lit (.int .u8 11), .lit (.int .u8 5), .lit (.int .u8 10), .lit (.int .u8 9)]
def laid_math_bits_deBruijn64tab {H : Type} : DataW H := .agg [.lit (.int .u8 0), .lit (.int .u8 1), .lit (.int .u8 56), .lit (.int .u8 2), .lit (.int .u8 57), .lit (.int .u8 49), .lit (.int .u8 28), .lit (.int .u8 3), .lit (.int .u8 61), .lit (.int .u8 58), .lit (.int .u8 42), .lit (.int .u8 50), .lit (.int .u8 38), .lit (.int .u8 29), .lit (.int .u8 17), .lit (.int .u8 4), .lit (.int .u8 62), .lit (.int .u8 47), .lit (.int .u8 59), .lit (.int .u8 36), .lit (.int .u8 45), .lit (.int .u8 43), .lit (.int .u8 51), .lit (.int .u8 22), .lit (.int .u8 53), .lit (.int .u8 39), .lit (.int .u8 33), .lit (.int .u8 30), .lit (.int .u8 24), .lit (.int .u8 18), .lit (.int .u8 12), .lit (.int .u8 5), .lit (.int .u8 63), .lit (.int .u8 55), .lit (.int .u8 48), .lit (.int .u8 27), .lit (.int .u8 60), .lit (.int .u8 41), .lit (.int .u8 37), .lit (.int .u8 16), .lit (.int .u8 46), .lit (.int .u8 35), .lit (.int .u8 44), .lit (.int .u8 21), .lit (.int .u8 52), .lit (.int .u8 32), .lit (.int .u8 23), .lit (.int .u8 11), .lit (.int .u8 54), .lit (.int .u8 26), .lit (.int .u8 40), .lit (.int .u8 15), .lit (.int .u8 34), .lit (.int .u8 20), .lit (.int .u8 31), .lit (.int .u8 10), .lit (.int .u8 25), .lit (.int .u8 14), .lit (.int .u8 19), .lit (.int .u8 9), .lit (.int .u8 13), .lit (.int .u8 8), .lit (.int .u8 7), .lit (.int .u8 6)]
def laid_internal_strconv_uint64pow10 {H : Type} : DataW H := .agg [.lit (.int .u64 1), .lit (.int .u64 10), .lit (.int .u64 100), .lit (.int .u64 1000), .lit (.int .u64 10000), .lit (.int .u64 100000), .lit (.int .u64 1000000), .lit (.int .u64 10000000), .lit (.int .u64 100000000), .lit (.int .u64 1000000000), .lit (.int .u64 10000000000), .lit (.int .u64 100000000000), .lit (.int .u64 1000000000000), .lit (.int .u64 10000000000000), .lit (.int .u64 100000000000000), .lit (.int .u64 1000000000000000), .lit (.int .u64 10000000000000000), .lit (.int .u64 100000000000000000), .lit (.int .u64 1000000000000000000), .lit (.int .u64 10000000000000000000)]

/-- 'exoduslaw01.NaturalQuotients': WHATEVER THE INPUT: true; the input reads as it did. -/
def naturalQuotientsSpec : ChangeSpec := { name := "naturalQuotients", fn := fun _ => fun
  | [d1, d2] => { results := [.lit (.bool true)], args := [d1, d2] }
  | _ => none }
def naturalQuotientsRow : OpenClaim := { program := "ytjhnbepjdpgemaadoor", sum := "5282c0a18900bed1c2aa7c0def8a2873ce5bffe83bd87733d94d6045cab9ef7f", func := "exodus/exoduslaw01.NaturalQuotients", spec := "naturalQuotients", inPlace := ["internal/abi.NoEscape", "internal/bytealg.MakeNoZero"], unfollowed := true, recurses := true, named := ["internal/strconv.uint64pow10", "math/bits.deBruijn32tab", "math/bits.deBruijn64tab"], apart := false, laid := [("math/bits.deBruijn32tab", laid_math_bits_deBruijn32tab), ("math/bits.deBruijn64tab", laid_math_bits_deBruijn64tab), ("internal/strconv.uint64pow10", laid_internal_strconv_uint64pow10)] }
def NaturalQuotientsSaid : Prop := naturalQuotientsRow.holds Tryd.pinned (OpenSpec.ofChange naturalQuotientsSpec)

/-- ITS FALSE NEIGHBOUR: 'it returns false'. Refute it at one input. -/
def naturalQuotientsWrong : ChangeSpec := { name := "naturalQuotients", fn := fun _ => fun
  | [d1, d2] => { results := [.lit (.bool false)], args := [d1, d2] }
  | _ => none }
def NaturalQuotientsWrongFalsely : Prop := naturalQuotientsRow.holds Tryd.pinned (OpenSpec.ofChange naturalQuotientsWrong)

/-- 'exoduslaw01.NaturalTexts': WHATEVER THE INPUT: true; the input reads as it did. -/
def naturalTextsSpec : ChangeSpec := { name := "naturalTexts", fn := fun _ => fun
  | [d] => { results := [.lit (.bool true)], args := [d] }
  | _ => none }
def naturalTextsRow : OpenClaim := { program := "ytjhnbepjdpgemaadoor", sum := "5282c0a18900bed1c2aa7c0def8a2873ce5bffe83bd87733d94d6045cab9ef7f", func := "exodus/exoduslaw01.NaturalTexts", spec := "naturalTexts", inPlace := ["internal/abi.NoEscape", "internal/bytealg.MakeNoZero"], unfollowed := true, recurses := true, named := ["internal/strconv.uint64pow10", "math/bits.deBruijn32tab", "math/bits.deBruijn64tab"], apart := false, laid := [("math/bits.deBruijn32tab", laid_math_bits_deBruijn32tab), ("math/bits.deBruijn64tab", laid_math_bits_deBruijn64tab), ("internal/strconv.uint64pow10", laid_internal_strconv_uint64pow10)] }
def NaturalTextsSaid : Prop := naturalTextsRow.holds Tryd.pinned (OpenSpec.ofChange naturalTextsSpec)

/-- ITS FALSE NEIGHBOUR: 'it returns false'. Refute it at one input. -/
def naturalTextsWrong : ChangeSpec := { name := "naturalTexts", fn := fun _ => fun
  | [d] => { results := [.lit (.bool false)], args := [d] }
  | _ => none }
def NaturalTextsWrongFalsely : Prop := naturalTextsRow.holds Tryd.pinned (OpenSpec.ofChange naturalTextsWrong)

/-- 'exoduslaw01.NaturalOrder': WHATEVER THE INPUT: true; the input reads as it did. -/
def naturalOrderSpec : ChangeSpec := { name := "naturalOrder", fn := fun _ => fun
  | [d1, d2, d3] => { results := [.lit (.bool true)], args := [d1, d2, d3] }
  | _ => none }
def naturalOrderRow : OpenClaim := { program := "ytjhnbepjdpgemaadoor", sum := "5282c0a18900bed1c2aa7c0def8a2873ce5bffe83bd87733d94d6045cab9ef7f", func := "exodus/exoduslaw01.NaturalOrder", spec := "naturalOrder", inPlace := ["internal/abi.NoEscape", "internal/bytealg.MakeNoZero"], unfollowed := true, recurses := true, named := ["internal/strconv.uint64pow10", "math/bits.deBruijn32tab", "math/bits.deBruijn64tab"], apart := false, laid := [("math/bits.deBruijn32tab", laid_math_bits_deBruijn32tab), ("math/bits.deBruijn64tab", laid_math_bits_deBruijn64tab), ("internal/strconv.uint64pow10", laid_internal_strconv_uint64pow10)] }
def NaturalOrderSaid : Prop := naturalOrderRow.holds Tryd.pinned (OpenSpec.ofChange naturalOrderSpec)

/-- ITS FALSE NEIGHBOUR: 'it returns false'. Refute it at one input. -/
def naturalOrderWrong : ChangeSpec := { name := "naturalOrder", fn := fun _ => fun
  | [d1, d2, d3] => { results := [.lit (.bool false)], args := [d1, d2, d3] }
  | _ => none }
def NaturalOrderWrongFalsely : Prop := naturalOrderRow.holds Tryd.pinned (OpenSpec.ofChange naturalOrderWrong)

/-- 'exoduslaw01.NaturalSums': WHATEVER THE INPUT: true; the input reads as it did. -/
def naturalSumsSpec : ChangeSpec := { name := "naturalSums", fn := fun _ => fun
  | [d1, d2] => { results := [.lit (.bool true)], args := [d1, d2] }
  | _ => none }
def naturalSumsRow : OpenClaim := { program := "ytjhnbepjdpgemaadoor", sum := "5282c0a18900bed1c2aa7c0def8a2873ce5bffe83bd87733d94d6045cab9ef7f", func := "exodus/exoduslaw01.NaturalSums", spec := "naturalSums", inPlace := ["internal/abi.NoEscape", "internal/bytealg.MakeNoZero"], unfollowed := true, recurses := true, named := ["internal/strconv.uint64pow10", "math/bits.deBruijn32tab", "math/bits.deBruijn64tab"], apart := false, laid := [("math/bits.deBruijn32tab", laid_math_bits_deBruijn32tab), ("math/bits.deBruijn64tab", laid_math_bits_deBruijn64tab), ("internal/strconv.uint64pow10", laid_internal_strconv_uint64pow10)] }
def NaturalSumsSaid : Prop := naturalSumsRow.holds Tryd.pinned (OpenSpec.ofChange naturalSumsSpec)

/-- ITS FALSE NEIGHBOUR: 'it returns false'. Refute it at one input. -/
def naturalSumsWrong : ChangeSpec := { name := "naturalSums", fn := fun _ => fun
  | [d1, d2] => { results := [.lit (.bool false)], args := [d1, d2] }
  | _ => none }
def NaturalSumsWrongFalsely : Prop := naturalSumsRow.holds Tryd.pinned (OpenSpec.ofChange naturalSumsWrong)

/-- 'exoduslaw01.NaturalRing': WHATEVER THE INPUT: true; the input reads as it did. -/
def naturalRingSpec : ChangeSpec := { name := "naturalRing", fn := fun _ => fun
  | [d1, d2, d3] => { results := [.lit (.bool true)], args := [d1, d2, d3] }
  | _ => none }
def naturalRingRow : OpenClaim := { program := "ytjhnbepjdpgemaadoor", sum := "5282c0a18900bed1c2aa7c0def8a2873ce5bffe83bd87733d94d6045cab9ef7f", func := "exodus/exoduslaw01.NaturalRing", spec := "naturalRing", inPlace := ["internal/abi.NoEscape", "internal/bytealg.MakeNoZero"], unfollowed := true, recurses := true, named := ["internal/strconv.uint64pow10", "math/bits.deBruijn32tab", "math/bits.deBruijn64tab"], apart := false, laid := [("math/bits.deBruijn32tab", laid_math_bits_deBruijn32tab), ("math/bits.deBruijn64tab", laid_math_bits_deBruijn64tab), ("internal/strconv.uint64pow10", laid_internal_strconv_uint64pow10)] }
def NaturalRingSaid : Prop := naturalRingRow.holds Tryd.pinned (OpenSpec.ofChange naturalRingSpec)

/-- ITS FALSE NEIGHBOUR: 'it returns false'. Refute it at one input. -/
def naturalRingWrong : ChangeSpec := { name := "naturalRing", fn := fun _ => fun
  | [d1, d2, d3] => { results := [.lit (.bool false)], args := [d1, d2, d3] }
  | _ => none }
def NaturalRingWrongFalsely : Prop := naturalRingRow.holds Tryd.pinned (OpenSpec.ofChange naturalRingWrong)

/-- 'exoduslaw01.NaturalForms': WHATEVER THE INPUT: true; the input reads as it did. -/
def naturalFormsSpec : ChangeSpec := { name := "naturalForms", fn := fun _ => fun
  | [d1, d2] => { results := [.lit (.bool true)], args := [d1, d2] }
  | _ => none }
def naturalFormsRow : OpenClaim := { program := "ytjhnbepjdpgemaadoor", sum := "5282c0a18900bed1c2aa7c0def8a2873ce5bffe83bd87733d94d6045cab9ef7f", func := "exodus/exoduslaw01.NaturalForms", spec := "naturalForms", inPlace := ["internal/abi.NoEscape", "internal/bytealg.MakeNoZero"], unfollowed := true, recurses := true, named := ["internal/strconv.uint64pow10", "math/bits.deBruijn32tab", "math/bits.deBruijn64tab"], apart := false, laid := [("math/bits.deBruijn32tab", laid_math_bits_deBruijn32tab), ("math/bits.deBruijn64tab", laid_math_bits_deBruijn64tab), ("internal/strconv.uint64pow10", laid_internal_strconv_uint64pow10)] }
def NaturalFormsSaid : Prop := naturalFormsRow.holds Tryd.pinned (OpenSpec.ofChange naturalFormsSpec)

/-- ITS FALSE NEIGHBOUR: 'it returns false'. Refute it at one input. -/
def naturalFormsWrong : ChangeSpec := { name := "naturalForms", fn := fun _ => fun
  | [d1, d2] => { results := [.lit (.bool false)], args := [d1, d2] }
  | _ => none }
def NaturalFormsWrongFalsely : Prop := naturalFormsRow.holds Tryd.pinned (OpenSpec.ofChange naturalFormsWrong)

/-- 'exoduslaw01.NaturalDivisors': WHATEVER THE INPUT: true; the input reads as it did. -/
def naturalDivisorsSpec : ChangeSpec := { name := "naturalDivisors", fn := fun _ => fun
  | [d1, d2, d3] => { results := [.lit (.bool true)], args := [d1, d2, d3] }
  | _ => none }
def naturalDivisorsRow : OpenClaim := { program := "ytjhnbepjdpgemaadoor", sum := "5282c0a18900bed1c2aa7c0def8a2873ce5bffe83bd87733d94d6045cab9ef7f", func := "exodus/exoduslaw01.NaturalDivisors", spec := "naturalDivisors", inPlace := ["internal/abi.NoEscape", "internal/bytealg.MakeNoZero"], unfollowed := true, recurses := true, named := ["internal/strconv.uint64pow10", "math/bits.deBruijn32tab", "math/bits.deBruijn64tab"], apart := false, laid := [("math/bits.deBruijn32tab", laid_math_bits_deBruijn32tab), ("math/bits.deBruijn64tab", laid_math_bits_deBruijn64tab), ("internal/strconv.uint64pow10", laid_internal_strconv_uint64pow10)] }
def NaturalDivisorsSaid : Prop := naturalDivisorsRow.holds Tryd.pinned (OpenSpec.ofChange naturalDivisorsSpec)

/-- ITS FALSE NEIGHBOUR: 'it returns false'. Refute it at one input. -/
def naturalDivisorsWrong : ChangeSpec := { name := "naturalDivisors", fn := fun _ => fun
  | [d1, d2, d3] => { results := [.lit (.bool false)], args := [d1, d2, d3] }
  | _ => none }
def NaturalDivisorsWrongFalsely : Prop := naturalDivisorsRow.holds Tryd.pinned (OpenSpec.ofChange naturalDivisorsWrong)

/- THE SECOND FORM. 'bulk': how many values and letters a reading holds, each counted each time it is reached (what is shared counts as often as it is met; a slice's spare places count too). A statement '..UptoSaid' is the law's where the arguments, and the package variables that the reading takes, are together of bulk at most 1048576: NARROWER than '..Said'. Prove '..Said' where nothing that the law and all that it calls make is longer than what came in: it says more and counts as full. Else prove '..UptoSaid'. A law counts once. -/
mutual
def uptoBulk {H : Type} : DataW H → Nat
  | .lit (.string bytes) => bytes.length + 1
  | .lit _ => 1
  | .nil => 1
  | .ptr d => uptoBulk d + 1
  | .slice elems spare => uptoBulkAll elems + uptoBulkAll spare + 1
  | .agg parts => uptoBulkAll parts + 1
  | .iface _ d => uptoBulk d + 1
  | .map entries => uptoBulkEntries entries + 1
  | .held _ => 1
def uptoBulkAll {H : Type} : List (DataW H) → Nat
  | [] => 0
  | d :: r => uptoBulk d + uptoBulkAll r
def uptoBulkEntries {H : Type} : List (Lit × DataW H) → Nat
  | [] => 0
  | x :: r => uptoBulkEntry x + uptoBulkEntries r
def uptoBulkEntry {H : Type} : Lit × DataW H → Nat
  | (.string bytes, d) => bytes.length + uptoBulk d + 1
  | (_, d) => uptoBulk d + 1
 end
def uptoSmall : (H : Type) → List (DataW H) → Bool := fun _ ds => decide (uptoBulkAll ds ≤ 1048576)
def OpenSpec.upto (s : _root_.Go.ChangeSpec) : _root_.Go.OpenSpec := { _root_.Go.OpenSpec.ofChange s with cond := some uptoSmall }

/-- 'exoduslaw01.NaturalQuotients', WHERE WHAT IT READS IS OF BULK AT MOST 1048576: true; the input reads as it did. -/
def naturalQuotientsUptoRow : OpenClaim := { program := "ytjhnbepjdpgemaadoor", sum := "5282c0a18900bed1c2aa7c0def8a2873ce5bffe83bd87733d94d6045cab9ef7f", func := "exodus/exoduslaw01.NaturalQuotients", spec := "naturalQuotients", inPlace := ["internal/abi.NoEscape", "internal/bytealg.MakeNoZero"], unfollowed := true, recurses := true, named := ["internal/strconv.uint64pow10", "math/bits.deBruijn32tab", "math/bits.deBruijn64tab"], apart := false, laid := [("math/bits.deBruijn32tab", laid_math_bits_deBruijn32tab), ("math/bits.deBruijn64tab", laid_math_bits_deBruijn64tab), ("internal/strconv.uint64pow10", laid_internal_strconv_uint64pow10)], narrowed := true }
def NaturalQuotientsUptoSaid : Prop := naturalQuotientsUptoRow.holds Tryd.pinned (OpenSpec.upto naturalQuotientsSpec)

/-- 'exoduslaw01.NaturalTexts', WHERE WHAT IT READS IS OF BULK AT MOST 1048576: true; the input reads as it did. -/
def naturalTextsUptoRow : OpenClaim := { program := "ytjhnbepjdpgemaadoor", sum := "5282c0a18900bed1c2aa7c0def8a2873ce5bffe83bd87733d94d6045cab9ef7f", func := "exodus/exoduslaw01.NaturalTexts", spec := "naturalTexts", inPlace := ["internal/abi.NoEscape", "internal/bytealg.MakeNoZero"], unfollowed := true, recurses := true, named := ["internal/strconv.uint64pow10", "math/bits.deBruijn32tab", "math/bits.deBruijn64tab"], apart := false, laid := [("math/bits.deBruijn32tab", laid_math_bits_deBruijn32tab), ("math/bits.deBruijn64tab", laid_math_bits_deBruijn64tab), ("internal/strconv.uint64pow10", laid_internal_strconv_uint64pow10)], narrowed := true }
def NaturalTextsUptoSaid : Prop := naturalTextsUptoRow.holds Tryd.pinned (OpenSpec.upto naturalTextsSpec)

/-- 'exoduslaw01.NaturalOrder', WHERE WHAT IT READS IS OF BULK AT MOST 1048576: true; the input reads as it did. -/
def naturalOrderUptoRow : OpenClaim := { program := "ytjhnbepjdpgemaadoor", sum := "5282c0a18900bed1c2aa7c0def8a2873ce5bffe83bd87733d94d6045cab9ef7f", func := "exodus/exoduslaw01.NaturalOrder", spec := "naturalOrder", inPlace := ["internal/abi.NoEscape", "internal/bytealg.MakeNoZero"], unfollowed := true, recurses := true, named := ["internal/strconv.uint64pow10", "math/bits.deBruijn32tab", "math/bits.deBruijn64tab"], apart := false, laid := [("math/bits.deBruijn32tab", laid_math_bits_deBruijn32tab), ("math/bits.deBruijn64tab", laid_math_bits_deBruijn64tab), ("internal/strconv.uint64pow10", laid_internal_strconv_uint64pow10)], narrowed := true }
def NaturalOrderUptoSaid : Prop := naturalOrderUptoRow.holds Tryd.pinned (OpenSpec.upto naturalOrderSpec)

/-- 'exoduslaw01.NaturalSums', WHERE WHAT IT READS IS OF BULK AT MOST 1048576: true; the input reads as it did. -/
def naturalSumsUptoRow : OpenClaim := { program := "ytjhnbepjdpgemaadoor", sum := "5282c0a18900bed1c2aa7c0def8a2873ce5bffe83bd87733d94d6045cab9ef7f", func := "exodus/exoduslaw01.NaturalSums", spec := "naturalSums", inPlace := ["internal/abi.NoEscape", "internal/bytealg.MakeNoZero"], unfollowed := true, recurses := true, named := ["internal/strconv.uint64pow10", "math/bits.deBruijn32tab", "math/bits.deBruijn64tab"], apart := false, laid := [("math/bits.deBruijn32tab", laid_math_bits_deBruijn32tab), ("math/bits.deBruijn64tab", laid_math_bits_deBruijn64tab), ("internal/strconv.uint64pow10", laid_internal_strconv_uint64pow10)], narrowed := true }
def NaturalSumsUptoSaid : Prop := naturalSumsUptoRow.holds Tryd.pinned (OpenSpec.upto naturalSumsSpec)

/-- 'exoduslaw01.NaturalRing', WHERE WHAT IT READS IS OF BULK AT MOST 1048576: true; the input reads as it did. -/
def naturalRingUptoRow : OpenClaim := { program := "ytjhnbepjdpgemaadoor", sum := "5282c0a18900bed1c2aa7c0def8a2873ce5bffe83bd87733d94d6045cab9ef7f", func := "exodus/exoduslaw01.NaturalRing", spec := "naturalRing", inPlace := ["internal/abi.NoEscape", "internal/bytealg.MakeNoZero"], unfollowed := true, recurses := true, named := ["internal/strconv.uint64pow10", "math/bits.deBruijn32tab", "math/bits.deBruijn64tab"], apart := false, laid := [("math/bits.deBruijn32tab", laid_math_bits_deBruijn32tab), ("math/bits.deBruijn64tab", laid_math_bits_deBruijn64tab), ("internal/strconv.uint64pow10", laid_internal_strconv_uint64pow10)], narrowed := true }
def NaturalRingUptoSaid : Prop := naturalRingUptoRow.holds Tryd.pinned (OpenSpec.upto naturalRingSpec)

/-- 'exoduslaw01.NaturalForms', WHERE WHAT IT READS IS OF BULK AT MOST 1048576: true; the input reads as it did. -/
def naturalFormsUptoRow : OpenClaim := { program := "ytjhnbepjdpgemaadoor", sum := "5282c0a18900bed1c2aa7c0def8a2873ce5bffe83bd87733d94d6045cab9ef7f", func := "exodus/exoduslaw01.NaturalForms", spec := "naturalForms", inPlace := ["internal/abi.NoEscape", "internal/bytealg.MakeNoZero"], unfollowed := true, recurses := true, named := ["internal/strconv.uint64pow10", "math/bits.deBruijn32tab", "math/bits.deBruijn64tab"], apart := false, laid := [("math/bits.deBruijn32tab", laid_math_bits_deBruijn32tab), ("math/bits.deBruijn64tab", laid_math_bits_deBruijn64tab), ("internal/strconv.uint64pow10", laid_internal_strconv_uint64pow10)], narrowed := true }
def NaturalFormsUptoSaid : Prop := naturalFormsUptoRow.holds Tryd.pinned (OpenSpec.upto naturalFormsSpec)

/-- 'exoduslaw01.NaturalDivisors', WHERE WHAT IT READS IS OF BULK AT MOST 1048576: true; the input reads as it did. -/
def naturalDivisorsUptoRow : OpenClaim := { program := "ytjhnbepjdpgemaadoor", sum := "5282c0a18900bed1c2aa7c0def8a2873ce5bffe83bd87733d94d6045cab9ef7f", func := "exodus/exoduslaw01.NaturalDivisors", spec := "naturalDivisors", inPlace := ["internal/abi.NoEscape", "internal/bytealg.MakeNoZero"], unfollowed := true, recurses := true, named := ["internal/strconv.uint64pow10", "math/bits.deBruijn32tab", "math/bits.deBruijn64tab"], apart := false, laid := [("math/bits.deBruijn32tab", laid_math_bits_deBruijn32tab), ("math/bits.deBruijn64tab", laid_math_bits_deBruijn64tab), ("internal/strconv.uint64pow10", laid_internal_strconv_uint64pow10)], narrowed := true }
def NaturalDivisorsUptoSaid : Prop := naturalDivisorsUptoRow.holds Tryd.pinned (OpenSpec.upto naturalDivisorsSpec)

end Rows
end Go.Proofs.YtjhnbepjdpgemaaDoor

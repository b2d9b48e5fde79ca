/-
  NARROWER THAN 'FOR EVERY INPUT', by the rows' own cells (each row's printed sentence says how): ExactMakes: laid · ExactDecimals: laid · ExactQuotients: laid · ExactProducts: laid · ExactSums: laid · ExactRounds: laid · ExactField: laid · ExactTexts: laid · ExactParses: laid.
  DERIVED. THE GIVEN ROWS OF THIS SEAT. 9 by the template 'for every input the law returns true; each argument reads behind the call as it read before'; 0 by the template 'total and deterministic' (their statements: YtgeaibjbkpfgmaaDoorTotals.lean).
  GIVEN WITH THE SEED: the statements are not yours to turn. If you find one false, say at which input.
  Laid BY PROGRAM, IN A SANDBOX (cutbox-rows.mjs): the forced cells as the released guide's own fill.sh prints them over the translation 19518db09d2999eb… (all of the seat's roots in one cut). By AI agents, Wed Nov 11 2026. No macro, syntax, notation, axiom, sorry.
-/
import Derived.Test.YtgeaibjbkpfgmaaDoorChecked
import GoSem.Claim
import GoSem.ClaimJoined
import GoSem.ClaimMapViews
import Derived.JoinedTies
import Derived.KernelRfl
namespace Go.Proofs.YtgeaibjbkpfgmaaDoor
/- THE CELL 'sum', in the pinned program and in every row, IS THE sha256 OF THE DUMP (.gsa) THAT YtgeaibjbkpfgmaaDoorProg.lean LOADS. Nothing in Lean hashes anything: it is a label: what it is worth is what the hold of that sum in a sandbox is worth. -/
noncomputable def Tryd.pinned : Pinned := { name := "ytgeaibjbkpfgmaadoor", sum := "19518db09d2999ebd1833fccf5d84deeaf4b9b65a505d0df6e8b8a03bfdd839a", checked := Tryd.checked }
namespace Rows
def none {H : Type} : Left H := { results := [], args := [] }

/- WHAT THE LISTED PACKAGE-LEVEL VARIABLES READ AS WHEN THE CALL BEGINS. Each datum BY PROGRAM (the guide's laid-datum.mjs) off the statement by which the dump's own 'gosem.cut.vars' lays the variable. In a bare row this is a premise. The card (YtgeaibjbkpfgmaaDoorCards.lean) ties it to the program's text. -/
def laid_math_bits_deBruijn32tab {H : Type} : DataW H := .agg [.lit (.int .u8 0), .lit (.int .u8 1), .lit (.int .u8 28), .lit (.int .u8 2), .lit (.int .u8 29), .lit (.int .u8 14), .lit (.int .u8 24), .lit (.int .u8 3), .lit (.int .u8 30), .lit (.int .u8 22), .lit (.int .u8 20), .lit (.int .u8 15), .lit (.int .u8 25), .lit (.int .u8 17), .lit (.int .u8 4), .lit (.int .u8 8), .lit (.int .u8 31), .lit (.int .u8 27), .lit (.int .u8 13), .lit (.int .u8 23), .lit (.int .u8 21), .lit (.int .u8 19), .lit (.int .u8 16), .lit (.int .u8 7), .lit (.int .u8 26), .lit (.int .u8 12), .lit (.int .u8 18), .lit (.int .u8 6), .lit (.int .u8 11), .lit (.int .u8 5), .lit (.int .u8 10), .lit (.int .u8 9)]
def laid_math_bits_deBruijn64tab {H : Type} : DataW H := .agg [.lit (.int .u8 0), .lit (.int .u8 1), .lit (.int .u8 56), .lit (.int .u8 2), .lit (.int .u8 57), .lit (.int .u8 49), .lit (.int .u8 28), .lit (.int .u8 3), .lit (.int .u8 61), .lit (.int .u8 58), .lit (.int .u8 42), .lit (.int .u8 50), .lit (.int .u8 38), .lit (.int .u8 29), .lit (.int .u8 17), .lit (.int .u8 4), .lit (.int .u8 62), .lit (.int .u8 47), .lit (.int .u8 59), .lit (.int .u8 36), .lit (.int .u8 45), .lit (.int .u8 43), .lit (.int .u8 51), .lit (.int .u8 22), .lit (.int .u8 53), .lit (.int .u8 39), .lit (.int .u8 33), .lit (.int .u8 30), .lit (.int .u8 24), .lit (.int .u8 18), .lit (.int .u8 12), .lit (.int .u8 5), .lit (.int .u8 63), .lit (.int .u8 55), .lit (.int .u8 48), .lit (.int .u8 27), .lit (.int .u8 60), .lit (.int .u8 41), .lit (.int .u8 37), .lit (.int .u8 16), .lit (.int .u8 46), .lit (.int .u8 35), .lit (.int .u8 44), .lit (.int .u8 21), .lit (.int .u8 52), .lit (.int .u8 32), .lit (.int .u8 23), .lit (.int .u8 11), .lit (.int .u8 54), .lit (.int .u8 26), .lit (.int .u8 40), .lit (.int .u8 15), .lit (.int .u8 34), .lit (.int .u8 20), .lit (.int .u8 31), .lit (.int .u8 10), .lit (.int .u8 25), .lit (.int .u8 14), .lit (.int .u8 19), .lit (.int .u8 9), .lit (.int .u8 13), .lit (.int .u8 8), .lit (.int .u8 7), .lit (.int .u8 6)]
def laid_internal_strconv_uint64pow10 {H : Type} : DataW H := .agg [.lit (.int .u64 1), .lit (.int .u64 10), .lit (.int .u64 100), .lit (.int .u64 1000), .lit (.int .u64 10000), .lit (.int .u64 100000), .lit (.int .u64 1000000), .lit (.int .u64 10000000), .lit (.int .u64 100000000), .lit (.int .u64 1000000000), .lit (.int .u64 10000000000), .lit (.int .u64 100000000000), .lit (.int .u64 1000000000000), .lit (.int .u64 10000000000000), .lit (.int .u64 100000000000000), .lit (.int .u64 1000000000000000), .lit (.int .u64 10000000000000000), .lit (.int .u64 100000000000000000), .lit (.int .u64 1000000000000000000), .lit (.int .u64 10000000000000000000)]
def laid_strconv_ErrRange {H : Type} : DataW H := .iface "*errors.errorString" (.ptr (.agg [.lit (.string [118, 97, 108, 117, 101, 32, 111, 117, 116, 32, 111, 102, 32, 114, 97, 110, 103, 101])]))
def laid_strconv_ErrSyntax {H : Type} : DataW H := .iface "*errors.errorString" (.ptr (.agg [.lit (.string [105, 110, 118, 97, 108, 105, 100, 32, 115, 121, 110, 116, 97, 120])]))

/-- 'scorebooklaw01.ExactMakes': WHATEVER THE INPUT: true; the input reads as it did. -/
def exactMakesSpec : ChangeSpec := { name := "exactMakes", fn := fun _ => fun
  | [d1, d2] => { results := [.lit (.bool true)], args := [d1, d2] }
  | _ => none }
def exactMakesRow : OpenClaim := { program := "ytgeaibjbkpfgmaadoor", sum := "19518db09d2999ebd1833fccf5d84deeaf4b9b65a505d0df6e8b8a03bfdd839a", func := "scorebook/scorebooklaw01.ExactMakes", spec := "exactMakes", inPlace := ["internal/abi.NoEscape", "internal/bytealg.MakeNoZero"], named := ["internal/strconv.uint64pow10", "math/bits.deBruijn32tab", "math/bits.deBruijn64tab"], apart := false, laid := [("math/bits.deBruijn32tab", laid_math_bits_deBruijn32tab), ("math/bits.deBruijn64tab", laid_math_bits_deBruijn64tab), ("internal/strconv.uint64pow10", laid_internal_strconv_uint64pow10)] }
def ExactMakesSaid : Prop := exactMakesRow.holds Tryd.pinned (OpenSpec.ofChange exactMakesSpec)

/-- ITS FALSE NEIGHBOUR: 'it returns false'. Refute it at one input. -/
def exactMakesWrong : ChangeSpec := { name := "exactMakes", fn := fun _ => fun
  | [d1, d2] => { results := [.lit (.bool false)], args := [d1, d2] }
  | _ => none }
def ExactMakesWrongFalsely : Prop := exactMakesRow.holds Tryd.pinned (OpenSpec.ofChange exactMakesWrong)

/-- 'scorebooklaw01.ExactDecimals': WHATEVER THE INPUT: true; the input reads as it did. -/
def exactDecimalsSpec : ChangeSpec := { name := "exactDecimals", fn := fun _ => fun
  | [d1, d2] => { results := [.lit (.bool true)], args := [d1, d2] }
  | _ => none }
def exactDecimalsRow : OpenClaim := { program := "ytgeaibjbkpfgmaadoor", sum := "19518db09d2999ebd1833fccf5d84deeaf4b9b65a505d0df6e8b8a03bfdd839a", func := "scorebook/scorebooklaw01.ExactDecimals", spec := "exactDecimals", inPlace := ["internal/abi.NoEscape", "internal/bytealg.MakeNoZero"], recurses := true, named := ["internal/strconv.uint64pow10", "math/bits.deBruijn32tab", "math/bits.deBruijn64tab"], apart := false, laid := [("math/bits.deBruijn32tab", laid_math_bits_deBruijn32tab), ("math/bits.deBruijn64tab", laid_math_bits_deBruijn64tab), ("internal/strconv.uint64pow10", laid_internal_strconv_uint64pow10)] }
def ExactDecimalsSaid : Prop := exactDecimalsRow.holds Tryd.pinned (OpenSpec.ofChange exactDecimalsSpec)

/-- ITS FALSE NEIGHBOUR: 'it returns false'. Refute it at one input. -/
def exactDecimalsWrong : ChangeSpec := { name := "exactDecimals", fn := fun _ => fun
  | [d1, d2] => { results := [.lit (.bool false)], args := [d1, d2] }
  | _ => none }
def ExactDecimalsWrongFalsely : Prop := exactDecimalsRow.holds Tryd.pinned (OpenSpec.ofChange exactDecimalsWrong)

/-- 'scorebooklaw01.ExactQuotients': WHATEVER THE INPUT: true; the input reads as it did. -/
def exactQuotientsSpec : ChangeSpec := { name := "exactQuotients", fn := fun _ => fun
  | [d1, d2] => { results := [.lit (.bool true)], args := [d1, d2] }
  | _ => none }
def exactQuotientsRow : OpenClaim := { program := "ytgeaibjbkpfgmaadoor", sum := "19518db09d2999ebd1833fccf5d84deeaf4b9b65a505d0df6e8b8a03bfdd839a", func := "scorebook/scorebooklaw01.ExactQuotients", spec := "exactQuotients", inPlace := ["internal/abi.NoEscape", "internal/bytealg.MakeNoZero"], named := ["internal/strconv.uint64pow10", "math/bits.deBruijn32tab", "math/bits.deBruijn64tab"], apart := false, laid := [("math/bits.deBruijn32tab", laid_math_bits_deBruijn32tab), ("math/bits.deBruijn64tab", laid_math_bits_deBruijn64tab), ("internal/strconv.uint64pow10", laid_internal_strconv_uint64pow10)] }
def ExactQuotientsSaid : Prop := exactQuotientsRow.holds Tryd.pinned (OpenSpec.ofChange exactQuotientsSpec)

/-- ITS FALSE NEIGHBOUR: 'it returns false'. Refute it at one input. -/
def exactQuotientsWrong : ChangeSpec := { name := "exactQuotients", fn := fun _ => fun
  | [d1, d2] => { results := [.lit (.bool false)], args := [d1, d2] }
  | _ => none }
def ExactQuotientsWrongFalsely : Prop := exactQuotientsRow.holds Tryd.pinned (OpenSpec.ofChange exactQuotientsWrong)

/-- 'scorebooklaw01.ExactProducts': WHATEVER THE INPUT: true; the input reads as it did. -/
def exactProductsSpec : ChangeSpec := { name := "exactProducts", fn := fun _ => fun
  | [d1, d2] => { results := [.lit (.bool true)], args := [d1, d2] }
  | _ => none }
def exactProductsRow : OpenClaim := { program := "ytgeaibjbkpfgmaadoor", sum := "19518db09d2999ebd1833fccf5d84deeaf4b9b65a505d0df6e8b8a03bfdd839a", func := "scorebook/scorebooklaw01.ExactProducts", spec := "exactProducts", inPlace := ["internal/abi.NoEscape", "internal/bytealg.MakeNoZero"], named := ["internal/strconv.uint64pow10", "math/bits.deBruijn32tab", "math/bits.deBruijn64tab"], apart := false, laid := [("math/bits.deBruijn32tab", laid_math_bits_deBruijn32tab), ("math/bits.deBruijn64tab", laid_math_bits_deBruijn64tab), ("internal/strconv.uint64pow10", laid_internal_strconv_uint64pow10)] }
def ExactProductsSaid : Prop := exactProductsRow.holds Tryd.pinned (OpenSpec.ofChange exactProductsSpec)

/-- ITS FALSE NEIGHBOUR: 'it returns false'. Refute it at one input. -/
def exactProductsWrong : ChangeSpec := { name := "exactProducts", fn := fun _ => fun
  | [d1, d2] => { results := [.lit (.bool false)], args := [d1, d2] }
  | _ => none }
def ExactProductsWrongFalsely : Prop := exactProductsRow.holds Tryd.pinned (OpenSpec.ofChange exactProductsWrong)

/-- 'scorebooklaw01.ExactSums': WHATEVER THE INPUT: true; the input reads as it did. -/
def exactSumsSpec : ChangeSpec := { name := "exactSums", fn := fun _ => fun
  | [d1, d2] => { results := [.lit (.bool true)], args := [d1, d2] }
  | _ => none }
def exactSumsRow : OpenClaim := { program := "ytgeaibjbkpfgmaadoor", sum := "19518db09d2999ebd1833fccf5d84deeaf4b9b65a505d0df6e8b8a03bfdd839a", func := "scorebook/scorebooklaw01.ExactSums", spec := "exactSums", inPlace := ["internal/abi.NoEscape", "internal/bytealg.MakeNoZero"], named := ["internal/strconv.uint64pow10", "math/bits.deBruijn32tab", "math/bits.deBruijn64tab"], apart := false, laid := [("math/bits.deBruijn32tab", laid_math_bits_deBruijn32tab), ("math/bits.deBruijn64tab", laid_math_bits_deBruijn64tab), ("internal/strconv.uint64pow10", laid_internal_strconv_uint64pow10)] }
def ExactSumsSaid : Prop := exactSumsRow.holds Tryd.pinned (OpenSpec.ofChange exactSumsSpec)

/-- ITS FALSE NEIGHBOUR: 'it returns false'. Refute it at one input. -/
def exactSumsWrong : ChangeSpec := { name := "exactSums", fn := fun _ => fun
  | [d1, d2] => { results := [.lit (.bool false)], args := [d1, d2] }
  | _ => none }
def ExactSumsWrongFalsely : Prop := exactSumsRow.holds Tryd.pinned (OpenSpec.ofChange exactSumsWrong)

/-- 'scorebooklaw01.ExactRounds': WHATEVER THE INPUT: true; the input reads as it did. -/
def exactRoundsSpec : ChangeSpec := { name := "exactRounds", fn := fun _ => fun
  | [d] => { results := [.lit (.bool true)], args := [d] }
  | _ => none }
def exactRoundsRow : OpenClaim := { program := "ytgeaibjbkpfgmaadoor", sum := "19518db09d2999ebd1833fccf5d84deeaf4b9b65a505d0df6e8b8a03bfdd839a", func := "scorebook/scorebooklaw01.ExactRounds", spec := "exactRounds", inPlace := ["internal/abi.NoEscape", "internal/bytealg.MakeNoZero"], named := ["internal/strconv.uint64pow10", "math/bits.deBruijn32tab", "math/bits.deBruijn64tab"], apart := false, laid := [("math/bits.deBruijn32tab", laid_math_bits_deBruijn32tab), ("math/bits.deBruijn64tab", laid_math_bits_deBruijn64tab), ("internal/strconv.uint64pow10", laid_internal_strconv_uint64pow10)] }
def ExactRoundsSaid : Prop := exactRoundsRow.holds Tryd.pinned (OpenSpec.ofChange exactRoundsSpec)

/-- ITS FALSE NEIGHBOUR: 'it returns false'. Refute it at one input. -/
def exactRoundsWrong : ChangeSpec := { name := "exactRounds", fn := fun _ => fun
  | [d] => { results := [.lit (.bool false)], args := [d] }
  | _ => none }
def ExactRoundsWrongFalsely : Prop := exactRoundsRow.holds Tryd.pinned (OpenSpec.ofChange exactRoundsWrong)

/-- 'scorebooklaw01.ExactField': WHATEVER THE INPUT: true; the input reads as it did. -/
def exactFieldSpec : ChangeSpec := { name := "exactField", fn := fun _ => fun
  | [d1, d2] => { results := [.lit (.bool true)], args := [d1, d2] }
  | _ => none }
def exactFieldRow : OpenClaim := { program := "ytgeaibjbkpfgmaadoor", sum := "19518db09d2999ebd1833fccf5d84deeaf4b9b65a505d0df6e8b8a03bfdd839a", func := "scorebook/scorebooklaw01.ExactField", spec := "exactField", inPlace := ["internal/abi.NoEscape", "internal/bytealg.MakeNoZero"], named := ["internal/strconv.uint64pow10", "math/bits.deBruijn32tab", "math/bits.deBruijn64tab"], apart := false, laid := [("math/bits.deBruijn32tab", laid_math_bits_deBruijn32tab), ("math/bits.deBruijn64tab", laid_math_bits_deBruijn64tab), ("internal/strconv.uint64pow10", laid_internal_strconv_uint64pow10)] }
def ExactFieldSaid : Prop := exactFieldRow.holds Tryd.pinned (OpenSpec.ofChange exactFieldSpec)

/-- ITS FALSE NEIGHBOUR: 'it returns false'. Refute it at one input. -/
def exactFieldWrong : ChangeSpec := { name := "exactField", fn := fun _ => fun
  | [d1, d2] => { results := [.lit (.bool false)], args := [d1, d2] }
  | _ => none }
def ExactFieldWrongFalsely : Prop := exactFieldRow.holds Tryd.pinned (OpenSpec.ofChange exactFieldWrong)

/-- 'scorebooklaw01.ExactTexts': WHATEVER THE INPUT: true; the input reads as it did. -/
def exactTextsSpec : ChangeSpec := { name := "exactTexts", fn := fun _ => fun
  | [d] => { results := [.lit (.bool true)], args := [d] }
  | _ => none }
def exactTextsRow : OpenClaim := { program := "ytgeaibjbkpfgmaadoor", sum := "19518db09d2999ebd1833fccf5d84deeaf4b9b65a505d0df6e8b8a03bfdd839a", func := "scorebook/scorebooklaw01.ExactTexts", spec := "exactTexts", inPlace := ["internal/abi.NoEscape", "internal/bytealg.MakeNoZero", "internal/bytealg.IndexByteString", "internal/bytealg.IndexString"], recurses := true, named := ["internal/strconv.uint64pow10", "math/bits.deBruijn32tab", "math/bits.deBruijn64tab", "internal/bytealg.MaxLen", "strconv.ErrSyntax", "strconv.ErrRange"], apart := false, laid := [("math/bits.deBruijn32tab", laid_math_bits_deBruijn32tab), ("math/bits.deBruijn64tab", laid_math_bits_deBruijn64tab), ("internal/strconv.uint64pow10", laid_internal_strconv_uint64pow10), ("strconv.ErrRange", laid_strconv_ErrRange), ("strconv.ErrSyntax", laid_strconv_ErrSyntax)] }
def ExactTextsSaid : Prop := exactTextsRow.holds Tryd.pinned (OpenSpec.ofChange exactTextsSpec)

/-- ITS FALSE NEIGHBOUR: 'it returns false'. Refute it at one input. -/
def exactTextsWrong : ChangeSpec := { name := "exactTexts", fn := fun _ => fun
  | [d] => { results := [.lit (.bool false)], args := [d] }
  | _ => none }
def ExactTextsWrongFalsely : Prop := exactTextsRow.holds Tryd.pinned (OpenSpec.ofChange exactTextsWrong)

/-- 'scorebooklaw01.ExactParses': WHATEVER THE INPUT: true; the input reads as it did. -/
def exactParsesSpec : ChangeSpec := { name := "exactParses", fn := fun _ => fun
  | [d] => { results := [.lit (.bool true)], args := [d] }
  | _ => none }
def exactParsesRow : OpenClaim := { program := "ytgeaibjbkpfgmaadoor", sum := "19518db09d2999ebd1833fccf5d84deeaf4b9b65a505d0df6e8b8a03bfdd839a", func := "scorebook/scorebooklaw01.ExactParses", spec := "exactParses", inPlace := ["internal/abi.NoEscape", "internal/bytealg.MakeNoZero", "internal/bytealg.IndexByteString", "internal/bytealg.IndexString"], recurses := true, named := ["internal/strconv.uint64pow10", "math/bits.deBruijn32tab", "math/bits.deBruijn64tab", "internal/bytealg.MaxLen", "strconv.ErrSyntax", "strconv.ErrRange"], apart := false, laid := [("math/bits.deBruijn32tab", laid_math_bits_deBruijn32tab), ("math/bits.deBruijn64tab", laid_math_bits_deBruijn64tab), ("internal/strconv.uint64pow10", laid_internal_strconv_uint64pow10), ("strconv.ErrRange", laid_strconv_ErrRange), ("strconv.ErrSyntax", laid_strconv_ErrSyntax)] }
def ExactParsesSaid : Prop := exactParsesRow.holds Tryd.pinned (OpenSpec.ofChange exactParsesSpec)

/-- ITS FALSE NEIGHBOUR: 'it returns false'. Refute it at one input. -/
def exactParsesWrong : ChangeSpec := { name := "exactParses", fn := fun _ => fun
  | [d] => { results := [.lit (.bool false)], args := [d] }
  | _ => none }
def ExactParsesWrongFalsely : Prop := exactParsesRow.holds Tryd.pinned (OpenSpec.ofChange exactParsesWrong)

/- THE SECOND FORM. 'bulk': how many values and letters a reading holds, each counted each time it is reached (what is shared counts as often as it is met; a slice's spare places count too). A statement '..UptoSaid' is the law's where the arguments, and the package variables that the reading takes, are together of bulk at most 1048576: NARROWER than '..Said'. Prove '..Said' where nothing that the law and all that it calls make is longer than what came in: it says more and counts as full. Else prove '..UptoSaid'. A law counts once. -/
mutual
def uptoBulk {H : Type} : DataW H → Nat
  | .lit (.string bytes) => bytes.length + 1
  | .lit _ => 1
  | .nil => 1
  | .ptr d => uptoBulk d + 1
  | .slice elems spare => uptoBulkAll elems + uptoBulkAll spare + 1
  | .agg parts => uptoBulkAll parts + 1
  | .iface _ d => uptoBulk d + 1
  | .map entries => uptoBulkEntries entries + 1
  | .held _ => 1
def uptoBulkAll {H : Type} : List (DataW H) → Nat
  | [] => 0
  | d :: r => uptoBulk d + uptoBulkAll r
def uptoBulkEntries {H : Type} : List (Lit × DataW H) → Nat
  | [] => 0
  | x :: r => uptoBulkEntry x + uptoBulkEntries r
def uptoBulkEntry {H : Type} : Lit × DataW H → Nat
  | (.string bytes, d) => bytes.length + uptoBulk d + 1
  | (_, d) => uptoBulk d + 1
 end
def uptoSmall : (H : Type) → List (DataW H) → Bool := fun _ ds => decide (uptoBulkAll ds ≤ 1048576)
def OpenSpec.upto (s : _root_.Go.ChangeSpec) : _root_.Go.OpenSpec := { _root_.Go.OpenSpec.ofChange s with cond := some uptoSmall }

/-- 'scorebooklaw01.ExactMakes', WHERE WHAT IT READS IS OF BULK AT MOST 1048576: true; the input reads as it did. -/
def exactMakesUptoRow : OpenClaim := { program := "ytgeaibjbkpfgmaadoor", sum := "19518db09d2999ebd1833fccf5d84deeaf4b9b65a505d0df6e8b8a03bfdd839a", func := "scorebook/scorebooklaw01.ExactMakes", spec := "exactMakes", inPlace := ["internal/abi.NoEscape", "internal/bytealg.MakeNoZero"], named := ["internal/strconv.uint64pow10", "math/bits.deBruijn32tab", "math/bits.deBruijn64tab"], apart := false, laid := [("math/bits.deBruijn32tab", laid_math_bits_deBruijn32tab), ("math/bits.deBruijn64tab", laid_math_bits_deBruijn64tab), ("internal/strconv.uint64pow10", laid_internal_strconv_uint64pow10)], narrowed := true }
def ExactMakesUptoSaid : Prop := exactMakesUptoRow.holds Tryd.pinned (OpenSpec.upto exactMakesSpec)

/-- 'scorebooklaw01.ExactDecimals', WHERE WHAT IT READS IS OF BULK AT MOST 1048576: true; the input reads as it did. -/
def exactDecimalsUptoRow : OpenClaim := { program := "ytgeaibjbkpfgmaadoor", sum := "19518db09d2999ebd1833fccf5d84deeaf4b9b65a505d0df6e8b8a03bfdd839a", func := "scorebook/scorebooklaw01.ExactDecimals", spec := "exactDecimals", inPlace := ["internal/abi.NoEscape", "internal/bytealg.MakeNoZero"], recurses := true, named := ["internal/strconv.uint64pow10", "math/bits.deBruijn32tab", "math/bits.deBruijn64tab"], apart := false, laid := [("math/bits.deBruijn32tab", laid_math_bits_deBruijn32tab), ("math/bits.deBruijn64tab", laid_math_bits_deBruijn64tab), ("internal/strconv.uint64pow10", laid_internal_strconv_uint64pow10)], narrowed := true }
def ExactDecimalsUptoSaid : Prop := exactDecimalsUptoRow.holds Tryd.pinned (OpenSpec.upto exactDecimalsSpec)

/-- 'scorebooklaw01.ExactQuotients', WHERE WHAT IT READS IS OF BULK AT MOST 1048576: true; the input reads as it did. -/
def exactQuotientsUptoRow : OpenClaim := { program := "ytgeaibjbkpfgmaadoor", sum := "19518db09d2999ebd1833fccf5d84deeaf4b9b65a505d0df6e8b8a03bfdd839a", func := "scorebook/scorebooklaw01.ExactQuotients", spec := "exactQuotients", inPlace := ["internal/abi.NoEscape", "internal/bytealg.MakeNoZero"], named := ["internal/strconv.uint64pow10", "math/bits.deBruijn32tab", "math/bits.deBruijn64tab"], apart := false, laid := [("math/bits.deBruijn32tab", laid_math_bits_deBruijn32tab), ("math/bits.deBruijn64tab", laid_math_bits_deBruijn64tab), ("internal/strconv.uint64pow10", laid_internal_strconv_uint64pow10)], narrowed := true }
def ExactQuotientsUptoSaid : Prop := exactQuotientsUptoRow.holds Tryd.pinned (OpenSpec.upto exactQuotientsSpec)

/-- 'scorebooklaw01.ExactProducts', WHERE WHAT IT READS IS OF BULK AT MOST 1048576: true; the input reads as it did. -/
def exactProductsUptoRow : OpenClaim := { program := "ytgeaibjbkpfgmaadoor", sum := "19518db09d2999ebd1833fccf5d84deeaf4b9b65a505d0df6e8b8a03bfdd839a", func := "scorebook/scorebooklaw01.ExactProducts", spec := "exactProducts", inPlace := ["internal/abi.NoEscape", "internal/bytealg.MakeNoZero"], named := ["internal/strconv.uint64pow10", "math/bits.deBruijn32tab", "math/bits.deBruijn64tab"], apart := false, laid := [("math/bits.deBruijn32tab", laid_math_bits_deBruijn32tab), ("math/bits.deBruijn64tab", laid_math_bits_deBruijn64tab), ("internal/strconv.uint64pow10", laid_internal_strconv_uint64pow10)], narrowed := true }
def ExactProductsUptoSaid : Prop := exactProductsUptoRow.holds Tryd.pinned (OpenSpec.upto exactProductsSpec)

/-- 'scorebooklaw01.ExactSums', WHERE WHAT IT READS IS OF BULK AT MOST 1048576: true; the input reads as it did. -/
def exactSumsUptoRow : OpenClaim := { program := "ytgeaibjbkpfgmaadoor", sum := "19518db09d2999ebd1833fccf5d84deeaf4b9b65a505d0df6e8b8a03bfdd839a", func := "scorebook/scorebooklaw01.ExactSums", spec := "exactSums", inPlace := ["internal/abi.NoEscape", "internal/bytealg.MakeNoZero"], named := ["internal/strconv.uint64pow10", "math/bits.deBruijn32tab", "math/bits.deBruijn64tab"], apart := false, laid := [("math/bits.deBruijn32tab", laid_math_bits_deBruijn32tab), ("math/bits.deBruijn64tab", laid_math_bits_deBruijn64tab), ("internal/strconv.uint64pow10", laid_internal_strconv_uint64pow10)], narrowed := true }
def ExactSumsUptoSaid : Prop := exactSumsUptoRow.holds Tryd.pinned (OpenSpec.upto exactSumsSpec)

/-- 'scorebooklaw01.ExactRounds', WHERE WHAT IT READS IS OF BULK AT MOST 1048576: true; the input reads as it did. -/
def exactRoundsUptoRow : OpenClaim := { program := "ytgeaibjbkpfgmaadoor", sum := "19518db09d2999ebd1833fccf5d84deeaf4b9b65a505d0df6e8b8a03bfdd839a", func := "scorebook/scorebooklaw01.ExactRounds", spec := "exactRounds", inPlace := ["internal/abi.NoEscape", "internal/bytealg.MakeNoZero"], named := ["internal/strconv.uint64pow10", "math/bits.deBruijn32tab", "math/bits.deBruijn64tab"], apart := false, laid := [("math/bits.deBruijn32tab", laid_math_bits_deBruijn32tab), ("math/bits.deBruijn64tab", laid_math_bits_deBruijn64tab), ("internal/strconv.uint64pow10", laid_internal_strconv_uint64pow10)], narrowed := true }
def ExactRoundsUptoSaid : Prop := exactRoundsUptoRow.holds Tryd.pinned (OpenSpec.upto exactRoundsSpec)

/-- 'scorebooklaw01.ExactField', WHERE WHAT IT READS IS OF BULK AT MOST 1048576: true; the input reads as it did. -/
def exactFieldUptoRow : OpenClaim := { program := "ytgeaibjbkpfgmaadoor", sum := "19518db09d2999ebd1833fccf5d84deeaf4b9b65a505d0df6e8b8a03bfdd839a", func := "scorebook/scorebooklaw01.ExactField", spec := "exactField", inPlace := ["internal/abi.NoEscape", "internal/bytealg.MakeNoZero"], named := ["internal/strconv.uint64pow10", "math/bits.deBruijn32tab", "math/bits.deBruijn64tab"], apart := false, laid := [("math/bits.deBruijn32tab", laid_math_bits_deBruijn32tab), ("math/bits.deBruijn64tab", laid_math_bits_deBruijn64tab), ("internal/strconv.uint64pow10", laid_internal_strconv_uint64pow10)], narrowed := true }
def ExactFieldUptoSaid : Prop := exactFieldUptoRow.holds Tryd.pinned (OpenSpec.upto exactFieldSpec)

/-- 'scorebooklaw01.ExactTexts', WHERE WHAT IT READS IS OF BULK AT MOST 1048576: true; the input reads as it did. -/
def exactTextsUptoRow : OpenClaim := { program := "ytgeaibjbkpfgmaadoor", sum := "19518db09d2999ebd1833fccf5d84deeaf4b9b65a505d0df6e8b8a03bfdd839a", func := "scorebook/scorebooklaw01.ExactTexts", spec := "exactTexts", inPlace := ["internal/abi.NoEscape", "internal/bytealg.MakeNoZero", "internal/bytealg.IndexByteString", "internal/bytealg.IndexString"], recurses := true, named := ["internal/strconv.uint64pow10", "math/bits.deBruijn32tab", "math/bits.deBruijn64tab", "internal/bytealg.MaxLen", "strconv.ErrSyntax", "strconv.ErrRange"], apart := false, laid := [("math/bits.deBruijn32tab", laid_math_bits_deBruijn32tab), ("math/bits.deBruijn64tab", laid_math_bits_deBruijn64tab), ("internal/strconv.uint64pow10", laid_internal_strconv_uint64pow10), ("strconv.ErrRange", laid_strconv_ErrRange), ("strconv.ErrSyntax", laid_strconv_ErrSyntax)], narrowed := true }
def ExactTextsUptoSaid : Prop := exactTextsUptoRow.holds Tryd.pinned (OpenSpec.upto exactTextsSpec)

/-- 'scorebooklaw01.ExactParses', WHERE WHAT IT READS IS OF BULK AT MOST 1048576: true; the input reads as it did. -/
def exactParsesUptoRow : OpenClaim := { program := "ytgeaibjbkpfgmaadoor", sum := "19518db09d2999ebd1833fccf5d84deeaf4b9b65a505d0df6e8b8a03bfdd839a", func := "scorebook/scorebooklaw01.ExactParses", spec := "exactParses", inPlace := ["internal/abi.NoEscape", "internal/bytealg.MakeNoZero", "internal/bytealg.IndexByteString", "internal/bytealg.IndexString"], recurses := true, named := ["internal/strconv.uint64pow10", "math/bits.deBruijn32tab", "math/bits.deBruijn64tab", "internal/bytealg.MaxLen", "strconv.ErrSyntax", "strconv.ErrRange"], apart := false, laid := [("math/bits.deBruijn32tab", laid_math_bits_deBruijn32tab), ("math/bits.deBruijn64tab", laid_math_bits_deBruijn64tab), ("internal/strconv.uint64pow10", laid_internal_strconv_uint64pow10), ("strconv.ErrRange", laid_strconv_ErrRange), ("strconv.ErrSyntax", laid_strconv_ErrSyntax)], narrowed := true }
def ExactParsesUptoSaid : Prop := exactParsesUptoRow.holds Tryd.pinned (OpenSpec.upto exactParsesSpec)

end Rows
end Go.Proofs.YtgeaibjbkpfgmaaDoor

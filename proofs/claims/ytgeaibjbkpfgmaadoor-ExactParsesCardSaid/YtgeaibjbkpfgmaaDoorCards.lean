/-
  DERIVED. GIVEN WITH THE SEED: THE CARDS: each row of YtgeaibjbkpfgmaaDoorRows.lean that lists a variable, with what it lists TIED to the program's text (the seventh form; the later family's looks); each row that meets fmt, with fmt's text TOLD by the authors' own Lean function (tested against real Go, not proved from fmt's source: count such statements apart). THE CARD IS WHAT COUNTS. Prove the row's statement (the work); the ties are given (YtgeaibjbkpfgmaaDoorTie.lean); close each card by the builder's one call (the guide's Derived/Test/ToyasCard.lean, 'card_holds'). Laid BY PROGRAM, IN A SANDBOX (cutbox-door.mjs). By AI agents, Wed Nov 11 2026. No macro, syntax, notation, axiom, sorry.
-/
import Derived.Test.YtgeaibjbkpfgmaaDoorRows
import GoSem.ClaimSeven
namespace Go.Proofs.YtgeaibjbkpfgmaaDoor
namespace Rows

/-- THE TIED CARD OF 'scorebooklaw01.ExactMakes'. -/
def exactMakesCard : Claim7 := { stood := { row := exactMakesRow, standIns := [], harness := (true, "53ac61a1e773d749f0aa0e11001139571f1875442b58ab2ec17bae6615292412"), looks := true }, kinds := [], alts := [], laidByText := true, laidKinds := [.data, .data, .data], laidTests := true, laidLooks := .later }
def ExactMakesCardSaid : Prop := Claim7.holds Tryd.pinned (.plain (OpenSpec.ofChange exactMakesSpec)) exactMakesCard

/-- THE TIED CARD OF 'scorebooklaw01.ExactDecimals'. -/
def exactDecimalsCard : Claim7 := { stood := { row := exactDecimalsRow, standIns := [], harness := (true, "53ac61a1e773d749f0aa0e11001139571f1875442b58ab2ec17bae6615292412"), looks := true }, kinds := [], alts := [], laidByText := true, laidKinds := [.data, .data, .data], laidTests := true, laidLooks := .later }
def ExactDecimalsCardSaid : Prop := Claim7.holds Tryd.pinned (.plain (OpenSpec.ofChange exactDecimalsSpec)) exactDecimalsCard

/-- THE TIED CARD OF 'scorebooklaw01.ExactQuotients'. -/
def exactQuotientsCard : Claim7 := { stood := { row := exactQuotientsRow, standIns := [], harness := (true, "53ac61a1e773d749f0aa0e11001139571f1875442b58ab2ec17bae6615292412"), looks := true }, kinds := [], alts := [], laidByText := true, laidKinds := [.data, .data, .data], laidTests := true, laidLooks := .later }
def ExactQuotientsCardSaid : Prop := Claim7.holds Tryd.pinned (.plain (OpenSpec.ofChange exactQuotientsSpec)) exactQuotientsCard

/-- THE TIED CARD OF 'scorebooklaw01.ExactProducts'. -/
def exactProductsCard : Claim7 := { stood := { row := exactProductsRow, standIns := [], harness := (true, "53ac61a1e773d749f0aa0e11001139571f1875442b58ab2ec17bae6615292412"), looks := true }, kinds := [], alts := [], laidByText := true, laidKinds := [.data, .data, .data], laidTests := true, laidLooks := .later }
def ExactProductsCardSaid : Prop := Claim7.holds Tryd.pinned (.plain (OpenSpec.ofChange exactProductsSpec)) exactProductsCard

/-- THE TIED CARD OF 'scorebooklaw01.ExactSums'. -/
def exactSumsCard : Claim7 := { stood := { row := exactSumsRow, standIns := [], harness := (true, "53ac61a1e773d749f0aa0e11001139571f1875442b58ab2ec17bae6615292412"), looks := true }, kinds := [], alts := [], laidByText := true, laidKinds := [.data, .data, .data], laidTests := true, laidLooks := .later }
def ExactSumsCardSaid : Prop := Claim7.holds Tryd.pinned (.plain (OpenSpec.ofChange exactSumsSpec)) exactSumsCard

/-- THE TIED CARD OF 'scorebooklaw01.ExactRounds'. -/
def exactRoundsCard : Claim7 := { stood := { row := exactRoundsRow, standIns := [], harness := (true, "53ac61a1e773d749f0aa0e11001139571f1875442b58ab2ec17bae6615292412"), looks := true }, kinds := [], alts := [], laidByText := true, laidKinds := [.data, .data, .data], laidTests := true, laidLooks := .later }
def ExactRoundsCardSaid : Prop := Claim7.holds Tryd.pinned (.plain (OpenSpec.ofChange exactRoundsSpec)) exactRoundsCard

/-- THE TIED CARD OF 'scorebooklaw01.ExactField'. -/
def exactFieldCard : Claim7 := { stood := { row := exactFieldRow, standIns := [], harness := (true, "53ac61a1e773d749f0aa0e11001139571f1875442b58ab2ec17bae6615292412"), looks := true }, kinds := [], alts := [], laidByText := true, laidKinds := [.data, .data, .data], laidTests := true, laidLooks := .later }
def ExactFieldCardSaid : Prop := Claim7.holds Tryd.pinned (.plain (OpenSpec.ofChange exactFieldSpec)) exactFieldCard

/-- THE TIED CARD OF 'scorebooklaw01.ExactTexts'. -/
def exactTextsCard : Claim7 := { stood := { row := exactTextsRow, standIns := [], harness := (true, "53ac61a1e773d749f0aa0e11001139571f1875442b58ab2ec17bae6615292412"), looks := true }, kinds := [], alts := [], laidByText := true, laidKinds := [.data, .data, .data, .sentinel, .sentinel], laidTests := true, laidLooks := .later }
def ExactTextsCardSaid : Prop := Claim7.holds Tryd.pinned (.plain (OpenSpec.ofChange exactTextsSpec)) exactTextsCard

/-- THE TIED CARD OF 'scorebooklaw01.ExactParses'. -/
def exactParsesCard : Claim7 := { stood := { row := exactParsesRow, standIns := [], harness := (true, "53ac61a1e773d749f0aa0e11001139571f1875442b58ab2ec17bae6615292412"), looks := true }, kinds := [], alts := [], laidByText := true, laidKinds := [.data, .data, .data, .sentinel, .sentinel], laidTests := true, laidLooks := .later }
def ExactParsesCardSaid : Prop := Claim7.holds Tryd.pinned (.plain (OpenSpec.ofChange exactParsesSpec)) exactParsesCard

/-- THE SECOND FORM's CARD OF 'scorebooklaw01.ExactMakes'. -/
def exactMakesUptoCard : Claim7 := { stood := { row := exactMakesUptoRow, standIns := [], harness := (true, "53ac61a1e773d749f0aa0e11001139571f1875442b58ab2ec17bae6615292412"), looks := true }, kinds := [], alts := [], laidByText := true, laidKinds := [.data, .data, .data], laidTests := true, laidLooks := .later }
def ExactMakesUptoCardSaid : Prop := Claim7.holds Tryd.pinned (.plain (OpenSpec.upto exactMakesSpec)) exactMakesUptoCard

/-- THE SECOND FORM's CARD OF 'scorebooklaw01.ExactDecimals'. -/
def exactDecimalsUptoCard : Claim7 := { stood := { row := exactDecimalsUptoRow, standIns := [], harness := (true, "53ac61a1e773d749f0aa0e11001139571f1875442b58ab2ec17bae6615292412"), looks := true }, kinds := [], alts := [], laidByText := true, laidKinds := [.data, .data, .data], laidTests := true, laidLooks := .later }
def ExactDecimalsUptoCardSaid : Prop := Claim7.holds Tryd.pinned (.plain (OpenSpec.upto exactDecimalsSpec)) exactDecimalsUptoCard

/-- THE SECOND FORM's CARD OF 'scorebooklaw01.ExactQuotients'. -/
def exactQuotientsUptoCard : Claim7 := { stood := { row := exactQuotientsUptoRow, standIns := [], harness := (true, "53ac61a1e773d749f0aa0e11001139571f1875442b58ab2ec17bae6615292412"), looks := true }, kinds := [], alts := [], laidByText := true, laidKinds := [.data, .data, .data], laidTests := true, laidLooks := .later }
def ExactQuotientsUptoCardSaid : Prop := Claim7.holds Tryd.pinned (.plain (OpenSpec.upto exactQuotientsSpec)) exactQuotientsUptoCard

/-- THE SECOND FORM's CARD OF 'scorebooklaw01.ExactProducts'. -/
def exactProductsUptoCard : Claim7 := { stood := { row := exactProductsUptoRow, standIns := [], harness := (true, "53ac61a1e773d749f0aa0e11001139571f1875442b58ab2ec17bae6615292412"), looks := true }, kinds := [], alts := [], laidByText := true, laidKinds := [.data, .data, .data], laidTests := true, laidLooks := .later }
def ExactProductsUptoCardSaid : Prop := Claim7.holds Tryd.pinned (.plain (OpenSpec.upto exactProductsSpec)) exactProductsUptoCard

/-- THE SECOND FORM's CARD OF 'scorebooklaw01.ExactSums'. -/
def exactSumsUptoCard : Claim7 := { stood := { row := exactSumsUptoRow, standIns := [], harness := (true, "53ac61a1e773d749f0aa0e11001139571f1875442b58ab2ec17bae6615292412"), looks := true }, kinds := [], alts := [], laidByText := true, laidKinds := [.data, .data, .data], laidTests := true, laidLooks := .later }
def ExactSumsUptoCardSaid : Prop := Claim7.holds Tryd.pinned (.plain (OpenSpec.upto exactSumsSpec)) exactSumsUptoCard

/-- THE SECOND FORM's CARD OF 'scorebooklaw01.ExactRounds'. -/
def exactRoundsUptoCard : Claim7 := { stood := { row := exactRoundsUptoRow, standIns := [], harness := (true, "53ac61a1e773d749f0aa0e11001139571f1875442b58ab2ec17bae6615292412"), looks := true }, kinds := [], alts := [], laidByText := true, laidKinds := [.data, .data, .data], laidTests := true, laidLooks := .later }
def ExactRoundsUptoCardSaid : Prop := Claim7.holds Tryd.pinned (.plain (OpenSpec.upto exactRoundsSpec)) exactRoundsUptoCard

/-- THE SECOND FORM's CARD OF 'scorebooklaw01.ExactField'. -/
def exactFieldUptoCard : Claim7 := { stood := { row := exactFieldUptoRow, standIns := [], harness := (true, "53ac61a1e773d749f0aa0e11001139571f1875442b58ab2ec17bae6615292412"), looks := true }, kinds := [], alts := [], laidByText := true, laidKinds := [.data, .data, .data], laidTests := true, laidLooks := .later }
def ExactFieldUptoCardSaid : Prop := Claim7.holds Tryd.pinned (.plain (OpenSpec.upto exactFieldSpec)) exactFieldUptoCard

/-- THE SECOND FORM's CARD OF 'scorebooklaw01.ExactTexts'. -/
def exactTextsUptoCard : Claim7 := { stood := { row := exactTextsUptoRow, standIns := [], harness := (true, "53ac61a1e773d749f0aa0e11001139571f1875442b58ab2ec17bae6615292412"), looks := true }, kinds := [], alts := [], laidByText := true, laidKinds := [.data, .data, .data, .sentinel, .sentinel], laidTests := true, laidLooks := .later }
def ExactTextsUptoCardSaid : Prop := Claim7.holds Tryd.pinned (.plain (OpenSpec.upto exactTextsSpec)) exactTextsUptoCard

/-- THE SECOND FORM's CARD OF 'scorebooklaw01.ExactParses'. -/
def exactParsesUptoCard : Claim7 := { stood := { row := exactParsesUptoRow, standIns := [], harness := (true, "53ac61a1e773d749f0aa0e11001139571f1875442b58ab2ec17bae6615292412"), looks := true }, kinds := [], alts := [], laidByText := true, laidKinds := [.data, .data, .data, .sentinel, .sentinel], laidTests := true, laidLooks := .later }
def ExactParsesUptoCardSaid : Prop := Claim7.holds Tryd.pinned (.plain (OpenSpec.upto exactParsesSpec)) exactParsesUptoCard
end Rows
end Go.Proofs.YtgeaibjbkpfgmaaDoor

/-
  DERIVED. GIVEN WITH THE SEED: THE CARDS: each row of YthckbfkhbegmgaaDoorRows.lean that lists a variable, with what it lists TIED to the program's text (the seventh form; the later family's looks); each row that meets fmt, with fmt's text TOLD by the authors' own Lean function (tested against real Go, not proved from fmt's source: count such statements apart). THE CARD IS WHAT COUNTS. Prove the row's statement (the work); the ties are given (YthckbfkhbegmgaaDoorTie.lean); close each card by the builder's one call (the guide's Derived/Test/ToyasCard.lean, 'card_holds'). Laid BY PROGRAM, IN A SANDBOX (cutbox-door.mjs). By AI agents, Wed Nov 11 2026. No macro, syntax, notation, axiom, sorry.
-/
import Derived.Test.YthckbfkhbegmgaaDoorRows
import GoSem.ClaimSeven
namespace Go.Proofs.YthckbfkhbegmgaaDoor
namespace Rows

/-- THE TIED CARD OF 'scorebooklaw29.IntervalTexts'. -/
def intervalTextsCard : Claim7 := { stood := { row := intervalTextsRow, standIns := [], harness := (true, "309173844bc30d0063e824573a2b02e31ea8c5aa20f4d71ab31184482fda6680"), looks := true }, kinds := [], alts := [], laidByText := true, laidKinds := [.data, .data, .data, .sentinel, .sentinel], laidTests := true, laidLooks := .later }
def IntervalTextsCardSaid : Prop := Claim7.holds Tryd.pinned (.plain (OpenSpec.ofChange intervalTextsSpec)) intervalTextsCard

/-- THE TIED CARD OF 'scorebooklaw29.IntervalParses'. -/
def intervalParsesCard : Claim7 := { stood := { row := intervalParsesRow, standIns := [], harness := (true, "309173844bc30d0063e824573a2b02e31ea8c5aa20f4d71ab31184482fda6680"), looks := true }, kinds := [], alts := [], laidByText := true, laidKinds := [.data, .data, .data, .sentinel, .sentinel], laidTests := true, laidLooks := .later }
def IntervalParsesCardSaid : Prop := Claim7.holds Tryd.pinned (.plain (OpenSpec.ofChange intervalParsesSpec)) intervalParsesCard

/-- THE SECOND FORM's CARD OF 'scorebooklaw29.IntervalTexts'. -/
def intervalTextsUptoCard : Claim7 := { stood := { row := intervalTextsUptoRow, standIns := [], harness := (true, "309173844bc30d0063e824573a2b02e31ea8c5aa20f4d71ab31184482fda6680"), looks := true }, kinds := [], alts := [], laidByText := true, laidKinds := [.data, .data, .data, .sentinel, .sentinel], laidTests := true, laidLooks := .later }
def IntervalTextsUptoCardSaid : Prop := Claim7.holds Tryd.pinned (.plain (OpenSpec.upto intervalTextsSpec)) intervalTextsUptoCard

/-- THE SECOND FORM's CARD OF 'scorebooklaw29.IntervalParses'. -/
def intervalParsesUptoCard : Claim7 := { stood := { row := intervalParsesUptoRow, standIns := [], harness := (true, "309173844bc30d0063e824573a2b02e31ea8c5aa20f4d71ab31184482fda6680"), looks := true }, kinds := [], alts := [], laidByText := true, laidKinds := [.data, .data, .data, .sentinel, .sentinel], laidTests := true, laidLooks := .later }
def IntervalParsesUptoCardSaid : Prop := Claim7.holds Tryd.pinned (.plain (OpenSpec.upto intervalParsesSpec)) intervalParsesUptoCard
end Rows
end Go.Proofs.YthckbfkhbegmgaaDoor

/-
  DERIVED. GIVEN WITH THE SEED: THE CARDS: each row of YthccmolnfejkeaaDoorRows.lean that lists a variable, with what it lists TIED to the program's text (the seventh form; the later family's looks); each row that meets fmt, with fmt's text TOLD by the authors' own Lean function (tested against real Go, not proved from fmt's source: count such statements apart). THE CARD IS WHAT COUNTS. Prove the row's statement (the work); the ties are given (YthccmolnfejkeaaDoorTie.lean); close each card by the builder's one call (the guide's Derived/Test/ToyasCard.lean, 'card_holds'). Laid BY PROGRAM, IN A SANDBOX (cutbox-door.mjs). By AI agents, Wed Nov 11 2026. No macro, syntax, notation, axiom, sorry.
-/
import Derived.Test.YthccmolnfejkeaaDoorRows
import GoSem.ClaimSeven
namespace Go.Proofs.YthccmolnfejkeaaDoor
namespace Rows

/-- THE TIED CARD OF 'scorebooklaw37.ResourceTexts'. -/
def resourceTextsCard : Claim7 := { stood := { row := resourceTextsRow, standIns := [], harness := (true, "06d85693c841a322adfac06f2de3e8a8c2d0366a7c78ca610fe5d4550e593d5d"), looks := true }, kinds := [], alts := [], laidByText := true, laidKinds := [.data, .data, .data, .data, .sentinel, .sentinel, .pinned], laidTests := true, laidLooks := .later }
def ResourceTextsCardSaid : Prop := Claim7.holds Tryd.pinned (.plain (OpenSpec.ofChange resourceTextsSpec)) resourceTextsCard

/-- THE TIED CARD OF 'scorebooklaw37.ResourceParses'. -/
def resourceParsesCard : Claim7 := { stood := { row := resourceParsesRow, standIns := [], harness := (true, "06d85693c841a322adfac06f2de3e8a8c2d0366a7c78ca610fe5d4550e593d5d"), looks := true }, kinds := [], alts := [], laidByText := true, laidKinds := [.data, .data, .data, .data, .sentinel, .sentinel, .pinned], laidTests := true, laidLooks := .later }
def ResourceParsesCardSaid : Prop := Claim7.holds Tryd.pinned (.plain (OpenSpec.ofChange resourceParsesSpec)) resourceParsesCard

/-- THE SECOND FORM's CARD OF 'scorebooklaw37.ResourceTexts'. -/
def resourceTextsUptoCard : Claim7 := { stood := { row := resourceTextsUptoRow, standIns := [], harness := (true, "06d85693c841a322adfac06f2de3e8a8c2d0366a7c78ca610fe5d4550e593d5d"), looks := true }, kinds := [], alts := [], laidByText := true, laidKinds := [.data, .data, .data, .data, .sentinel, .sentinel, .pinned], laidTests := true, laidLooks := .later }
def ResourceTextsUptoCardSaid : Prop := Claim7.holds Tryd.pinned (.plain (OpenSpec.upto resourceTextsSpec)) resourceTextsUptoCard

/-- THE SECOND FORM's CARD OF 'scorebooklaw37.ResourceParses'. -/
def resourceParsesUptoCard : Claim7 := { stood := { row := resourceParsesUptoRow, standIns := [], harness := (true, "06d85693c841a322adfac06f2de3e8a8c2d0366a7c78ca610fe5d4550e593d5d"), looks := true }, kinds := [], alts := [], laidByText := true, laidKinds := [.data, .data, .data, .data, .sentinel, .sentinel, .pinned], laidTests := true, laidLooks := .later }
def ResourceParsesUptoCardSaid : Prop := Claim7.holds Tryd.pinned (.plain (OpenSpec.upto resourceParsesSpec)) resourceParsesUptoCard
end Rows
end Go.Proofs.YthccmolnfejkeaaDoor

/-
  DERIVED. GIVEN WITH THE SEED: THE CARDS: each row of YtpgacpkcchajmaaDoorRows.lean that lists a variable, with what it lists TIED to the program's text (the seventh form; the later family's looks); each row that meets fmt, with fmt's text TOLD by the authors' own Lean function (tested against real Go, not proved from fmt's source: count such statements apart). THE CARD IS WHAT COUNTS. Prove the row's statement (the work); the ties are given (YtpgacpkcchajmaaDoorTie.lean); close each card by the builder's one call (the guide's Derived/Test/ToyasCard.lean, 'card_holds'). Laid BY PROGRAM, IN A SANDBOX (cutbox-door.mjs). By AI agents, Wed Nov 11 2026. No macro, syntax, notation, axiom, sorry.
-/
import Derived.Test.YtpgacpkcchajmaaDoorRows
import GoSem.ClaimSeven
namespace Go.Proofs.YtpgacpkcchajmaaDoor
namespace Rows

/-- THE TIED CARD OF 'scorebooklaw07.NotationPrints'. -/
def notationPrintsCard : Claim7 := { stood := { row := notationPrintsRow, standIns := [], harness := (true, "44c87b2eaad997e72f697d0bcd0fdce5c65c5b5072cc522b72cb02119ba8923c"), looks := false }, kinds := [], alts := [], laidByText := true, laidKinds := [.data, .data, .data], laidTests := true, laidLooks := .later }
def NotationPrintsCardSaid : Prop := Claim7.holds Tryd.pinned (.plain (OpenSpec.ofChange notationPrintsSpec)) notationPrintsCard

/-- THE TIED CARD OF 'scorebooklaw07.NotationParses'. -/
def notationParsesCard : Claim7 := { stood := { row := notationParsesRow, standIns := [], harness := (true, "44c87b2eaad997e72f697d0bcd0fdce5c65c5b5072cc522b72cb02119ba8923c"), looks := false }, kinds := [], alts := [], laidByText := true, laidKinds := [.data, .data, .data], laidTests := true, laidLooks := .later }
def NotationParsesCardSaid : Prop := Claim7.holds Tryd.pinned (.plain (OpenSpec.ofChange notationParsesSpec)) notationParsesCard

/-- THE TIED CARD OF 'scorebooklaw07.NotationBack'. -/
def notationBackCard : Claim7 := { stood := { row := notationBackRow, standIns := [], harness := (true, "44c87b2eaad997e72f697d0bcd0fdce5c65c5b5072cc522b72cb02119ba8923c"), looks := false }, kinds := [], alts := [], laidByText := true, laidKinds := [.data, .data, .data], laidTests := true, laidLooks := .later }
def NotationBackCardSaid : Prop := Claim7.holds Tryd.pinned (.plain (OpenSpec.ofChange notationBackSpec)) notationBackCard

/-- THE TIED CARD OF 'scorebooklaw07.NotationDiffers'. -/
def notationDiffersCard : Claim7 := { stood := { row := notationDiffersRow, standIns := [], harness := (true, "44c87b2eaad997e72f697d0bcd0fdce5c65c5b5072cc522b72cb02119ba8923c"), looks := false }, kinds := [], alts := [], laidByText := true, laidKinds := [.data, .data, .data], laidTests := true, laidLooks := .later }
def NotationDiffersCardSaid : Prop := Claim7.holds Tryd.pinned (.plain (OpenSpec.ofChange notationDiffersSpec)) notationDiffersCard

/-- THE TIED CARD OF 'scorebooklaw07.NotationOvers'. -/
def notationOversCard : Claim7 := { stood := { row := notationOversRow, standIns := [], harness := (true, "44c87b2eaad997e72f697d0bcd0fdce5c65c5b5072cc522b72cb02119ba8923c"), looks := false }, kinds := [], alts := [], laidByText := true, laidKinds := [.data, .data, .data, .data, .pinned], laidTests := true, laidLooks := .later }
def NotationOversCardSaid : Prop := Claim7.holds Tryd.pinned (.plain (OpenSpec.ofChange notationOversSpec)) notationOversCard

/-- THE TIED CARD OF 'scorebooklaw07.NotationJoins'. -/
def notationJoinsCard : Claim7 := { stood := { row := notationJoinsRow, standIns := [], harness := (true, "44c87b2eaad997e72f697d0bcd0fdce5c65c5b5072cc522b72cb02119ba8923c"), looks := false }, kinds := [], alts := [], laidByText := true, laidKinds := [.data, .data, .data, .data, .pinned], laidTests := true, laidLooks := .later }
def NotationJoinsCardSaid : Prop := Claim7.holds Tryd.pinned (.plain (OpenSpec.ofChange notationJoinsSpec)) notationJoinsCard

/-- THE SECOND FORM's CARD OF 'scorebooklaw07.NotationPrints'. -/
def notationPrintsUptoCard : Claim7 := { stood := { row := notationPrintsUptoRow, standIns := [], harness := (true, "44c87b2eaad997e72f697d0bcd0fdce5c65c5b5072cc522b72cb02119ba8923c"), looks := false }, kinds := [], alts := [], laidByText := true, laidKinds := [.data, .data, .data], laidTests := true, laidLooks := .later }
def NotationPrintsUptoCardSaid : Prop := Claim7.holds Tryd.pinned (.plain (OpenSpec.upto notationPrintsSpec)) notationPrintsUptoCard

/-- THE SECOND FORM's CARD OF 'scorebooklaw07.NotationParses'. -/
def notationParsesUptoCard : Claim7 := { stood := { row := notationParsesUptoRow, standIns := [], harness := (true, "44c87b2eaad997e72f697d0bcd0fdce5c65c5b5072cc522b72cb02119ba8923c"), looks := false }, kinds := [], alts := [], laidByText := true, laidKinds := [.data, .data, .data], laidTests := true, laidLooks := .later }
def NotationParsesUptoCardSaid : Prop := Claim7.holds Tryd.pinned (.plain (OpenSpec.upto notationParsesSpec)) notationParsesUptoCard

/-- THE SECOND FORM's CARD OF 'scorebooklaw07.NotationBack'. -/
def notationBackUptoCard : Claim7 := { stood := { row := notationBackUptoRow, standIns := [], harness := (true, "44c87b2eaad997e72f697d0bcd0fdce5c65c5b5072cc522b72cb02119ba8923c"), looks := false }, kinds := [], alts := [], laidByText := true, laidKinds := [.data, .data, .data], laidTests := true, laidLooks := .later }
def NotationBackUptoCardSaid : Prop := Claim7.holds Tryd.pinned (.plain (OpenSpec.upto notationBackSpec)) notationBackUptoCard

/-- THE SECOND FORM's CARD OF 'scorebooklaw07.NotationDiffers'. -/
def notationDiffersUptoCard : Claim7 := { stood := { row := notationDiffersUptoRow, standIns := [], harness := (true, "44c87b2eaad997e72f697d0bcd0fdce5c65c5b5072cc522b72cb02119ba8923c"), looks := false }, kinds := [], alts := [], laidByText := true, laidKinds := [.data, .data, .data], laidTests := true, laidLooks := .later }
def NotationDiffersUptoCardSaid : Prop := Claim7.holds Tryd.pinned (.plain (OpenSpec.upto notationDiffersSpec)) notationDiffersUptoCard

/-- THE SECOND FORM's CARD OF 'scorebooklaw07.NotationOvers'. -/
def notationOversUptoCard : Claim7 := { stood := { row := notationOversUptoRow, standIns := [], harness := (true, "44c87b2eaad997e72f697d0bcd0fdce5c65c5b5072cc522b72cb02119ba8923c"), looks := false }, kinds := [], alts := [], laidByText := true, laidKinds := [.data, .data, .data, .data, .pinned], laidTests := true, laidLooks := .later }
def NotationOversUptoCardSaid : Prop := Claim7.holds Tryd.pinned (.plain (OpenSpec.upto notationOversSpec)) notationOversUptoCard

/-- THE SECOND FORM's CARD OF 'scorebooklaw07.NotationJoins'. -/
def notationJoinsUptoCard : Claim7 := { stood := { row := notationJoinsUptoRow, standIns := [], harness := (true, "44c87b2eaad997e72f697d0bcd0fdce5c65c5b5072cc522b72cb02119ba8923c"), looks := false }, kinds := [], alts := [], laidByText := true, laidKinds := [.data, .data, .data, .data, .pinned], laidTests := true, laidLooks := .later }
def NotationJoinsUptoCardSaid : Prop := Claim7.holds Tryd.pinned (.plain (OpenSpec.upto notationJoinsSpec)) notationJoinsUptoCard
end Rows
end Go.Proofs.YtpgacpkcchajmaaDoor

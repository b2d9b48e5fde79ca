/-
  DERIVED. GIVEN WITH THE SEED: THE CARDS: each row of YtohoehfebphgeaaDoorRows.lean that lists a variable, with what it lists TIED to the program's text (the seventh form; the later family's looks); each row that meets fmt, with fmt's text TOLD by the authors' own Lean function (tested against real Go, not proved from fmt's source: count such statements apart). THE CARD IS WHAT COUNTS. Prove the row's statement (the work); the ties are given (YtohoehfebphgeaaDoorTie.lean); close each card by the builder's one call (the guide's Derived/Test/ToyasCard.lean, 'card_holds'). Laid BY PROGRAM, IN A SANDBOX (cutbox-door.mjs). By AI agents, Wed Nov 11 2026. No macro, syntax, notation, axiom, sorry.
-/
import Derived.Test.YtohoehfebphgeaaDoorRows
import GoSem.ClaimSeven
namespace Go.Proofs.YtohoehfebphgeaaDoor
namespace Rows

/-- THE TIED CARD OF 'scorebooktop.TopSymbols'. -/
def topSymbolsCard : Claim7 := { stood := { row := topSymbolsRow, standIns := [], harness := (true, "927682b899a7ecd35ac03b4d8665b0539924de373b554ce4a927f640cd484256"), looks := false }, kinds := [], alts := [], laidByText := true, laidKinds := [.data, .data, .data], laidTests := true, laidLooks := .later }
def TopSymbolsCardSaid : Prop := Claim7.holds Tryd.pinned (.plain (OpenSpec.ofChange topSymbolsSpec)) topSymbolsCard

/-- THE SECOND FORM's CARD OF 'scorebooktop.TopSymbols'. -/
def topSymbolsUptoCard : Claim7 := { stood := { row := topSymbolsUptoRow, standIns := [], harness := (true, "927682b899a7ecd35ac03b4d8665b0539924de373b554ce4a927f640cd484256"), looks := false }, kinds := [], alts := [], laidByText := true, laidKinds := [.data, .data, .data], laidTests := true, laidLooks := .later }
def TopSymbolsUptoCardSaid : Prop := Claim7.holds Tryd.pinned (.plain (OpenSpec.upto topSymbolsSpec)) topSymbolsUptoCard
end Rows
end Go.Proofs.YtohoehfebphgeaaDoor

/-
  DERIVED. GIVEN WITH THE SEED: THE CARDS: each row of YtppoejhfemolfaaDoorRows.lean that lists a variable, with what it lists TIED to the program's text (the seventh form; the later family's looks); each row that meets fmt, with fmt's text TOLD by the authors' own Lean function (tested against real Go, not proved from fmt's source: count such statements apart). THE CARD IS WHAT COUNTS. Prove the row's statement (the work); the ties are given (YtppoejhfemolfaaDoorTie.lean); close each card by the builder's one call (the guide's Derived/Test/ToyasCard.lean, 'card_holds'). Laid BY PROGRAM, IN A SANDBOX (cutbox-door.mjs). By AI agents, Wed Nov 11 2026. No macro, syntax, notation, axiom, sorry.
-/
import Derived.Test.YtppoejhfemolfaaDoorRows
import GoSem.ClaimSeven
namespace Go.Proofs.YtppoejhfemolfaaDoor
namespace Rows

/-- THE TIED CARD OF 'scorebooklaw36.ReviewPlays'. -/
def reviewPlaysCard : Claim7 := { stood := { row := reviewPlaysRow, standIns := [], harness := (true, "4217fd76e6cb7c0ab655cb7ac6a7bcd295e7b4070f7fd24c9f485d9b40722a36"), looks := false }, kinds := [], alts := [], laidByText := true, laidKinds := [.data, .data, .data], laidTests := true, laidLooks := .later }
def ReviewPlaysCardSaid : Prop := Claim7.holds Tryd.pinned (.plain (OpenSpec.ofChange reviewPlaysSpec)) reviewPlaysCard

/-- THE TIED CARD OF 'scorebooklaw36.ReviewAddsUp'. -/
def reviewAddsUpCard : Claim7 := { stood := { row := reviewAddsUpRow, standIns := [], harness := (true, "4217fd76e6cb7c0ab655cb7ac6a7bcd295e7b4070f7fd24c9f485d9b40722a36"), looks := false }, kinds := [], alts := [], laidByText := true, laidKinds := [.data, .data, .data], laidTests := true, laidLooks := .later }
def ReviewAddsUpCardSaid : Prop := Claim7.holds Tryd.pinned (.plain (OpenSpec.ofChange reviewAddsUpSpec)) reviewAddsUpCard

/-- THE TIED CARD OF 'scorebooklaw36.ReviewFree'. -/
def reviewFreeCard : Claim7 := { stood := { row := reviewFreeRow, standIns := [], harness := (true, "4217fd76e6cb7c0ab655cb7ac6a7bcd295e7b4070f7fd24c9f485d9b40722a36"), looks := false }, kinds := [], alts := [], laidByText := true, laidKinds := [.data, .data, .data], laidTests := true, laidLooks := .later }
def ReviewFreeCardSaid : Prop := Claim7.holds Tryd.pinned (.plain (OpenSpec.ofChange reviewFreeSpec)) reviewFreeCard

/-- THE TIED CARD OF 'scorebooklaw36.ReviewClones'. -/
def reviewClonesCard : Claim7 := { stood := { row := reviewClonesRow, standIns := [], harness := (true, "4217fd76e6cb7c0ab655cb7ac6a7bcd295e7b4070f7fd24c9f485d9b40722a36"), looks := false }, kinds := [], alts := [], laidByText := true, laidKinds := [.data, .data, .data], laidTests := true, laidLooks := .later }
def ReviewClonesCardSaid : Prop := Claim7.holds Tryd.pinned (.plain (OpenSpec.ofChange reviewClonesSpec)) reviewClonesCard

/-- THE TIED CARD OF 'scorebooklaw36.ReviewNil'. -/
def reviewNilCard : Claim7 := { stood := { row := reviewNilRow, standIns := [], harness := (true, "4217fd76e6cb7c0ab655cb7ac6a7bcd295e7b4070f7fd24c9f485d9b40722a36"), looks := false }, kinds := [], alts := [], laidByText := true, laidKinds := [.data, .data, .data], laidTests := true, laidLooks := .later }
def ReviewNilCardSaid : Prop := Claim7.holds Tryd.pinned (.plain (OpenSpec.ofChange reviewNilSpec)) reviewNilCard

/-- THE SECOND FORM's CARD OF 'scorebooklaw36.ReviewPlays'. -/
def reviewPlaysUptoCard : Claim7 := { stood := { row := reviewPlaysUptoRow, standIns := [], harness := (true, "4217fd76e6cb7c0ab655cb7ac6a7bcd295e7b4070f7fd24c9f485d9b40722a36"), looks := false }, kinds := [], alts := [], laidByText := true, laidKinds := [.data, .data, .data], laidTests := true, laidLooks := .later }
def ReviewPlaysUptoCardSaid : Prop := Claim7.holds Tryd.pinned (.plain (OpenSpec.upto reviewPlaysSpec)) reviewPlaysUptoCard

/-- THE SECOND FORM's CARD OF 'scorebooklaw36.ReviewAddsUp'. -/
def reviewAddsUpUptoCard : Claim7 := { stood := { row := reviewAddsUpUptoRow, standIns := [], harness := (true, "4217fd76e6cb7c0ab655cb7ac6a7bcd295e7b4070f7fd24c9f485d9b40722a36"), looks := false }, kinds := [], alts := [], laidByText := true, laidKinds := [.data, .data, .data], laidTests := true, laidLooks := .later }
def ReviewAddsUpUptoCardSaid : Prop := Claim7.holds Tryd.pinned (.plain (OpenSpec.upto reviewAddsUpSpec)) reviewAddsUpUptoCard

/-- THE SECOND FORM's CARD OF 'scorebooklaw36.ReviewFree'. -/
def reviewFreeUptoCard : Claim7 := { stood := { row := reviewFreeUptoRow, standIns := [], harness := (true, "4217fd76e6cb7c0ab655cb7ac6a7bcd295e7b4070f7fd24c9f485d9b40722a36"), looks := false }, kinds := [], alts := [], laidByText := true, laidKinds := [.data, .data, .data], laidTests := true, laidLooks := .later }
def ReviewFreeUptoCardSaid : Prop := Claim7.holds Tryd.pinned (.plain (OpenSpec.upto reviewFreeSpec)) reviewFreeUptoCard

/-- THE SECOND FORM's CARD OF 'scorebooklaw36.ReviewClones'. -/
def reviewClonesUptoCard : Claim7 := { stood := { row := reviewClonesUptoRow, standIns := [], harness := (true, "4217fd76e6cb7c0ab655cb7ac6a7bcd295e7b4070f7fd24c9f485d9b40722a36"), looks := false }, kinds := [], alts := [], laidByText := true, laidKinds := [.data, .data, .data], laidTests := true, laidLooks := .later }
def ReviewClonesUptoCardSaid : Prop := Claim7.holds Tryd.pinned (.plain (OpenSpec.upto reviewClonesSpec)) reviewClonesUptoCard

/-- THE SECOND FORM's CARD OF 'scorebooklaw36.ReviewNil'. -/
def reviewNilUptoCard : Claim7 := { stood := { row := reviewNilUptoRow, standIns := [], harness := (true, "4217fd76e6cb7c0ab655cb7ac6a7bcd295e7b4070f7fd24c9f485d9b40722a36"), looks := false }, kinds := [], alts := [], laidByText := true, laidKinds := [.data, .data, .data], laidTests := true, laidLooks := .later }
def ReviewNilUptoCardSaid : Prop := Claim7.holds Tryd.pinned (.plain (OpenSpec.upto reviewNilSpec)) reviewNilUptoCard
end Rows
end Go.Proofs.YtppoejhfemolfaaDoor

/-
  No cell of these rows narrows 'for every input' (looked for: loops, veiled, ifaces, maps, wideKeys, modest, calm, conditions, laid).
  DERIVED. THE GIVEN ROWS OF THIS SEAT. 5 by the template 'for every input the law returns true; each argument reads behind the call as it read before'; 0 by the template 'total and deterministic' (their statements: YthccmolnfejkeaaTotals.lean).
  GIVEN WITH THE SEED: the statements are not yours to turn. If you find one false, say at which input.
  Laid BY PROGRAM, IN A SANDBOX (cutbox-rows.mjs): the forced cells as the released guide's own fill.sh prints them over the translation 92621abdc02e2ce0… (all of the seat's roots in one cut). By AI agents, Wed Nov 11 2026. No macro, syntax, notation, axiom, sorry.
-/
import Derived.Test.YthccmolnfejkeaaChecked
import GoSem.Claim
import GoSem.ClaimJoined
import GoSem.ClaimMapViews
import Derived.JoinedTies
import Derived.KernelRfl
namespace Go.Proofs.Ythccmolnfejkeaa
/- THE CELL 'sum', in the pinned program and in every row, IS THE sha256 OF THE DUMP (.gsa) THAT YthccmolnfejkeaaProg.lean LOADS. Nothing in Lean hashes anything: it is a label: what it is worth is what the hold of that sum in a sandbox is worth. -/
noncomputable def Try.pinned : Pinned := { name := "ythccmolnfejkeaa", sum := "92621abdc02e2ce0cc231240c4caff5e8b006e62d4a1e278569410ecd82ad5f1", checked := Try.checked }
namespace Rows
def none {H : Type} : Left H := { results := [], args := [] }

/-- 'scorebooklaw37.ResourceChecks': WHATEVER THE INPUT: true; the input reads as it did. -/
def resourceChecksSpec : ChangeSpec := { name := "resourceChecks", fn := fun _ => fun
  | [d] => { results := [.lit (.bool true)], args := [d] }
  | _ => none }
def resourceChecksRow : OpenClaim := { program := "ythccmolnfejkeaa", sum := "92621abdc02e2ce0cc231240c4caff5e8b006e62d4a1e278569410ecd82ad5f1", func := "scorebook/scorebooklaw37.ResourceChecks", spec := "resourceChecks", apart := false }
def ResourceChecksSaid : Prop := resourceChecksRow.holds Try.pinned (OpenSpec.ofChange resourceChecksSpec)

/-- ITS FALSE NEIGHBOUR: 'it returns false'. Refute it at one input. -/
def resourceChecksWrong : ChangeSpec := { name := "resourceChecks", fn := fun _ => fun
  | [d] => { results := [.lit (.bool false)], args := [d] }
  | _ => none }
def ResourceChecksWrongFalsely : Prop := resourceChecksRow.holds Try.pinned (OpenSpec.ofChange resourceChecksWrong)

/-- 'scorebooklaw37.ResourceLookups': WHATEVER THE INPUT: true; the input reads as it did. -/
def resourceLookupsSpec : ChangeSpec := { name := "resourceLookups", fn := fun _ => fun
  | [d1, d2, d3] => { results := [.lit (.bool true)], args := [d1, d2, d3] }
  | _ => none }
def resourceLookupsRow : OpenClaim := { program := "ythccmolnfejkeaa", sum := "92621abdc02e2ce0cc231240c4caff5e8b006e62d4a1e278569410ecd82ad5f1", func := "scorebook/scorebooklaw37.ResourceLookups", spec := "resourceLookups", apart := false }
def ResourceLookupsSaid : Prop := resourceLookupsRow.holds Try.pinned (OpenSpec.ofChange resourceLookupsSpec)

/-- ITS FALSE NEIGHBOUR: 'it returns false'. Refute it at one input. -/
def resourceLookupsWrong : ChangeSpec := { name := "resourceLookups", fn := fun _ => fun
  | [d1, d2, d3] => { results := [.lit (.bool false)], args := [d1, d2, d3] }
  | _ => none }
def ResourceLookupsWrongFalsely : Prop := resourceLookupsRow.holds Try.pinned (OpenSpec.ofChange resourceLookupsWrong)

/-- 'scorebooklaw37.ResourceFalls': WHATEVER THE INPUT: true; the input reads as it did. -/
def resourceFallsSpec : ChangeSpec := { name := "resourceFalls", fn := fun _ => fun
  | [d1, d2, d3] => { results := [.lit (.bool true)], args := [d1, d2, d3] }
  | _ => none }
def resourceFallsRow : OpenClaim := { program := "ythccmolnfejkeaa", sum := "92621abdc02e2ce0cc231240c4caff5e8b006e62d4a1e278569410ecd82ad5f1", func := "scorebook/scorebooklaw37.ResourceFalls", spec := "resourceFalls", apart := false }
def ResourceFallsSaid : Prop := resourceFallsRow.holds Try.pinned (OpenSpec.ofChange resourceFallsSpec)

/-- ITS FALSE NEIGHBOUR: 'it returns false'. Refute it at one input. -/
def resourceFallsWrong : ChangeSpec := { name := "resourceFalls", fn := fun _ => fun
  | [d1, d2, d3] => { results := [.lit (.bool false)], args := [d1, d2, d3] }
  | _ => none }
def ResourceFallsWrongFalsely : Prop := resourceFallsRow.holds Try.pinned (OpenSpec.ofChange resourceFallsWrong)

/-- 'scorebooklaw37.ResourceEnds': WHATEVER THE INPUT: true; the input reads as it did. -/
def resourceEndsSpec : ChangeSpec := { name := "resourceEnds", fn := fun _ => fun
  | [d1, d2, d3] => { results := [.lit (.bool true)], args := [d1, d2, d3] }
  | _ => none }
def resourceEndsRow : OpenClaim := { program := "ythccmolnfejkeaa", sum := "92621abdc02e2ce0cc231240c4caff5e8b006e62d4a1e278569410ecd82ad5f1", func := "scorebook/scorebooklaw37.ResourceEnds", spec := "resourceEnds", apart := false }
def ResourceEndsSaid : Prop := resourceEndsRow.holds Try.pinned (OpenSpec.ofChange resourceEndsSpec)

/-- ITS FALSE NEIGHBOUR: 'it returns false'. Refute it at one input. -/
def resourceEndsWrong : ChangeSpec := { name := "resourceEnds", fn := fun _ => fun
  | [d1, d2, d3] => { results := [.lit (.bool false)], args := [d1, d2, d3] }
  | _ => none }
def ResourceEndsWrongFalsely : Prop := resourceEndsRow.holds Try.pinned (OpenSpec.ofChange resourceEndsWrong)

/-- 'scorebooklaw37.ResourceLinear': WHATEVER THE INPUT: true; the input reads as it did. -/
def resourceLinearSpec : ChangeSpec := { name := "resourceLinear", fn := fun _ => fun
  | [d1, d2] => { results := [.lit (.bool true)], args := [d1, d2] }
  | _ => none }
def resourceLinearRow : OpenClaim := { program := "ythccmolnfejkeaa", sum := "92621abdc02e2ce0cc231240c4caff5e8b006e62d4a1e278569410ecd82ad5f1", func := "scorebook/scorebooklaw37.ResourceLinear", spec := "resourceLinear", apart := false }
def ResourceLinearSaid : Prop := resourceLinearRow.holds Try.pinned (OpenSpec.ofChange resourceLinearSpec)

/-- ITS FALSE NEIGHBOUR: 'it returns false'. Refute it at one input. -/
def resourceLinearWrong : ChangeSpec := { name := "resourceLinear", fn := fun _ => fun
  | [d1, d2] => { results := [.lit (.bool false)], args := [d1, d2] }
  | _ => none }
def ResourceLinearWrongFalsely : Prop := resourceLinearRow.holds Try.pinned (OpenSpec.ofChange resourceLinearWrong)

/- THE SECOND FORM. 'bulk': how many values and letters a reading holds, each counted each time it is reached (what is shared counts as often as it is met; a slice's spare places count too). A statement '..UptoSaid' is the law's where the arguments, and the package variables that the reading takes, are together of bulk at most 1048576: NARROWER than '..Said'. Prove '..Said' where nothing that the law and all that it calls make is longer than what came in: it says more and counts as full. Else prove '..UptoSaid'. A law counts once. -/
mutual
def uptoBulk {H : Type} : DataW H → Nat
  | .lit (.string bytes) => bytes.length + 1
  | .lit _ => 1
  | .nil => 1
  | .ptr d => uptoBulk d + 1
  | .slice elems spare => uptoBulkAll elems + uptoBulkAll spare + 1
  | .agg parts => uptoBulkAll parts + 1
  | .iface _ d => uptoBulk d + 1
  | .map entries => uptoBulkEntries entries + 1
  | .held _ => 1
def uptoBulkAll {H : Type} : List (DataW H) → Nat
  | [] => 0
  | d :: r => uptoBulk d + uptoBulkAll r
def uptoBulkEntries {H : Type} : List (Lit × DataW H) → Nat
  | [] => 0
  | x :: r => uptoBulkEntry x + uptoBulkEntries r
def uptoBulkEntry {H : Type} : Lit × DataW H → Nat
  | (.string bytes, d) => bytes.length + uptoBulk d + 1
  | (_, d) => uptoBulk d + 1
 end
def uptoSmall : (H : Type) → List (DataW H) → Bool := fun _ ds => decide (uptoBulkAll ds ≤ 1048576)
def OpenSpec.upto (s : _root_.Go.ChangeSpec) : _root_.Go.OpenSpec := { _root_.Go.OpenSpec.ofChange s with cond := some uptoSmall }

/-- 'scorebooklaw37.ResourceChecks', WHERE WHAT IT READS IS OF BULK AT MOST 1048576: true; the input reads as it did. -/
def resourceChecksUptoRow : OpenClaim := { program := "ythccmolnfejkeaa", sum := "92621abdc02e2ce0cc231240c4caff5e8b006e62d4a1e278569410ecd82ad5f1", func := "scorebook/scorebooklaw37.ResourceChecks", spec := "resourceChecks", apart := false, narrowed := true }
def ResourceChecksUptoSaid : Prop := resourceChecksUptoRow.holds Try.pinned (OpenSpec.upto resourceChecksSpec)

/-- 'scorebooklaw37.ResourceLookups', WHERE WHAT IT READS IS OF BULK AT MOST 1048576: true; the input reads as it did. -/
def resourceLookupsUptoRow : OpenClaim := { program := "ythccmolnfejkeaa", sum := "92621abdc02e2ce0cc231240c4caff5e8b006e62d4a1e278569410ecd82ad5f1", func := "scorebook/scorebooklaw37.ResourceLookups", spec := "resourceLookups", apart := false, narrowed := true }
def ResourceLookupsUptoSaid : Prop := resourceLookupsUptoRow.holds Try.pinned (OpenSpec.upto resourceLookupsSpec)

/-- 'scorebooklaw37.ResourceFalls', WHERE WHAT IT READS IS OF BULK AT MOST 1048576: true; the input reads as it did. -/
def resourceFallsUptoRow : OpenClaim := { program := "ythccmolnfejkeaa", sum := "92621abdc02e2ce0cc231240c4caff5e8b006e62d4a1e278569410ecd82ad5f1", func := "scorebook/scorebooklaw37.ResourceFalls", spec := "resourceFalls", apart := false, narrowed := true }
def ResourceFallsUptoSaid : Prop := resourceFallsUptoRow.holds Try.pinned (OpenSpec.upto resourceFallsSpec)

/-- 'scorebooklaw37.ResourceEnds', WHERE WHAT IT READS IS OF BULK AT MOST 1048576: true; the input reads as it did. -/
def resourceEndsUptoRow : OpenClaim := { program := "ythccmolnfejkeaa", sum := "92621abdc02e2ce0cc231240c4caff5e8b006e62d4a1e278569410ecd82ad5f1", func := "scorebook/scorebooklaw37.ResourceEnds", spec := "resourceEnds", apart := false, narrowed := true }
def ResourceEndsUptoSaid : Prop := resourceEndsUptoRow.holds Try.pinned (OpenSpec.upto resourceEndsSpec)

/-- 'scorebooklaw37.ResourceLinear', WHERE WHAT IT READS IS OF BULK AT MOST 1048576: true; the input reads as it did. -/
def resourceLinearUptoRow : OpenClaim := { program := "ythccmolnfejkeaa", sum := "92621abdc02e2ce0cc231240c4caff5e8b006e62d4a1e278569410ecd82ad5f1", func := "scorebook/scorebooklaw37.ResourceLinear", spec := "resourceLinear", apart := false, narrowed := true }
def ResourceLinearUptoSaid : Prop := resourceLinearUptoRow.holds Try.pinned (OpenSpec.upto resourceLinearSpec)

end Rows
end Go.Proofs.Ythccmolnfejkeaa

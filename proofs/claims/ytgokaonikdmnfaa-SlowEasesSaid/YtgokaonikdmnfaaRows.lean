/-
  No cell of these rows narrows 'for every input' (looked for: loops, veiled, ifaces, maps, wideKeys, modest, calm, conditions, laid).
  DERIVED. THE GIVEN ROWS OF THIS SEAT. 7 by the template 'for every input the law returns true; each argument reads behind the call as it read before'; 0 by the template 'total and deterministic' (their statements: YtgokaonikdmnfaaTotals.lean).
  GIVEN WITH THE SEED: the statements are not yours to turn. If you find one false, say at which input.
  Laid BY PROGRAM, IN A SANDBOX (cutbox-rows.mjs): the forced cells as the released guide's own fill.sh prints them over the translation b61ea796d2ff275a… (all of the seat's roots in one cut). By AI agents, Wed Nov 11 2026. No macro, syntax, notation, axiom, sorry.
-/
import Derived.Test.YtgokaonikdmnfaaChecked
import GoSem.Claim
import GoSem.ClaimJoined
import GoSem.ClaimMapViews
import Derived.JoinedTies
import Derived.KernelRfl
namespace Go.Proofs.Ytgokaonikdmnfaa
/- THE CELL 'sum', in the pinned program and in every row, IS THE sha256 OF THE DUMP (.gsa) THAT YtgokaonikdmnfaaProg.lean LOADS. Nothing in Lean hashes anything: it is a label: what it is worth is what the hold of that sum in a sandbox is worth. -/
noncomputable def Try.pinned : Pinned := { name := "ytgokaonikdmnfaa", sum := "b61ea796d2ff275a12af6750126773e2620d2666f8b03d9834448f871eebccb8", checked := Try.checked }
namespace Rows
def none {H : Type} : Left H := { results := [], args := [] }

/-- 'scorebooklaw41.SlowAllows': WHATEVER THE INPUT: true; the input reads as it did. -/
def slowAllowsSpec : ChangeSpec := { name := "slowAllows", fn := fun _ => fun
  | [d1, d2] => { results := [.lit (.bool true)], args := [d1, d2] }
  | _ => none }
def slowAllowsRow : OpenClaim := { program := "ytgokaonikdmnfaa", sum := "b61ea796d2ff275a12af6750126773e2620d2666f8b03d9834448f871eebccb8", func := "scorebook/scorebooklaw41.SlowAllows", spec := "slowAllows", apart := false }
def SlowAllowsSaid : Prop := slowAllowsRow.holds Try.pinned (OpenSpec.ofChange slowAllowsSpec)

/-- ITS FALSE NEIGHBOUR: 'it returns false'. Refute it at one input. -/
def slowAllowsWrong : ChangeSpec := { name := "slowAllows", fn := fun _ => fun
  | [d1, d2] => { results := [.lit (.bool false)], args := [d1, d2] }
  | _ => none }
def SlowAllowsWrongFalsely : Prop := slowAllowsRow.holds Try.pinned (OpenSpec.ofChange slowAllowsWrong)

/-- 'scorebooklaw41.SlowRuns': WHATEVER THE INPUT: true; the input reads as it did. -/
def slowRunsSpec : ChangeSpec := { name := "slowRuns", fn := fun _ => fun
  | [d1, d2] => { results := [.lit (.bool true)], args := [d1, d2] }
  | _ => none }
def slowRunsRow : OpenClaim := { program := "ytgokaonikdmnfaa", sum := "b61ea796d2ff275a12af6750126773e2620d2666f8b03d9834448f871eebccb8", func := "scorebook/scorebooklaw41.SlowRuns", spec := "slowRuns", apart := false }
def SlowRunsSaid : Prop := slowRunsRow.holds Try.pinned (OpenSpec.ofChange slowRunsSpec)

/-- ITS FALSE NEIGHBOUR: 'it returns false'. Refute it at one input. -/
def slowRunsWrong : ChangeSpec := { name := "slowRuns", fn := fun _ => fun
  | [d1, d2] => { results := [.lit (.bool false)], args := [d1, d2] }
  | _ => none }
def SlowRunsWrongFalsely : Prop := slowRunsRow.holds Try.pinned (OpenSpec.ofChange slowRunsWrong)

/-- 'scorebooklaw41.SlowEases': WHATEVER THE INPUT: true; the input reads as it did. -/
def slowEasesSpec : ChangeSpec := { name := "slowEases", fn := fun _ => fun
  | [d1, d2, d3] => { results := [.lit (.bool true)], args := [d1, d2, d3] }
  | _ => none }
def slowEasesRow : OpenClaim := { program := "ytgokaonikdmnfaa", sum := "b61ea796d2ff275a12af6750126773e2620d2666f8b03d9834448f871eebccb8", func := "scorebook/scorebooklaw41.SlowEases", spec := "slowEases", apart := false }
def SlowEasesSaid : Prop := slowEasesRow.holds Try.pinned (OpenSpec.ofChange slowEasesSpec)

/-- ITS FALSE NEIGHBOUR: 'it returns false'. Refute it at one input. -/
def slowEasesWrong : ChangeSpec := { name := "slowEases", fn := fun _ => fun
  | [d1, d2, d3] => { results := [.lit (.bool false)], args := [d1, d2, d3] }
  | _ => none }
def SlowEasesWrongFalsely : Prop := slowEasesRow.holds Try.pinned (OpenSpec.ofChange slowEasesWrong)

/-- 'scorebooklaw41.SlowTimes': WHATEVER THE INPUT: true; the input reads as it did. -/
def slowTimesSpec : ChangeSpec := { name := "slowTimes", fn := fun _ => fun
  | [d1, d2] => { results := [.lit (.bool true)], args := [d1, d2] }
  | _ => none }
def slowTimesRow : OpenClaim := { program := "ytgokaonikdmnfaa", sum := "b61ea796d2ff275a12af6750126773e2620d2666f8b03d9834448f871eebccb8", func := "scorebook/scorebooklaw41.SlowTimes", spec := "slowTimes", apart := false }
def SlowTimesSaid : Prop := slowTimesRow.holds Try.pinned (OpenSpec.ofChange slowTimesSpec)

/-- ITS FALSE NEIGHBOUR: 'it returns false'. Refute it at one input. -/
def slowTimesWrong : ChangeSpec := { name := "slowTimes", fn := fun _ => fun
  | [d1, d2] => { results := [.lit (.bool false)], args := [d1, d2] }
  | _ => none }
def SlowTimesWrongFalsely : Prop := slowTimesRow.holds Try.pinned (OpenSpec.ofChange slowTimesWrong)

/-- 'scorebooklaw41.SlowParts': WHATEVER THE INPUT: true; the input reads as it did. -/
def slowPartsSpec : ChangeSpec := { name := "slowParts", fn := fun _ => fun
  | [d1, d2, d3] => { results := [.lit (.bool true)], args := [d1, d2, d3] }
  | _ => none }
def slowPartsRow : OpenClaim := { program := "ytgokaonikdmnfaa", sum := "b61ea796d2ff275a12af6750126773e2620d2666f8b03d9834448f871eebccb8", func := "scorebook/scorebooklaw41.SlowParts", spec := "slowParts", apart := false }
def SlowPartsSaid : Prop := slowPartsRow.holds Try.pinned (OpenSpec.ofChange slowPartsSpec)

/-- ITS FALSE NEIGHBOUR: 'it returns false'. Refute it at one input. -/
def slowPartsWrong : ChangeSpec := { name := "slowParts", fn := fun _ => fun
  | [d1, d2, d3] => { results := [.lit (.bool false)], args := [d1, d2, d3] }
  | _ => none }
def SlowPartsWrongFalsely : Prop := slowPartsRow.holds Try.pinned (OpenSpec.ofChange slowPartsWrong)

/-- 'scorebooklaw41.SlowCuts': WHATEVER THE INPUT: true; the input reads as it did. -/
def slowCutsSpec : ChangeSpec := { name := "slowCuts", fn := fun _ => fun
  | [d1, d2, d3] => { results := [.lit (.bool true)], args := [d1, d2, d3] }
  | _ => none }
def slowCutsRow : OpenClaim := { program := "ytgokaonikdmnfaa", sum := "b61ea796d2ff275a12af6750126773e2620d2666f8b03d9834448f871eebccb8", func := "scorebook/scorebooklaw41.SlowCuts", spec := "slowCuts", apart := false }
def SlowCutsSaid : Prop := slowCutsRow.holds Try.pinned (OpenSpec.ofChange slowCutsSpec)

/-- ITS FALSE NEIGHBOUR: 'it returns false'. Refute it at one input. -/
def slowCutsWrong : ChangeSpec := { name := "slowCuts", fn := fun _ => fun
  | [d1, d2, d3] => { results := [.lit (.bool false)], args := [d1, d2, d3] }
  | _ => none }
def SlowCutsWrongFalsely : Prop := slowCutsRow.holds Try.pinned (OpenSpec.ofChange slowCutsWrong)

/-- 'scorebooklaw41.SlowRates': WHATEVER THE INPUT: true; the input reads as it did. -/
def slowRatesSpec : ChangeSpec := { name := "slowRates", fn := fun _ => fun
  | [d1, d2] => { results := [.lit (.bool true)], args := [d1, d2] }
  | _ => none }
def slowRatesRow : OpenClaim := { program := "ytgokaonikdmnfaa", sum := "b61ea796d2ff275a12af6750126773e2620d2666f8b03d9834448f871eebccb8", func := "scorebook/scorebooklaw41.SlowRates", spec := "slowRates", apart := false }
def SlowRatesSaid : Prop := slowRatesRow.holds Try.pinned (OpenSpec.ofChange slowRatesSpec)

/-- ITS FALSE NEIGHBOUR: 'it returns false'. Refute it at one input. -/
def slowRatesWrong : ChangeSpec := { name := "slowRates", fn := fun _ => fun
  | [d1, d2] => { results := [.lit (.bool false)], args := [d1, d2] }
  | _ => none }
def SlowRatesWrongFalsely : Prop := slowRatesRow.holds Try.pinned (OpenSpec.ofChange slowRatesWrong)

/- THE SECOND FORM. 'bulk': how many values and letters a reading holds, each counted each time it is reached (what is shared counts as often as it is met; a slice's spare places count too). A statement '..UptoSaid' is the law's where the arguments, and the package variables that the reading takes, are together of bulk at most 1048576: NARROWER than '..Said'. Prove '..Said' where nothing that the law and all that it calls make is longer than what came in: it says more and counts as full. Else prove '..UptoSaid'. A law counts once. -/
mutual
def uptoBulk {H : Type} : DataW H → Nat
  | .lit (.string bytes) => bytes.length + 1
  | .lit _ => 1
  | .nil => 1
  | .ptr d => uptoBulk d + 1
  | .slice elems spare => uptoBulkAll elems + uptoBulkAll spare + 1
  | .agg parts => uptoBulkAll parts + 1
  | .iface _ d => uptoBulk d + 1
  | .map entries => uptoBulkEntries entries + 1
  | .held _ => 1
def uptoBulkAll {H : Type} : List (DataW H) → Nat
  | [] => 0
  | d :: r => uptoBulk d + uptoBulkAll r
def uptoBulkEntries {H : Type} : List (Lit × DataW H) → Nat
  | [] => 0
  | x :: r => uptoBulkEntry x + uptoBulkEntries r
def uptoBulkEntry {H : Type} : Lit × DataW H → Nat
  | (.string bytes, d) => bytes.length + uptoBulk d + 1
  | (_, d) => uptoBulk d + 1
 end
def uptoSmall : (H : Type) → List (DataW H) → Bool := fun _ ds => decide (uptoBulkAll ds ≤ 1048576)
def OpenSpec.upto (s : _root_.Go.ChangeSpec) : _root_.Go.OpenSpec := { _root_.Go.OpenSpec.ofChange s with cond := some uptoSmall }

/-- 'scorebooklaw41.SlowAllows', WHERE WHAT IT READS IS OF BULK AT MOST 1048576: true; the input reads as it did. -/
def slowAllowsUptoRow : OpenClaim := { program := "ytgokaonikdmnfaa", sum := "b61ea796d2ff275a12af6750126773e2620d2666f8b03d9834448f871eebccb8", func := "scorebook/scorebooklaw41.SlowAllows", spec := "slowAllows", apart := false, narrowed := true }
def SlowAllowsUptoSaid : Prop := slowAllowsUptoRow.holds Try.pinned (OpenSpec.upto slowAllowsSpec)

/-- 'scorebooklaw41.SlowRuns', WHERE WHAT IT READS IS OF BULK AT MOST 1048576: true; the input reads as it did. -/
def slowRunsUptoRow : OpenClaim := { program := "ytgokaonikdmnfaa", sum := "b61ea796d2ff275a12af6750126773e2620d2666f8b03d9834448f871eebccb8", func := "scorebook/scorebooklaw41.SlowRuns", spec := "slowRuns", apart := false, narrowed := true }
def SlowRunsUptoSaid : Prop := slowRunsUptoRow.holds Try.pinned (OpenSpec.upto slowRunsSpec)

/-- 'scorebooklaw41.SlowEases', WHERE WHAT IT READS IS OF BULK AT MOST 1048576: true; the input reads as it did. -/
def slowEasesUptoRow : OpenClaim := { program := "ytgokaonikdmnfaa", sum := "b61ea796d2ff275a12af6750126773e2620d2666f8b03d9834448f871eebccb8", func := "scorebook/scorebooklaw41.SlowEases", spec := "slowEases", apart := false, narrowed := true }
def SlowEasesUptoSaid : Prop := slowEasesUptoRow.holds Try.pinned (OpenSpec.upto slowEasesSpec)

/-- 'scorebooklaw41.SlowTimes', WHERE WHAT IT READS IS OF BULK AT MOST 1048576: true; the input reads as it did. -/
def slowTimesUptoRow : OpenClaim := { program := "ytgokaonikdmnfaa", sum := "b61ea796d2ff275a12af6750126773e2620d2666f8b03d9834448f871eebccb8", func := "scorebook/scorebooklaw41.SlowTimes", spec := "slowTimes", apart := false, narrowed := true }
def SlowTimesUptoSaid : Prop := slowTimesUptoRow.holds Try.pinned (OpenSpec.upto slowTimesSpec)

/-- 'scorebooklaw41.SlowParts', WHERE WHAT IT READS IS OF BULK AT MOST 1048576: true; the input reads as it did. -/
def slowPartsUptoRow : OpenClaim := { program := "ytgokaonikdmnfaa", sum := "b61ea796d2ff275a12af6750126773e2620d2666f8b03d9834448f871eebccb8", func := "scorebook/scorebooklaw41.SlowParts", spec := "slowParts", apart := false, narrowed := true }
def SlowPartsUptoSaid : Prop := slowPartsUptoRow.holds Try.pinned (OpenSpec.upto slowPartsSpec)

/-- 'scorebooklaw41.SlowCuts', WHERE WHAT IT READS IS OF BULK AT MOST 1048576: true; the input reads as it did. -/
def slowCutsUptoRow : OpenClaim := { program := "ytgokaonikdmnfaa", sum := "b61ea796d2ff275a12af6750126773e2620d2666f8b03d9834448f871eebccb8", func := "scorebook/scorebooklaw41.SlowCuts", spec := "slowCuts", apart := false, narrowed := true }
def SlowCutsUptoSaid : Prop := slowCutsUptoRow.holds Try.pinned (OpenSpec.upto slowCutsSpec)

/-- 'scorebooklaw41.SlowRates', WHERE WHAT IT READS IS OF BULK AT MOST 1048576: true; the input reads as it did. -/
def slowRatesUptoRow : OpenClaim := { program := "ytgokaonikdmnfaa", sum := "b61ea796d2ff275a12af6750126773e2620d2666f8b03d9834448f871eebccb8", func := "scorebook/scorebooklaw41.SlowRates", spec := "slowRates", apart := false, narrowed := true }
def SlowRatesUptoSaid : Prop := slowRatesUptoRow.holds Try.pinned (OpenSpec.upto slowRatesSpec)

end Rows
end Go.Proofs.Ytgokaonikdmnfaa

/-
  What a card's condition gives the walks: the table of powers of ten; the start of the program meets the condition.
-/
import Derived.Test.YtohoehfebphgeaaDoorTabF
import Derived.Test.YtohoehfebphgeaaDoorRows
import Derived.ProofKit
import Derived.LaidMore
import Derived.OpenShut
import Derived.Stop.Joined
import Derived.Lib.LaidTab
import Derived.Stop.LaidErr
namespace Go.Proofs.YtohoehfebphgeaaDoor
open Go.ChangeShapes Go.WideShapes Go.ChangeAt Go.WideMaps Go.WideElems Go.RowKit
set_option maxRecDepth 100000

def doorFuel : Nat := 2000
theorem of_laid {W : World} (h : laidMetH Tryd.prog Rows.topSymbolsRow.laid W) : TX W := by
  rw [MakeChecks.laidMetH_plain _ _ _ (by kernel_rfl)] at h
  exact Lib.tabIs_of_head (g := 1) (t := 94) (e := 87) (n := 20) (k := .u64) (zs := Lib.pow10Tab) (by kernel_rfl) (by kernel_rfl) (by kernel_rfl) (by kernel_rfl) (by kernel_rfl) (by kernel_rfl) (laidMet.tail (laidMet.tail h))
theorem door_met_of_laid (os : Os) (args : Array Value) : laidMetH Tryd.prog Rows.topSymbolsRow.laid ((World.doorLaid Tryd.prog doorFuel os).forCall (fun _ _ => 0) ⟨#[], args, []⟩).memory :=
  laidMetH_of_parts3 (fuel := 8) (laidMet_of_run' 8 (by kernel_rfl) (by kernel_rfl)) (by kernel_rfl) (by kernel_rfl)

end Go.Proofs.YtohoehfebphgeaaDoor

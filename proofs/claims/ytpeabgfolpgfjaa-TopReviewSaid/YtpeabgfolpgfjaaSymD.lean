/-
  Numbers and symbols of the box book (layer 21).
-/
import Derived.Test.YtpeabgfolpgfjaaSymB
namespace Go.Proofs.Ytpeabgfolpgfjaa
open Go.RowKit
set_option linter.unusedSimpArgs false

theorem total_any (a0 a1 a2 a3 a4 a5 : Int) (b6 b7 b8 b9 : Bool) (h0 : 0 ≤ a0 ∧ a0 ≤ 1000) (h1 : 0 ≤ a1 ∧ a1 ≤ 1000) (h2 : 0 ≤ a2 ∧ a2 ≤ 1000) (h3 : 0 ≤ a3 ∧ a3 ≤ 1000) (h4 : 0 ≤ a4 ∧ a4 ≤ 1000) (w : World) :
    Calls Try.prog 69 #[.agg #[.int .i64 a0, .int .i64 a1, .int .i64 a2, .int .i64 a3, .int .i64 a4, .int .i64 a5, .bool b6, .bool b7, .bool b8, .bool b9]] w fun e w' => e = .returned (.int .i64 (a0 + a1 + a2 + a3 + a4)) ∧ Ext w w' := by
  have e1 : IntKind.i64.wrap (a0 + a1) = a0 + a1 := IntWalk.i64_in _ (by omega)
  have e2 : IntKind.i64.wrap (a0 + a1 + a2) = a0 + a1 + a2 := IntWalk.i64_in _ (by omega)
  have e3 : IntKind.i64.wrap (a0 + a1 + a2 + a3) = a0 + a1 + a2 + a3 := IntWalk.i64_in _ (by omega)
  have e4 : IntKind.i64.wrap (a0 + a1 + a2 + a3 + a4) = a0 + a1 + a2 + a3 + a4 := IntWalk.i64_in _ (by omega)
  clear h0 h1 h2 h3 h4
  go_enter Try.func69, Try.ntmps69
  go_wp2
  go_ret
  exact ⟨rfl, (by repeat (first | exact Ext.refl _ | refine Ext.setCell ?_ (by first | exact Nat.le_refl _ | (simp; done) | (simp; omega)) _ | refine Ext.drew ?_ | refine Ext.drewN ?_ _ | refine Ext.alloc ?_ _))⟩

end Go.Proofs.Ytpeabgfolpgfjaa

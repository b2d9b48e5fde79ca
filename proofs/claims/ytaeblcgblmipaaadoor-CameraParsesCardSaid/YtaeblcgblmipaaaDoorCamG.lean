/-
  Same of layer 31's reference on equal lists.
-/
import Derived.Test.YtaeblcgblmipaaaDoorCamE
import Derived.Test.YtaeblcgblmipaaaDoorCamP
namespace Go.Proofs.YtaeblcgblmipaaaDoor
open Go.RowKit
set_option linter.unusedSimpArgs false

set_option maxHeartbeats 16000000 in
theorem same_any (A0 A1 : Option Addr) (n C0 C1 : Nat) (f : Nat → Nat → Int) (b off b' off' : Nat) (w : World) (T : SeenAt w A0 n f b off) (T' : SeenAt w A1 n f b' off') :
    Calls Tryd.prog 15 #[.slice A0 n C0, .slice A1 n C1] w fun e w' => e = .returned (.bool true) ∧ Ext w w' := by
  have hn := T.nle
  go_enter Tryd.func15, Tryd.ntmps15
  go_wp2
  go_loopw [13] (fun i wr => ∃ k : Nat, k ≤ n ∧ i = .int .i64 k ∧ Ext w wr) (fun i _ => n - (intOf i).toNat)
  case atStart => exact ⟨0, by omega, rfl, (by repeat (first | exact Ext.refl _ | refine Ext.setCell ?_ (by first | exact Nat.le_refl _ | (simp; done) | (simp; omega)) _ | refine Ext.drew ?_ | refine Ext.drewN ?_ _ | refine Ext.alloc ?_ _))⟩
  case round =>
    obtain ⟨k, hk, rfl, hE⟩ := hrel
    by_cases hlt : k < n
    · obtain ⟨rfl, hbl⟩ := T.top (by omega)
      obtain ⟨rfl, hbl'⟩ := T'.top (by omega)
      have T2 := T.ext hE
      have T3 := T'.ext hE
      have c0 := T2.cell k 0 hlt (by omega)
      simp only [Nat.add_zero] at c0
      have c1 := T2.cell k 1 hlt (by omega)
      have c2 := T2.cell k 2 hlt (by omega)
      have c3 := T2.cell k 3 hlt (by omega)
      have c4 := T2.cell k 4 hlt (by omega)
      have d0 := T3.cell k 0 hlt (by omega)
      simp only [Nat.add_zero] at d0
      have d1 := T3.cell k 1 hlt (by omega)
      have d2 := T3.cell k 2 hlt (by omega)
      have d3 := T3.cell k 3 hlt (by omega)
      have d4 := T3.cell k 4 hlt (by omega)
      clear T2 T3
      go_wp2
      go_quiet (fail)
      go_wp2
      go_roundw
      case rel => exact ⟨k + 1, by omega, by go_num, (by repeat (first | exact Ext.refl _ | refine Ext.setCell ?_ (by first | exact Nat.le_refl _ | (simp; done) | (simp; omega)) _ | refine Ext.drew ?_ | refine Ext.drewN ?_ _ | refine Ext.alloc ?_ _ | exact hE))⟩
      case measure => simp [intOf]; omega
    · obtain rfl : k = n := by omega
      go_wp2
      go_ret
      exact ⟨rfl, hE⟩

end Go.Proofs.YtaeblcgblmipaaaDoor

/-
  The law IntervalParses, walked.
-/
import Derived.Test.YthckbfkhbegmgaaDoorIntF
import Derived.Test.YthckbfkhbegmgaaDoorIntPb
namespace Go.Proofs.YthckbfkhbegmgaaDoor
open Go.RowKit
set_option linter.unusedSimpArgs false

set_option maxHeartbeats 8000000 in
theorem intervalParses_list (L : List UInt8) (w : World) (hX : DX w) : Calls Tryd.prog 4 #[.string ⟨L.toArray⟩] w fun e w' => e = .returned (.bool true) ∧ Ext w w' := by
  have HX := Lib.hid hX
  clear hX
  by_cases hl : 200 < L.length
  · have hl1 : (200 : Int) < (L.length : Int) := by omega
    go_enter Tryd.func4, Tryd.ntmps4
    go_wp2_with (first | ((fail_if_success (have hzz := hb1)); go_at_call 5; refine (awake_any   _).mono ?_; rintro e w1 ⟨rfl, hb1⟩; obtain ⟨hc1, hf1⟩ := hb1.cells) | ((fail_if_success (have hzz := hb2)); go_at_call 8; refine (iparse_any _ (by omega) _ (HX.out.ext (by repeat (first | exact Ext.refl _ | refine Ext.alloc ?_ _ | refine Ext.trans ?_ hb1)))).mono ?_; rintro e w2 ⟨rfl, hb2⟩; obtain ⟨hc2, hf2⟩ := hb2.cells) | ((fail_if_success (have hzz := hb3)); go_at_call 9; refine (riparse_any _ (by omega) _).mono ?_; rintro e w3 ⟨rfl, hb3⟩; obtain ⟨hc3, hf3⟩ := hb3.cells; (try (have l3_0 : w2.heap.size < w3.heap.size := hb3.lt (by first | (simp; done) | (simp; omega) | (simp [go_sem]; done) | (simp [go_sem]; omega) | omega))); (try (have m3_0 : w2.heap.size ≤ w3.heap.size := Nat.le_of_lt l3_0))))
    go_ret
    exact ⟨rfl, (by repeat (first | exact Ext.refl _ | refine Ext.setCell ?_ (by first | exact Nat.le_refl _ | (simp; done) | (simp; omega)) _ | refine Ext.drew ?_ | refine Ext.drewN ?_ _ | refine Ext.alloc ?_ _ | refine Ext.trans ?_ hb3 | refine Ext.trans ?_ hb2 | refine Ext.trans ?_ hb1))⟩
  · have hl1 : ¬ ((200 : Int) < (L.length : Int)) := by omega
    go_enter Tryd.func4, Tryd.ntmps4
    go_wp2_with (first | ((fail_if_success (have hzz := hb1)); go_at_call 5; refine (awake_any   _).mono ?_; rintro e w1 ⟨rfl, hb1⟩; obtain ⟨hc1, hf1⟩ := hb1.cells) | ((fail_if_success (have hzz := hb2)); go_at_call 8; refine (iparse_any _ (by omega) _ (HX.out.ext (by repeat (first | exact Ext.refl _ | refine Ext.alloc ?_ _ | refine Ext.trans ?_ hb1)))).mono ?_; rintro e w2 ⟨rfl, hb2⟩; obtain ⟨hc2, hf2⟩ := hb2.cells) | ((fail_if_success (have hzz := hb3)); go_at_call 9; refine (riparse_any _ (by omega) _).mono ?_; rintro e w3 ⟨rfl, hb3⟩; obtain ⟨hc3, hf3⟩ := hb3.cells; (try (have l3_0 : w2.heap.size < w3.heap.size := hb3.lt (by first | (simp; done) | (simp; omega) | (simp [go_sem]; done) | (simp [go_sem]; omega) | omega))); (try (have m3_0 : w2.heap.size ≤ w3.heap.size := Nat.le_of_lt l3_0))))
    go_ret
    exact ⟨by first | rfl | (refine retb ?_; first | rfl | simp), (by repeat (first | exact Ext.refl _ | refine Ext.setCell ?_ (by first | exact Nat.le_refl _ | (simp; done) | (simp; omega)) _ | refine Ext.drew ?_ | refine Ext.drewN ?_ _ | refine Ext.alloc ?_ _ | refine Ext.trans ?_ hb3 | refine Ext.trans ?_ hb2 | refine Ext.trans ?_ hb1))⟩
theorem intervalParses_any (s : ByteArray) (w : World) (hX : DX w) : Calls Tryd.prog 4 #[.string s] w fun e w' => e = .returned (.bool true) ∧ Ext w w' := by
  obtain ⟨⟨L⟩⟩ := s
  exact intervalParses_list L w hX

end Go.Proofs.YthckbfkhbegmgaaDoor

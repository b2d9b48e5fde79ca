/-
  awake of the statements on layer 7.
-/
import Derived.Test.YtpgacpkcchajmaaDoorNotI
import Derived.Test.YtpgacpkcchajmaaDoorNotK
namespace Go.Proofs.YtpgacpkcchajmaaDoor
open Go.RowKit
set_option linter.unusedSimpArgs false

def awD : Dl := ⟨1, 1, 1, 0, 0, true, 6, 2, 4, 7, true, 0⟩
def awP : Dl := ⟨1, 1, 0, 0, 4, false, 0, 0, 0, 0, false, 2⟩
def awF : Nat → Dl := fun i => if i = 0 then ⟨1, 0, 0, 0, 0, false, 0, 0, 0, 0, false, 0⟩ else ⟨2, 0, 0, 0, 0, false, 0, 0, 0, 0, false, 0⟩
theorem aw1 : prS awD = [49, 120, 47, 82, 50, 40, 52, 44, 55, 115, 41] ∧ ckD awD = 0 := by decide +kernel
theorem aw2 : paD [70, 64, 50] = awP ∧ paE [70, 64, 50] = 0 := ⟨by kernel_rfl, by kernel_rfl⟩
theorem aw3 : ovS 2 awF = [46, 32, 119] ∧ ovE awF 2 0 = 0 := by decide +kernel
theorem awF_new (W : World) (T : TypeId) : DlsAt (W.alloc (.cells #[.int .u8 1, .int .u8 0, .int .i64 0, .int .i64 0, .int .i64 0, .bool false, .int .u8 0, .int .i64 0, .int .i64 0, .int .i64 0, .bool false, .int .i64 0, .int .u8 2, .int .u8 0, .int .i64 0, .int .i64 0, .int .i64 0, .bool false, .int .u8 0, .int .i64 0, .int .i64 0, .int .i64 0, .bool false, .int .i64 0] T)) (some ⟨W.heap.size, 0, none⟩) 2 awF W.heap.size 0 where
  nle := by omega
  top := fun _ => ⟨rfl, by simp⟩
  cell := fun i hi => by
    have h := heap_alloc_new W (.cells #[.int .u8 1, .int .u8 0, .int .i64 0, .int .i64 0, .int .i64 0, .bool false, .int .u8 0, .int .i64 0, .int .i64 0, .int .i64 0, .bool false, .int .i64 0, .int .u8 2, .int .u8 0, .int .i64 0, .int .i64 0, .int .i64 0, .bool false, .int .u8 0, .int .i64 0, .int .i64 0, .int .i64 0, .bool false, .int .i64 0] T)
    match i, hi with
    | 0, _ => refine ⟨?_, ?_, ?_, ?_, ?_, ?_, ?_, ?_, ?_, ?_, ?_, ?_⟩ <;> exact Lib.cell_of_heap h _
    | 1, _ => refine ⟨?_, ?_, ?_, ?_, ?_, ?_, ?_, ?_, ?_, ?_, ?_, ?_⟩ <;> exact Lib.cell_of_heap h _
  wf := fun i hi => by
    match i, hi with
    | 0, _ => exact ⟨by decide, by decide, by decide⟩
    | 1, _ => exact ⟨by decide, by decide, by decide⟩
theorem awF_at (W : World) (m : Nat) (hm : W.heap.size = m) (T : TypeId) : DlsAt (W.alloc (.cells #[.int .u8 1, .int .u8 0, .int .i64 0, .int .i64 0, .int .i64 0, .bool false, .int .u8 0, .int .i64 0, .int .i64 0, .int .i64 0, .bool false, .int .i64 0, .int .u8 2, .int .u8 0, .int .i64 0, .int .i64 0, .int .i64 0, .bool false, .int .u8 0, .int .i64 0, .int .i64 0, .int .i64 0, .bool false, .int .i64 0] T)) (some ⟨m, 0, none⟩) 2 awF m 0 := by
  subst hm; exact awF_new W T
theorem awD_wf : awD.Wf := ⟨by decide, by decide, by decide⟩

set_option maxHeartbeats 16000000 in
set_option maxRecDepth 20000 in
theorem awake_any (w : World) (hX : TX w) : Calls Tryd.prog 9 #[] w fun e w' => e = .returned (.bool true) ∧ Ext w w' := by
  have HX := Lib.hid hX
  have H1 : Hid (∀ W, TX W → Calls Tryd.prog 10 #[.agg #[.int .u8 1, .int .u8 1, .int .i64 1, .int .i64 0, .int .i64 0, .bool true, .int .u8 6, .int .i64 2, .int .i64 4, .int .i64 7, .bool true, .int .i64 0]] W fun e w' => e = .returned (.tuple #[.string ⟨#[49, 120, 47, 82, 50, 40, 52, 44, 55, 115, 41]⟩, .int .i64 0]) ∧ Ext W w') := fun W h => by
    have := print_any awD awD_wf W h
    rwa [aw1.1, aw1.2] at this
  have H2 : Hid (∀ W, TX W → Calls Tryd.prog 14 #[.string ⟨#[70, 64, 50]⟩] W fun e w' => e = .returned (.tuple #[.agg #[.int .u8 1, .int .u8 1, .int .i64 0, .int .i64 0, .int .i64 4, .bool false, .int .u8 0, .int .i64 0, .int .i64 0, .int .i64 0, .bool false, .int .i64 2], .int .i64 0]) ∧ Ext W w') := fun W h => by
    have := parse_any [70, 64, 50] (by decide) W h
    rwa [aw2.1, aw2.2] at this
  have H3 := Lib.hid aw3
  clear hX
  go_enter Tryd.func9, Tryd.ntmps9
  go_wp2_with (first | ((fail_if_success (have hzz := hb1)); go_at_call 10; refine (H1.out _ (HX.out.ext (by repeat (first | exact Ext.refl _ | refine Ext.setCell ?_ (by first | exact Nat.le_refl _ | (simp; done) | (simp; omega)) _ | refine Ext.drew ?_ | refine Ext.drewN ?_ _ | refine Ext.alloc ?_ _)))).mono ?_; rintro e w1 ⟨rfl, hb1⟩) | ((fail_if_success (have hzz := hb2)); go_at_call 14; refine (H2.out _ (HX.out.ext (by repeat (first | exact Ext.refl _ | refine Ext.setCell ?_ (by first | exact Nat.le_refl _ | (simp; done) | (simp; omega)) _ | refine Ext.drew ?_ | refine Ext.drewN ?_ _ | refine Ext.alloc ?_ _ | refine Ext.trans ?_ hb1)))).mono ?_; rintro e w2 ⟨rfl, hb2⟩) | ((fail_if_success (have hzz := hb3)); go_at_call 17; refine (over_any (some ⟨w2.heap.size + 1, 0, none⟩) 2 2 awF (w2.heap.size + 1) 0 _ (awF_at _ _ (by simp) _) (by omega) (HX.out.ext (by repeat (first | exact Ext.refl _ | refine Ext.setCell ?_ (by first | exact Nat.le_refl _ | (simp; done) | (simp; omega)) _ | refine Ext.drew ?_ | refine Ext.drewN ?_ _ | refine Ext.alloc ?_ _ | refine Ext.trans ?_ hb2 | refine Ext.trans ?_ hb1)))).mono ?_; rintro e w3 ⟨rfl, hb3⟩; rw [H3.out.1, H3.out.2]; obtain ⟨hc3, hf3⟩ := hb3.cells; have l3 : w2.heap.size < w3.heap.size := hb3.lt (by simp; omega)))
  go_ret
  exact ⟨retb (by first | rfl | simp), (by repeat (first | exact Ext.refl _ | refine Ext.setCell ?_ (by first | exact Nat.le_refl _ | (simp; done) | (simp; omega)) _ | refine Ext.drew ?_ | refine Ext.drewN ?_ _ | refine Ext.alloc ?_ _ | refine Ext.trans ?_ hb3 | refine Ext.trans ?_ hb2 | refine Ext.trans ?_ hb1))⟩

end Go.Proofs.YtpgacpkcchajmaaDoor

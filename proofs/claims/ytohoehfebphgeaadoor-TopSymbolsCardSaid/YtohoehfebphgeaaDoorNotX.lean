/-
  A delivery stored whole into a block (layer 7).
-/
import Derived.Test.YtohoehfebphgeaaDoorNotH
namespace Go.Proofs.YtohoehfebphgeaaDoor
open Go.RowKit
set_option linter.unusedSimpArgs false

theorem set1 {w : World} {p : Nat} {T : TypeId} {d d' : Dl} {j : Nat} {v : Value} (h : w.heap[p]? = some (.cells d.arr T (0, 0))) (hv : d.arr.setIfInBounds j v = d'.arr) : (w.setCell ⟨p, j, none⟩ v).heap[p]? = some (.cells d'.arr T (0, 0)) := by
  rw [← hv]; exact heap_setCell_same _ _ _ _ _ _ h
theorem set12 (w : World) (p : Nat) (T : TypeId) (d : Dl) (h : w.heap[p]? = some (.cells zD.arr T (0, 0))) : ((((((((((((w.setCell ⟨p, 0, none⟩ (.int .u8 d.ty)).setCell ⟨p, 1, none⟩ (.int .u8 d.so)).setCell ⟨p, 2, none⟩ (.int .i64 d.ru)).setCell ⟨p, 3, none⟩ (.int .i64 d.sh)).setCell ⟨p, 4, none⟩ (.int .i64 d.bo)).setCell ⟨p, 5, none⟩ (.bool d.cr)).setCell ⟨p, 6, none⟩ (.int .u8 d.ho)).setCell ⟨p, 7, none⟩ (.int .i64 d.vi)).setCell ⟨p, 8, none⟩ (.int .i64 d.fi)).setCell ⟨p, 9, none⟩ (.int .i64 d.se)).setCell ⟨p, 10, none⟩ (.bool d.su)).setCell ⟨p, 11, none⟩ (.int .i64 d.sc)).heap[p]? = some (.cells d.arr T (0, 0)) := by
  have h0 := set1 (d' := ⟨d.ty, 0, 0, 0, 0, false, 0, 0, 0, 0, false, 0⟩) (j := 0) (v := .int .u8 d.ty) h (by rfl)
  have h1 := set1 (d' := ⟨d.ty, d.so, 0, 0, 0, false, 0, 0, 0, 0, false, 0⟩) (j := 1) (v := .int .u8 d.so) h0 (by rfl)
  have h2 := set1 (d' := ⟨d.ty, d.so, d.ru, 0, 0, false, 0, 0, 0, 0, false, 0⟩) (j := 2) (v := .int .i64 d.ru) h1 (by rfl)
  have h3 := set1 (d' := ⟨d.ty, d.so, d.ru, d.sh, 0, false, 0, 0, 0, 0, false, 0⟩) (j := 3) (v := .int .i64 d.sh) h2 (by rfl)
  have h4 := set1 (d' := ⟨d.ty, d.so, d.ru, d.sh, d.bo, false, 0, 0, 0, 0, false, 0⟩) (j := 4) (v := .int .i64 d.bo) h3 (by rfl)
  have h5 := set1 (d' := ⟨d.ty, d.so, d.ru, d.sh, d.bo, d.cr, 0, 0, 0, 0, false, 0⟩) (j := 5) (v := .bool d.cr) h4 (by rfl)
  have h6 := set1 (d' := ⟨d.ty, d.so, d.ru, d.sh, d.bo, d.cr, d.ho, 0, 0, 0, false, 0⟩) (j := 6) (v := .int .u8 d.ho) h5 (by rfl)
  have h7 := set1 (d' := ⟨d.ty, d.so, d.ru, d.sh, d.bo, d.cr, d.ho, d.vi, 0, 0, false, 0⟩) (j := 7) (v := .int .i64 d.vi) h6 (by rfl)
  have h8 := set1 (d' := ⟨d.ty, d.so, d.ru, d.sh, d.bo, d.cr, d.ho, d.vi, d.fi, 0, false, 0⟩) (j := 8) (v := .int .i64 d.fi) h7 (by rfl)
  have h9 := set1 (d' := ⟨d.ty, d.so, d.ru, d.sh, d.bo, d.cr, d.ho, d.vi, d.fi, d.se, false, 0⟩) (j := 9) (v := .int .i64 d.se) h8 (by rfl)
  have h10 := set1 (d' := ⟨d.ty, d.so, d.ru, d.sh, d.bo, d.cr, d.ho, d.vi, d.fi, d.se, d.su, 0⟩) (j := 10) (v := .bool d.su) h9 (by rfl)
  have h11 := set1 (d' := ⟨d.ty, d.so, d.ru, d.sh, d.bo, d.cr, d.ho, d.vi, d.fi, d.se, d.su, d.sc⟩) (j := 11) (v := .int .i64 d.sc) h10 (by rfl)
  exact h11
theorem ext12 {a w : World} {p : Nat} (h : Ext a w) (hp : a.heap.size ≤ p) (d : Dl) : Ext a ((((((((((((w.setCell ⟨p, 0, none⟩ (.int .u8 d.ty)).setCell ⟨p, 1, none⟩ (.int .u8 d.so)).setCell ⟨p, 2, none⟩ (.int .i64 d.ru)).setCell ⟨p, 3, none⟩ (.int .i64 d.sh)).setCell ⟨p, 4, none⟩ (.int .i64 d.bo)).setCell ⟨p, 5, none⟩ (.bool d.cr)).setCell ⟨p, 6, none⟩ (.int .u8 d.ho)).setCell ⟨p, 7, none⟩ (.int .i64 d.vi)).setCell ⟨p, 8, none⟩ (.int .i64 d.fi)).setCell ⟨p, 9, none⟩ (.int .i64 d.se)).setCell ⟨p, 10, none⟩ (.bool d.su)).setCell ⟨p, 11, none⟩ (.int .i64 d.sc)) := (Ext.setCell (Ext.setCell (Ext.setCell (Ext.setCell (Ext.setCell (Ext.setCell (Ext.setCell (Ext.setCell (Ext.setCell (Ext.setCell (Ext.setCell (Ext.setCell h hp (.int .u8 d.ty)) hp (.int .u8 d.so)) hp (.int .i64 d.ru)) hp (.int .i64 d.sh)) hp (.int .i64 d.bo)) hp (.bool d.cr)) hp (.int .u8 d.ho)) hp (.int .i64 d.vi)) hp (.int .i64 d.fi)) hp (.int .i64 d.se)) hp (.bool d.su)) hp (.int .i64 d.sc))
theorem box_of {w : World} {rb : Nat} {d : Dl} {T : TypeId} (h : w.heap[rb]? = some (.cells d.arr T (0, 0))) : BoxD d rb w := by
  unfold BoxD
  refine ⟨?_, ?_, ?_, ?_, ?_, ?_, ?_, ?_, ?_, ?_, ?_, ?_⟩ <;> exact Lib.cell_of_heap h _
theorem zbox_fz {w : World} {rb : Nat} (h : w.heap[rb]? = some (.cells zD.arr 29 (0, 0))) : BoxD zD rb w ∧ ∀ j, w.frozen? ⟨rb, j, none⟩ = false := by
  refine ⟨?_, fun j => by simp [World.frozen?, h]⟩
  unfold BoxD
  refine ⟨?_, ?_, ?_, ?_, ?_, ?_, ?_, ?_, ?_, ?_, ?_, ?_⟩ <;> exact Lib.cell_of_heap h _
theorem set12g (w : World) (p : Nat) (T : TypeId) (d0 d : Dl) (h : w.heap[p]? = some (.cells d0.arr T (0, 0))) : ((((((((((((w.setCell ⟨p, 0, none⟩ (.int .u8 d.ty)).setCell ⟨p, 1, none⟩ (.int .u8 d.so)).setCell ⟨p, 2, none⟩ (.int .i64 d.ru)).setCell ⟨p, 3, none⟩ (.int .i64 d.sh)).setCell ⟨p, 4, none⟩ (.int .i64 d.bo)).setCell ⟨p, 5, none⟩ (.bool d.cr)).setCell ⟨p, 6, none⟩ (.int .u8 d.ho)).setCell ⟨p, 7, none⟩ (.int .i64 d.vi)).setCell ⟨p, 8, none⟩ (.int .i64 d.fi)).setCell ⟨p, 9, none⟩ (.int .i64 d.se)).setCell ⟨p, 10, none⟩ (.bool d.su)).setCell ⟨p, 11, none⟩ (.int .i64 d.sc)).heap[p]? = some (.cells d.arr T (0, 0)) := by
  have h0 := set1 (d' := ⟨d.ty, d0.so, d0.ru, d0.sh, d0.bo, d0.cr, d0.ho, d0.vi, d0.fi, d0.se, d0.su, d0.sc⟩) (j := 0) (v := .int .u8 d.ty) h (by rfl)
  have h1 := set1 (d' := ⟨d.ty, d.so, d0.ru, d0.sh, d0.bo, d0.cr, d0.ho, d0.vi, d0.fi, d0.se, d0.su, d0.sc⟩) (j := 1) (v := .int .u8 d.so) h0 (by rfl)
  have h2 := set1 (d' := ⟨d.ty, d.so, d.ru, d0.sh, d0.bo, d0.cr, d0.ho, d0.vi, d0.fi, d0.se, d0.su, d0.sc⟩) (j := 2) (v := .int .i64 d.ru) h1 (by rfl)
  have h3 := set1 (d' := ⟨d.ty, d.so, d.ru, d.sh, d0.bo, d0.cr, d0.ho, d0.vi, d0.fi, d0.se, d0.su, d0.sc⟩) (j := 3) (v := .int .i64 d.sh) h2 (by rfl)
  have h4 := set1 (d' := ⟨d.ty, d.so, d.ru, d.sh, d.bo, d0.cr, d0.ho, d0.vi, d0.fi, d0.se, d0.su, d0.sc⟩) (j := 4) (v := .int .i64 d.bo) h3 (by rfl)
  have h5 := set1 (d' := ⟨d.ty, d.so, d.ru, d.sh, d.bo, d.cr, d0.ho, d0.vi, d0.fi, d0.se, d0.su, d0.sc⟩) (j := 5) (v := .bool d.cr) h4 (by rfl)
  have h6 := set1 (d' := ⟨d.ty, d.so, d.ru, d.sh, d.bo, d.cr, d.ho, d0.vi, d0.fi, d0.se, d0.su, d0.sc⟩) (j := 6) (v := .int .u8 d.ho) h5 (by rfl)
  have h7 := set1 (d' := ⟨d.ty, d.so, d.ru, d.sh, d.bo, d.cr, d.ho, d.vi, d0.fi, d0.se, d0.su, d0.sc⟩) (j := 7) (v := .int .i64 d.vi) h6 (by rfl)
  have h8 := set1 (d' := ⟨d.ty, d.so, d.ru, d.sh, d.bo, d.cr, d.ho, d.vi, d.fi, d0.se, d0.su, d0.sc⟩) (j := 8) (v := .int .i64 d.fi) h7 (by rfl)
  have h9 := set1 (d' := ⟨d.ty, d.so, d.ru, d.sh, d.bo, d.cr, d.ho, d.vi, d.fi, d.se, d0.su, d0.sc⟩) (j := 9) (v := .int .i64 d.se) h8 (by rfl)
  have h10 := set1 (d' := ⟨d.ty, d.so, d.ru, d.sh, d.bo, d.cr, d.ho, d.vi, d.fi, d.se, d.su, d0.sc⟩) (j := 10) (v := .bool d.su) h9 (by rfl)
  have h11 := set1 (d' := ⟨d.ty, d.so, d.ru, d.sh, d.bo, d.cr, d.ho, d.vi, d.fi, d.se, d.su, d.sc⟩) (j := 11) (v := .int .i64 d.sc) h10 (by rfl)
  exact h11

end Go.Proofs.YtohoehfebphgeaaDoor

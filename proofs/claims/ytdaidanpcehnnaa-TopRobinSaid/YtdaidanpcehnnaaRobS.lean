/-
  A season stored whole into a block of its own type.
-/
import Derived.Test.YtdaidanpcehnnaaRobC
import Derived.Deep.DeepCutAuto
namespace Go.Proofs.Ytdaidanpcehnnaa
open Go.RowKit
set_option linter.unusedSimpArgs false

def set3 (w : World) (q : Nat) (v0 v1 v2 : Value) : World := ((w.setCell ⟨q, 0, none⟩ v0).setCell ⟨q, 1, none⟩ v1).setCell ⟨q, 2, none⟩ v2
theorem run_storeSe {ev : Operand → Value} {o : Oper} {w : World} {q x y g m c : Nat} {v0 v1 z0 z1 : Int} {z2 : Value} (ho : o.op = .store 24 (.tmp x) (.tmp y)) (hx : ev (.tmp x) = .pointer (some ⟨q, 0, none⟩))
    (hy : ev (.tmp y) = .agg #[.int .i64 v0, .int .i64 v1, .slice (some ⟨g, 0, none⟩) m c]) (h : w.heap[q]? = some (.cells #[.int .i64 z0, .int .i64 z1, z2] 24 (0, 0))) :
    (execOp ev o).run Try.prog w = .ok .skip (set3 w q (.int .i64 v0) (.int .i64 v1) (.slice (some ⟨g, 0, none⟩) m c)) := by
  have b0 := Lib.cell_of_heap h 0
  have b1 := Lib.cell_of_heap h 1
  have b2 := Lib.cell_of_heap h 2
  simp only [List.getElem?_toArray, List.getElem?_cons_succ, List.getElem?_cons_zero] at b0 b1 b2
  have y0 := Lib.frozen_of_heap h 0
  have y1 := Lib.frozen_of_heap h 1
  have y2 := Lib.frozen_of_heap h 2
  clear h
  unfold execOp set3
  rw [ho]
  dsimp only
  rw [hx, hy]
  go_simp
theorem set3_heap (w : World) (q : Nat) {T : TypeId} {v0 v1 v2 z0 z1 z2 : Value} (h0 : w.heap[q]? = some (.cells #[z0, z1, z2] T (0, 0))) : (set3 w q v0 v1 v2).heap[q]? = some (.cells #[v0, v1, v2] T (0, 0)) := by
  unfold set3
  simp [World.setCell, Array.getElem?_modify, h0]
theorem set3_other (w : World) {q b : Nat} (v0 v1 v2 : Value) (h : b ≠ q) : (set3 w q v0 v1 v2).heap[b]? = w.heap[b]? := by
  unfold set3
  rw [Below.heap_setCell _ _ _ _ h, Below.heap_setCell _ _ _ _ h, Below.heap_setCell _ _ _ _ h]
theorem set3_ext {w0 w : World} {q : Nat} (v0 v1 v2 : Value) (h : Ext w0 w) (hq : w0.heap.size ≤ q) : Ext w0 (set3 w q v0 v1 v2) := by
  unfold set3
  exact ((h.setCell (p := ⟨q, 0, none⟩) hq _).setCell (p := ⟨q, 1, none⟩) hq _).setCell (p := ⟨q, 2, none⟩) hq _
theorem set3_size (w : World) (q : Nat) (v0 v1 v2 : Value) : (set3 w q v0 v1 v2).heap.size = w.heap.size := by unfold set3; simp
theorem wp_storeSe {o : Oper} {a : Act} {w : World} {K : Act → World → Prop} {Q : Exit → Act → World → Prop} {q x y g m c : Nat} {v0 v1 z0 z1 : Int} {z2 : Value} (ho : o.op = .store 24 (.tmp x) (.tmp y)) (hd : o.dst = none) (hx : a.eval (.tmp x) = .pointer (some ⟨q, 0, none⟩))
    (hy : a.eval (.tmp y) = .agg #[.int .i64 v0, .int .i64 v1, .slice (some ⟨g, 0, none⟩) m c]) (h : w.heap[q]? = some (.cells #[.int .i64 z0, .int .i64 z1, z2] 24 (0, 0)))
    (hK : K a (set3 w q (.int .i64 v0) (.int .i64 v1) (.slice (some ⟨g, 0, none⟩) m c))) : Oper.wp Try.prog o a w K Q := by
  unfold Oper.wp
  rw [run_storeSe ho hx hy h]
  show K (a.put o.dst undef) _
  rw [hd]
  exact hK
theorem wpList_storeSe {ops : Array Oper} {Q : Exit → Act → World → Prop} {a : Act} {w : World} {rest : List Oper} {o : Oper} {q x y g m c : Nat} {v0 v1 z0 z1 : Int} {z2 : Value} (ho : o.op = .store 24 (.tmp x) (.tmp y)) (hg : o.guard = none) (hd : o.dst = none) (hx : a.eval (.tmp x) = .pointer (some ⟨q, 0, none⟩))
    (hy : a.eval (.tmp y) = .agg #[.int .i64 v0, .int .i64 v1, .slice (some ⟨g, 0, none⟩) m c]) (h : w.heap[q]? = some (.cells #[.int .i64 z0, .int .i64 z1, z2] 24 (0, 0)))
    (hK : wpList Try.prog ops Q rest a (set3 w q (.int .i64 v0) (.int .i64 v1) (.slice (some ⟨g, 0, none⟩) m c))) : wpList Try.prog ops Q (o :: rest) a w :=
  wpList_plain hg fun _ hK' => wp_storeSe ho hd hx hy h (hK' _ _ hK)
theorem step_storeSe {ops : Array Oper} {o : Oper} {a : Act} {w : World} {K : Act → World → Prop} {Q : Exit → Act → World → Prop} {E : Prop} {q x y g m c : Nat} {v0 v1 z0 z1 : Int} {z2 : Value} (hg : o.guard = none) (ho : o.op = .store 24 (.tmp x) (.tmp y)) (hd : o.dst = none) (hx : a.eval (.tmp x) = .pointer (some ⟨q, 0, none⟩))
    (hy : a.eval (.tmp y) = .agg #[.int .i64 v0, .int .i64 v1, .slice (some ⟨g, 0, none⟩) m c]) (h : w.heap[q]? = some (.cells #[.int .i64 z0, .int .i64 z1, z2] 24 (0, 0)))
    (hK : K a (set3 w q (.int .i64 v0) (.int .i64 v1) (.slice (some ⟨g, 0, none⟩) m c))) : if Region.wanted o (yielded ops a.tmps) = true then Oper.wp Try.prog o a w K Q else E := by
  have hw : Region.wanted o (yielded ops a.tmps) = true := by simp [Region.wanted, hg]
  rw [if_pos hw]
  exact wp_storeSe ho hd hx hy h hK

end Go.Proofs.Ytdaidanpcehnnaa

/-
  The line of a way of being out (layer 10).
-/
import Derived.Test.YtpeabgfolpgfjaaSymK
namespace Go.Proofs.Ytpeabgfolpgfjaa
open Go.RowKit
set_option linter.unusedSimpArgs false

theorem run_st7 {ev : Operand → Value} {o : Oper} {w : World} {q x y : Nat} {z0 v0 : Int} {z2 z3 z4 z5 z6 v2 v3 v4 v5 v6 : Bool} {z1 v1 : ByteArray} (ho : o.op = .store 142 (.tmp x) (.tmp y)) (hx : ev (.tmp x) = .pointer (some ⟨q, 0, none⟩)) (hy : ev (.tmp y) = .agg #[.int .u8 v0, .string v1, .bool v2, .bool v3, .bool v4, .bool v5, .bool v6]) (h : w.heap[q]? = some (.cells #[.int .u8 z0, .string z1, .bool z2, .bool z3, .bool z4, .bool z5, .bool z6] 142 (0, 0))) :
    (execOp ev o).run Try.prog w = .ok .skip (((((((w.setCell ⟨q, 0, none⟩ (.int .u8 v0)).setCell ⟨q, 1, none⟩ (.string v1)).setCell ⟨q, 2, none⟩ (.bool v2)).setCell ⟨q, 3, none⟩ (.bool v3)).setCell ⟨q, 4, none⟩ (.bool v4)).setCell ⟨q, 5, none⟩ (.bool v5)).setCell ⟨q, 6, none⟩ (.bool v6)) := by
  have b0 := Lib.cell_of_heap h 0; have b1 := Lib.cell_of_heap h 1; have b2 := Lib.cell_of_heap h 2; have b3 := Lib.cell_of_heap h 3; have b4 := Lib.cell_of_heap h 4; have b5 := Lib.cell_of_heap h 5; have b6 := Lib.cell_of_heap h 6
  simp only [List.getElem?_toArray, List.getElem?_cons_succ, List.getElem?_cons_zero] at b0 b1 b2 b3 b4 b5 b6
  have y0 := Lib.frozen_of_heap h 0; have y1 := Lib.frozen_of_heap h 1; have y2 := Lib.frozen_of_heap h 2; have y3 := Lib.frozen_of_heap h 3; have y4 := Lib.frozen_of_heap h 4; have y5 := Lib.frozen_of_heap h 5; have y6 := Lib.frozen_of_heap h 6
  clear h
  unfold execOp
  rw [ho]
  dsimp only
  rw [hx, hy]
  go_simp
theorem set_st7 (w : World) (q : Nat) {T : TypeId} {z0 v0 : Int} {z2 z3 z4 z5 z6 v2 v3 v4 v5 v6 : Bool} {z1 v1 : ByteArray} (h0 : w.heap[q]? = some (.cells #[.int .u8 z0, .string z1, .bool z2, .bool z3, .bool z4, .bool z5, .bool z6] T (0, 0))) : (((((((w.setCell ⟨q, 0, none⟩ (.int .u8 v0)).setCell ⟨q, 1, none⟩ (.string v1)).setCell ⟨q, 2, none⟩ (.bool v2)).setCell ⟨q, 3, none⟩ (.bool v3)).setCell ⟨q, 4, none⟩ (.bool v4)).setCell ⟨q, 5, none⟩ (.bool v5)).setCell ⟨q, 6, none⟩ (.bool v6)).heap[q]? = some (.cells #[.int .u8 v0, .string v1, .bool v2, .bool v3, .bool v4, .bool v5, .bool v6] T (0, 0)) := by
  have h1 := heap_setCell_same _ q 0 _ _ (.int .u8 v0) h0; have h2 := heap_setCell_same _ q 1 _ _ (.string v1) h1; have h3 := heap_setCell_same _ q 2 _ _ (.bool v2) h2; have h4 := heap_setCell_same _ q 3 _ _ (.bool v3) h3; have h5 := heap_setCell_same _ q 4 _ _ (.bool v4) h4; have h6 := heap_setCell_same _ q 5 _ _ (.bool v5) h5; have h7 := heap_setCell_same _ q 6 _ _ (.bool v6) h6
  simpa using h7
theorem wpList_st7 {ops : Array Oper} {Q : Exit → Act → World → Prop} {a : Act} {w : World} {rest : List Oper} {o : Oper} {w0 : World} {q x y : Nat} {z0 v0 : Int} {z2 z3 z4 z5 z6 v2 v3 v4 v5 v6 : Bool} {z1 v1 : ByteArray}
    (ho : o.op = .store 142 (.tmp x) (.tmp y)) (hg : o.guard = none) (hd : o.dst = none) (hx : a.eval (.tmp x) = .pointer (some ⟨q, 0, none⟩)) (hy : a.eval (.tmp y) = .agg #[.int .u8 v0, .string v1, .bool v2, .bool v3, .bool v4, .bool v5, .bool v6]) (h : w.heap[q]? = some (.cells #[.int .u8 z0, .string z1, .bool z2, .bool z3, .bool z4, .bool z5, .bool z6] 142 (0, 0)))
    (hE : Ext w0 w) (hq : w0.heap.size ≤ q) (hK : ∀ w', w'.heap[q]? = some (.cells #[.int .u8 v0, .string v1, .bool v2, .bool v3, .bool v4, .bool v5, .bool v6] 142 (0, 0)) → Ext w0 w' → wpList Try.prog ops Q rest a w') : wpList Try.prog ops Q (o :: rest) a w := by
  refine wpList_plain hg fun K hK' => ?_
  unfold Oper.wp
  rw [run_st7 ho hx hy h]
  show K (a.put o.dst undef) _
  rw [hd]
  exact hK' _ _ (hK _ (set_st7 w q h) ((((((((hE.setCell hq _).setCell hq _).setCell hq _).setCell hq _).setCell hq _).setCell hq _).setCell hq _)))

theorem blk_old {w w1 : World} {q : Nat} {x o : Obj} (h : w.heap[q]? = some x) (e : Ext w w1) : (w1.alloc o).heap[q]? = some x := by
  have h1 : w1.heap[q]? = some x := (e.block _ (Array.getElem?_eq_some_iff.1 h).1).trans h
  have h2 := (Array.getElem?_eq_some_iff.1 h1).1
  exact (Below.heap_alloc w1 o q h2).trans h1
set_option maxRecDepth 20000 in
set_option maxHeartbeats 8000000 in
theorem of_any (k : Nat) (hk : k < 11) (w : World) : Calls Try.prog 94 #[.int .u8 (k : Nat)] w fun e w' => e = .returned (.agg #[.int .u8 (k : Nat), .string (nmT k), .bool (frT k), .bool (wdT k), .bool (noT k), .bool (flT k), .bool (eiT k)]) ∧ Ext w w' := by
  have HZ : Hid ((w.alloc (.cells #[.int .u8 0, .string ⟨#[]⟩, .bool false, .bool false, .bool false, .bool false, .bool false] 142)).heap[w.heap.size]? = some (.cells #[.int .u8 0, .string ⟨#[]⟩, .bool false, .bool false, .bool false, .bool false, .bool false] 142 (0, 0))) := heap_alloc_new w (.cells #[.int .u8 0, .string ⟨#[]⟩, .bool false, .bool false, .bool false, .bool false, .bool false] 142)
  go_enter Try.func94, Try.ntmps94
  go_wp2_with (go_at_call 98; refine (table_any _).mono ?_; rintro e w1 ⟨rfl, hTb, hb1⟩)
  have hsz : (w.alloc (.cells #[.int .u8 0, .string ⟨#[]⟩, .bool false, .bool false, .bool false, .bool false, .bool false] 142)).heap.size = w.heap.size + 1 := by simp [go_sem]
  rw [hsz] at hTb
  go_loopw [7] (fun i wr => ∃ j : Nat, j ≤ k ∧ i = .int .i64 j ∧ Ext w1 wr) (fun i _ => 11 - (intOf i).toNat)
  case atStart => exact ⟨0, by omega, rfl, Ext.refl _⟩
  case round =>
    obtain ⟨j, hj, rfl, hE⟩ := hrel
    have T := hTb.ext hE
    obtain ⟨c0, c1, c2, c3, c4, c5, c6⟩ := T j (by omega)
    have hj11 : (j : Int) < 11 := by omega
    have HE0 : Hid (∀ o : Obj, Ext w (wr.alloc o)) := fun o => (((Ext.refl w).alloc _).trans (hb1.trans hE)).alloc o
    have HRES : Hid (∀ o : Obj, (wr.alloc o).heap[w.heap.size]? = some (.cells #[.int .u8 0, .string ⟨#[]⟩, .bool false, .bool false, .bool false, .bool false, .bool false] 142 (0, 0))) := fun o => blk_old HZ.out (hb1.trans hE)
    clear T
    by_cases hjk : j = k
    · subst hjk
      clear hj
      go_wp2_with (refine wpList_st7 rfl rfl rfl rfl rfl (HRES.out _) (HE0.out _) (Nat.le_refl _) (fun w9 h9 hE9 => ?_); have k0 := Lib.cell_of_heap h9 0; have k1 := Lib.cell_of_heap h9 1; have k2 := Lib.cell_of_heap h9 2; have k3 := Lib.cell_of_heap h9 3; have k4 := Lib.cell_of_heap h9 4; have k5 := Lib.cell_of_heap h9 5; have k6 := Lib.cell_of_heap h9 6; simp only [List.getElem?_toArray, List.getElem?_cons_succ, List.getElem?_cons_zero] at k0 k1 k2 k3 k4 k5 k6; clear h9)
      refine bodyPost_ret (v := .agg #[.int .u8 (j : Nat), .string (nmT j), .bool (frT j), .bool (wdT j), .bool (noT j), .bool (flT j), .bool (eiT j)]) (by simp [results, Try.results94, go_sem, *]) rfl ?_
      exact ⟨rfl, hE9⟩
    · have hne : ¬ ((j : Int) = (k : Int)) := by omega
      have hlt : j < k := by omega
      clear hjk HRES HE0
      go_wp2
      go_roundw
      case rel => exact ⟨j + 1, by omega, by go_num, (by repeat (first | exact hE | refine Ext.setCell ?_ (by first | exact Nat.le_refl _ | (simp; done) | (simp; omega)) _ | refine Ext.drew ?_ | refine Ext.drewN ?_ _ | refine Ext.alloc ?_ _))⟩
      case measure => simp [intOf]; omega

end Go.Proofs.Ytpeabgfolpgfjaa

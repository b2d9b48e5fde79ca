/-
  The entry of a delivery (layer 21).
-/
import Derived.Test.YtohoehfebphgeaaDoorSymC
namespace Go.Proofs.YtohoehfebphgeaaDoor
open Go.RowKit
set_option linter.unusedSimpArgs false

theorem run_st5 {ev : Operand → Value} {o : Oper} {w : World} {q x y : Nat} {z0 z1 z2 z3 z4 v0 v1 v2 v3 v4 : Int} (ho : o.op = .store 47 (.tmp x) (.tmp y)) (hx : ev (.tmp x) = .pointer (some ⟨q, 0, none⟩)) (hy : ev (.tmp y) = .agg #[.int .u8 v0, .int .i64 v1, .int .i64 v2, .int .i64 v3, .int .u8 v4]) (h : w.heap[q]? = some (.cells #[.int .u8 z0, .int .i64 z1, .int .i64 z2, .int .i64 z3, .int .u8 z4] 47 (0, 0))) :
    (execOp ev o).run Tryd.prog w = .ok .skip (((((w.setCell ⟨q, 0, none⟩ (.int .u8 v0)).setCell ⟨q, 1, none⟩ (.int .i64 v1)).setCell ⟨q, 2, none⟩ (.int .i64 v2)).setCell ⟨q, 3, none⟩ (.int .i64 v3)).setCell ⟨q, 4, none⟩ (.int .u8 v4)) := by
  have b0 := Lib.cell_of_heap h 0; have b1 := Lib.cell_of_heap h 1; have b2 := Lib.cell_of_heap h 2; have b3 := Lib.cell_of_heap h 3; have b4 := Lib.cell_of_heap h 4
  simp only [List.getElem?_toArray, List.getElem?_cons_succ, List.getElem?_cons_zero] at b0 b1 b2 b3 b4
  have y0 := Lib.frozen_of_heap h 0; have y1 := Lib.frozen_of_heap h 1; have y2 := Lib.frozen_of_heap h 2; have y3 := Lib.frozen_of_heap h 3; have y4 := Lib.frozen_of_heap h 4
  clear h
  unfold execOp
  rw [ho]
  dsimp only
  rw [hx, hy]
  go_simp
theorem set_st5 (w : World) (q : Nat) {T : TypeId} {z0 z1 z2 z3 z4 v0 v1 v2 v3 v4 : Int} (h0 : w.heap[q]? = some (.cells #[.int .u8 z0, .int .i64 z1, .int .i64 z2, .int .i64 z3, .int .u8 z4] T (0, 0))) : (((((w.setCell ⟨q, 0, none⟩ (.int .u8 v0)).setCell ⟨q, 1, none⟩ (.int .i64 v1)).setCell ⟨q, 2, none⟩ (.int .i64 v2)).setCell ⟨q, 3, none⟩ (.int .i64 v3)).setCell ⟨q, 4, none⟩ (.int .u8 v4)).heap[q]? = some (.cells #[.int .u8 v0, .int .i64 v1, .int .i64 v2, .int .i64 v3, .int .u8 v4] T (0, 0)) := by
  have h1 := heap_setCell_same _ q 0 _ _ (.int .u8 v0) h0; have h2 := heap_setCell_same _ q 1 _ _ (.int .i64 v1) h1; have h3 := heap_setCell_same _ q 2 _ _ (.int .i64 v2) h2; have h4 := heap_setCell_same _ q 3 _ _ (.int .i64 v3) h3; have h5 := heap_setCell_same _ q 4 _ _ (.int .u8 v4) h4
  simpa using h5
theorem wpList_st5 {ops : Array Oper} {Q : Exit → Act → World → Prop} {a : Act} {w : World} {rest : List Oper} {o : Oper} {w0 : World} {q x y : Nat} {z0 z1 z2 z3 z4 v0 v1 v2 v3 v4 : Int}
    (ho : o.op = .store 47 (.tmp x) (.tmp y)) (hg : o.guard = none) (hd : o.dst = none) (hx : a.eval (.tmp x) = .pointer (some ⟨q, 0, none⟩)) (hy : a.eval (.tmp y) = .agg #[.int .u8 v0, .int .i64 v1, .int .i64 v2, .int .i64 v3, .int .u8 v4]) (h : w.heap[q]? = some (.cells #[.int .u8 z0, .int .i64 z1, .int .i64 z2, .int .i64 z3, .int .u8 z4] 47 (0, 0)))
    (hE : Ext w0 w) (hq : w0.heap.size ≤ q) (hK : ∀ w', w'.heap[q]? = some (.cells #[.int .u8 v0, .int .i64 v1, .int .i64 v2, .int .i64 v3, .int .u8 v4] 47 (0, 0)) → Ext w0 w' → wpList Tryd.prog ops Q rest a w') : wpList Tryd.prog ops Q (o :: rest) a w := by
  refine wpList_plain hg fun K hK' => ?_
  unfold Oper.wp
  rw [run_st5 ho hx hy h]
  show K (a.put o.dst undef) _
  rw [hd]
  exact hK' _ _ (hK _ (set_st5 w q h) ((((((hE.setCell hq _).setCell hq _).setCell hq _).setCell hq _).setCell hq _)))

theorem res_old2 {w w1 : World} {q : Nat} {x o o' : Obj} (h : w.heap[q]? = some x) (e : Ext w w1) : ((w1.alloc o).alloc o').heap[q]? = some x := by
  have h1 : w1.heap[q]? = some x := (e.block _ (Array.getElem?_eq_some_iff.1 h).1).trans h
  have h2 := (Array.getElem?_eq_some_iff.1 h1).1
  exact (Below.heap_alloc (w1.alloc o) o' q (by have : (w1.alloc o).heap.size = w1.heap.size + 1 := (by simp [go_sem]); omega)).trans ((Below.heap_alloc w1 o q h2).trans h1)

def kndN (ty : Int) : Int := if ty = 2 then 119 else if ty = 3 then 110 else 0
def mrkN (ho : Int) : Int := if crdB ho then 87 else if ho = 0 then 0 else 82
def enV (r : Ru) (d : Dl) : Value := .agg #[.int .u8 (kndN d.ty), .int .i64 (batN d + widN d r.wi + nbsN d r.nb), .int .i64 (byeN d), .int .i64 (legN d), .int .u8 (mrkN d.ho)]
set_option maxHeartbeats 8000000 in
theorem entry_any (r : Ru) (d : Dl) (hd : d.Lg) (h0 : lgD d = 0) (hwi : 0 ≤ r.wi ∧ r.wi ≤ 5) (hnb : 0 ≤ r.nb ∧ r.nb ≤ 5) (w : World) :
    Calls Tryd.prog 15 #[r.v, d.v] w fun e w' => e = .returned (enV r d) ∧ Ext w w' := by
  have HC : Hid (∀ W, Calls Tryd.prog 8 #[r.v, d.v] W fun e w' => e = .returned (crV d r.wi r.nb) ∧ Ext W w') := fun W => credit_any r d hd h0 hwi hnb W
  have hty := hd.ty
  obtain ⟨V, hV⟩ : ∃ V, enV r d = V := ⟨_, rfl⟩
  have HV := Lib.hid hV
  rw [hV]
  unfold enV kndN mrkN at hV
  unfold crV at HC
  try dsimp only at HC hV
  obtain ⟨a0, g0⟩ : ∃ x, batN d = x := ⟨_, rfl⟩
  obtain ⟨a1, g1⟩ : ∃ x, widN d r.wi = x := ⟨_, rfl⟩
  obtain ⟨a2, g2⟩ : ∃ x, nbsN d r.nb = x := ⟨_, rfl⟩
  obtain ⟨a3, g3⟩ : ∃ x, byeN d = x := ⟨_, rfl⟩
  obtain ⟨a4, g4⟩ : ∃ x, legN d = x := ⟨_, rfl⟩
  obtain ⟨a8, g8⟩ : ∃ x, crdB d.ho = x := ⟨_, rfl⟩
  obtain ⟨a9, g9⟩ : ∃ x, swapB d = x := ⟨_, rfl⟩
  rw [g0, g1, g2, g3, g4] at HC hV
  rw [g8] at HC hV
  rw [g9] at HC
  obtain ⟨a5, g5⟩ : ∃ x, a0 + a1 + a2 = x := ⟨_, rfl⟩
  rw [g5] at HC hV
  clear g0 g1 g2 g3 g4 g5 g8 g9 hd h0 hwi hnb HV
  have HV := Lib.hid hV
  clear hV
  obtain ⟨ty, so, ru, sh, bo, cr, ho, vi, fi, se, su, sc⟩ := d
  obtain ⟨nm, si, inn, ov, ba, qu, wi, nb, fh, nw, fo, re, ou, pa, pl, pc⟩ := r
  unfold Dl.v at HC ⊢
  unfold Ru.v at HC ⊢
  dsimp only at *
  clear hty
  have HSZ : w.heap.size ≤ w.heap.size + 1 + 1 := by omega
  have HZ : Hid (((((w.alloc (.cells #[.string ⟨nm.toArray⟩, .int .i64 si, .int .i64 inn, .int .i64 ov, .int .i64 ba, .int .i64 qu, .int .i64 wi, .int .i64 nb, .bool fh, .int .i64 nw, .int .i64 fo, .int .i64 re, .int .i64 ou, .slice pa pl pc] 24)).alloc (.cells #[.int .u8 ty, .int .u8 so, .int .i64 ru, .int .i64 sh, .int .i64 bo, .bool cr, .int .u8 ho, .int .i64 vi, .int .i64 fi, .int .i64 se, .bool su, .int .i64 sc] 29))).alloc (.cells #[.int .u8 0, .int .i64 0, .int .i64 0, .int .i64 0, .int .u8 0] 47)).heap[w.heap.size + 1 + 1]? = some (.cells #[.int .u8 0, .int .i64 0, .int .i64 0, .int .i64 0, .int .u8 0] 47 (0, 0))) := by
    have hz := heap_alloc_new ((w.alloc (.cells #[.string ⟨nm.toArray⟩, .int .i64 si, .int .i64 inn, .int .i64 ov, .int .i64 ba, .int .i64 qu, .int .i64 wi, .int .i64 nb, .bool fh, .int .i64 nw, .int .i64 fo, .int .i64 re, .int .i64 ou, .slice pa pl pc] 24)).alloc (.cells #[.int .u8 ty, .int .u8 so, .int .i64 ru, .int .i64 sh, .int .i64 bo, .bool cr, .int .u8 ho, .int .i64 vi, .int .i64 fi, .int .i64 se, .bool su, .int .i64 sc] 29)) (.cells #[.int .u8 0, .int .i64 0, .int .i64 0, .int .i64 0, .int .u8 0] 47)
    rwa [show ((w.alloc (.cells #[.string ⟨nm.toArray⟩, .int .i64 si, .int .i64 inn, .int .i64 ov, .int .i64 ba, .int .i64 qu, .int .i64 wi, .int .i64 nb, .bool fh, .int .i64 nw, .int .i64 fo, .int .i64 re, .int .i64 ou, .slice pa pl pc] 24)).alloc (.cells #[.int .u8 ty, .int .u8 so, .int .i64 ru, .int .i64 sh, .int .i64 bo, .bool cr, .int .u8 ho, .int .i64 vi, .int .i64 fi, .int .i64 se, .bool su, .int .i64 sc] 29)).heap.size = w.heap.size + 1 + 1 by simp [go_sem]] at hz
  go_enter Tryd.func15, Tryd.ntmps15
  go_wp2_with (first | (go_at_call 8; refine (HC.out _).mono ?_; rintro e w1 ⟨rfl, hb1⟩; (have q0 : w1.cell? ⟨w.heap.size + 1, 0, none⟩ = some (.int .u8 ty) := hb1.keep (by simp [go_sem])); (have q6 : w1.cell? ⟨w.heap.size + 1, 6, none⟩ = some (.int .u8 ho) := hb1.keep (by simp [go_sem])); (have l1_0 : w.heap.size < w1.heap.size := hb1.lt (by first | (simp; done) | (simp; omega) | (simp [go_sem]; done) | (simp [go_sem]; omega) | omega)); (have l1_1 : w.heap.size + 1 < w1.heap.size := hb1.lt (by first | (simp; done) | (simp; omega) | (simp [go_sem]; done) | (simp [go_sem]; omega) | omega)); (have HE1 : Hid (∀ o o' : Obj, Ext w ((w1.alloc o).alloc o')) := fun o o' => (((((((Ext.refl _).alloc _).alloc _).alloc _).trans hb1).alloc _).alloc _)); (have HRES : Hid (∀ o o' : Obj, ((w1.alloc o).alloc o').heap[w.heap.size + 1 + 1]? = some (.cells #[.int .u8 0, .int .i64 0, .int .i64 0, .int .i64 0, .int .u8 0] 47 (0, 0))) := fun o o' => res_old2 HZ.out hb1); clear hb1) | (refine wpList_st5 rfl rfl rfl rfl rfl (HRES.out _ _) (HE1.out _ _) HSZ (fun w9 h9 hE9 => ?_); have k0 := Lib.cell_of_heap h9 0; have k1 := Lib.cell_of_heap h9 1; have k2 := Lib.cell_of_heap h9 2; have k3 := Lib.cell_of_heap h9 3; have k4 := Lib.cell_of_heap h9 4; simp only [List.getElem?_toArray, List.getElem?_cons_succ, List.getElem?_cons_zero] at k0 k1 k2 k3 k4; clear h9))
  all_goals
    try simp only [beq_iff_eq, beq_eq_false_iff_ne, bne_iff_ne, ne_eq, bne_eq_false_iff_eq] at *
    refine bodyPost_ret (v := V) (by rw [← HV.out]; simp [results, Tryd.results15, go_sem, *]) rfl ?_
    exact ⟨rfl, hE9⟩

end Go.Proofs.YtohoehfebphgeaaDoor

/-
  Credit (layer 9).
-/
import Derived.Test.YtpeabgfolpgfjaaSymB
import Derived.Deep.DeepCutAuto
namespace Go.Proofs.Ytpeabgfolpgfjaa
open Go.RowKit
set_option linter.unusedSimpArgs false

def crC (a0 a1 a2 a3 a4 a5 : Int) (a6 a7 a8 a9 : Bool) : Array Value := #[.int .i64 a0, .int .i64 a1, .int .i64 a2, .int .i64 a3, .int .i64 a4, .int .i64 a5, .bool a6, .bool a7, .bool a8, .bool a9]
theorem run_store10 {ev : Operand → Value} {o : Oper} {w : World} {q x y : Nat} {z0 z1 z2 z3 z4 z5 v0 v1 v2 v3 v4 v5 : Int} {z6 z7 z8 z9 v6 v7 v8 v9 : Bool} (ho : o.op = .store 117 (.tmp x) (.tmp y)) (hx : ev (.tmp x) = .pointer (some ⟨q, 0, none⟩)) (hy : ev (.tmp y) = .agg #[.int .i64 v0, .int .i64 v1, .int .i64 v2, .int .i64 v3, .int .i64 v4, .int .i64 v5, .bool v6, .bool v7, .bool v8, .bool v9]) (h : w.heap[q]? = some (.cells #[.int .i64 z0, .int .i64 z1, .int .i64 z2, .int .i64 z3, .int .i64 z4, .int .i64 z5, .bool z6, .bool z7, .bool z8, .bool z9] 117 (0, 0))) :
    (execOp ev o).run Try.prog w = .ok .skip ((((((((((w.setCell ⟨q, 0, none⟩ (.int .i64 v0)).setCell ⟨q, 1, none⟩ (.int .i64 v1)).setCell ⟨q, 2, none⟩ (.int .i64 v2)).setCell ⟨q, 3, none⟩ (.int .i64 v3)).setCell ⟨q, 4, none⟩ (.int .i64 v4)).setCell ⟨q, 5, none⟩ (.int .i64 v5)).setCell ⟨q, 6, none⟩ (.bool v6)).setCell ⟨q, 7, none⟩ (.bool v7)).setCell ⟨q, 8, none⟩ (.bool v8)).setCell ⟨q, 9, none⟩ (.bool v9)) := by
  have b0 := Lib.cell_of_heap h 0; have b1 := Lib.cell_of_heap h 1; have b2 := Lib.cell_of_heap h 2; have b3 := Lib.cell_of_heap h 3; have b4 := Lib.cell_of_heap h 4; have b5 := Lib.cell_of_heap h 5; have b6 := Lib.cell_of_heap h 6; have b7 := Lib.cell_of_heap h 7; have b8 := Lib.cell_of_heap h 8; have b9 := Lib.cell_of_heap h 9
  simp only [List.getElem?_toArray, List.getElem?_cons_succ, List.getElem?_cons_zero] at b0 b1 b2 b3 b4 b5 b6 b7 b8 b9
  have y0 := Lib.frozen_of_heap h 0; have y1 := Lib.frozen_of_heap h 1; have y2 := Lib.frozen_of_heap h 2; have y3 := Lib.frozen_of_heap h 3; have y4 := Lib.frozen_of_heap h 4; have y5 := Lib.frozen_of_heap h 5; have y6 := Lib.frozen_of_heap h 6; have y7 := Lib.frozen_of_heap h 7; have y8 := Lib.frozen_of_heap h 8; have y9 := Lib.frozen_of_heap h 9
  clear h
  unfold execOp
  rw [ho]
  dsimp only
  rw [hx, hy]
  go_simp
theorem set10h (w : World) (q : Nat) {T : TypeId} {z0 z1 z2 z3 z4 z5 v0 v1 v2 v3 v4 v5 : Int} {z6 z7 z8 z9 v6 v7 v8 v9 : Bool} (h0 : w.heap[q]? = some (.cells #[.int .i64 z0, .int .i64 z1, .int .i64 z2, .int .i64 z3, .int .i64 z4, .int .i64 z5, .bool z6, .bool z7, .bool z8, .bool z9] T (0, 0))) : ((((((((((w.setCell ⟨q, 0, none⟩ (.int .i64 v0)).setCell ⟨q, 1, none⟩ (.int .i64 v1)).setCell ⟨q, 2, none⟩ (.int .i64 v2)).setCell ⟨q, 3, none⟩ (.int .i64 v3)).setCell ⟨q, 4, none⟩ (.int .i64 v4)).setCell ⟨q, 5, none⟩ (.int .i64 v5)).setCell ⟨q, 6, none⟩ (.bool v6)).setCell ⟨q, 7, none⟩ (.bool v7)).setCell ⟨q, 8, none⟩ (.bool v8)).setCell ⟨q, 9, none⟩ (.bool v9)).heap[q]? = some (.cells #[.int .i64 v0, .int .i64 v1, .int .i64 v2, .int .i64 v3, .int .i64 v4, .int .i64 v5, .bool v6, .bool v7, .bool v8, .bool v9] T (0, 0)) := by
  have h1 := heap_setCell_same _ q 0 _ _ (.int .i64 v0) h0; have h2 := heap_setCell_same _ q 1 _ _ (.int .i64 v1) h1; have h3 := heap_setCell_same _ q 2 _ _ (.int .i64 v2) h2; have h4 := heap_setCell_same _ q 3 _ _ (.int .i64 v3) h3; have h5 := heap_setCell_same _ q 4 _ _ (.int .i64 v4) h4; have h6 := heap_setCell_same _ q 5 _ _ (.int .i64 v5) h5; have h7 := heap_setCell_same _ q 6 _ _ (.bool v6) h6; have h8 := heap_setCell_same _ q 7 _ _ (.bool v7) h7; have h9 := heap_setCell_same _ q 8 _ _ (.bool v8) h8; have h10 := heap_setCell_same _ q 9 _ _ (.bool v9) h9
  simpa using h10
theorem wpList_store10 {ops : Array Oper} {Q : Exit → Act → World → Prop} {a : Act} {w : World} {rest : List Oper} {o : Oper} {w0 : World} {q x y : Nat} {z0 z1 z2 z3 z4 z5 v0 v1 v2 v3 v4 v5 : Int} {z6 z7 z8 z9 v6 v7 v8 v9 : Bool}
    (ho : o.op = .store 117 (.tmp x) (.tmp y)) (hg : o.guard = none) (hd : o.dst = none) (hx : a.eval (.tmp x) = .pointer (some ⟨q, 0, none⟩)) (hy : a.eval (.tmp y) = .agg #[.int .i64 v0, .int .i64 v1, .int .i64 v2, .int .i64 v3, .int .i64 v4, .int .i64 v5, .bool v6, .bool v7, .bool v8, .bool v9]) (h : w.heap[q]? = some (.cells #[.int .i64 z0, .int .i64 z1, .int .i64 z2, .int .i64 z3, .int .i64 z4, .int .i64 z5, .bool z6, .bool z7, .bool z8, .bool z9] 117 (0, 0)))
    (hE : Ext w0 w) (hq : w0.heap.size ≤ q) (hK : ∀ w', w'.heap[q]? = some (.cells #[.int .i64 v0, .int .i64 v1, .int .i64 v2, .int .i64 v3, .int .i64 v4, .int .i64 v5, .bool v6, .bool v7, .bool v8, .bool v9] 117 (0, 0)) → Ext w0 w' → wpList Try.prog ops Q rest a w') : wpList Try.prog ops Q (o :: rest) a w := by
  refine wpList_plain hg fun K hK' => ?_
  unfold Oper.wp
  rw [run_store10 ho hx hy h]
  show K (a.put o.dst undef) _
  rw [hd]
  exact hK' _ _ (hK _ (set10h w q h) (((((((((((hE.setCell hq _).setCell hq _).setCell hq _).setCell hq _).setCell hq _).setCell hq _).setCell hq _).setCell hq _).setCell hq _).setCell hq _)))
theorem res_old {w w1 : World} {q : Nat} {x o : Obj} (h : w.heap[q]? = some x) (e : Ext w w1) : ((w1.alloc o).drew).heap[q]? = some x := by
  have h1 : w1.heap[q]? = some x := (e.block _ (Array.getElem?_eq_some_iff.1 h).1).trans h
  have h2 := (Array.getElem?_eq_some_iff.1 h1).1
  exact (Below.heap_alloc w1 o q h2).trans h1

set_option maxRecDepth 20000 in
set_option maxHeartbeats 16000000 in
theorem credit_any (r : Ru) (d : Dl) (hd : d.Lg) (h0 : lgD d = 0) (hwi : 0 ≤ r.wi ∧ r.wi ≤ 5) (hnb : 0 ≤ r.nb ∧ r.nb ≤ 5) (w : World) :
    Calls Try.prog 67 #[r.v, d.v] w fun e w' => e = .returned (crV d r.wi r.nb) ∧ Ext w w' := by
  have HL : Hid (∀ W, Calls Try.prog 87 #[d.v] W fun e w' => e = .returned (.int .i64 0) ∧ Ext W w') := fun W => by have := legal_any d W; rwa [h0] at this
  clear h0
  obtain ⟨g1, g2, g3, g4, g5, g6, g7⟩ := hd
  obtain ⟨V, hV⟩ : ∃ V, crV d r.wi r.nb = V := ⟨_, rfl⟩
  have HV := Lib.hid hV
  rw [hV]
  clear hV
  obtain ⟨ty, so, ru, sh, bo, cr, ho, vi, fi, se, su, sc⟩ := d
  obtain ⟨nm, si, inn, ov, ba, qu, wi, nb, fh, nw, fo, re, ou, pa, pl, pc⟩ := r
  unfold Dl.v at HL ⊢
  unfold Ru.v
  dsimp only at *
  obtain ⟨N, hN⟩ : ∃ N : Int, ru - sh + bo = N := ⟨_, rfl⟩
  have hN0 : 0 ≤ N ∧ N ≤ 13 := by omega
  have e1 : IntKind.i64.wrap (ru - sh) = ru - sh := IntWalk.i64_in _ (by omega)
  have e2 : IntKind.i64.wrap (ru - sh + bo) = N := by rw [hN]; exact IntWalk.i64_in _ (by omega)
  have e3 : IntKind.i64.wrap (wi + N) = wi + N := IntWalk.i64_in _ (by omega)
  have e4 : IntKind.i64.wrap (ru + 1) = ru + 1 := IntWalk.i64_in _ (by omega)
  obtain ⟨CB, hCB⟩ : ∃ B, crdB ho = B := ⟨_, rfl⟩
  have HCB := Lib.hid hCB
  have hN9 := Lib.hid hN
  have hV := HV.out
  unfold crV batN widN nbsN byeN legN swapB at hV
  dsimp only at hV
  rw [hCB, hN] at hV
  clear HV hCB hN g4 g5 g6 g7
  have HV2 := Lib.hid hV
  clear hV
  go_enter Try.func67, Try.ntmps67
  go_upto_region 4 with (go_at_call 87; refine (HL.out _).mono ?_; rintro e w1 ⟨rfl, hb1⟩; obtain ⟨hc1, hf1⟩ := hb1.cells; (have l1_0 : w.heap.size < w1.heap.size := hb1.lt (by first | (simp; done) | (simp; omega) | (simp [go_sem]; done) | (simp [go_sem]; omega) | omega)); (have l1_1 : w.heap.size + 1 < w1.heap.size := hb1.lt (by first | (simp; done) | (simp; omega) | (simp [go_sem]; done) | (simp [go_sem]; omega) | omega)); (have l1_2 : w.heap.size + 1 + 1 < w1.heap.size := hb1.lt (by first | (simp; done) | (simp; omega) | (simp [go_sem]; done) | (simp [go_sem]; omega) | omega)))
  go_cut [6] (fun s6 wx => s6 = .pointer (some ⟨w1.heap.size, 0, none⟩) ∧ wx = (w1.alloc (.cells #[.int .i64 0, .int .i64 0, .int .i64 0, .int .i64 0, .int .i64 0, .int .i64 0, .bool (ty == 1), .bool (ty != 2), .bool CB, .bool false] 117)).drew)
  case first =>
    go_region_held3 (fun w' => w'.cell? ⟨w.heap.size + 1, 0, none⟩ = some (.int .u8 ty) ∧ w'.cell? ⟨w.heap.size + 1, 6, none⟩ = some (.int .u8 ho)) (simp [go_sem, *]) ((go_at_call 90; refine (crd_any _ _).mono ?_; rintro e w' ⟨rfl, rfl⟩; rw [HCB.out]))
    all_goals
      go_wp2
      go_meet
      exact ⟨rfl, rfl⟩
  case rest =>
  obtain ⟨rfl, rfl⟩ := hcut
  have hds : ∀ (W : World) a u, W.drew.setCell a u = (W.setCell a u).drew := fun W a u => rfl
  have HRES : Hid (∀ o : Obj, ((w1.alloc o).drew).heap[w.heap.size + 1 + 1]? = some (.cells #[.int .i64 0, .int .i64 0, .int .i64 0, .int .i64 0, .int .i64 0, .int .i64 0, .bool false, .bool false, .bool false, .bool false] 117 (0, 0))) := fun o => by
    have hz := heap_alloc_new ((w.alloc (.cells #[.string ⟨nm.toArray⟩, .int .i64 si, .int .i64 inn, .int .i64 ov, .int .i64 ba, .int .i64 qu, .int .i64 wi, .int .i64 nb, .bool fh, .int .i64 nw, .int .i64 fo, .int .i64 re, .int .i64 ou, .slice pa pl pc] 25)).alloc (.cells #[.int .u8 ty, .int .u8 so, .int .i64 ru, .int .i64 sh, .int .i64 bo, .bool cr, .int .u8 ho, .int .i64 vi, .int .i64 fi, .int .i64 se, .bool su, .int .i64 sc] 53)) (.cells #[.int .i64 0, .int .i64 0, .int .i64 0, .int .i64 0, .int .i64 0, .int .i64 0, .bool false, .bool false, .bool false, .bool false] 117)
    rw [show ((w.alloc (.cells #[.string ⟨nm.toArray⟩, .int .i64 si, .int .i64 inn, .int .i64 ov, .int .i64 ba, .int .i64 qu, .int .i64 wi, .int .i64 nb, .bool fh, .int .i64 nw, .int .i64 fo, .int .i64 re, .int .i64 ou, .slice pa pl pc] 25)).alloc (.cells #[.int .u8 ty, .int .u8 so, .int .i64 ru, .int .i64 sh, .int .i64 bo, .bool cr, .int .u8 ho, .int .i64 vi, .int .i64 fi, .int .i64 se, .bool su, .int .i64 sc] 53)).heap.size = w.heap.size + 1 + 1 by simp [go_sem]] at hz
    exact res_old hz hb1
  have HSZ : w.heap.size ≤ w.heap.size + 1 + 1 := by omega
  have HE1 : Hid (∀ o : Obj, Ext w ((w1.alloc o).drew)) := fun o => (by repeat (first | exact Ext.refl _ | refine Ext.setCell ?_ (by first | exact Nat.le_refl _ | (simp; done) | (simp; omega)) _ | refine Ext.drew ?_ | refine Ext.drewN ?_ _ | refine Ext.alloc ?_ _ | refine Ext.trans ?_ hb1))
  go_wp2_with (refine wpList_store10 rfl rfl rfl rfl rfl (HRES.out _) (HE1.out _) HSZ (fun w9 h9 hE9 => ?_); have k0 := Lib.cell_of_heap h9 0; have k1 := Lib.cell_of_heap h9 1; have k2 := Lib.cell_of_heap h9 2; have k3 := Lib.cell_of_heap h9 3; have k4 := Lib.cell_of_heap h9 4; have k5 := Lib.cell_of_heap h9 5; have k6 := Lib.cell_of_heap h9 6; have k7 := Lib.cell_of_heap h9 7; have k8 := Lib.cell_of_heap h9 8; have k9 := Lib.cell_of_heap h9 9; simp only [List.getElem?_toArray, List.getElem?_cons_succ, List.getElem?_cons_zero] at k0 k1 k2 k3 k4 k5 k6 k7 k8 k9; clear h9 hc1 hf1)
  all_goals
    try simp only [beq_iff_eq, beq_eq_false_iff_ne] at *
    refine bodyPost_ret (v := V) (by rw [← HV2.out]; simp [results, Try.results67, go_sem, *]) rfl ?_
    exact ⟨rfl, hE9⟩

end Go.Proofs.Ytpeabgfolpgfjaa

/-
  same of the statements on layer 36.
-/
import Derived.Test.YtppoejhfemolfaaDoorRevM
namespace Go.Proofs.YtppoejhfemolfaaDoor
open Go.RowKit
set_option linter.unusedSimpArgs false

theorem left_held (p b : Nat) (R : Rm) (n : Int) (w : World) (h : (RoomAt p R w ∧ w.cell? ⟨b, 0, none⟩ = some (.int .i64 R.m) ∧ w.cell? ⟨b, 1, none⟩ = some (.int .i64 R.l0) ∧ w.cell? ⟨b, 2, none⟩ = some (.int .i64 R.l1) ∧ w.cell? ⟨b, 3, none⟩ = some (.int .i64 R.w0) ∧ w.cell? ⟨b, 4, none⟩ = some (.int .i64 R.w1) ∧ w.cell? ⟨b, 5, none⟩ = some (.int .i64 R.x0) ∧ w.cell? ⟨b, 6, none⟩ = some (.int .i64 R.x1) ∧ w.cell? ⟨b, 7, none⟩ = some (.int .i64 R.o0) ∧ w.cell? ⟨b, 8, none⟩ = some (.int .i64 R.o1) ∧ w.cell? ⟨b, 9, none⟩ = some (.int .i64 R.a) ∧ w.cell? ⟨b, 10, none⟩ = some (.int .u8 R.c))) : Calls Tryd.prog 19 #[.pointer (some ⟨p, 0, none⟩), .int .i64 n] w fun e w' => e = .returned (.int .i64 (lfN R n)) ∧ (RoomAt p R w' ∧ w'.cell? ⟨b, 0, none⟩ = some (.int .i64 R.m) ∧ w'.cell? ⟨b, 1, none⟩ = some (.int .i64 R.l0) ∧ w'.cell? ⟨b, 2, none⟩ = some (.int .i64 R.l1) ∧ w'.cell? ⟨b, 3, none⟩ = some (.int .i64 R.w0) ∧ w'.cell? ⟨b, 4, none⟩ = some (.int .i64 R.w1) ∧ w'.cell? ⟨b, 5, none⟩ = some (.int .i64 R.x0) ∧ w'.cell? ⟨b, 6, none⟩ = some (.int .i64 R.x1) ∧ w'.cell? ⟨b, 7, none⟩ = some (.int .i64 R.o0) ∧ w'.cell? ⟨b, 8, none⟩ = some (.int .i64 R.o1) ∧ w'.cell? ⟨b, 9, none⟩ = some (.int .i64 R.a) ∧ w'.cell? ⟨b, 10, none⟩ = some (.int .u8 R.c)) ∧ Ext w w' := by
  refine (left_any p R n w h.1).mono ?_
  rintro e w' ⟨rfl, hb⟩
  obtain ⟨hr, g0, g1, g2, g3, g4, g5, g6, g7, g8, g9, g10⟩ := h
  exact ⟨rfl, ⟨hr.ext hb, hb.keep g0, hb.keep g1, hb.keep g2, hb.keep g3, hb.keep g4, hb.keep g5, hb.keep g6, hb.keep g7, hb.keep g8, hb.keep g9, hb.keep g10⟩, hb⟩

theorem rleft_held (p b : Nat) (R : Rm) (n : Int) (w : World) (h : (RoomAt p R w ∧ w.cell? ⟨b, 0, none⟩ = some (.int .i64 R.m) ∧ w.cell? ⟨b, 1, none⟩ = some (.int .i64 R.l0) ∧ w.cell? ⟨b, 2, none⟩ = some (.int .i64 R.l1) ∧ w.cell? ⟨b, 3, none⟩ = some (.int .i64 R.w0) ∧ w.cell? ⟨b, 4, none⟩ = some (.int .i64 R.w1) ∧ w.cell? ⟨b, 5, none⟩ = some (.int .i64 R.x0) ∧ w.cell? ⟨b, 6, none⟩ = some (.int .i64 R.x1) ∧ w.cell? ⟨b, 7, none⟩ = some (.int .i64 R.o0) ∧ w.cell? ⟨b, 8, none⟩ = some (.int .i64 R.o1) ∧ w.cell? ⟨b, 9, none⟩ = some (.int .i64 R.a) ∧ w.cell? ⟨b, 10, none⟩ = some (.int .u8 R.c))) : Calls Tryd.prog 27 #[.agg #[.int .i64 R.m, .int .i64 R.l0, .int .i64 R.l1, .int .i64 R.w0, .int .i64 R.w1, .int .i64 R.x0, .int .i64 R.x1, .int .i64 R.o0, .int .i64 R.o1, .int .i64 R.a, .int .u8 R.c], .int .i64 n] w fun e w' => e = .returned (.int .i64 (lfN R n)) ∧ (RoomAt p R w' ∧ w'.cell? ⟨b, 0, none⟩ = some (.int .i64 R.m) ∧ w'.cell? ⟨b, 1, none⟩ = some (.int .i64 R.l0) ∧ w'.cell? ⟨b, 2, none⟩ = some (.int .i64 R.l1) ∧ w'.cell? ⟨b, 3, none⟩ = some (.int .i64 R.w0) ∧ w'.cell? ⟨b, 4, none⟩ = some (.int .i64 R.w1) ∧ w'.cell? ⟨b, 5, none⟩ = some (.int .i64 R.x0) ∧ w'.cell? ⟨b, 6, none⟩ = some (.int .i64 R.x1) ∧ w'.cell? ⟨b, 7, none⟩ = some (.int .i64 R.o0) ∧ w'.cell? ⟨b, 8, none⟩ = some (.int .i64 R.o1) ∧ w'.cell? ⟨b, 9, none⟩ = some (.int .i64 R.a) ∧ w'.cell? ⟨b, 10, none⟩ = some (.int .u8 R.c)) ∧ Ext w w' := by
  refine (rleft_any R n w).mono ?_
  rintro e w' ⟨rfl, hb⟩
  obtain ⟨hr, g0, g1, g2, g3, g4, g5, g6, g7, g8, g9, g10⟩ := h
  exact ⟨rfl, ⟨hr.ext hb, hb.keep g0, hb.keep g1, hb.keep g2, hb.keep g3, hb.keep g4, hb.keep g5, hb.keep g6, hb.keep g7, hb.keep g8, hb.keep g9, hb.keep g10⟩, hb⟩

theorem waits_held (p b : Nat) (R : Rm) (w : World) (h : (RoomAt p R w ∧ w.cell? ⟨b, 0, none⟩ = some (.int .i64 R.m) ∧ w.cell? ⟨b, 1, none⟩ = some (.int .i64 R.l0) ∧ w.cell? ⟨b, 2, none⟩ = some (.int .i64 R.l1) ∧ w.cell? ⟨b, 3, none⟩ = some (.int .i64 R.w0) ∧ w.cell? ⟨b, 4, none⟩ = some (.int .i64 R.w1) ∧ w.cell? ⟨b, 5, none⟩ = some (.int .i64 R.x0) ∧ w.cell? ⟨b, 6, none⟩ = some (.int .i64 R.x1) ∧ w.cell? ⟨b, 7, none⟩ = some (.int .i64 R.o0) ∧ w.cell? ⟨b, 8, none⟩ = some (.int .i64 R.o1) ∧ w.cell? ⟨b, 9, none⟩ = some (.int .i64 R.a) ∧ w.cell? ⟨b, 10, none⟩ = some (.int .u8 R.c))) : Calls Tryd.prog 20 #[.pointer (some ⟨p, 0, none⟩)] w fun e w' => e = .returned (.bool (R.a != 0)) ∧ (RoomAt p R w' ∧ w'.cell? ⟨b, 0, none⟩ = some (.int .i64 R.m) ∧ w'.cell? ⟨b, 1, none⟩ = some (.int .i64 R.l0) ∧ w'.cell? ⟨b, 2, none⟩ = some (.int .i64 R.l1) ∧ w'.cell? ⟨b, 3, none⟩ = some (.int .i64 R.w0) ∧ w'.cell? ⟨b, 4, none⟩ = some (.int .i64 R.w1) ∧ w'.cell? ⟨b, 5, none⟩ = some (.int .i64 R.x0) ∧ w'.cell? ⟨b, 6, none⟩ = some (.int .i64 R.x1) ∧ w'.cell? ⟨b, 7, none⟩ = some (.int .i64 R.o0) ∧ w'.cell? ⟨b, 8, none⟩ = some (.int .i64 R.o1) ∧ w'.cell? ⟨b, 9, none⟩ = some (.int .i64 R.a) ∧ w'.cell? ⟨b, 10, none⟩ = some (.int .u8 R.c)) ∧ Ext w w' := by
  refine (waits_any p R w h.1).mono ?_
  rintro e w' ⟨rfl, hb⟩
  obtain ⟨hr, g0, g1, g2, g3, g4, g5, g6, g7, g8, g9, g10⟩ := h
  exact ⟨rfl, ⟨hr.ext hb, hb.keep g0, hb.keep g1, hb.keep g2, hb.keep g3, hb.keep g4, hb.keep g5, hb.keep g6, hb.keep g7, hb.keep g8, hb.keep g9, hb.keep g10⟩, hb⟩

theorem text_held (p b : Nat) (R : Rm) (w : World) (h : (RoomAt p R w ∧ w.cell? ⟨b, 0, none⟩ = some (.int .i64 R.m) ∧ w.cell? ⟨b, 1, none⟩ = some (.int .i64 R.l0) ∧ w.cell? ⟨b, 2, none⟩ = some (.int .i64 R.l1) ∧ w.cell? ⟨b, 3, none⟩ = some (.int .i64 R.w0) ∧ w.cell? ⟨b, 4, none⟩ = some (.int .i64 R.w1) ∧ w.cell? ⟨b, 5, none⟩ = some (.int .i64 R.x0) ∧ w.cell? ⟨b, 6, none⟩ = some (.int .i64 R.x1) ∧ w.cell? ⟨b, 7, none⟩ = some (.int .i64 R.o0) ∧ w.cell? ⟨b, 8, none⟩ = some (.int .i64 R.o1) ∧ w.cell? ⟨b, 9, none⟩ = some (.int .i64 R.a) ∧ w.cell? ⟨b, 10, none⟩ = some (.int .u8 R.c))) (hB : R.small) (hX : TX w) : Calls Tryd.prog 22 #[.pointer (some ⟨p, 0, none⟩)] w fun e w' => e = .returned (.string ⟨(txTo R 2).toArray⟩) ∧ (RoomAt p R w' ∧ w'.cell? ⟨b, 0, none⟩ = some (.int .i64 R.m) ∧ w'.cell? ⟨b, 1, none⟩ = some (.int .i64 R.l0) ∧ w'.cell? ⟨b, 2, none⟩ = some (.int .i64 R.l1) ∧ w'.cell? ⟨b, 3, none⟩ = some (.int .i64 R.w0) ∧ w'.cell? ⟨b, 4, none⟩ = some (.int .i64 R.w1) ∧ w'.cell? ⟨b, 5, none⟩ = some (.int .i64 R.x0) ∧ w'.cell? ⟨b, 6, none⟩ = some (.int .i64 R.x1) ∧ w'.cell? ⟨b, 7, none⟩ = some (.int .i64 R.o0) ∧ w'.cell? ⟨b, 8, none⟩ = some (.int .i64 R.o1) ∧ w'.cell? ⟨b, 9, none⟩ = some (.int .i64 R.a) ∧ w'.cell? ⟨b, 10, none⟩ = some (.int .u8 R.c)) ∧ Ext w w' := by
  refine (text_any p R w h.1 hB hX).mono ?_
  rintro e w' ⟨rfl, hb⟩
  obtain ⟨hr, g0, g1, g2, g3, g4, g5, g6, g7, g8, g9, g10⟩ := h
  exact ⟨rfl, ⟨hr.ext hb, hb.keep g0, hb.keep g1, hb.keep g2, hb.keep g3, hb.keep g4, hb.keep g5, hb.keep g6, hb.keep g7, hb.keep g8, hb.keep g9, hb.keep g10⟩, hb⟩

theorem rtext_held (p b : Nat) (R : Rm) (w : World) (h : (RoomAt p R w ∧ w.cell? ⟨b, 0, none⟩ = some (.int .i64 R.m) ∧ w.cell? ⟨b, 1, none⟩ = some (.int .i64 R.l0) ∧ w.cell? ⟨b, 2, none⟩ = some (.int .i64 R.l1) ∧ w.cell? ⟨b, 3, none⟩ = some (.int .i64 R.w0) ∧ w.cell? ⟨b, 4, none⟩ = some (.int .i64 R.w1) ∧ w.cell? ⟨b, 5, none⟩ = some (.int .i64 R.x0) ∧ w.cell? ⟨b, 6, none⟩ = some (.int .i64 R.x1) ∧ w.cell? ⟨b, 7, none⟩ = some (.int .i64 R.o0) ∧ w.cell? ⟨b, 8, none⟩ = some (.int .i64 R.o1) ∧ w.cell? ⟨b, 9, none⟩ = some (.int .i64 R.a) ∧ w.cell? ⟨b, 10, none⟩ = some (.int .u8 R.c))) (hB : R.small) : Calls Tryd.prog 28 #[.agg #[.int .i64 R.m, .int .i64 R.l0, .int .i64 R.l1, .int .i64 R.w0, .int .i64 R.w1, .int .i64 R.x0, .int .i64 R.x1, .int .i64 R.o0, .int .i64 R.o1, .int .i64 R.a, .int .u8 R.c]] w fun e w' => e = .returned (.string ⟨(txTo R 2).toArray⟩) ∧ (RoomAt p R w' ∧ w'.cell? ⟨b, 0, none⟩ = some (.int .i64 R.m) ∧ w'.cell? ⟨b, 1, none⟩ = some (.int .i64 R.l0) ∧ w'.cell? ⟨b, 2, none⟩ = some (.int .i64 R.l1) ∧ w'.cell? ⟨b, 3, none⟩ = some (.int .i64 R.w0) ∧ w'.cell? ⟨b, 4, none⟩ = some (.int .i64 R.w1) ∧ w'.cell? ⟨b, 5, none⟩ = some (.int .i64 R.x0) ∧ w'.cell? ⟨b, 6, none⟩ = some (.int .i64 R.x1) ∧ w'.cell? ⟨b, 7, none⟩ = some (.int .i64 R.o0) ∧ w'.cell? ⟨b, 8, none⟩ = some (.int .i64 R.o1) ∧ w'.cell? ⟨b, 9, none⟩ = some (.int .i64 R.a) ∧ w'.cell? ⟨b, 10, none⟩ = some (.int .u8 R.c)) ∧ Ext w w' := by
  refine (rtext_any R w hB).mono ?_
  rintro e w' ⟨rfl, hb⟩
  obtain ⟨hr, g0, g1, g2, g3, g4, g5, g6, g7, g8, g9, g10⟩ := h
  exact ⟨rfl, ⟨hr.ext hb, hb.keep g0, hb.keep g1, hb.keep g2, hb.keep g3, hb.keep g4, hb.keep g5, hb.keep g6, hb.keep g7, hb.keep g8, hb.keep g9, hb.keep g10⟩, hb⟩

set_option maxHeartbeats 2000000 in
set_option maxRecDepth 20000 in
theorem same_any (p : Nat) (R : Rm) (w : World) (hR : RoomAt p R w) (hB : R.small) (hX : TX w) : Calls Tryd.prog 17 #[.pointer (some ⟨p, 0, none⟩), .agg #[.int .i64 R.m, .int .i64 R.l0, .int .i64 R.l1, .int .i64 R.w0, .int .i64 R.w1, .int .i64 R.x0, .int .i64 R.x1, .int .i64 R.o0, .int .i64 R.o1, .int .i64 R.a, .int .u8 R.c]] w fun e w' => e = .returned (.bool true) ∧ Ext w w' := by
  have HR := Lib.hid hR
  have HB := Lib.hid hB
  have HX := Lib.hid hX
  clear hR hB hX
  go_enter Tryd.func17, Tryd.ntmps17
  go_wp2
  go_loopw [5] (fun i wr => ∃ j : Nat, j ≤ 4 ∧ i = .int .i64 j ∧ wr.heap[w.heap.size]? = some (.cells (rcC R) 31 (0, 0)) ∧ Ext w wr) (fun i _ => 4 - (intOf i).toNat)
  case atStart => exact ⟨0, by omega, rfl, heap_alloc_new w _, (by repeat (first | exact Ext.refl _ | refine Ext.setCell ?_ (by first | exact Nat.le_refl _ | (simp; done) | (simp; omega)) _ | refine Ext.drew ?_ | refine Ext.drewN ?_ _ | refine Ext.alloc ?_ _))⟩
  case round =>
    obtain ⟨j, hj4, rfl, hbox, hE⟩ := hrel
    have c0 : wr.cell? ⟨w.heap.size, 0, none⟩ = some (.int .i64 R.m) := Lib.cell_of_heap hbox 0
    have c1 : wr.cell? ⟨w.heap.size, 1, none⟩ = some (.int .i64 R.l0) := Lib.cell_of_heap hbox 1
    have c2 : wr.cell? ⟨w.heap.size, 2, none⟩ = some (.int .i64 R.l1) := Lib.cell_of_heap hbox 2
    have c3 : wr.cell? ⟨w.heap.size, 3, none⟩ = some (.int .i64 R.w0) := Lib.cell_of_heap hbox 3
    have c4 : wr.cell? ⟨w.heap.size, 4, none⟩ = some (.int .i64 R.w1) := Lib.cell_of_heap hbox 4
    have c5 : wr.cell? ⟨w.heap.size, 5, none⟩ = some (.int .i64 R.x0) := Lib.cell_of_heap hbox 5
    have c6 : wr.cell? ⟨w.heap.size, 6, none⟩ = some (.int .i64 R.x1) := Lib.cell_of_heap hbox 6
    have c7 : wr.cell? ⟨w.heap.size, 7, none⟩ = some (.int .i64 R.o0) := Lib.cell_of_heap hbox 7
    have c8 : wr.cell? ⟨w.heap.size, 8, none⟩ = some (.int .i64 R.o1) := Lib.cell_of_heap hbox 8
    have c9 : wr.cell? ⟨w.heap.size, 9, none⟩ = some (.int .i64 R.a) := Lib.cell_of_heap hbox 9
    have c10 : wr.cell? ⟨w.heap.size, 10, none⟩ = some (.int .u8 R.c) := Lib.cell_of_heap hbox 10
    have HBX := Lib.hid hbox
    clear hbox
    by_cases hj : j < 4
    · have HJ : Hid ((j : Int) = (j : Int)) := rfl
      obtain ⟨ta, hta⟩ : ∃ x, asN R (j : Int) = x := ⟨_, rfl⟩
      obtain ⟨tw, htw⟩ : ∃ x, wnN R (j : Int) = x := ⟨_, rfl⟩
      obtain ⟨tl, htl⟩ : ∃ x, lsN R (j : Int) = x := ⟨_, rfl⟩
      obtain ⟨tp, htp⟩ : ∃ x, opN R (j : Int) = x := ⟨_, rfl⟩
      have HA := Lib.hid hta
      have HWn := Lib.hid htw
      have HLs := Lib.hid htl
      have HOp := Lib.hid htp
      clear hta htw htl htp HJ
      go_wp2_with (first | ((fail_if_success (have hzz := hb1)); go_at_call 18; refine (count_any p R _ _ (HR.out.ext hE) HB.out).mono ?_; rintro e w1 ⟨rfl, hb1⟩; dsimp only [cntV]; rw [HA.out, HWn.out, HLs.out, HOp.out]; have d0 := hb1.keep c0; have d1 := hb1.keep c1; have d2 := hb1.keep c2; have d3 := hb1.keep c3; have d4 := hb1.keep c4; have d5 := hb1.keep c5; have d6 := hb1.keep c6; have d7 := hb1.keep c7; have d8 := hb1.keep c8; have d9 := hb1.keep c9; have d10 := hb1.keep c10) | ((fail_if_success (have hzz := hb2)); go_at_call 26; refine (rcount_any R _ _ HB.out).mono ?_; rintro e w2 ⟨rfl, hb2⟩; dsimp only [cntV]; rw [HA.out, HWn.out, HLs.out, HOp.out]; have f0 := hb2.keep d0; have f1 := hb2.keep d1; have f2 := hb2.keep d2; have f3 := hb2.keep d3; have f4 := hb2.keep d4; have f5 := hb2.keep d5; have f6 := hb2.keep d6; have f7 := hb2.keep d7; have f8 := hb2.keep d8; have f9 := hb2.keep d9; have f10 := hb2.keep d10; have hr2 : RoomAt p R w2 := (HR.out.ext hE).ext (hb1.trans hb2)))
      clear HX HR c0 c1 c2 c3 c4 c5 c6 c7 c8 c9 c10 d0 d1 d2 d3 d4 d5 d6 d7 d8 d9 d10
      have hs2 : (RoomAt p R w2 ∧ w2.cell? ⟨w.heap.size, 0, none⟩ = some (.int .i64 R.m) ∧ w2.cell? ⟨w.heap.size, 1, none⟩ = some (.int .i64 R.l0) ∧ w2.cell? ⟨w.heap.size, 2, none⟩ = some (.int .i64 R.l1) ∧ w2.cell? ⟨w.heap.size, 3, none⟩ = some (.int .i64 R.w0) ∧ w2.cell? ⟨w.heap.size, 4, none⟩ = some (.int .i64 R.w1) ∧ w2.cell? ⟨w.heap.size, 5, none⟩ = some (.int .i64 R.x0) ∧ w2.cell? ⟨w.heap.size, 6, none⟩ = some (.int .i64 R.x1) ∧ w2.cell? ⟨w.heap.size, 7, none⟩ = some (.int .i64 R.o0) ∧ w2.cell? ⟨w.heap.size, 8, none⟩ = some (.int .i64 R.o1) ∧ w2.cell? ⟨w.heap.size, 9, none⟩ = some (.int .i64 R.a) ∧ w2.cell? ⟨w.heap.size, 10, none⟩ = some (.int .u8 R.c)) := ⟨hr2, f0, f1, f2, f3, f4, f5, f6, f7, f8, f9, f10⟩
      go_region_held3 (fun w' => RoomAt p R w' ∧ w'.cell? ⟨w.heap.size, 0, none⟩ = some (.int .i64 R.m) ∧ w'.cell? ⟨w.heap.size, 1, none⟩ = some (.int .i64 R.l0) ∧ w'.cell? ⟨w.heap.size, 2, none⟩ = some (.int .i64 R.l1) ∧ w'.cell? ⟨w.heap.size, 3, none⟩ = some (.int .i64 R.w0) ∧ w'.cell? ⟨w.heap.size, 4, none⟩ = some (.int .i64 R.w1) ∧ w'.cell? ⟨w.heap.size, 5, none⟩ = some (.int .i64 R.x0) ∧ w'.cell? ⟨w.heap.size, 6, none⟩ = some (.int .i64 R.x1) ∧ w'.cell? ⟨w.heap.size, 7, none⟩ = some (.int .i64 R.o0) ∧ w'.cell? ⟨w.heap.size, 8, none⟩ = some (.int .i64 R.o1) ∧ w'.cell? ⟨w.heap.size, 9, none⟩ = some (.int .i64 R.a) ∧ w'.cell? ⟨w.heap.size, 10, none⟩ = some (.int .u8 R.c)) (first | assumption | exact hs2 | (simp [go_sem, *]; done)) ((first | ((fail_if_success (have hzz := hb3)); go_at_call 19; refine (left_held p w.heap.size R _ _ (by first | assumption | exact hs2)).mono ?_; rintro e w3 ⟨rfl, hs3, hb3⟩) | ((fail_if_success (have hzz := hb4)); go_at_call 27; refine (rleft_held p w.heap.size R _ _ (by first | assumption | exact hs3)).mono ?_; rintro e w4 ⟨rfl, hs4, hb4⟩)))
      go_wp2
      go_roundw
      case rel => exact ⟨j + 1, by omega, by go_num, ((((Ext.drew (hb1.trans hb2)).trans hb3).trans hb4).block _ (Array.getElem?_eq_some_iff.1 HBX.out).1).trans HBX.out, ((Ext.drew ((hE.trans hb1).trans hb2)).trans hb3).trans hb4⟩
      case measure => simp [intOf]; omega
    · obtain rfl : j = 4 := by omega
      clear hj hj4
      have hs1 : (RoomAt p R wr ∧ wr.cell? ⟨w.heap.size, 0, none⟩ = some (.int .i64 R.m) ∧ wr.cell? ⟨w.heap.size, 1, none⟩ = some (.int .i64 R.l0) ∧ wr.cell? ⟨w.heap.size, 2, none⟩ = some (.int .i64 R.l1) ∧ wr.cell? ⟨w.heap.size, 3, none⟩ = some (.int .i64 R.w0) ∧ wr.cell? ⟨w.heap.size, 4, none⟩ = some (.int .i64 R.w1) ∧ wr.cell? ⟨w.heap.size, 5, none⟩ = some (.int .i64 R.x0) ∧ wr.cell? ⟨w.heap.size, 6, none⟩ = some (.int .i64 R.x1) ∧ wr.cell? ⟨w.heap.size, 7, none⟩ = some (.int .i64 R.o0) ∧ wr.cell? ⟨w.heap.size, 8, none⟩ = some (.int .i64 R.o1) ∧ wr.cell? ⟨w.heap.size, 9, none⟩ = some (.int .i64 R.a) ∧ wr.cell? ⟨w.heap.size, 10, none⟩ = some (.int .u8 R.c)) := ⟨HR.out.ext hE, c0, c1, c2, c3, c4, c5, c6, c7, c8, c9, c10⟩
      clear c0 c1 c2 c3 c4 c5 c6 c7 c8 c9 c10
      obtain ⟨TXT, hT⟩ : ∃ T : List UInt8, txTo R 2 = T := ⟨_, rfl⟩
      have HT := Lib.hid hT
      clear hT
      go_wp2
      go_region_held3 (fun w' => RoomAt p R w' ∧ w'.cell? ⟨w.heap.size, 0, none⟩ = some (.int .i64 R.m) ∧ w'.cell? ⟨w.heap.size, 1, none⟩ = some (.int .i64 R.l0) ∧ w'.cell? ⟨w.heap.size, 2, none⟩ = some (.int .i64 R.l1) ∧ w'.cell? ⟨w.heap.size, 3, none⟩ = some (.int .i64 R.w0) ∧ w'.cell? ⟨w.heap.size, 4, none⟩ = some (.int .i64 R.w1) ∧ w'.cell? ⟨w.heap.size, 5, none⟩ = some (.int .i64 R.x0) ∧ w'.cell? ⟨w.heap.size, 6, none⟩ = some (.int .i64 R.x1) ∧ w'.cell? ⟨w.heap.size, 7, none⟩ = some (.int .i64 R.o0) ∧ w'.cell? ⟨w.heap.size, 8, none⟩ = some (.int .i64 R.o1) ∧ w'.cell? ⟨w.heap.size, 9, none⟩ = some (.int .i64 R.a) ∧ w'.cell? ⟨w.heap.size, 10, none⟩ = some (.int .u8 R.c)) (first | assumption | exact hs1 | (simp [go_sem, *]; done)) ((first | ((fail_if_success (have hzz := hb5)); go_at_call 20; refine (waits_held p w.heap.size R _ (by exact hs1)).mono ?_; rintro e w5 ⟨rfl, hs5, hb5⟩) | ((fail_if_success (have hzz := hb6)); go_at_call 22; refine (text_held p w.heap.size R _ (by exact hs5) HB.out (HX.out.ext (by repeat (first | exact hE | refine Ext.setCell ?_ (by first | exact Nat.le_refl _ | (simp; done) | (simp; omega)) _ | refine Ext.drew ?_ | refine Ext.drewN ?_ _ | refine Ext.alloc ?_ _ | refine Ext.trans ?_ hb5 | refine Ext.trans ?_ hb4 | refine Ext.trans ?_ hb3 | refine Ext.trans ?_ hb2 | refine Ext.trans ?_ hb1)))).mono ?_; rintro e w6 ⟨rfl, hs6, hb6⟩; rw [HT.out]) | ((fail_if_success (have hzz := hb7)); go_at_call 28; refine (rtext_held p w.heap.size R _ (by exact hs6) HB.out).mono ?_; rintro e w7 ⟨rfl, hs7, hb7⟩; rw [HT.out])))
      go_wp2
      go_ret
      exact ⟨retb (by first | rfl | simp), (by repeat (first | exact hE | refine Ext.setCell ?_ (by first | exact Nat.le_refl _ | (simp; done) | (simp; omega)) _ | refine Ext.drew ?_ | refine Ext.drewN ?_ _ | refine Ext.alloc ?_ _ | refine Ext.trans ?_ hb7 | refine Ext.trans ?_ hb6 | refine Ext.trans ?_ hb5 | refine Ext.trans ?_ hb4 | refine Ext.trans ?_ hb3 | refine Ext.trans ?_ hb2 | refine Ext.trans ?_ hb1))⟩

end Go.Proofs.YtppoejhfemolfaaDoor

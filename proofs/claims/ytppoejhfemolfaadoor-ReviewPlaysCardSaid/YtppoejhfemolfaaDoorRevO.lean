/-
  The law ReviewPlays, walked.
-/
import Derived.Test.YtppoejhfemolfaaDoorRevN
import Derived.Test.YtppoejhfemolfaaDoorRevG
import Derived.Test.YtppoejhfemolfaaDoorRevI
namespace Go.Proofs.YtppoejhfemolfaaDoor
open Go.RowKit
set_option linter.unusedSimpArgs false

def BoxAt (b : Nat) (R : Rm) (w : World) : Prop := w.heap[b]? = some (.cells (rcC R) 31 (0, 0))
theorem BoxAt.all {b : Nat} {R : Rm} {w : World} (h : BoxAt b R w) : w.cell? ⟨b, 0, none⟩ = some (.int .i64 R.m) ∧ w.cell? ⟨b, 1, none⟩ = some (.int .i64 R.l0) ∧ w.cell? ⟨b, 2, none⟩ = some (.int .i64 R.l1) ∧ w.cell? ⟨b, 3, none⟩ = some (.int .i64 R.w0) ∧ w.cell? ⟨b, 4, none⟩ = some (.int .i64 R.w1) ∧ w.cell? ⟨b, 5, none⟩ = some (.int .i64 R.x0) ∧ w.cell? ⟨b, 6, none⟩ = some (.int .i64 R.x1) ∧ w.cell? ⟨b, 7, none⟩ = some (.int .i64 R.o0) ∧ w.cell? ⟨b, 8, none⟩ = some (.int .i64 R.o1) ∧ w.cell? ⟨b, 9, none⟩ = some (.int .i64 R.a) ∧ w.cell? ⟨b, 10, none⟩ = some (.int .u8 R.c) :=
  ⟨Lib.cell_of_heap h 0, Lib.cell_of_heap h 1, Lib.cell_of_heap h 2, Lib.cell_of_heap h 3, Lib.cell_of_heap h 4, Lib.cell_of_heap h 5, Lib.cell_of_heap h 6, Lib.cell_of_heap h 7, Lib.cell_of_heap h 8, Lib.cell_of_heap h 9, Lib.cell_of_heap h 10⟩
theorem BoxAt.fz {b : Nat} {R : Rm} {w : World} (h : BoxAt b R w) (j : Nat) : w.frozen? ⟨b, j, none⟩ = false := frozen_of_row w b j _ _ h
theorem BoxAt.ext {b : Nat} {R : Rm} {w w' : World} (h : BoxAt b R w) (x : Ext w w') : BoxAt b R w' := (x.block b (Array.getElem?_eq_some_iff.1 h).1).trans h
theorem BoxAt.lt {b : Nat} {R : Rm} {w : World} (h : BoxAt b R w) : b < w.heap.size := (Array.getElem?_eq_some_iff.1 h).1
theorem BoxAt.turn {b q : Nat} {R : Rm} {w w' : World} (h : BoxAt b R w) (k : Turn q w w') (hne : b ≠ q) : BoxAt b R w' := k.other b _ hne h
theorem BoxAt.put {b : Nat} {R : Rm} {w : World} (h : BoxAt b R w) (R2 : Rm) : BoxAt b R2 (((((((((((w.setCell ⟨b, 0, none⟩ (.int .i64 R2.m)).setCell ⟨b, 1, none⟩ (.int .i64 R2.l0)).setCell ⟨b, 2, none⟩ (.int .i64 R2.l1)).setCell ⟨b, 3, none⟩ (.int .i64 R2.w0)).setCell ⟨b, 4, none⟩ (.int .i64 R2.w1)).setCell ⟨b, 5, none⟩ (.int .i64 R2.x0)).setCell ⟨b, 6, none⟩ (.int .i64 R2.x1)).setCell ⟨b, 7, none⟩ (.int .i64 R2.o0)).setCell ⟨b, 8, none⟩ (.int .i64 R2.o1)).setCell ⟨b, 9, none⟩ (.int .i64 R2.a)).setCell ⟨b, 10, none⟩ (.int .u8 R2.c)) := by
  have := blk_set (blk_set (blk_set (blk_set (blk_set (blk_set (blk_set (blk_set (blk_set (blk_set (blk_set h 0 (.int .i64 R2.m)) 1 (.int .i64 R2.l0)) 2 (.int .i64 R2.l1)) 3 (.int .i64 R2.w0)) 4 (.int .i64 R2.w1)) 5 (.int .i64 R2.x0)) 6 (.int .i64 R2.x1)) 7 (.int .i64 R2.o0)) 8 (.int .i64 R2.o1)) 9 (.int .i64 R2.a)) 10 (.int .u8 R2.c)
  simp only [rcC, List.setIfInBounds_toArray, List.set_cons_zero, List.set_cons_succ] at this
  exact this

theorem room_set {p b j : Nat} {R : Rm} {u : Value} {w : World} (h : RoomAt p R w) (hne : p ≠ b) : RoomAt p R (w.setCell ⟨b, j, none⟩ u) := (Below.heap_setCell w ⟨b, j, none⟩ u p hne).trans h
theorem room_alloc {p : Nat} {R : Rm} {o : Obj} {w : World} (h : RoomAt p R w) : RoomAt p R (w.alloc o) := (Below.heap_alloc w o p h.lt).trans h
theorem box_alloc {p : Nat} {R : Rm} {o : Obj} {w : World} (h : BoxAt p R w) : BoxAt p R (w.alloc o) := (Below.heap_alloc w o p h.lt).trans h

set_option maxHeartbeats 16000000 in
set_option maxRecDepth 20000 in
theorem reviewPlays_any (N : Int) (A0 : Option Addr) (n C : Nat) (K S L : Nat → Int) (b off : Nat) (w : World) (T : ActsAt w A0 n K S L b off) (hX : TX w) :
    Calls Tryd.prog 3 #[.int .i64 N, .slice A0 n C] w fun e w' => e = .returned (.bool true) ∧ Ext w w' := by
  have HX := Lib.hid hX
  have hn := T.nle
  clear hX
  by_cases hbig : 200 < n
  · have hbig' : (200 : Int) < (n : Int) := by omega
    go_enter Tryd.func3, Tryd.ntmps3
    go_wp2_with (first | ((fail_if_success (have hzz := hb1)); go_at_call 8; refine (awake_any _ (HX.out.ext (by repeat (first | exact Ext.refl _ | refine Ext.setCell ?_ (by first | exact Nat.le_refl _ | (simp; done) | (simp; omega)) _ | refine Ext.drew ?_ | refine Ext.drewN ?_ _ | refine Ext.alloc ?_ _)))).mono ?_; rintro e w1 ⟨rfl, hb1⟩))
    go_ret
    exact ⟨rfl, hb1⟩
  have hbig' : ¬ ((200 : Int) < (n : Int)) := by omega
  by_cases hN : N < 0 ∨ 20 < N
  · have HNB := Lib.hid hN
    clear hN
    go_enter Tryd.func3, Tryd.ntmps3
    go_wp2_with (first | ((fail_if_success (have hzz := hb1)); go_at_call 8; refine (awake_any _ (HX.out.ext (by repeat (first | exact Ext.refl _ | refine Ext.setCell ?_ (by first | exact Nat.le_refl _ | (simp; done) | (simp; omega)) _ | refine Ext.drew ?_ | refine Ext.drewN ?_ _ | refine Ext.alloc ?_ _)))).mono ?_; rintro e w1 ⟨rfl, hb1⟩) | ((fail_if_success (have hzz := hb2)); go_at_call 9; refine (new_bad N w1 HNB.out).mono ?_; rintro e w2 ⟨rfl, hb2⟩) | ((fail_if_success (have hzz := hb3)); go_at_call 10; refine (rnew_bad N w2 HNB.out).mono ?_; rintro e w3 ⟨rfl, hb3⟩; dsimp only [rcC, zerR]))
    go_ret
    exact ⟨rfl, (by repeat (first | exact Ext.refl _ | refine Ext.setCell ?_ (by first | exact Nat.le_refl _ | (simp; done) | (simp; omega)) _ | refine Ext.drew ?_ | refine Ext.drewN ?_ _ | refine Ext.alloc ?_ _ | refine Ext.trans ?_ hb3 | refine Ext.trans ?_ hb2 | refine Ext.trans ?_ hb1))⟩
  have HN : Hid (0 ≤ N ∧ N ≤ 20) := by rw [Hid]; omega
  clear hN
  go_enter Tryd.func3, Tryd.ntmps3
  go_wp2_with (first | ((fail_if_success (have hzz := hb1)); go_at_call 8; refine (awake_any _ (HX.out.ext (by repeat (first | exact Ext.refl _ | refine Ext.setCell ?_ (by first | exact Nat.le_refl _ | (simp; done) | (simp; omega)) _ | refine Ext.drew ?_ | refine Ext.drewN ?_ _ | refine Ext.alloc ?_ _)))).mono ?_; rintro e w1 ⟨rfl, hb1⟩) | ((fail_if_success (have hzz := hb2)); go_at_call 9; refine (new_any N w1 HN.out.1 HN.out.2).mono ?_; rintro e w2 ⟨rfl, hr2, hb2⟩) | ((fail_if_success (have hzz := hb3)); go_at_call 10; refine (rnew_any N w2 HN.out.1 HN.out.2).mono ?_; rintro e w3 ⟨rfl, hb3⟩; dsimp only [rcC, newR]))
  obtain ⟨p, hp⟩ : ∃ p, w1.heap.size = p := ⟨_, rfl⟩
  obtain ⟨bx, hbx⟩ : ∃ bx, w3.heap.size = bx := ⟨_, rfl⟩
  have hpw : w.heap.size ≤ p := by rw [← hp]; exact hb1.size
  have hlp := hr2.lt
  have hbp : bx ≠ p := by have := hb3.size; omega
  have hbw : w.heap.size ≤ bx := by have := hb3.size; have := hb2.size; have := hb1.size; omega
  rw [hp] at hr2 ⊢
  rw [hbx]
  go_loopw [47] (fun i wr => ∃ (k : Nat) (R : Rm), k ≤ n ∧ i = .int .i64 k ∧ RoomAt p R wr ∧ BoxAt bx R wr ∧ R.bd (20 + (k : Int)) ∧ Ext w wr) (fun i _ => n - (intOf i).toNat)
  case atStart => exact ⟨0, newR N, by omega, rfl, (hr2.ext hb3).ext (by repeat (first | exact Ext.refl _ | refine Ext.setCell ?_ (by first | exact Nat.le_refl _ | (simp; done) | (simp; omega)) _ | refine Ext.drew ?_ | refine Ext.drewN ?_ _ | refine Ext.alloc ?_ _)), by rw [← hbx]; exact heap_alloc_new w3 _, bd_new HN.out.1 HN.out.2, (by repeat (first | exact Ext.refl _ | refine Ext.setCell ?_ (by first | exact Nat.le_refl _ | (simp; done) | (simp; omega)) _ | refine Ext.drew ?_ | refine Ext.drewN ?_ _ | refine Ext.alloc ?_ _ | refine Ext.trans ?_ hb3 | refine Ext.trans ?_ hb2 | refine Ext.trans ?_ hb1))⟩
  case round =>
    clear hp hbx hlp hr2
    obtain ⟨k, R, hk, rfl, hR, hB, hbd, hE⟩ := hrel
    have HR := Lib.hid hR
    have HBX := Lib.hid hB
    have hlt3 := hR.lt
    have hlt4 := hB.lt
    clear hR hB
    by_cases hlt : k < n
    · obtain ⟨rfl, hbl⟩ := T.top (by omega)
      obtain ⟨c0, c1, c2⟩ := (T.ext hE).cell k hlt
      obtain ⟨k0, k1, k2⟩ := T.wf k hlt
      have HSM : Hid R.small := hbd.small (by omega)
      have hXp : wr.heap.size ≠ p := by omega
      have hXb : wr.heap.size ≠ bx := by omega
      by_cases hk4 : K k % 4 = 2
      · obtain ⟨R', hR'⟩ : ∃ R' : Rm, decR R (L k) = R' := ⟨_, rfl⟩
        have HRR := Lib.hid hR'
        have HBD2 : Hid (R'.bd (20 + ((k + 1 : Nat) : Int))) := by rw [Hid, ← hR']; exact (bd_dec hbd).mono (by omega)
        have HSM2 : Hid R'.small := HBD2.out.small (by omega)
        clear hR' hbd
        go_wp2_with ((fail_if_success (have hzz := hx4)); go_at_call 11; refine (decide_any p R (L k) _ (HR.out.ext (by repeat (first | exact Ext.refl _ | refine Ext.setCell ?_ (by first | exact Nat.le_refl _ | (simp; done) | (simp; omega)) _ | refine Ext.drew ?_ | refine Ext.drewN ?_ _ | refine Ext.alloc ?_ _))) HSM.out).mono ?_; rintro e w4 ⟨rfl, hr4, ht4⟩; rw [HRR.out] at hr4; have hx4 : Ext w w4 := ht4.then (by repeat (first | exact hE | refine Ext.setCell ?_ (by first | exact Nat.le_refl _ | (simp; done) | (simp; omega)) _ | refine Ext.drew ?_ | refine Ext.drewN ?_ _ | refine Ext.alloc ?_ _)) hpw; have hbx4 : BoxAt bx R' w4 ∨ BoxAt bx R w4 := .inr ((HBX.out.ext (by repeat (first | exact Ext.refl _ | refine Ext.setCell ?_ (by first | exact Nat.le_refl _ | (simp; done) | (simp; omega)) _ | refine Ext.drew ?_ | refine Ext.drewN ?_ _ | refine Ext.alloc ?_ _))).turn ht4 hbp); have hby4 : BoxAt bx R w4 := (HBX.out.ext (by repeat (first | exact Ext.refl _ | refine Ext.setCell ?_ (by first | exact Nat.le_refl _ | (simp; done) | (simp; omega)) _ | refine Ext.drew ?_ | refine Ext.drewN ?_ _ | refine Ext.alloc ?_ _))).turn ht4 hbp; clear hbx4; have hbx4 := hby4; clear hby4; have e4_0 : w4.cell? ⟨wr.heap.size, 0, none⟩ = some (.int .u8 (K k)) := ht4.keep hXp (Lib.cell_of_heap (heap_alloc_new wr _) 0); have e4_1 : w4.cell? ⟨wr.heap.size, 1, none⟩ = some (.int .i64 (S k)) := ht4.keep hXp (Lib.cell_of_heap (heap_alloc_new wr _) 1); have e4_2 : w4.cell? ⟨wr.heap.size, 2, none⟩ = some (.int .u8 (L k)) := ht4.keep hXp (Lib.cell_of_heap (heap_alloc_new wr _) 2); obtain ⟨g4_0, g4_1, g4_2, g4_3, g4_4, g4_5, g4_6, g4_7, g4_8, g4_9, g4_10⟩ := hbx4.all; have hl4 := hbx4.lt)
        refine (rdecide_any R (L k) _ k2 HSM.out).mono ?_
        rintro e w5 ⟨rfl, hb5⟩
        rw [HRR.out]
        dsimp only [rcC]
        have hx5 : Ext w w5 := hx4.trans hb5
        have hbx5 := hbx4.ext hb5
        have hr5 := hr4.ext hb5
        have hl5 := hbx5.lt
        obtain ⟨g5_0, g5_1, g5_2, g5_3, g5_4, g5_5, g5_6, g5_7, g5_8, g5_9, g5_10⟩ := hbx5.all
        have y5_0 := hbx5.fz 0
        have y5_1 := hbx5.fz 1
        have y5_2 := hbx5.fz 2
        have y5_3 := hbx5.fz 3
        have y5_4 := hbx5.fz 4
        have y5_5 := hbx5.fz 5
        have y5_6 := hbx5.fz 6
        have y5_7 := hbx5.fz 7
        have y5_8 := hbx5.fz 8
        have y5_9 := hbx5.fz 9
        have y5_10 := hbx5.fz 10
        clear g4_0 g4_1 g4_2 g4_3 g4_4 g4_5 g4_6 g4_7 g4_8 g4_9 g4_10 e4_0 e4_1 e4_2 c0 c1 c2 hl4
        go_wp2_with (go_at_call 17; refine (same_any p R' _ (room_alloc (room_set (b := bx) (j := 10) (room_set (b := bx) (j := 9) (room_set (b := bx) (j := 8) (room_set (b := bx) (j := 7) (room_set (b := bx) (j := 6) (room_set (b := bx) (j := 5) (room_set (b := bx) (j := 4) (room_set (b := bx) (j := 3) (room_set (b := bx) (j := 2) (room_set (b := bx) (j := 1) (room_set (b := bx) (j := 0) hr5 (Ne.symm hbp)) (Ne.symm hbp)) (Ne.symm hbp)) (Ne.symm hbp)) (Ne.symm hbp)) (Ne.symm hbp)) (Ne.symm hbp)) (Ne.symm hbp)) (Ne.symm hbp)) (Ne.symm hbp)) (Ne.symm hbp))) HSM2.out (HX.out.ext (Ext.alloc (Below.setCell (p := ⟨bx, 10, none⟩) (Below.setCell (p := ⟨bx, 9, none⟩) (Below.setCell (p := ⟨bx, 8, none⟩) (Below.setCell (p := ⟨bx, 7, none⟩) (Below.setCell (p := ⟨bx, 6, none⟩) (Below.setCell (p := ⟨bx, 5, none⟩) (Below.setCell (p := ⟨bx, 4, none⟩) (Below.setCell (p := ⟨bx, 3, none⟩) (Below.setCell (p := ⟨bx, 2, none⟩) (Below.setCell (p := ⟨bx, 1, none⟩) (Below.setCell (p := ⟨bx, 0, none⟩) hx5 hbw _) hbw _) hbw _) hbw _) hbw _) hbw _) hbw _) hbw _) hbw _) hbw _) hbw _) _))).mono ?_; rintro e w9 ⟨rfl, hb9⟩; have HQ9 : RoomAt p R' w9 := (by refine RoomAt.ext ?_ hb9; exact (room_alloc (room_set (b := bx) (j := 10) (room_set (b := bx) (j := 9) (room_set (b := bx) (j := 8) (room_set (b := bx) (j := 7) (room_set (b := bx) (j := 6) (room_set (b := bx) (j := 5) (room_set (b := bx) (j := 4) (room_set (b := bx) (j := 3) (room_set (b := bx) (j := 2) (room_set (b := bx) (j := 1) (room_set (b := bx) (j := 0) hr5 (Ne.symm hbp)) (Ne.symm hbp)) (Ne.symm hbp)) (Ne.symm hbp)) (Ne.symm hbp)) (Ne.symm hbp)) (Ne.symm hbp)) (Ne.symm hbp)) (Ne.symm hbp)) (Ne.symm hbp)) (Ne.symm hbp)))); have HB9 : BoxAt bx R' w9 := (by refine BoxAt.ext ?_ hb9; exact (box_alloc (BoxAt.put hbx5 R'))); have HX9 : Ext w w9 := (by refine Ext.trans ?_ hb9; exact (Ext.alloc (Below.setCell (p := ⟨bx, 10, none⟩) (Below.setCell (p := ⟨bx, 9, none⟩) (Below.setCell (p := ⟨bx, 8, none⟩) (Below.setCell (p := ⟨bx, 7, none⟩) (Below.setCell (p := ⟨bx, 6, none⟩) (Below.setCell (p := ⟨bx, 5, none⟩) (Below.setCell (p := ⟨bx, 4, none⟩) (Below.setCell (p := ⟨bx, 3, none⟩) (Below.setCell (p := ⟨bx, 2, none⟩) (Below.setCell (p := ⟨bx, 1, none⟩) (Below.setCell (p := ⟨bx, 0, none⟩) hx5 hbw _) hbw _) hbw _) hbw _) hbw _) hbw _) hbw _) hbw _) hbw _) hbw _) hbw _) _)))
        go_roundw
        case rel => exact ⟨k + 1, R', by omega, by go_num, HQ9, HB9, HBD2.out, HX9⟩
        case measure => simp [intOf]; omega
      · by_cases hk3 : K k % 4 = 3
        · obtain ⟨R', hR'⟩ : ∃ R' : Rm, renR R = R' := ⟨_, rfl⟩
          have HRR := Lib.hid hR'
          have HBD2 : Hid (R'.bd (20 + ((k + 1 : Nat) : Int))) := by rw [Hid, ← hR']; exact (bd_ren hbd).mono (by omega)
          have HSM2 : Hid R'.small := HBD2.out.small (by omega)
          clear hR' hbd
          go_wp2_with (go_at_call 13; refine (renew_any p R _ (HR.out.ext (by repeat (first | exact Ext.refl _ | refine Ext.setCell ?_ (by first | exact Nat.le_refl _ | (simp; done) | (simp; omega)) _ | refine Ext.drew ?_ | refine Ext.drewN ?_ _ | refine Ext.alloc ?_ _)))).mono ?_; rintro e w4 ⟨rfl, hr4, ht4⟩; rw [HRR.out] at hr4; have hx4 : Ext w w4 := ht4.then (by repeat (first | exact hE | refine Ext.setCell ?_ (by first | exact Nat.le_refl _ | (simp; done) | (simp; omega)) _ | refine Ext.drew ?_ | refine Ext.drewN ?_ _ | refine Ext.alloc ?_ _)) hpw; have hbx4 : BoxAt bx R w4 := (HBX.out.ext (by repeat (first | exact Ext.refl _ | refine Ext.setCell ?_ (by first | exact Nat.le_refl _ | (simp; done) | (simp; omega)) _ | refine Ext.drew ?_ | refine Ext.drewN ?_ _ | refine Ext.alloc ?_ _))).turn ht4 hbp; have e4_0 : w4.cell? ⟨wr.heap.size, 0, none⟩ = some (.int .u8 (K k)) := ht4.keep hXp (Lib.cell_of_heap (heap_alloc_new wr _) 0); have e4_1 : w4.cell? ⟨wr.heap.size, 1, none⟩ = some (.int .i64 (S k)) := ht4.keep hXp (Lib.cell_of_heap (heap_alloc_new wr _) 1); have e4_2 : w4.cell? ⟨wr.heap.size, 2, none⟩ = some (.int .u8 (L k)) := ht4.keep hXp (Lib.cell_of_heap (heap_alloc_new wr _) 2); obtain ⟨g4_0, g4_1, g4_2, g4_3, g4_4, g4_5, g4_6, g4_7, g4_8, g4_9, g4_10⟩ := hbx4.all; have hl4 := hbx4.lt)
          refine (rrenew_any R _).mono ?_
          rintro e w5 ⟨rfl, hb5⟩
          rw [HRR.out]
          dsimp only [rcC]
          have hx5 : Ext w w5 := hx4.trans hb5
          have hbx5 := hbx4.ext hb5
          have hr5 := hr4.ext hb5
          have hl5 := hbx5.lt
          obtain ⟨g5_0, g5_1, g5_2, g5_3, g5_4, g5_5, g5_6, g5_7, g5_8, g5_9, g5_10⟩ := hbx5.all
          have y5_0 := hbx5.fz 0
          have y5_1 := hbx5.fz 1
          have y5_2 := hbx5.fz 2
          have y5_3 := hbx5.fz 3
          have y5_4 := hbx5.fz 4
          have y5_5 := hbx5.fz 5
          have y5_6 := hbx5.fz 6
          have y5_7 := hbx5.fz 7
          have y5_8 := hbx5.fz 8
          have y5_9 := hbx5.fz 9
          have y5_10 := hbx5.fz 10
          clear g4_0 g4_1 g4_2 g4_3 g4_4 g4_5 g4_6 g4_7 g4_8 g4_9 g4_10 e4_0 e4_1 e4_2 c0 c1 c2 hl4
          go_wp2_with (go_at_call 17; refine (same_any p R' _ (room_set (b := bx) (j := 10) (room_set (b := bx) (j := 9) (room_set (b := bx) (j := 8) (room_set (b := bx) (j := 7) (room_set (b := bx) (j := 6) (room_set (b := bx) (j := 5) (room_set (b := bx) (j := 4) (room_set (b := bx) (j := 3) (room_set (b := bx) (j := 2) (room_set (b := bx) (j := 1) (room_set (b := bx) (j := 0) hr5 (Ne.symm hbp)) (Ne.symm hbp)) (Ne.symm hbp)) (Ne.symm hbp)) (Ne.symm hbp)) (Ne.symm hbp)) (Ne.symm hbp)) (Ne.symm hbp)) (Ne.symm hbp)) (Ne.symm hbp)) (Ne.symm hbp)) HSM2.out (HX.out.ext (Below.setCell (p := ⟨bx, 10, none⟩) (Below.setCell (p := ⟨bx, 9, none⟩) (Below.setCell (p := ⟨bx, 8, none⟩) (Below.setCell (p := ⟨bx, 7, none⟩) (Below.setCell (p := ⟨bx, 6, none⟩) (Below.setCell (p := ⟨bx, 5, none⟩) (Below.setCell (p := ⟨bx, 4, none⟩) (Below.setCell (p := ⟨bx, 3, none⟩) (Below.setCell (p := ⟨bx, 2, none⟩) (Below.setCell (p := ⟨bx, 1, none⟩) (Below.setCell (p := ⟨bx, 0, none⟩) hx5 hbw _) hbw _) hbw _) hbw _) hbw _) hbw _) hbw _) hbw _) hbw _) hbw _) hbw _))).mono ?_; rintro e w9 ⟨rfl, hb9⟩; have HQ9 : RoomAt p R' w9 := (by refine RoomAt.ext ?_ hb9; exact (room_set (b := bx) (j := 10) (room_set (b := bx) (j := 9) (room_set (b := bx) (j := 8) (room_set (b := bx) (j := 7) (room_set (b := bx) (j := 6) (room_set (b := bx) (j := 5) (room_set (b := bx) (j := 4) (room_set (b := bx) (j := 3) (room_set (b := bx) (j := 2) (room_set (b := bx) (j := 1) (room_set (b := bx) (j := 0) hr5 (Ne.symm hbp)) (Ne.symm hbp)) (Ne.symm hbp)) (Ne.symm hbp)) (Ne.symm hbp)) (Ne.symm hbp)) (Ne.symm hbp)) (Ne.symm hbp)) (Ne.symm hbp)) (Ne.symm hbp)) (Ne.symm hbp))); have HB9 : BoxAt bx R' w9 := (by refine BoxAt.ext ?_ hb9; exact (BoxAt.put hbx5 R')); have HX9 : Ext w w9 := (by refine Ext.trans ?_ hb9; exact (Below.setCell (p := ⟨bx, 10, none⟩) (Below.setCell (p := ⟨bx, 9, none⟩) (Below.setCell (p := ⟨bx, 8, none⟩) (Below.setCell (p := ⟨bx, 7, none⟩) (Below.setCell (p := ⟨bx, 6, none⟩) (Below.setCell (p := ⟨bx, 5, none⟩) (Below.setCell (p := ⟨bx, 4, none⟩) (Below.setCell (p := ⟨bx, 3, none⟩) (Below.setCell (p := ⟨bx, 2, none⟩) (Below.setCell (p := ⟨bx, 1, none⟩) (Below.setCell (p := ⟨bx, 0, none⟩) hx5 hbw _) hbw _) hbw _) hbw _) hbw _) hbw _) hbw _) hbw _) hbw _) hbw _) hbw _)))
          go_roundw
          case rel => exact ⟨k + 1, R', by omega, by go_num, HQ9, HB9, HBD2.out, HX9⟩
          case measure => simp [intOf]; omega
        · obtain ⟨R', hR'⟩ : ∃ R' : Rm, askR R (S k) (L k) = R' := ⟨_, rfl⟩
          have HRR := Lib.hid hR'
          have HBD2 : Hid (R'.bd (20 + ((k + 1 : Nat) : Int))) := by rw [Hid, ← hR']; exact (bd_ask hbd).mono (by omega)
          have HSM2 : Hid R'.small := HBD2.out.small (by omega)
          clear hR' hbd
          have hbx0 := HBX.out
          obtain ⟨g4_0, g4_1, g4_2, g4_3, g4_4, g4_5, g4_6, g4_7, g4_8, g4_9, g4_10⟩ := hbx0.all
          go_wp2_with (first | ((fail_if_success (have hzz := hb4)); go_at_call 15; refine (rask_any R (S k) (L k) _).mono ?_; rintro e w4 ⟨rfl, hb4⟩; rw [HRR.out]; dsimp only [rcC]; have hx4 : Ext w w4 := Ext.trans (by repeat (first | exact hE | refine Ext.setCell ?_ (by first | exact Nat.le_refl _ | (simp; done) | (simp; omega)) _ | refine Ext.drew ?_ | refine Ext.drewN ?_ _ | refine Ext.alloc ?_ _)) hb4; have hbx4 : BoxAt bx R w4 := (HBX.out.ext (by repeat (first | exact Ext.refl _ | refine Ext.setCell ?_ (by first | exact Nat.le_refl _ | (simp; done) | (simp; omega)) _ | refine Ext.drew ?_ | refine Ext.drewN ?_ _ | refine Ext.alloc ?_ _))).ext hb4; have hr4 : RoomAt p R w4 := (HR.out.ext (by repeat (first | exact Ext.refl _ | refine Ext.setCell ?_ (by first | exact Nat.le_refl _ | (simp; done) | (simp; omega)) _ | refine Ext.drew ?_ | refine Ext.drewN ?_ _ | refine Ext.alloc ?_ _))).ext hb4; have e4_0 : w4.cell? ⟨wr.heap.size, 0, none⟩ = some (.int .u8 (K k)) := hb4.keep (Lib.cell_of_heap (heap_alloc_new wr _) 0); have e4_1 : w4.cell? ⟨wr.heap.size, 1, none⟩ = some (.int .i64 (S k)) := hb4.keep (Lib.cell_of_heap (heap_alloc_new wr _) 1); have e4_2 : w4.cell? ⟨wr.heap.size, 2, none⟩ = some (.int .u8 (L k)) := hb4.keep (Lib.cell_of_heap (heap_alloc_new wr _) 2); have hl4x : wr.heap.size < w4.heap.size := cell_lt e4_0) | (go_at_call 16; refine (ask_any p R (S k) (L k) _ (room_alloc hr4)).mono ?_; rintro e w5 ⟨rfl, hr5, ht5⟩; rw [HRR.out] at hr5; have hx5 : Ext w w5 := ht5.then (Ext.alloc hx4 _) hpw; have hbx5 : BoxAt bx R w5 := (box_alloc hbx4).turn ht5 hbp; have hl5 := hbx5.lt; have hne6 : w4.heap.size ≠ p := (by have := hr4.lt; omega); have t5_0 : w5.cell? ⟨w4.heap.size, 0, none⟩ = some (.int .i64 R'.m) := ht5.keep hne6 (Lib.cell_of_heap (heap_alloc_new w4 _) 0); have t5_1 : w5.cell? ⟨w4.heap.size, 1, none⟩ = some (.int .i64 R'.l0) := ht5.keep hne6 (Lib.cell_of_heap (heap_alloc_new w4 _) 1); have t5_2 : w5.cell? ⟨w4.heap.size, 2, none⟩ = some (.int .i64 R'.l1) := ht5.keep hne6 (Lib.cell_of_heap (heap_alloc_new w4 _) 2); have t5_3 : w5.cell? ⟨w4.heap.size, 3, none⟩ = some (.int .i64 R'.w0) := ht5.keep hne6 (Lib.cell_of_heap (heap_alloc_new w4 _) 3); have t5_4 : w5.cell? ⟨w4.heap.size, 4, none⟩ = some (.int .i64 R'.w1) := ht5.keep hne6 (Lib.cell_of_heap (heap_alloc_new w4 _) 4); have t5_5 : w5.cell? ⟨w4.heap.size, 5, none⟩ = some (.int .i64 R'.x0) := ht5.keep hne6 (Lib.cell_of_heap (heap_alloc_new w4 _) 5); have t5_6 : w5.cell? ⟨w4.heap.size, 6, none⟩ = some (.int .i64 R'.x1) := ht5.keep hne6 (Lib.cell_of_heap (heap_alloc_new w4 _) 6); have t5_7 : w5.cell? ⟨w4.heap.size, 7, none⟩ = some (.int .i64 R'.o0) := ht5.keep hne6 (Lib.cell_of_heap (heap_alloc_new w4 _) 7); have t5_8 : w5.cell? ⟨w4.heap.size, 8, none⟩ = some (.int .i64 R'.o1) := ht5.keep hne6 (Lib.cell_of_heap (heap_alloc_new w4 _) 8); have t5_9 : w5.cell? ⟨w4.heap.size, 9, none⟩ = some (.int .i64 R'.a) := ht5.keep hne6 (Lib.cell_of_heap (heap_alloc_new w4 _) 9); have t5_10 : w5.cell? ⟨w4.heap.size, 10, none⟩ = some (.int .u8 R'.c) := ht5.keep hne6 (Lib.cell_of_heap (heap_alloc_new w4 _) 10); obtain ⟨g5_0, g5_1, g5_2, g5_3, g5_4, g5_5, g5_6, g5_7, g5_8, g5_9, g5_10⟩ := hbx5.all; have y5_0 := hbx5.fz 0; have y5_1 := hbx5.fz 1; have y5_2 := hbx5.fz 2; have y5_3 := hbx5.fz 3; have y5_4 := hbx5.fz 4; have y5_5 := hbx5.fz 5; have y5_6 := hbx5.fz 6; have y5_7 := hbx5.fz 7; have y5_8 := hbx5.fz 8; have y5_9 := hbx5.fz 9; have y5_10 := hbx5.fz 10) | (go_at_call 17; refine (same_any p R' _ (room_set (b := bx) (j := 10) (room_set (b := bx) (j := 9) (room_set (b := bx) (j := 8) (room_set (b := bx) (j := 7) (room_set (b := bx) (j := 6) (room_set (b := bx) (j := 5) (room_set (b := bx) (j := 4) (room_set (b := bx) (j := 3) (room_set (b := bx) (j := 2) (room_set (b := bx) (j := 1) (room_set (b := bx) (j := 0) hr5 (Ne.symm hbp)) (Ne.symm hbp)) (Ne.symm hbp)) (Ne.symm hbp)) (Ne.symm hbp)) (Ne.symm hbp)) (Ne.symm hbp)) (Ne.symm hbp)) (Ne.symm hbp)) (Ne.symm hbp)) (Ne.symm hbp)) HSM2.out (HX.out.ext (Below.setCell (p := ⟨bx, 10, none⟩) (Below.setCell (p := ⟨bx, 9, none⟩) (Below.setCell (p := ⟨bx, 8, none⟩) (Below.setCell (p := ⟨bx, 7, none⟩) (Below.setCell (p := ⟨bx, 6, none⟩) (Below.setCell (p := ⟨bx, 5, none⟩) (Below.setCell (p := ⟨bx, 4, none⟩) (Below.setCell (p := ⟨bx, 3, none⟩) (Below.setCell (p := ⟨bx, 2, none⟩) (Below.setCell (p := ⟨bx, 1, none⟩) (Below.setCell (p := ⟨bx, 0, none⟩) hx5 hbw _) hbw _) hbw _) hbw _) hbw _) hbw _) hbw _) hbw _) hbw _) hbw _) hbw _))).mono ?_; rintro e w9 ⟨rfl, hb9⟩; have HQ9 : RoomAt p R' w9 := (by refine RoomAt.ext ?_ hb9; exact (room_set (b := bx) (j := 10) (room_set (b := bx) (j := 9) (room_set (b := bx) (j := 8) (room_set (b := bx) (j := 7) (room_set (b := bx) (j := 6) (room_set (b := bx) (j := 5) (room_set (b := bx) (j := 4) (room_set (b := bx) (j := 3) (room_set (b := bx) (j := 2) (room_set (b := bx) (j := 1) (room_set (b := bx) (j := 0) hr5 (Ne.symm hbp)) (Ne.symm hbp)) (Ne.symm hbp)) (Ne.symm hbp)) (Ne.symm hbp)) (Ne.symm hbp)) (Ne.symm hbp)) (Ne.symm hbp)) (Ne.symm hbp)) (Ne.symm hbp)) (Ne.symm hbp))); have HB9 : BoxAt bx R' w9 := (by refine BoxAt.ext ?_ hb9; exact (BoxAt.put hbx5 R')); have HX9 : Ext w w9 := (by refine Ext.trans ?_ hb9; exact (Below.setCell (p := ⟨bx, 10, none⟩) (Below.setCell (p := ⟨bx, 9, none⟩) (Below.setCell (p := ⟨bx, 8, none⟩) (Below.setCell (p := ⟨bx, 7, none⟩) (Below.setCell (p := ⟨bx, 6, none⟩) (Below.setCell (p := ⟨bx, 5, none⟩) (Below.setCell (p := ⟨bx, 4, none⟩) (Below.setCell (p := ⟨bx, 3, none⟩) (Below.setCell (p := ⟨bx, 2, none⟩) (Below.setCell (p := ⟨bx, 1, none⟩) (Below.setCell (p := ⟨bx, 0, none⟩) hx5 hbw _) hbw _) hbw _) hbw _) hbw _) hbw _) hbw _) hbw _) hbw _) hbw _) hbw _))))
          go_roundw
          case rel => exact ⟨k + 1, R', by omega, by go_num, HQ9, HB9, HBD2.out, HX9⟩
          case measure => simp [intOf]; omega
    · obtain rfl : k = n := by omega
      have HSM2 : Hid R.small := hbd.small (by omega)
      obtain ⟨g6_0, g6_1, g6_2, g6_3, g6_4, g6_5, g6_6, g6_7, g6_8, g6_9, g6_10⟩ := HBX.out.all
      clear hbd
      go_wp2_with (go_at_call 17; refine (same_any p R _ HR.out HSM2.out (HX.out.ext hE)).mono ?_; rintro e w9 ⟨rfl, hb9⟩)
      go_ret
      exact ⟨rfl, hE.trans hb9⟩

end Go.Proofs.YtppoejhfemolfaaDoor

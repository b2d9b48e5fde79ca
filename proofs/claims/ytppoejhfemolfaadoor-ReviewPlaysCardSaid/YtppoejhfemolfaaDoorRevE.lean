/-
  awake of the statements on layer 36.
-/
import Derived.Test.YtppoejhfemolfaaDoorRevD
namespace Go.Proofs.YtppoejhfemolfaaDoor
open Go.RowKit
set_option linter.unusedSimpArgs false

def avV : Nat → Int := fun k => [3, 2, 1].getD k 0
def avC : Nat → Int := fun k => [1, 2, 1].getD k 0
def avR : Nat → Rm
  | 0 => newR 1
  | k + 1 => decR (askR (avR k) 1 1) (avV k)
theorem av_ask : askE (avR 0) 1 1 = 0 ∧ askE (avR 1) 1 1 = 0 ∧ askE (avR 2) 1 1 = 0 ∧ askE (avR 3) 1 1 = 9 := by decide +kernel
theorem av_dec : decE (askR (avR 0) 1 1) 3 = 0 ∧ decE (askR (avR 1) 1 1) 2 = 0 ∧ decE (askR (avR 2) 1 1) 1 = 0 := by decide +kernel
theorem av_call : decC (askR (avR 0) 1 1) 3 = 1 ∧ decC (askR (avR 1) 1 1) 2 = 2 ∧ decC (askR (avR 2) 1 1) 1 = 1 := by decide +kernel
theorem av_txt : txTo (askR (avR 3) 1 1) 2 = [49, 32, 48, 32, 51, 32, 49, 32, 49, 32, 49, 10, 50, 32, 49, 32, 48, 32, 48, 32, 48, 32, 48, 10] := by decide +kernel
theorem small_of {R : Rm} (h : (decide (-1000000 ≤ R.l0 ∧ R.l0 ≤ 1000000) && decide (-1000000 ≤ R.w0 ∧ R.w0 ≤ 1000000) && decide (-1000000 ≤ R.x0 ∧ R.x0 ≤ 1000000) && decide (-1000000 ≤ R.o0 ∧ R.o0 ≤ 1000000) && decide (-1000000 ≤ R.l1 ∧ R.l1 ≤ 1000000) && decide (-1000000 ≤ R.w1 ∧ R.w1 ≤ 1000000) && decide (-1000000 ≤ R.x1 ∧ R.x1 ≤ 1000000) && decide (-1000000 ≤ R.o1 ∧ R.o1 ≤ 1000000) && (R.a == 0 || R.a == 1 || R.a == 2)) = true) : R.small := by
  simp only [Bool.and_eq_true, decide_eq_true_eq, Bool.or_eq_true, beq_iff_eq] at h
  obtain ⟨⟨⟨⟨⟨⟨⟨⟨h1, h2⟩, h3⟩, h4⟩, h5⟩, h6⟩, h7⟩, h8⟩, h9⟩ := h
  exact ⟨h1, h2, h3, h4, h5, h6, h7, h8, by omega⟩
theorem av_small : (askR (avR 0) 1 1).small ∧ (askR (avR 1) 1 1).small ∧ (askR (avR 2) 1 1).small ∧ (askR (avR 3) 1 1).small :=
  ⟨small_of (by decide +kernel), small_of (by decide +kernel), small_of (by decide +kernel), small_of (by decide +kernel)⟩
def avRow : Array Value := #[.int .u8 3, .int .u8 1, .int .u8 2, .int .u8 2, .int .u8 1, .int .u8 1]

set_option maxHeartbeats 16000000 in
theorem awake_any (w : World) (hX : TX w) : Calls Tryd.prog 8 #[] w fun e w' => e = .returned (.bool true) ∧ Ext w w' := by
  have HX := Lib.hid hX
  have HA := Lib.hid av_ask
  have HD := Lib.hid av_dec
  have HC := Lib.hid av_call
  have HT := Lib.hid av_txt
  have HS := Lib.hid av_small
  clear hX
  go_enter Tryd.func8, Tryd.ntmps8
  go_wp2_with (go_at_call 9; refine (new_any 1 _ (by decide) (by decide)).mono ?_; rintro e w1 ⟨rfl, hr1, hb1⟩)
  go_loopw [22] (fun i wr => ∃ k : Nat, k ≤ 3 ∧ i = .int .i64 k ∧ RoomAt w.heap.size (avR k) wr ∧ wr.heap[w1.heap.size]? = some (.cells avRow 52 (0, 0)) ∧ Ext w wr ∧ w.heap.size < w1.heap.size) (fun i _ => 3 - (intOf i).toNat)
  case atStart => exact ⟨0, by omega, rfl, hr1.ext (by repeat (first | exact Ext.refl _ | refine Ext.setCell ?_ (by first | exact Nat.le_refl _ | (simp; done) | (simp; omega)) _ | refine Ext.drew ?_ | refine Ext.drewN ?_ _ | refine Ext.alloc ?_ _)), heap_alloc_new w1 _, (by repeat (first | exact Ext.refl _ | refine Ext.setCell ?_ (by first | exact Nat.le_refl _ | (simp; done) | (simp; omega)) _ | refine Ext.drew ?_ | refine Ext.drewN ?_ _ | refine Ext.alloc ?_ _ | refine Ext.trans ?_ hb1)), hr1.lt⟩
  case round =>
    obtain ⟨k, hk, rfl, hR, hrow, hE, hlt1⟩ := hrel
    by_cases hk3 : k = 3
    · subst hk3
      clear hrow
      go_wp2_with (first | (go_at_call 16; refine (ask_any w.heap.size (avR 3) 1 1 _ hR).mono ?_; rintro e w2 ⟨rfl, hr2, ht2⟩; rw [HA.out.2.2.2]) | (go_at_call 22; refine (text_any w.heap.size _ _ hr2 HS.out.2.2.2 (HX.out.ext (ht2.then hE (Nat.le_refl _)))).mono ?_; rintro e w3 ⟨rfl, hb3⟩; rw [HT.out]))
      go_ret
      exact ⟨retb (by first | rfl | simp), (ht2.then hE (Nat.le_refl _)).trans hb3⟩
    · have hcs : k = 0 ∨ k = 1 ∨ k = 2 := by omega
      clear hk3 hk
      have hne : w.heap.size ≠ w1.heap.size := by omega
      have hwr : w.heap.size < wr.heap.size := hR.lt
      have HROW := Lib.hid hrow
      rcases hcs with rfl | rfl | rfl
      · have c0 : wr.cell? ⟨w1.heap.size, 0, none⟩ = some (.int .u8 3) := Lib.cell_of_heap hrow 0
        have c1 : wr.cell? ⟨w1.heap.size, 1, none⟩ = some (.int .u8 1) := Lib.cell_of_heap hrow 1
        clear hrow
        go_wp2_with (first | ((fail_if_success (have hzz := ht2)); go_at_call 16; refine (ask_any w.heap.size (avR 0) 1 1 _ (hR.ext (by repeat (first | exact Ext.refl _ | refine Ext.setCell ?_ (by first | exact Nat.le_refl _ | (simp; done) | (simp; omega)) _ | refine Ext.drew ?_ | refine Ext.drewN ?_ _ | refine Ext.alloc ?_ _)))).mono ?_; rintro e w2 ⟨rfl, hr2, ht2⟩; rw [HA.out.1]; have hbox := ht2.other wr.heap.size _ (by omega) (heap_alloc_new wr _); have d0 : w2.cell? ⟨wr.heap.size, 0, none⟩ = some (.int .u8 3) := Lib.cell_of_heap hbox 0) | ((fail_if_success (have hzz := ht3)); go_at_call 11; refine (decide_any w.heap.size _ 3 _ hr2 HS.out.1).mono ?_; rintro e w3 ⟨rfl, hr3, ht3⟩; rw [HD.out.1, HC.out.1]; have hbox3 := ht3.other wr.heap.size _ (by omega) hbox; have d1 : w3.cell? ⟨wr.heap.size, 1, none⟩ = some (.int .u8 1) := Lib.cell_of_heap hbox3 1))
        go_roundw
        case rel => exact ⟨1, by omega, by go_num, hr3, ht3.other w1.heap.size _ (Ne.symm hne) (ht2.other w1.heap.size _ (Ne.symm hne) ((Below.heap_alloc wr _ _ (Array.getElem?_eq_some_iff.1 HROW.out).1).trans HROW.out)), ht3.then (ht2.then (by repeat (first | exact hE | refine Ext.setCell ?_ (by first | exact Nat.le_refl _ | (simp; done) | (simp; omega)) _ | refine Ext.drew ?_ | refine Ext.drewN ?_ _ | refine Ext.alloc ?_ _)) (Nat.le_refl _)) (Nat.le_refl _), hlt1⟩
        case measure => simp [intOf]
      · have c0 : wr.cell? ⟨w1.heap.size, 2, none⟩ = some (.int .u8 2) := Lib.cell_of_heap hrow 2
        have c1 : wr.cell? ⟨w1.heap.size, 3, none⟩ = some (.int .u8 2) := Lib.cell_of_heap hrow 3
        clear hrow
        go_wp2_with (first | ((fail_if_success (have hzz := ht2)); go_at_call 16; refine (ask_any w.heap.size (avR 1) 1 1 _ (hR.ext (by repeat (first | exact Ext.refl _ | refine Ext.setCell ?_ (by first | exact Nat.le_refl _ | (simp; done) | (simp; omega)) _ | refine Ext.drew ?_ | refine Ext.drewN ?_ _ | refine Ext.alloc ?_ _)))).mono ?_; rintro e w2 ⟨rfl, hr2, ht2⟩; rw [HA.out.2.1]; have hbox := ht2.other wr.heap.size _ (by omega) (heap_alloc_new wr _); have d0 : w2.cell? ⟨wr.heap.size, 0, none⟩ = some (.int .u8 2) := Lib.cell_of_heap hbox 0) | ((fail_if_success (have hzz := ht3)); go_at_call 11; refine (decide_any w.heap.size _ 2 _ hr2 HS.out.2.1).mono ?_; rintro e w3 ⟨rfl, hr3, ht3⟩; rw [HD.out.2.1, HC.out.2.1]; have hbox3 := ht3.other wr.heap.size _ (by omega) hbox; have d1 : w3.cell? ⟨wr.heap.size, 1, none⟩ = some (.int .u8 2) := Lib.cell_of_heap hbox3 1))
        go_roundw
        case rel => exact ⟨2, by omega, by go_num, hr3, ht3.other w1.heap.size _ (Ne.symm hne) (ht2.other w1.heap.size _ (Ne.symm hne) ((Below.heap_alloc wr _ _ (Array.getElem?_eq_some_iff.1 HROW.out).1).trans HROW.out)), ht3.then (ht2.then (by repeat (first | exact hE | refine Ext.setCell ?_ (by first | exact Nat.le_refl _ | (simp; done) | (simp; omega)) _ | refine Ext.drew ?_ | refine Ext.drewN ?_ _ | refine Ext.alloc ?_ _)) (Nat.le_refl _)) (Nat.le_refl _), hlt1⟩
        case measure => simp [intOf]
      · have c0 : wr.cell? ⟨w1.heap.size, 4, none⟩ = some (.int .u8 1) := Lib.cell_of_heap hrow 4
        have c1 : wr.cell? ⟨w1.heap.size, 5, none⟩ = some (.int .u8 1) := Lib.cell_of_heap hrow 5
        clear hrow
        go_wp2_with (first | ((fail_if_success (have hzz := ht2)); go_at_call 16; refine (ask_any w.heap.size (avR 2) 1 1 _ (hR.ext (by repeat (first | exact Ext.refl _ | refine Ext.setCell ?_ (by first | exact Nat.le_refl _ | (simp; done) | (simp; omega)) _ | refine Ext.drew ?_ | refine Ext.drewN ?_ _ | refine Ext.alloc ?_ _)))).mono ?_; rintro e w2 ⟨rfl, hr2, ht2⟩; rw [HA.out.2.2.1]; have hbox := ht2.other wr.heap.size _ (by omega) (heap_alloc_new wr _); have d0 : w2.cell? ⟨wr.heap.size, 0, none⟩ = some (.int .u8 1) := Lib.cell_of_heap hbox 0) | ((fail_if_success (have hzz := ht3)); go_at_call 11; refine (decide_any w.heap.size _ 1 _ hr2 HS.out.2.2.1).mono ?_; rintro e w3 ⟨rfl, hr3, ht3⟩; rw [HD.out.2.2, HC.out.2.2]; have hbox3 := ht3.other wr.heap.size _ (by omega) hbox; have d1 : w3.cell? ⟨wr.heap.size, 1, none⟩ = some (.int .u8 1) := Lib.cell_of_heap hbox3 1))
        go_roundw
        case rel => exact ⟨3, by omega, by go_num, hr3, ht3.other w1.heap.size _ (Ne.symm hne) (ht2.other w1.heap.size _ (Ne.symm hne) ((Below.heap_alloc wr _ _ (Array.getElem?_eq_some_iff.1 HROW.out).1).trans HROW.out)), ht3.then (ht2.then (by repeat (first | exact hE | refine Ext.setCell ?_ (by first | exact Nat.le_refl _ | (simp; done) | (simp; omega)) _ | refine Ext.drew ?_ | refine Ext.drewN ?_ _ | refine Ext.alloc ?_ _)) (Nat.le_refl _)) (Nat.le_refl _), hlt1⟩
        case measure => simp [intOf]

end Go.Proofs.YtppoejhfemolfaaDoor

/-
  The reference's Decimal at any number of places; the law ExactDecimals, walked.
-/
import Derived.Test.YtgeaibjbkpfgmaaDoorExaM
namespace Go.Proofs.YtgeaibjbkpfgmaaDoor
open Go.RowKit
set_option linter.unusedSimpArgs false

set_option maxHeartbeats 2000000 in
theorem rdecimal_any (x y k : Int) (w : World) :
    Calls Tryd.prog 20 #[.agg #[.int .i64 x, .int .i64 y], .int .i64 k] w fun e w' => e = .returned (.tuple #[.string ⟨(decS x y k).toArray⟩, .int .i64 (decE x y k)]) ∧ Ext w w' := by
  rcases and1 (validB x y) with h1 | h1
  · have HV : Hid (decS x y k = [] ∧ decE x y k = 1) := by simp [Hid, decS, decE, h1]
    (
      have X1 := Lib.hid h1
      clear h1
      go_enter Tryd.func20, Tryd.ntmps20
      go_wp2_with (first | ((fail_if_success (have hzz := hb1)); go_at_call 18; refine (rvalid_any _ _  _).mono ?_; rintro e w1 ⟨rfl, hb1⟩; obtain ⟨hc1, hf1⟩ := hb1.cells; (try (have l1_0 : w.heap.size < w1.heap.size := hb1.lt (by first | (simp; done) | (simp; omega) | (simp [go_sem]; done) | (simp [go_sem]; omega) | omega))); (try (have m1_0 : w.heap.size ≤ w1.heap.size := Nat.le_of_lt l1_0)); rw [X1.out]))
      go_ret2
      exact ⟨by rw [HV.out.1, HV.out.2]; rfl, (by repeat (first | exact Ext.refl _ | refine Ext.setCell ?_ (by first | exact Nat.le_refl _ | (simp; done) | (simp; omega)) _ | refine Ext.drew ?_ | refine Ext.drewN ?_ _ | refine Ext.alloc ?_ _ | refine Ext.trans ?_ hb1))⟩
    )
  · rcases plR_or k with h2 | ⟨h2, h3⟩ | ⟨h2, h3⟩
    · have HV : Hid (decS x y k = [] ∧ decE x y k = 2) := by
        have : plR k = false := by simp [plR]; omega
        simp [Hid, decS, decE, h1, this]
      have X1 := Lib.hid h1
      clear h1
      go_enter Tryd.func20, Tryd.ntmps20
      go_wp2_with (first | ((fail_if_success (have hzz := hb1)); go_at_call 18; refine (rvalid_any _ _  _).mono ?_; rintro e w1 ⟨rfl, hb1⟩; obtain ⟨hc1, hf1⟩ := hb1.cells; (try (have l1_0 : w.heap.size < w1.heap.size := hb1.lt (by first | (simp; done) | (simp; omega) | (simp [go_sem]; done) | (simp [go_sem]; omega) | omega))); (try (have m1_0 : w.heap.size ≤ w1.heap.size := Nat.le_of_lt l1_0)); rw [X1.out]))
      go_ret2
      exact ⟨by rw [HV.out.1, HV.out.2]; rfl, (by repeat (first | exact Ext.refl _ | refine Ext.setCell ?_ (by first | exact Nat.le_refl _ | (simp; done) | (simp; omega)) _ | refine Ext.drew ?_ | refine Ext.drewN ?_ _ | refine Ext.alloc ?_ _ | refine Ext.trans ?_ hb1))⟩
    · have HV : Hid (decS x y k = [] ∧ decE x y k = 2) := by
        have : plR k = false := by simp [plR]; omega
        simp [Hid, decS, decE, h1, this]
      have X1 := Lib.hid h1
      clear h1
      go_enter Tryd.func20, Tryd.ntmps20
      go_wp2_with (first | ((fail_if_success (have hzz := hb1)); go_at_call 18; refine (rvalid_any _ _  _).mono ?_; rintro e w1 ⟨rfl, hb1⟩; obtain ⟨hc1, hf1⟩ := hb1.cells; (try (have l1_0 : w.heap.size < w1.heap.size := hb1.lt (by first | (simp; done) | (simp; omega) | (simp [go_sem]; done) | (simp [go_sem]; omega) | omega))); (try (have m1_0 : w.heap.size ≤ w1.heap.size := Nat.le_of_lt l1_0)); rw [X1.out]))
      go_ret2
      exact ⟨by rw [HV.out.1, HV.out.2]; rfl, (by repeat (first | exact Ext.refl _ | refine Ext.setCell ?_ (by first | exact Nat.le_refl _ | (simp; done) | (simp; omega)) _ | refine Ext.drew ?_ | refine Ext.drewN ?_ _ | refine Ext.alloc ?_ _ | refine Ext.trans ?_ hb1))⟩
    · have hp : plR k = true := by simp [plR]; omega
      obtain ⟨m, rfl⟩ := Int.eq_ofNat_of_zero_le h2
      have e1 : decS x y m = decL x y m := by simp [decS, h1, hp]
      have e2 : decE x y m = 0 := by simp [decE, h1, hp]
      rw [e1, e2]
      exact rdecimal_main x y m h1 (by omega) w

set_option maxHeartbeats 4000000 in
theorem exactDecimals_any (x y k : Int) (w : World) (hT : TX w) : Calls Tryd.prog 4 #[.agg #[.int .i64 x, .int .i64 y], .int .i64 k] w fun e w' => e = .returned (.bool true) ∧ Ext w w' := by
  have HT := Lib.hid hT
  clear hT
  go_enter Tryd.func4, Tryd.ntmps4
  go_wp2_with (first | ((fail_if_success (have hzz := hb1)); go_at_call 12; refine (awake_any _ (HT.out.ext (by repeat (first | exact Ext.refl _ | refine Ext.alloc ?_ _)))).mono ?_; rintro e w1 ⟨rfl, hb1⟩; obtain ⟨hc1, hf1⟩ := hb1.cells; (try (have l1_0 : w.heap.size < w1.heap.size := hb1.lt (by first | (simp; done) | (simp; omega) | (simp [go_sem]; done) | (simp [go_sem]; omega) | omega))); (try (have m1_0 : w.heap.size ≤ w1.heap.size := Nat.le_of_lt l1_0))) | ((fail_if_success (have hzz := hb2)); go_at_call 19; refine (decimal_any _ _ _ _ (HT.out.ext (by repeat (first | exact Ext.refl _ | refine Ext.alloc ?_ _ | refine Ext.trans ?_ hb1)))).mono ?_; rintro e w2 ⟨rfl, hb2⟩; obtain ⟨hc2, hf2⟩ := hb2.cells; (try (have l2_0 : w.heap.size < w2.heap.size := hb2.lt (by first | (simp; done) | (simp; omega) | (simp [go_sem]; done) | (simp [go_sem]; omega) | omega))); (try (have m2_0 : w.heap.size ≤ w2.heap.size := Nat.le_of_lt l2_0))) | ((fail_if_success (have hzz := hb3)); go_at_call 20; refine (rdecimal_any _ _ _  _).mono ?_; rintro e w3 ⟨rfl, hb3⟩; obtain ⟨hc3, hf3⟩ := hb3.cells; (try (have l3_0 : w.heap.size < w3.heap.size := hb3.lt (by first | (simp; done) | (simp; omega) | (simp [go_sem]; done) | (simp [go_sem]; omega) | omega))); (try (have m3_0 : w.heap.size ≤ w3.heap.size := Nat.le_of_lt l3_0))))
  go_ret
  exact ⟨retb (by first | rfl | simp), (by repeat (first | exact Ext.refl _ | refine Ext.setCell ?_ (by first | exact Nat.le_refl _ | (simp; done) | (simp; omega)) _ | refine Ext.drew ?_ | refine Ext.drewN ?_ _ | refine Ext.alloc ?_ _ | refine Ext.trans ?_ hb3 | refine Ext.trans ?_ hb2 | refine Ext.trans ?_ hb1))⟩

end Go.Proofs.YtgeaibjbkpfgmaaDoor

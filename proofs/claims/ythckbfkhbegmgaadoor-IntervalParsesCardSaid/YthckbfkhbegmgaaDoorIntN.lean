/-
  Contracts of the reference of layer 2: size, Sub from 0, Neg, of, Scale, Mul; Times of layer 29's reference; the law IntervalScales.
-/
import Derived.Test.YthckbfkhbegmgaaDoorIntM
namespace Go.Proofs.YthckbfkhbegmgaaDoor
open Go.RowKit
set_option linter.unusedSimpArgs false

set_option maxHeartbeats 2000000 in
theorem r2size_any (a : Int) (h : -9223372036854775808 ≤ a) (h' : a ≤ 9223372036854775807) (w : World) :
    Calls Tryd.prog 31 #[.agg #[.int .i64 (whi a), .int .u64 (wlo a)]] w fun e w' => e = .returned (.agg #[.int .u64 (absI a % 4294967296), .int .u64 (absI a / 4294967296), .int .u64 0, .int .u64 0]) ∧ Ext w w' := by
  have hs : IntKind.u64.signed = false := rfl
  have hm : IntKind.u64.max = 18446744073709551615 := by decide
  have hz : bits .and .u64 0 4294967295 = 0 := and_low 0 (by omega) (by omega)
  by_cases hn : a < 0
  · have HV : Hid (absI a = -a) := by simp [Hid, absI, hn]
    have e1 : whi a = -1 := by unfold whi; omega
    obtain ⟨L, hL⟩ : ∃ L : Int, wlo a = L := ⟨_, rfl⟩
    obtain ⟨P, hP⟩ : ∃ P : Int, -a = P := ⟨_, rfl⟩
    have hL' : L = a + 18446744073709551616 := by rw [← hL]; unfold wlo; omega
    rw [HV.out, e1, hL, hP]
    have hx1 : bits .xor .u64 18446744073709551615 18446744073709551615 = 0 := not_int _ (by omega) (by omega)
    have hx2 : bits .xor .u64 18446744073709551615 L = 18446744073709551615 - L := not_int _ (by omega) (by omega)
    have hw : IntKind.u64.wrap (18446744073709551615 - L + 1) = P := by rw [IntKind.wrap_u64]; omega
    have hw1 : IntKind.u64.wrap (-1) = 18446744073709551615 := by decide
    have hand := and_low P (by omega) (by omega)
    have h0 : (P == 0) = false := by simp; omega
    clear hL hL' e1
    go_enter Tryd.func31, Tryd.ntmps31
    go_wp2
    go_quiet (fail)
    go_wp2
    refine bodyPost_ret (v := .agg #[.int .u64 (P % 4294967296), .int .u64 (P / 4294967296), .int .u64 0, .int .u64 0]) (by simp [results, Tryd.results31, go_sem, *]) rfl ?_
    exact ⟨rfl, (by repeat (first | exact Ext.refl _ | refine Ext.setCell ?_ (by first | (simp; done) | (simp; omega)) _ | refine Ext.drew ?_ | refine Ext.drewN ?_ _ | refine Ext.alloc ?_ _))⟩
  · have HV : Hid (absI a = a) := by simp [Hid, absI, hn]
    have e1 : whi a = 0 := by unfold whi; omega
    have e2 : wlo a = a := by unfold wlo; omega
    rw [HV.out, e1, e2]
    have hand := and_low a (by omega) (by omega)
    have hw0 : IntKind.u64.wrap 0 = 0 := by decide
    clear e1 e2
    go_enter Tryd.func31, Tryd.ntmps31
    go_wp2
    go_quiet (fail)
    go_wp2
    refine bodyPost_ret (v := .agg #[.int .u64 (a % 4294967296), .int .u64 (a / 4294967296), .int .u64 0, .int .u64 0]) (by simp [results, Tryd.results31, go_sem, *]) rfl ?_
    exact ⟨rfl, (by repeat (first | exact Ext.refl _ | refine Ext.setCell ?_ (by first | (simp; done) | (simp; omega)) _ | refine Ext.drew ?_ | refine Ext.drewN ?_ _ | refine Ext.alloc ?_ _))⟩

set_option maxHeartbeats 2000000 in
theorem r2sub0_any (hi lo : Int) (hh : 0 ≤ hi) (hh' : hi < 9223372036854775808) (hl : 0 ≤ lo) (hl' : lo < 18446744073709551616) (w : World) :
    Calls Tryd.prog 37 #[.agg #[.int .i64 0, .int .u64 0], .agg #[.int .i64 hi, .int .u64 lo]] w fun e w' => e = .returned (.tuple #[.agg #[.int .i64 (whi (-(hi * 18446744073709551616 + lo))), .int .u64 (wlo (-(hi * 18446744073709551616 + lo)))], .bool true]) ∧ Ext w w' := by
  have hw0 : IntKind.u64.wrap 0 = 0 := by decide
  have hwh : IntKind.u64.wrap hi = hi := IntWalk.u64_in _ (by omega)
  obtain ⟨X, hX⟩ : ∃ X : Int, IntKind.u64.wrap (0 - hi) = X := ⟨_, rfl⟩
  have hX' : X = (0 - hi) % 18446744073709551616 := by rw [← hX, IntKind.wrap_u64]
  have hX2 : IntKind.u64.wrap (-hi) = X := by rw [← hX, show 0 - hi = -hi by omega]
  by_cases h0 : lo = 0
  · subst h0
    have HV : Hid (whi (-(hi * 18446744073709551616 + 0)) = -hi ∧ wlo (-(hi * 18446744073709551616 + 0)) = 0) := by unfold Hid whi wlo; omega
    have hW : wrap64 X = -hi := by rw [wrap64_eq, IntKind.wrap_i64]; omega
    clear hX'
    go_enter Tryd.func37, Tryd.ntmps37
    go_wp2
    refine bodyPost_ret (v := .tuple #[.agg #[.int .i64 (-hi), .int .u64 0], .bool true]) (by simp [results, Tryd.results37, go_sem, *]) rfl ?_
    exact ⟨retwb (by simpa using HV.out.1.symm) (by simpa using HV.out.2.symm), (by repeat (first | exact Ext.refl _ | refine Ext.setCell ?_ (by first | (simp; done) | (simp; omega)) _ | refine Ext.drew ?_ | refine Ext.drewN ?_ _ | refine Ext.alloc ?_ _))⟩
  · have HV : Hid (whi (-(hi * 18446744073709551616 + lo)) = -1 - hi ∧ wlo (-(hi * 18446744073709551616 + lo)) = 18446744073709551616 - lo) := by unfold Hid whi wlo; omega
    obtain ⟨Y, hY⟩ : ∃ Y : Int, IntKind.u64.wrap (X - 1) = Y := ⟨_, rfl⟩
    have hY' : Y = (X - 1) % 18446744073709551616 := by rw [← hY, IntKind.wrap_u64]
    have hW : wrap64 Y = -1 - hi := by rw [wrap64_eq, IntKind.wrap_i64]; omega
    have hZ : IntKind.u64.wrap (0 - lo) = 18446744073709551616 - lo := by rw [IntKind.wrap_u64]; omega
    have hZ2 : IntKind.u64.wrap (-lo) = 18446744073709551616 - lo := by rw [IntKind.wrap_u64]; omega
    have hl0 : 0 < lo := by omega
    clear hX' hY'
    go_enter Tryd.func37, Tryd.ntmps37
    go_wp2
    refine bodyPost_ret (v := .tuple #[.agg #[.int .i64 (-1 - hi), .int .u64 (18446744073709551616 - lo)], .bool true]) (by simp [results, Tryd.results37, go_sem, *]) rfl ?_
    exact ⟨retwb HV.out.1.symm HV.out.2.symm, (by repeat (first | exact Ext.refl _ | refine Ext.setCell ?_ (by first | (simp; done) | (simp; omega)) _ | refine Ext.drew ?_ | refine Ext.drewN ?_ _ | refine Ext.alloc ?_ _))⟩

set_option maxHeartbeats 1000000 in
theorem r2neg_any (hi lo : Int) (hh : 0 ≤ hi) (hh' : hi < 9223372036854775808) (hl : 0 ≤ lo) (hl' : lo < 18446744073709551616) (w : World) :
    Calls Tryd.prog 38 #[.agg #[.int .i64 hi, .int .u64 lo]] w fun e w' => e = .returned (.tuple #[.agg #[.int .i64 (whi (-(hi * 18446744073709551616 + lo))), .int .u64 (wlo (-(hi * 18446744073709551616 + lo)))], .bool true]) ∧ Ext w w' := by
  go_enter Tryd.func38, Tryd.ntmps38
  go_wp2_with (first | ((fail_if_success (have hzz := hb1)); go_at_call 37; refine (r2sub0_any _ _ (by assumption) (by assumption) (by assumption) (by assumption) _).mono ?_; rintro e w1 ⟨rfl, hb1⟩; obtain ⟨hc1, hf1⟩ := hb1.cells; (try (have l1_0 : w.heap.size < w1.heap.size := hb1.lt (by first | (simp; done) | (simp; omega) | (simp [go_sem]; done) | (simp [go_sem]; omega) | omega))); (try (have m1_0 : w.heap.size ≤ w1.heap.size := Nat.le_of_lt l1_0)); (try (have l1_1 : w.heap.size + 1 < w1.heap.size := hb1.lt (by first | (simp; done) | (simp; omega) | (simp [go_sem]; done) | (simp [go_sem]; omega) | omega))); (try (have m1_1 : w.heap.size + 1 ≤ w1.heap.size := Nat.le_of_lt l1_1))))
  refine bodyPost_ret (v := .tuple #[.agg #[.int .i64 (whi (-(hi * 18446744073709551616 + lo))), .int .u64 (wlo (-(hi * 18446744073709551616 + lo)))], .bool true]) (by simp [results, Tryd.results38, go_sem, *]) rfl ?_
  exact ⟨rfl, (by repeat (first | exact Ext.refl _ | refine Ext.setCell ?_ (by first | exact Nat.le_refl _ | (simp; done) | (simp; omega)) _ | refine Ext.drew ?_ | refine Ext.drewN ?_ _ | refine Ext.alloc ?_ _ | refine Ext.trans ?_ hb1))⟩

set_option maxHeartbeats 2000000 in
theorem r2of_any (p0 p1 p2 p3 : Int) (neg : Bool) (b0 : 0 ≤ p0 ∧ p0 < 4294967296) (b1 : 0 ≤ p1 ∧ p1 < 4294967296) (b2 : 0 ≤ p2 ∧ p2 < 4294967296) (b3 : 0 ≤ p3 ∧ p3 < 2147483648) (w : World) :
    Calls Tryd.prog 55 #[.agg #[.int .u64 p0, .int .u64 p1, .int .u64 p2, .int .u64 p3], .bool neg] w fun e w' =>
      e = .returned (.tuple #[.agg #[.int .i64 (whi (if neg then -(p0 + p1 * 4294967296 + (p2 + p3 * 4294967296) * 18446744073709551616) else p0 + p1 * 4294967296 + (p2 + p3 * 4294967296) * 18446744073709551616)), .int .u64 (wlo (if neg then -(p0 + p1 * 4294967296 + (p2 + p3 * 4294967296) * 18446744073709551616) else p0 + p1 * 4294967296 + (p2 + p3 * 4294967296) * 18446744073709551616))], .bool true]) ∧ Ext w w' := by
  obtain ⟨A, hA⟩ : ∃ A : Int, p3 * 4294967296 + p2 = A := ⟨_, rfl⟩
  obtain ⟨B, hB⟩ : ∃ B : Int, p1 * 4294967296 + p0 = B := ⟨_, rfl⟩
  have j1 := or_join p3 p2 b3.1 (by omega) b2.1 b2.2
  have j2 := or_join p1 p0 b1.1 b1.2 b0.1 b0.2
  rw [hA] at j1
  rw [hB] at j2
  have s1 : IntKind.u64.wrap (p3 * 4294967296) = p3 * 4294967296 := IntWalk.u64_in _ (by omega)
  have s2 : IntKind.u64.wrap (p1 * 4294967296) = p1 * 4294967296 := IntWalk.u64_in _ (by omega)
  have hW : wrap64 A = A := IntWalk.wrap64_in _ (by omega)
  have a1 : 0 ≤ A := by omega
  have a2 : A < 9223372036854775808 := by omega
  have c1 : 0 ≤ B := by omega
  have c2 : B < 18446744073709551616 := by omega
  have e : p0 + p1 * 4294967296 + (p2 + p3 * 4294967296) * 18446744073709551616 = A * 18446744073709551616 + B := by omega
  rw [e]
  clear e hA hB
  cases neg
  · have HV : Hid (whi (if false then -(A * 18446744073709551616 + B) else A * 18446744073709551616 + B) = A ∧ wlo (if false then -(A * 18446744073709551616 + B) else A * 18446744073709551616 + B) = B) := by
      simp only [Hid, Bool.false_eq_true, if_false]; unfold whi wlo; omega
    go_enter Tryd.func55, Tryd.ntmps55
    go_wp2_with (first | ((fail_if_success (have hzz := hb1)); go_at_call 38; refine (r2neg_any _ _ (by omega) (by omega) (by omega) (by omega) _).mono ?_; rintro e w1 ⟨rfl, hb1⟩; obtain ⟨hc1, hf1⟩ := hb1.cells; (try (have l1_0 : w.heap.size < w1.heap.size := hb1.lt (by first | (simp; done) | (simp; omega) | (simp [go_sem]; done) | (simp [go_sem]; omega) | omega))); (try (have m1_0 : w.heap.size ≤ w1.heap.size := Nat.le_of_lt l1_0)); (try (have l1_1 : w.heap.size + 1 < w1.heap.size := hb1.lt (by first | (simp; done) | (simp; omega) | (simp [go_sem]; done) | (simp [go_sem]; omega) | omega))); (try (have m1_1 : w.heap.size + 1 ≤ w1.heap.size := Nat.le_of_lt l1_1)); (try (have l1_2 : w.heap.size + 2 < w1.heap.size := hb1.lt (by first | (simp; done) | (simp; omega) | (simp [go_sem]; done) | (simp [go_sem]; omega) | omega))); (try (have m1_2 : w.heap.size + 2 ≤ w1.heap.size := Nat.le_of_lt l1_2))))
    refine bodyPost_ret (v := .tuple #[.agg #[.int .i64 A, .int .u64 B], .bool true]) (by simp [results, Tryd.results55, go_sem, *]) rfl ?_
    exact ⟨retwb HV.out.1.symm HV.out.2.symm, (by repeat (first | exact Ext.refl _ | refine Ext.setCell ?_ (by first | exact Nat.le_refl _ | (simp; done) | (simp; omega)) _ | refine Ext.drew ?_ | refine Ext.drewN ?_ _ | refine Ext.alloc ?_ _ | refine Ext.trans ?_ hb1))⟩
  · have HV : Hid ((if true then -(A * 18446744073709551616 + B) else A * 18446744073709551616 + B) = -(A * 18446744073709551616 + B)) := by simp [Hid]
    go_enter Tryd.func55, Tryd.ntmps55
    go_wp2_with (first | ((fail_if_success (have hzz := hb1)); go_at_call 38; refine (r2neg_any _ _ (by omega) (by omega) (by omega) (by omega) _).mono ?_; rintro e w1 ⟨rfl, hb1⟩; obtain ⟨hc1, hf1⟩ := hb1.cells; (try (have l1_0 : w.heap.size < w1.heap.size := hb1.lt (by first | (simp; done) | (simp; omega) | (simp [go_sem]; done) | (simp [go_sem]; omega) | omega))); (try (have m1_0 : w.heap.size ≤ w1.heap.size := Nat.le_of_lt l1_0)); (try (have l1_1 : w.heap.size + 1 < w1.heap.size := hb1.lt (by first | (simp; done) | (simp; omega) | (simp [go_sem]; done) | (simp [go_sem]; omega) | omega))); (try (have m1_1 : w.heap.size + 1 ≤ w1.heap.size := Nat.le_of_lt l1_1)); (try (have l1_2 : w.heap.size + 2 < w1.heap.size := hb1.lt (by first | (simp; done) | (simp; omega) | (simp [go_sem]; done) | (simp [go_sem]; omega) | omega))); (try (have m1_2 : w.heap.size + 2 ≤ w1.heap.size := Nat.le_of_lt l1_2))))
    refine bodyPost_ret (v := .tuple #[.agg #[.int .i64 (whi (-(A * 18446744073709551616 + B))), .int .u64 (wlo (-(A * 18446744073709551616 + B)))], .bool true]) (by simp [results, Tryd.results55, go_sem, *]) rfl ?_
    exact ⟨by first | rfl | rw [HV.out], (by repeat (first | exact Ext.refl _ | refine Ext.setCell ?_ (by first | exact Nat.le_refl _ | (simp; done) | (simp; omega)) _ | refine Ext.drew ?_ | refine Ext.drewN ?_ _ | refine Ext.alloc ?_ _ | refine Ext.trans ?_ hb1))⟩

def parts (p : Int) : Nat → Int := fun j => if j = 0 then p % 4294967296 else if j = 1 then p / 4294967296 else 0
theorem parts_bd {p : Int} (h : 0 ≤ p) (h' : p ≤ 9223372036854775808) : ∀ j, j < 4 → 0 ≤ parts p j ∧ parts p j < 4294967296 := by
  intro j _; unfold parts; split
  · omega
  · split <;> omega
theorem parts_val {p : Int} : val (parts p) 4 = p := by
  simp only [val, parts]; simp; omega
theorem mul_abs (a b : Int) : a * b = if (decide (a < 0) != decide (b < 0)) then -(absI a * absI b) else absI a * absI b := by
  unfold absI
  by_cases ha : a < 0 <;> by_cases hb : b < 0 <;> simp [ha, hb, Int.neg_mul, Int.mul_neg]
theorem whi_neg {a : Int} (h : -9223372036854775808 ≤ a) (h' : a ≤ 9223372036854775807) : (whi a < 0) = (a < 0) := by
  unfold whi; apply propext; omega
theorem r2times_num (p q : Int) (h1 : 0 ≤ p) (h2 : p ≤ 9223372036854775808) (h3 : 0 ≤ q) (h4 : q ≤ 9223372036854775808) (w : World) :
    Calls Tryd.prog 54 #[.agg #[.int .u64 (p % 4294967296), .int .u64 (p / 4294967296), .int .u64 0, .int .u64 0], .agg #[.int .u64 (q % 4294967296), .int .u64 (q / 4294967296), .int .u64 0, .int .u64 0]] w fun e w' =>
      ∃ o0 o1 o2 o3 : Int, e = .returned (.tuple #[.agg #[.int .u64 o0, .int .u64 o1, .int .u64 o2, .int .u64 o3], .bool true]) ∧ (0 ≤ o0 ∧ o0 < 4294967296) ∧ (0 ≤ o1 ∧ o1 < 4294967296) ∧ (0 ≤ o2 ∧ o2 < 4294967296) ∧ (0 ≤ o3 ∧ o3 < 2147483648) ∧
        o0 + o1 * 4294967296 + (o2 + o3 * 4294967296) * 18446744073709551616 = p * q ∧ Ext w w' := by
  have hb := mul_bd h1 h2 h3 h4
  have hc := r2times_any (parts p) (parts q) (parts_bd h1 h2) (parts_bd h3 h4) (by rw [parts_val, parts_val]; omega) w
  refine hc.mono ?_
  rintro e w' ⟨o, rfl, h5, h6, h7⟩
  rw [parts_val, parts_val] at h6
  have g0 := h5 0 (by omega); have g1 := h5 1 (by omega); have g2 := h5 2 (by omega); have g3 := h5 3 (by omega)
  exact ⟨o 0, o 1, o 2, o 3, rfl, g0, g1, g2, ⟨g3.1, by omega⟩, h6, h7⟩

set_option maxHeartbeats 4000000 in
theorem r2scale_any (a b : Int) (a1 : -9223372036854775808 ≤ a) (a2 : a ≤ 9223372036854775807) (b1 : -9223372036854775808 ≤ b) (b2 : b ≤ 9223372036854775807) (w : World) :
    Calls Tryd.prog 36 #[.agg #[.int .i64 (whi a), .int .u64 (wlo a)], .int .i64 b] w fun e w' => e = .returned (.tuple #[.agg #[.int .i64 (whi (a * b)), .int .u64 (wlo (a * b))], .bool true]) ∧ Ext w w' := by
  obtain ⟨g1, g2⟩ := absI_bd a1 a2
  obtain ⟨g3, g4⟩ := absI_bd b1 b2
  have HM := Lib.hid (mul_abs a b)
  have hwn := whi_neg a1 a2
  by_cases ha : a < 0 <;> by_cases hb : b < 0
  all_goals
    have n1 : (whi a < 0) = _ := hwn.trans (by first | exact eq_true ha | exact eq_false ha)
    have HD := Lib.hid (show decide (a < 0) = _ from by first | exact decide_eq_true ha | exact decide_eq_false ha)
    have HE := Lib.hid (show decide (b < 0) = _ from by first | exact decide_eq_true hb | exact decide_eq_false hb)
    clear hwn
    go_enter Tryd.func36, Tryd.ntmps36
    go_wp2_with (first | ((fail_if_success (have hzz := hb1)); go_at_call 31; refine (r2size_any _ (by assumption) (by assumption) _).mono ?_; rintro e w1 ⟨rfl, hb1⟩; obtain ⟨hc1, hf1⟩ := hb1.cells; (try (have l1_0 : w.heap.size < w1.heap.size := hb1.lt (by first | (simp; done) | (simp; omega) | (simp [go_sem]; done) | (simp [go_sem]; omega) | omega))); (try (have m1_0 : w.heap.size ≤ w1.heap.size := Nat.le_of_lt l1_0)); (try (have l1_1 : w.heap.size + 1 < w1.heap.size := hb1.lt (by first | (simp; done) | (simp; omega) | (simp [go_sem]; done) | (simp [go_sem]; omega) | omega))); (try (have m1_1 : w.heap.size + 1 ≤ w1.heap.size := Nat.le_of_lt l1_1))) | ((fail_if_success (have hzz := hb2)); go_at_call 17; refine (rof_any _ (by assumption) (by assumption) _).mono ?_; rintro e w2 ⟨rfl, hb2⟩; obtain ⟨hc2, hf2⟩ := hb2.cells; (try (have l2_0 : w.heap.size < w2.heap.size := hb2.lt (by first | (simp; done) | (simp; omega) | (simp [go_sem]; done) | (simp [go_sem]; omega) | omega))); (try (have m2_0 : w.heap.size ≤ w2.heap.size := Nat.le_of_lt l2_0)); (try (have l2_1 : w.heap.size + 1 < w2.heap.size := hb2.lt (by first | (simp; done) | (simp; omega) | (simp [go_sem]; done) | (simp [go_sem]; omega) | omega))); (try (have m2_1 : w.heap.size + 1 ≤ w2.heap.size := Nat.le_of_lt l2_1))) | ((fail_if_success (have hzz := hb3)); go_at_call 31; refine (r2size_any _ (by assumption) (by assumption) _).mono ?_; rintro e w3 ⟨rfl, hb3⟩; obtain ⟨hc3, hf3⟩ := hb3.cells; (try (have l3_0 : w.heap.size < w3.heap.size := hb3.lt (by first | (simp; done) | (simp; omega) | (simp [go_sem]; done) | (simp [go_sem]; omega) | omega))); (try (have m3_0 : w.heap.size ≤ w3.heap.size := Nat.le_of_lt l3_0)); (try (have l3_1 : w.heap.size + 1 < w3.heap.size := hb3.lt (by first | (simp; done) | (simp; omega) | (simp [go_sem]; done) | (simp [go_sem]; omega) | omega))); (try (have m3_1 : w.heap.size + 1 ≤ w3.heap.size := Nat.le_of_lt l3_1))) | (go_at_call 54; refine (r2times_num _ _ (by assumption) (by assumption) (by assumption) (by assumption) _).mono ?_; rintro e w4 ⟨o0, o1, o2, o3, rfl, q0, q1, q2, q3, hQ, hb4⟩; replace hQ := Lib.hid hQ; obtain ⟨hc4, hf4⟩ := hb4.cells; (try (have l4_0 : w.heap.size < w4.heap.size := hb4.lt (by first | (simp; done) | (simp; omega) | (simp [go_sem]; done) | (simp [go_sem]; omega) | omega))); (try (have m4_0 : w.heap.size ≤ w4.heap.size := Nat.le_of_lt l4_0)); (try (have l4_1 : w.heap.size + 1 < w4.heap.size := hb4.lt (by first | (simp; done) | (simp; omega) | (simp [go_sem]; done) | (simp [go_sem]; omega) | omega))); (try (have m4_1 : w.heap.size + 1 ≤ w4.heap.size := Nat.le_of_lt l4_1))) | ((fail_if_success (have hzz := hb5)); go_at_call 55; refine (r2of_any _ _ _ _ _ (by assumption) (by assumption) (by assumption) (by assumption) _).mono ?_; rintro e w5 ⟨rfl, hb5⟩; obtain ⟨hc5, hf5⟩ := hb5.cells; (try (have l5_0 : w.heap.size < w5.heap.size := hb5.lt (by first | (simp; done) | (simp; omega) | (simp [go_sem]; done) | (simp [go_sem]; omega) | omega))); (try (have m5_0 : w.heap.size ≤ w5.heap.size := Nat.le_of_lt l5_0)); (try (have l5_1 : w.heap.size + 1 < w5.heap.size := hb5.lt (by first | (simp; done) | (simp; omega) | (simp [go_sem]; done) | (simp [go_sem]; omega) | omega))); (try (have m5_1 : w.heap.size + 1 ≤ w5.heap.size := Nat.le_of_lt l5_1)); (try (have l5_2 : w4.heap.size < w5.heap.size := hb5.lt (by first | (simp; done) | (simp; omega) | (simp [go_sem]; done) | (simp [go_sem]; omega) | omega))); (try (have m5_2 : w4.heap.size ≤ w5.heap.size := Nat.le_of_lt l5_2))))
    first
      | (refine bodyPost_ret (v := .tuple #[.agg #[.int .i64 (whi (if true then -(o0 + o1 * 4294967296 + (o2 + o3 * 4294967296) * 18446744073709551616) else o0 + o1 * 4294967296 + (o2 + o3 * 4294967296) * 18446744073709551616)), .int .u64 (wlo (if true then -(o0 + o1 * 4294967296 + (o2 + o3 * 4294967296) * 18446744073709551616) else o0 + o1 * 4294967296 + (o2 + o3 * 4294967296) * 18446744073709551616))], .bool true]) (by simp [results, Tryd.results36, go_sem, *]; done) rfl ?_
         exact ⟨by rw [HM.out, HD.out, HE.out, hQ.out]; rfl, (by repeat (first | exact Ext.refl _ | refine Ext.setCell ?_ (by first | exact Nat.le_refl _ | (simp; done) | (simp; omega)) _ | refine Ext.drew ?_ | refine Ext.drewN ?_ _ | refine Ext.alloc ?_ _ | refine Ext.trans ?_ hb5 | refine Ext.trans ?_ hb4 | refine Ext.trans ?_ hb3 | refine Ext.trans ?_ hb2 | refine Ext.trans ?_ hb1))⟩)
      | (refine bodyPost_ret (v := .tuple #[.agg #[.int .i64 (whi (if false then -(o0 + o1 * 4294967296 + (o2 + o3 * 4294967296) * 18446744073709551616) else o0 + o1 * 4294967296 + (o2 + o3 * 4294967296) * 18446744073709551616)), .int .u64 (wlo (if false then -(o0 + o1 * 4294967296 + (o2 + o3 * 4294967296) * 18446744073709551616) else o0 + o1 * 4294967296 + (o2 + o3 * 4294967296) * 18446744073709551616))], .bool true]) (by simp [results, Tryd.results36, go_sem, *]; done) rfl ?_
         exact ⟨by rw [HM.out, HD.out, HE.out, hQ.out]; rfl, (by repeat (first | exact Ext.refl _ | refine Ext.setCell ?_ (by first | exact Nat.le_refl _ | (simp; done) | (simp; omega)) _ | refine Ext.drew ?_ | refine Ext.drewN ?_ _ | refine Ext.alloc ?_ _ | refine Ext.trans ?_ hb5 | refine Ext.trans ?_ hb4 | refine Ext.trans ?_ hb3 | refine Ext.trans ?_ hb2 | refine Ext.trans ?_ hb1))⟩)

end Go.Proofs.YthckbfkhbegmgaaDoor

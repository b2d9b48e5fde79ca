/-
  Contracts of layer 29 (interval): end, made, sum, less, Valid, both, Make, Around, Add, Sub.
-/
import Derived.Test.YthckbfkhbegmgaaDoorIntB
namespace Go.Proofs.YthckbfkhbegmgaaDoor
open Go.RowKit
set_option linter.unusedSimpArgs false

theorem retR {a b c a' b' c' : Int} (h1 : a = a') (h2 : b = b') (h3 : c = c') : Ending.returned (.tuple #[.agg #[.int .i64 a, .int .i64 b], .int .i64 c]) = .returned (.tuple #[.agg #[.int .i64 a', .int .i64 b'], .int .i64 c']) := by rw [h1, h2, h3]
def mdLo (a b : Int) : Int := if inE a && inE b then a else 0
def mdHi (a b : Int) : Int := if inE a && inE b then b else 0
def mdE (a b : Int) : Int := if inE a && inE b then 0 else 2
def vR (lo hi : Int) : Bool := decide (lo ≤ hi) && (inE lo && inE hi)
def vv (a b c d : Int) : Bool := vR a b && vR c d
theorem inE_bd {v : Int} (h : inE v = true) : -4611686018427387904 ≤ v ∧ v ≤ 4611686018427387904 := by simpa [inE] using h
theorem inE_mk {v : Int} (h : -4611686018427387904 ≤ v) (h' : v ≤ 4611686018427387904) : inE v = true := by simp [inE, h, h']
theorem inE_fit {v : Int} (h : inE v = true) : fitV v = v := by simp [fitV, inE_fits h]
theorem vR_parts {a b : Int} (h : vR a b = true) : a ≤ b ∧ -4611686018427387904 ≤ a ∧ b ≤ 4611686018427387904 := by
  simp [vR] at h
  have := inE_bd h.2.1
  have := inE_bd h.2.2
  omega
theorem vR_mk {a b : Int} (h : a ≤ b) (h1 : -4611686018427387904 ≤ a) (h2 : b ≤ 4611686018427387904) : vR a b = true := by
  simp [vR, h, inE_mk h1 (show a ≤ _ by omega), inE_mk (show _ ≤ b by omega) h2]
theorem vv_parts {a b c d : Int} (h : vv a b c d = true) : vR a b = true ∧ vR c d = true := by simpa [vv] using h

set_option maxHeartbeats 400000 in
theorem end_any (v : Int) (w : World) : Calls Tryd.prog 39 #[.agg #[.int .i64 (whi v), .int .u64 (wlo v)]] w fun e w' => e = .returned (.tuple #[.int .i64 (fitV v), .bool (inE v)]) ∧ Ext w w' := by
  rcases and1 (fits64 v) with h1 | h1
  · have HV := Lib.hid (inE_no h1)
    have HF := Lib.hid h1
    clear h1
    go_enter Tryd.func39, Tryd.ntmps39
    go_wp2_with (first | ((fail_if_success (have hzz := hb1)); go_at_call 56; refine (wfits_any _  _).mono ?_; rintro e w1 ⟨rfl, hb1⟩; obtain ⟨hc1, hf1⟩ := hb1.cells; (try (have l1_0 : w.heap.size < w1.heap.size := hb1.lt (by first | (simp; done) | (simp; omega) | omega))); (try (have m1_0 : w.heap.size ≤ w1.heap.size := Nat.le_of_lt l1_0)); rw [HF.out]) | (go_at_call 28; refine (within_any _  _).mono ?_; rintro e w' ⟨rfl, rfl⟩))
    go_ret2
    exact ⟨retib rfl HV.out.symm, (by repeat (first | exact Ext.refl _ | refine Ext.setCell ?_ (by first | exact Nat.le_refl _ | (simp; done) | (simp; omega)) _ | refine Ext.drew ?_ | refine Ext.drewN ?_ _ | refine Ext.alloc ?_ _ | refine Ext.trans ?_ hb1))⟩
  · have HV := Lib.hid (inE_val h1)
    have HF := Lib.hid h1
    clear h1
    go_enter Tryd.func39, Tryd.ntmps39
    go_wp2_with (first | ((fail_if_success (have hzz := hb1)); go_at_call 56; refine (wfits_any _  _).mono ?_; rintro e w1 ⟨rfl, hb1⟩; obtain ⟨hc1, hf1⟩ := hb1.cells; (try (have l1_0 : w.heap.size < w1.heap.size := hb1.lt (by first | (simp; done) | (simp; omega) | omega))); (try (have m1_0 : w.heap.size ≤ w1.heap.size := Nat.le_of_lt l1_0)); rw [HF.out]) | (go_at_call 28; refine (within_any _  _).mono ?_; rintro e w' ⟨rfl, rfl⟩))
    go_ret2
    exact ⟨retib rfl (by first | exact HV.out | (rw [HV.out]; done)), (by repeat (first | exact Ext.refl _ | refine Ext.setCell ?_ (by first | exact Nat.le_refl _ | (simp; done) | (simp; omega)) _ | refine Ext.drew ?_ | refine Ext.drewN ?_ _ | refine Ext.alloc ?_ _ | refine Ext.trans ?_ hb1))⟩

set_option maxHeartbeats 1000000 in
theorem made_any (a b : Int) (w : World) : Calls Tryd.prog 22 #[.agg #[.int .i64 (whi a), .int .u64 (wlo a)], .agg #[.int .i64 (whi b), .int .u64 (wlo b)]] w fun e w' => e = .returned (.tuple #[.agg #[.int .i64 (mdLo a b), .int .i64 (mdHi a b)], .int .i64 (mdE a b)]) ∧ Ext w w' := by
  rcases and2 (inE a) (inE b) with h1 | ⟨h1, h2⟩ | ⟨h1, h2⟩
  · have HV : Hid (mdLo a b = 0 ∧ mdHi a b = 0 ∧ mdE a b = 2) := by simp [Hid, mdLo, mdHi, mdE, h1]
    have X1 := Lib.hid h1
    clear h1
    go_enter Tryd.func22, Tryd.ntmps22
    go_wp2_with (first | ((fail_if_success (have hzz := hb1)); go_at_call 39; refine (end_any _  _).mono ?_; rintro e w1 ⟨rfl, hb1⟩; obtain ⟨hc1, hf1⟩ := hb1.cells; (try (have l1_0 : w.heap.size < w1.heap.size := hb1.lt (by first | (simp; done) | (simp; omega) | omega))); (try (have m1_0 : w.heap.size ≤ w1.heap.size := Nat.le_of_lt l1_0)); (try (have l1_1 : w.heap.size + 1 < w1.heap.size := hb1.lt (by first | (simp; done) | (simp; omega) | omega))); (try (have m1_1 : w.heap.size + 1 ≤ w1.heap.size := Nat.le_of_lt l1_1)); (try (have l1_2 : w.heap.size + 2 < w1.heap.size := hb1.lt (by first | (simp; done) | (simp; omega) | omega))); (try (have m1_2 : w.heap.size + 2 ≤ w1.heap.size := Nat.le_of_lt l1_2)); (try rw [X1.out])) | ((fail_if_success (have hzz := hb2)); go_at_call 39; refine (end_any _  _).mono ?_; rintro e w2 ⟨rfl, hb2⟩; obtain ⟨hc2, hf2⟩ := hb2.cells; (try (have l2_0 : w.heap.size < w2.heap.size := hb2.lt (by first | (simp; done) | (simp; omega) | omega))); (try (have m2_0 : w.heap.size ≤ w2.heap.size := Nat.le_of_lt l2_0)); (try (have l2_1 : w.heap.size + 1 < w2.heap.size := hb2.lt (by first | (simp; done) | (simp; omega) | omega))); (try (have m2_1 : w.heap.size + 1 ≤ w2.heap.size := Nat.le_of_lt l2_1)); (try (have l2_2 : w.heap.size + 2 < w2.heap.size := hb2.lt (by first | (simp; done) | (simp; omega) | omega))); (try (have m2_2 : w.heap.size + 2 ≤ w2.heap.size := Nat.le_of_lt l2_2)); (try rw [X2.out])))
    refine bodyPost_ret (v := .tuple #[.agg #[.int .i64 0, .int .i64 0], .int .i64 2]) (by simp [results, Tryd.results22, go_sem, *]) rfl ?_
    exact ⟨retR HV.out.1.symm HV.out.2.1.symm HV.out.2.2.symm, (by repeat (first | exact Ext.refl _ | refine Ext.setCell ?_ (by first | exact Nat.le_refl _ | (simp; done) | (simp; omega)) _ | refine Ext.drew ?_ | refine Ext.drewN ?_ _ | refine Ext.alloc ?_ _ | refine Ext.trans ?_ hb2 | refine Ext.trans ?_ hb1))⟩
  · have HV : Hid (mdLo a b = 0 ∧ mdHi a b = 0 ∧ mdE a b = 2) := by simp [Hid, mdLo, mdHi, mdE, h2]
    have X1 := Lib.hid h1
    have X2 := Lib.hid h2
    clear h1 h2
    go_enter Tryd.func22, Tryd.ntmps22
    go_wp2_with (first | ((fail_if_success (have hzz := hb1)); go_at_call 39; refine (end_any _  _).mono ?_; rintro e w1 ⟨rfl, hb1⟩; obtain ⟨hc1, hf1⟩ := hb1.cells; (try (have l1_0 : w.heap.size < w1.heap.size := hb1.lt (by first | (simp; done) | (simp; omega) | omega))); (try (have m1_0 : w.heap.size ≤ w1.heap.size := Nat.le_of_lt l1_0)); (try (have l1_1 : w.heap.size + 1 < w1.heap.size := hb1.lt (by first | (simp; done) | (simp; omega) | omega))); (try (have m1_1 : w.heap.size + 1 ≤ w1.heap.size := Nat.le_of_lt l1_1)); (try (have l1_2 : w.heap.size + 2 < w1.heap.size := hb1.lt (by first | (simp; done) | (simp; omega) | omega))); (try (have m1_2 : w.heap.size + 2 ≤ w1.heap.size := Nat.le_of_lt l1_2)); (try rw [X1.out])) | ((fail_if_success (have hzz := hb2)); go_at_call 39; refine (end_any _  _).mono ?_; rintro e w2 ⟨rfl, hb2⟩; obtain ⟨hc2, hf2⟩ := hb2.cells; (try (have l2_0 : w.heap.size < w2.heap.size := hb2.lt (by first | (simp; done) | (simp; omega) | omega))); (try (have m2_0 : w.heap.size ≤ w2.heap.size := Nat.le_of_lt l2_0)); (try (have l2_1 : w.heap.size + 1 < w2.heap.size := hb2.lt (by first | (simp; done) | (simp; omega) | omega))); (try (have m2_1 : w.heap.size + 1 ≤ w2.heap.size := Nat.le_of_lt l2_1)); (try (have l2_2 : w.heap.size + 2 < w2.heap.size := hb2.lt (by first | (simp; done) | (simp; omega) | omega))); (try (have m2_2 : w.heap.size + 2 ≤ w2.heap.size := Nat.le_of_lt l2_2)); (try rw [X2.out])))
    refine bodyPost_ret (v := .tuple #[.agg #[.int .i64 0, .int .i64 0], .int .i64 2]) (by simp [results, Tryd.results22, go_sem, *]) rfl ?_
    exact ⟨retR HV.out.1.symm HV.out.2.1.symm HV.out.2.2.symm, (by repeat (first | exact Ext.refl _ | refine Ext.setCell ?_ (by first | exact Nat.le_refl _ | (simp; done) | (simp; omega)) _ | refine Ext.drew ?_ | refine Ext.drewN ?_ _ | refine Ext.alloc ?_ _ | refine Ext.trans ?_ hb2 | refine Ext.trans ?_ hb1))⟩
  · have HV : Hid (mdLo a b = fitV a ∧ mdHi a b = fitV b ∧ mdE a b = 0) := by simp [Hid, mdLo, mdHi, mdE, h1, h2, inE_fit]
    have X1 := Lib.hid h1
    have X2 := Lib.hid h2
    clear h1 h2
    go_enter Tryd.func22, Tryd.ntmps22
    go_wp2_with (first | ((fail_if_success (have hzz := hb1)); go_at_call 39; refine (end_any _  _).mono ?_; rintro e w1 ⟨rfl, hb1⟩; obtain ⟨hc1, hf1⟩ := hb1.cells; (try (have l1_0 : w.heap.size < w1.heap.size := hb1.lt (by first | (simp; done) | (simp; omega) | omega))); (try (have m1_0 : w.heap.size ≤ w1.heap.size := Nat.le_of_lt l1_0)); (try (have l1_1 : w.heap.size + 1 < w1.heap.size := hb1.lt (by first | (simp; done) | (simp; omega) | omega))); (try (have m1_1 : w.heap.size + 1 ≤ w1.heap.size := Nat.le_of_lt l1_1)); (try (have l1_2 : w.heap.size + 2 < w1.heap.size := hb1.lt (by first | (simp; done) | (simp; omega) | omega))); (try (have m1_2 : w.heap.size + 2 ≤ w1.heap.size := Nat.le_of_lt l1_2)); (try rw [X1.out])) | ((fail_if_success (have hzz := hb2)); go_at_call 39; refine (end_any _  _).mono ?_; rintro e w2 ⟨rfl, hb2⟩; obtain ⟨hc2, hf2⟩ := hb2.cells; (try (have l2_0 : w.heap.size < w2.heap.size := hb2.lt (by first | (simp; done) | (simp; omega) | omega))); (try (have m2_0 : w.heap.size ≤ w2.heap.size := Nat.le_of_lt l2_0)); (try (have l2_1 : w.heap.size + 1 < w2.heap.size := hb2.lt (by first | (simp; done) | (simp; omega) | omega))); (try (have m2_1 : w.heap.size + 1 ≤ w2.heap.size := Nat.le_of_lt l2_1)); (try (have l2_2 : w.heap.size + 2 < w2.heap.size := hb2.lt (by first | (simp; done) | (simp; omega) | omega))); (try (have m2_2 : w.heap.size + 2 ≤ w2.heap.size := Nat.le_of_lt l2_2)); (try rw [X2.out])))
    refine bodyPost_ret (v := .tuple #[.agg #[.int .i64 (fitV a), .int .i64 (fitV b)], .int .i64 0]) (by simp [results, Tryd.results22, go_sem, *]) rfl ?_
    exact ⟨retR HV.out.1.symm HV.out.2.1.symm HV.out.2.2.symm, (by repeat (first | exact Ext.refl _ | refine Ext.setCell ?_ (by first | exact Nat.le_refl _ | (simp; done) | (simp; omega)) _ | refine Ext.drew ?_ | refine Ext.drewN ?_ _ | refine Ext.alloc ?_ _ | refine Ext.trans ?_ hb2 | refine Ext.trans ?_ hb1))⟩

set_option maxHeartbeats 1000000 in
theorem sum_any (a b : Int) (a1 : -9223372036854775808 ≤ a) (a2 : a ≤ 9223372036854775807) (b1 : -9223372036854775808 ≤ b) (b2 : b ≤ 9223372036854775807) (w : World) : Calls Tryd.prog 24 #[.int .i64 a, .int .i64 b] w fun e w' => e = .returned (.agg #[.int .i64 (whi (a + b)), .int .u64 (wlo (a + b))]) ∧ Ext w w' := by
  go_enter Tryd.func24, Tryd.ntmps24
  go_wp2_with (first | ((fail_if_success (have hzz := hb1)); go_at_call 41; refine (of_any _ (by assumption) (by assumption) _).mono ?_; rintro e w1 ⟨rfl, hb1⟩; obtain ⟨hc1, hf1⟩ := hb1.cells; (try (have l1_0 : w.heap.size < w1.heap.size := hb1.lt (by first | (simp; done) | (simp; omega) | omega))); (try (have m1_0 : w.heap.size ≤ w1.heap.size := Nat.le_of_lt l1_0))) | ((fail_if_success (have hzz := hb2)); go_at_call 41; refine (of_any _ (by assumption) (by assumption) _).mono ?_; rintro e w2 ⟨rfl, hb2⟩; obtain ⟨hc2, hf2⟩ := hb2.cells; (try (have l2_0 : w.heap.size < w2.heap.size := hb2.lt (by first | (simp; done) | (simp; omega) | omega))); (try (have m2_0 : w.heap.size ≤ w2.heap.size := Nat.le_of_lt l2_0))) | ((fail_if_success (have hzz := hb3)); go_at_call 42; refine (wadd_any _ _ (by assumption) (by assumption) (by assumption) (by assumption) _).mono ?_; rintro e w3 ⟨rfl, hb3⟩; obtain ⟨hc3, hf3⟩ := hb3.cells; (try (have l3_0 : w.heap.size < w3.heap.size := hb3.lt (by first | (simp; done) | (simp; omega) | omega))); (try (have m3_0 : w.heap.size ≤ w3.heap.size := Nat.le_of_lt l3_0))))
  refine bodyPost_ret (v := .agg #[.int .i64 (whi (a + b)), .int .u64 (wlo (a + b))]) (by simp [results, Tryd.results24, go_sem, *]) rfl ?_
  exact ⟨rfl, (by repeat (first | exact Ext.refl _ | refine Ext.setCell ?_ (by first | exact Nat.le_refl _ | (simp; done) | (simp; omega)) _ | refine Ext.drew ?_ | refine Ext.drewN ?_ _ | refine Ext.alloc ?_ _ | refine Ext.trans ?_ hb3 | refine Ext.trans ?_ hb2 | refine Ext.trans ?_ hb1))⟩

set_option maxHeartbeats 1000000 in
theorem less_any (a b : Int) (a1 : -9223372036854775808 ≤ a) (a2 : a ≤ 9223372036854775807) (b1 : -9223372036854775808 ≤ b) (b2 : b ≤ 9223372036854775807) (w : World) : Calls Tryd.prog 23 #[.int .i64 a, .int .i64 b] w fun e w' => e = .returned (.agg #[.int .i64 (whi (a - b)), .int .u64 (wlo (a - b))]) ∧ Ext w w' := by
  go_enter Tryd.func23, Tryd.ntmps23
  go_wp2_with (first | ((fail_if_success (have hzz := hb1)); go_at_call 41; refine (of_any _ (by assumption) (by assumption) _).mono ?_; rintro e w1 ⟨rfl, hb1⟩; obtain ⟨hc1, hf1⟩ := hb1.cells; (try (have l1_0 : w.heap.size < w1.heap.size := hb1.lt (by first | (simp; done) | (simp; omega) | omega))); (try (have m1_0 : w.heap.size ≤ w1.heap.size := Nat.le_of_lt l1_0))) | ((fail_if_success (have hzz := hb2)); go_at_call 41; refine (of_any _ (by assumption) (by assumption) _).mono ?_; rintro e w2 ⟨rfl, hb2⟩; obtain ⟨hc2, hf2⟩ := hb2.cells; (try (have l2_0 : w.heap.size < w2.heap.size := hb2.lt (by first | (simp; done) | (simp; omega) | omega))); (try (have m2_0 : w.heap.size ≤ w2.heap.size := Nat.le_of_lt l2_0))) | ((fail_if_success (have hzz := hb3)); go_at_call 40; refine (wsub_any _ _ (by assumption) (by assumption) (by assumption) (by assumption) _).mono ?_; rintro e w3 ⟨rfl, hb3⟩; obtain ⟨hc3, hf3⟩ := hb3.cells; (try (have l3_0 : w.heap.size < w3.heap.size := hb3.lt (by first | (simp; done) | (simp; omega) | omega))); (try (have m3_0 : w.heap.size ≤ w3.heap.size := Nat.le_of_lt l3_0))))
  refine bodyPost_ret (v := .agg #[.int .i64 (whi (a - b)), .int .u64 (wlo (a - b))]) (by simp [results, Tryd.results23, go_sem, *]) rfl ?_
  exact ⟨rfl, (by repeat (first | exact Ext.refl _ | refine Ext.setCell ?_ (by first | exact Nat.le_refl _ | (simp; done) | (simp; omega)) _ | refine Ext.drew ?_ | refine Ext.drewN ?_ _ | refine Ext.alloc ?_ _ | refine Ext.trans ?_ hb3 | refine Ext.trans ?_ hb2 | refine Ext.trans ?_ hb1))⟩

set_option maxHeartbeats 1000000 in
theorem valid_any (a b : Int) (w : World) : Calls Tryd.prog 13 #[.agg #[.int .i64 a, .int .i64 b]] w fun e w' => e = .returned (.bool (vR a b)) ∧ Ext w w' := by
  rcases and3 (decide (a ≤ b)) (inE a) (inE b) with h1 | ⟨h1, h2⟩ | ⟨h1, h2, h3⟩ | ⟨h1, h2, h3⟩
  · have HV : Hid (vR a b = false) := by simp only [Hid, vR, h1]; rfl
    go_enter Tryd.func13, Tryd.ntmps13
    go_wp2_with (first | (go_at_call 28; refine (within_any _  _).mono ?_; rintro e w' ⟨rfl, rfl⟩; (first | rw [X1.out] | rw [X2.out] | skip)))
    go_ret
    exact ⟨retb HV.out.symm, (by repeat (first | exact Ext.refl _ | refine Ext.setCell ?_ (by first | exact Nat.le_refl _ | (simp; done) | (simp; omega)) _ | refine Ext.drew ?_ | refine Ext.drewN ?_ _ | refine Ext.alloc ?_ _))⟩
  · have HV : Hid (vR a b = false) := by simp only [Hid, vR, h1, h2]; rfl
    have X1 := Lib.hid h2
    clear h2
    go_enter Tryd.func13, Tryd.ntmps13
    go_wp2_with (first | (go_at_call 28; refine (within_any _  _).mono ?_; rintro e w' ⟨rfl, rfl⟩; (first | rw [X1.out] | rw [X2.out] | skip)))
    go_ret
    exact ⟨retb HV.out.symm, (by repeat (first | exact Ext.refl _ | refine Ext.setCell ?_ (by first | exact Nat.le_refl _ | (simp; done) | (simp; omega)) _ | refine Ext.drew ?_ | refine Ext.drewN ?_ _ | refine Ext.alloc ?_ _))⟩
  · have HV : Hid (vR a b = false) := by simp only [Hid, vR, h1, h2, h3]; rfl
    have X1 := Lib.hid h2
    have X2 := Lib.hid h3
    clear h2 h3
    go_enter Tryd.func13, Tryd.ntmps13
    go_wp2_with (first | (go_at_call 28; refine (within_any _  _).mono ?_; rintro e w' ⟨rfl, rfl⟩; (first | rw [X1.out] | rw [X2.out] | skip)))
    go_ret
    exact ⟨retb HV.out.symm, (by repeat (first | exact Ext.refl _ | refine Ext.setCell ?_ (by first | exact Nat.le_refl _ | (simp; done) | (simp; omega)) _ | refine Ext.drew ?_ | refine Ext.drewN ?_ _ | refine Ext.alloc ?_ _))⟩
  · have HV : Hid (vR a b = true) := by simp only [Hid, vR, h1, h2, h3]; rfl
    have X1 := Lib.hid h2
    have X2 := Lib.hid h3
    clear h2 h3
    go_enter Tryd.func13, Tryd.ntmps13
    go_wp2_with (first | (go_at_call 28; refine (within_any _  _).mono ?_; rintro e w' ⟨rfl, rfl⟩; (first | rw [X1.out] | rw [X2.out] | skip)))
    go_ret
    exact ⟨retb HV.out.symm, (by repeat (first | exact Ext.refl _ | refine Ext.setCell ?_ (by first | exact Nat.le_refl _ | (simp; done) | (simp; omega)) _ | refine Ext.drew ?_ | refine Ext.drewN ?_ _ | refine Ext.alloc ?_ _))⟩

set_option maxHeartbeats 1000000 in
theorem rvalid29_any (a b : Int) (w : World) : Calls Tryd.prog 15 #[.agg #[.int .i64 a, .int .i64 b]] w fun e w' => e = .returned (.bool (vR a b)) ∧ Ext w w' := by
  rcases and3 (decide (a ≤ b)) (inE a) (inE b) with h1 | ⟨h1, h2⟩ | ⟨h1, h2, h3⟩ | ⟨h1, h2, h3⟩
  · have HV : Hid (vR a b = false) := by simp only [Hid, vR, h1]; rfl
    go_enter Tryd.func15, Tryd.ntmps15
    go_wp2_with (first | (go_at_call 30; refine (rwithin_any _  _).mono ?_; rintro e w' ⟨rfl, rfl⟩; (first | rw [X1.out] | rw [X2.out] | skip)))
    go_ret
    exact ⟨retb HV.out.symm, (by repeat (first | exact Ext.refl _ | refine Ext.setCell ?_ (by first | exact Nat.le_refl _ | (simp; done) | (simp; omega)) _ | refine Ext.drew ?_ | refine Ext.drewN ?_ _ | refine Ext.alloc ?_ _))⟩
  · have HV : Hid (vR a b = false) := by simp only [Hid, vR, h1, h2]; rfl
    have X1 := Lib.hid h2
    clear h2
    go_enter Tryd.func15, Tryd.ntmps15
    go_wp2_with (first | (go_at_call 30; refine (rwithin_any _  _).mono ?_; rintro e w' ⟨rfl, rfl⟩; (first | rw [X1.out] | rw [X2.out] | skip)))
    go_ret
    exact ⟨retb HV.out.symm, (by repeat (first | exact Ext.refl _ | refine Ext.setCell ?_ (by first | exact Nat.le_refl _ | (simp; done) | (simp; omega)) _ | refine Ext.drew ?_ | refine Ext.drewN ?_ _ | refine Ext.alloc ?_ _))⟩
  · have HV : Hid (vR a b = false) := by simp only [Hid, vR, h1, h2, h3]; rfl
    have X1 := Lib.hid h2
    have X2 := Lib.hid h3
    clear h2 h3
    go_enter Tryd.func15, Tryd.ntmps15
    go_wp2_with (first | (go_at_call 30; refine (rwithin_any _  _).mono ?_; rintro e w' ⟨rfl, rfl⟩; (first | rw [X1.out] | rw [X2.out] | skip)))
    go_ret
    exact ⟨retb HV.out.symm, (by repeat (first | exact Ext.refl _ | refine Ext.setCell ?_ (by first | exact Nat.le_refl _ | (simp; done) | (simp; omega)) _ | refine Ext.drew ?_ | refine Ext.drewN ?_ _ | refine Ext.alloc ?_ _))⟩
  · have HV : Hid (vR a b = true) := by simp only [Hid, vR, h1, h2, h3]; rfl
    have X1 := Lib.hid h2
    have X2 := Lib.hid h3
    clear h2 h3
    go_enter Tryd.func15, Tryd.ntmps15
    go_wp2_with (first | (go_at_call 30; refine (rwithin_any _  _).mono ?_; rintro e w' ⟨rfl, rfl⟩; (first | rw [X1.out] | rw [X2.out] | skip)))
    go_ret
    exact ⟨retb HV.out.symm, (by repeat (first | exact Ext.refl _ | refine Ext.setCell ?_ (by first | exact Nat.le_refl _ | (simp; done) | (simp; omega)) _ | refine Ext.drew ?_ | refine Ext.drewN ?_ _ | refine Ext.alloc ?_ _))⟩

set_option maxHeartbeats 1000000 in
theorem both_any (a b c d : Int) (w : World) : Calls Tryd.prog 25 #[.agg #[.int .i64 a, .int .i64 b], .agg #[.int .i64 c, .int .i64 d]] w fun e w' => e = .returned (.bool (vv a b c d)) ∧ Ext w w' := by
  rcases and2 (vR a b) (vR c d) with h1 | ⟨h1, h2⟩ | ⟨h1, h2⟩
  · have HV : Hid (vv a b c d = false) := by simp only [Hid, vv, h1]; rfl
    have X1 := Lib.hid h1
    clear h1
    go_enter Tryd.func25, Tryd.ntmps25
    go_wp2_with (first | ((fail_if_success (have hzz := hb1)); go_at_call 13; refine (valid_any _ _  _).mono ?_; rintro e w1 ⟨rfl, hb1⟩; obtain ⟨hc1, hf1⟩ := hb1.cells; (try (have l1_0 : w.heap.size < w1.heap.size := hb1.lt (by first | (simp; done) | (simp; omega) | omega))); (try (have m1_0 : w.heap.size ≤ w1.heap.size := Nat.le_of_lt l1_0)); (try (have l1_1 : w.heap.size + 1 < w1.heap.size := hb1.lt (by first | (simp; done) | (simp; omega) | omega))); (try (have m1_1 : w.heap.size + 1 ≤ w1.heap.size := Nat.le_of_lt l1_1)); (try rw [X1.out])) | ((fail_if_success (have hzz := hb2)); go_at_call 13; refine (valid_any _ _  _).mono ?_; rintro e w2 ⟨rfl, hb2⟩; obtain ⟨hc2, hf2⟩ := hb2.cells; (try (have l2_0 : w.heap.size < w2.heap.size := hb2.lt (by first | (simp; done) | (simp; omega) | omega))); (try (have m2_0 : w.heap.size ≤ w2.heap.size := Nat.le_of_lt l2_0)); (try (have l2_1 : w.heap.size + 1 < w2.heap.size := hb2.lt (by first | (simp; done) | (simp; omega) | omega))); (try (have m2_1 : w.heap.size + 1 ≤ w2.heap.size := Nat.le_of_lt l2_1)); (try rw [X2.out])))
    go_ret
    exact ⟨retb HV.out.symm, (by repeat (first | exact Ext.refl _ | refine Ext.setCell ?_ (by first | exact Nat.le_refl _ | (simp; done) | (simp; omega)) _ | refine Ext.drew ?_ | refine Ext.drewN ?_ _ | refine Ext.alloc ?_ _ | refine Ext.trans ?_ hb2 | refine Ext.trans ?_ hb1))⟩
  · have HV : Hid (vv a b c d = false) := by simp only [Hid, vv, h1, h2]; rfl
    have X1 := Lib.hid h1
    have X2 := Lib.hid h2
    clear h1 h2
    go_enter Tryd.func25, Tryd.ntmps25
    go_wp2_with (first | ((fail_if_success (have hzz := hb1)); go_at_call 13; refine (valid_any _ _  _).mono ?_; rintro e w1 ⟨rfl, hb1⟩; obtain ⟨hc1, hf1⟩ := hb1.cells; (try (have l1_0 : w.heap.size < w1.heap.size := hb1.lt (by first | (simp; done) | (simp; omega) | omega))); (try (have m1_0 : w.heap.size ≤ w1.heap.size := Nat.le_of_lt l1_0)); (try (have l1_1 : w.heap.size + 1 < w1.heap.size := hb1.lt (by first | (simp; done) | (simp; omega) | omega))); (try (have m1_1 : w.heap.size + 1 ≤ w1.heap.size := Nat.le_of_lt l1_1)); (try rw [X1.out])) | ((fail_if_success (have hzz := hb2)); go_at_call 13; refine (valid_any _ _  _).mono ?_; rintro e w2 ⟨rfl, hb2⟩; obtain ⟨hc2, hf2⟩ := hb2.cells; (try (have l2_0 : w.heap.size < w2.heap.size := hb2.lt (by first | (simp; done) | (simp; omega) | omega))); (try (have m2_0 : w.heap.size ≤ w2.heap.size := Nat.le_of_lt l2_0)); (try (have l2_1 : w.heap.size + 1 < w2.heap.size := hb2.lt (by first | (simp; done) | (simp; omega) | omega))); (try (have m2_1 : w.heap.size + 1 ≤ w2.heap.size := Nat.le_of_lt l2_1)); (try rw [X2.out])))
    go_ret
    exact ⟨retb HV.out.symm, (by repeat (first | exact Ext.refl _ | refine Ext.setCell ?_ (by first | exact Nat.le_refl _ | (simp; done) | (simp; omega)) _ | refine Ext.drew ?_ | refine Ext.drewN ?_ _ | refine Ext.alloc ?_ _ | refine Ext.trans ?_ hb2 | refine Ext.trans ?_ hb1))⟩
  · have HV : Hid (vv a b c d = true) := by simp only [Hid, vv, h1, h2]; rfl
    have X1 := Lib.hid h1
    have X2 := Lib.hid h2
    clear h1 h2
    go_enter Tryd.func25, Tryd.ntmps25
    go_wp2_with (first | ((fail_if_success (have hzz := hb1)); go_at_call 13; refine (valid_any _ _  _).mono ?_; rintro e w1 ⟨rfl, hb1⟩; obtain ⟨hc1, hf1⟩ := hb1.cells; (try (have l1_0 : w.heap.size < w1.heap.size := hb1.lt (by first | (simp; done) | (simp; omega) | omega))); (try (have m1_0 : w.heap.size ≤ w1.heap.size := Nat.le_of_lt l1_0)); (try (have l1_1 : w.heap.size + 1 < w1.heap.size := hb1.lt (by first | (simp; done) | (simp; omega) | omega))); (try (have m1_1 : w.heap.size + 1 ≤ w1.heap.size := Nat.le_of_lt l1_1)); (try rw [X1.out])) | ((fail_if_success (have hzz := hb2)); go_at_call 13; refine (valid_any _ _  _).mono ?_; rintro e w2 ⟨rfl, hb2⟩; obtain ⟨hc2, hf2⟩ := hb2.cells; (try (have l2_0 : w.heap.size < w2.heap.size := hb2.lt (by first | (simp; done) | (simp; omega) | omega))); (try (have m2_0 : w.heap.size ≤ w2.heap.size := Nat.le_of_lt l2_0)); (try (have l2_1 : w.heap.size + 1 < w2.heap.size := hb2.lt (by first | (simp; done) | (simp; omega) | omega))); (try (have m2_1 : w.heap.size + 1 ≤ w2.heap.size := Nat.le_of_lt l2_1)); (try rw [X2.out])))
    go_ret
    exact ⟨retb HV.out.symm, (by repeat (first | exact Ext.refl _ | refine Ext.setCell ?_ (by first | exact Nat.le_refl _ | (simp; done) | (simp; omega)) _ | refine Ext.drew ?_ | refine Ext.drewN ?_ _ | refine Ext.alloc ?_ _ | refine Ext.trans ?_ hb2 | refine Ext.trans ?_ hb1))⟩

end Go.Proofs.YthckbfkhbegmgaaDoor

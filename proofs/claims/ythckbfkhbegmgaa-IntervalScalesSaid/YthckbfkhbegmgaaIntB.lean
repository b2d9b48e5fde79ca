/-
  Contracts of layer 29 (interval) and its reference: Fits, end, made, sum, less.
-/
import Derived.Test.YthckbfkhbegmgaaIntA
namespace Go.Proofs.Ythckbfkhbegmgaa
open Go.RowKit
set_option linter.unusedSimpArgs false

def fits64 (v : Int) : Bool := decide (-9223372036854775808 ≤ v ∧ v ≤ 9223372036854775807)
def fitV (v : Int) : Int := if fits64 v then v else 0
/-- It may be an end. -/
def inE (v : Int) : Bool := decide (-4611686018427387904 ≤ v ∧ v ≤ 4611686018427387904)
theorem wrap64_eq (n : Int) : wrap64 n = IntKind.i64.wrap n := (IntWalk.i64_left n).symm
theorem fits_word {v : Int} (h : fits64 v = true) : wrap64 (wlo v) = v := by
  simp only [fits64, decide_eq_true_eq] at h
  rw [wrap64_eq, IntKind.wrap_i64]; unfold wlo; omega
theorem fits_not {v : Int} (h : fits64 v = false) : (whi (wrap64 (wlo v)) == whi v) = false ∧ wlo (wrap64 (wlo v)) = wlo v := by
  simp only [fits64, decide_eq_false_iff_not] at h
  rw [wrap64_eq, IntKind.wrap_i64, beq_eq_false_iff_ne]; unfold whi wlo; omega
theorem i64_wrap_bd (n : Int) : -9223372036854775808 ≤ wrap64 n ∧ wrap64 n ≤ 9223372036854775807 := by
  rw [wrap64_eq, IntKind.wrap_i64]; omega
theorem inE_fits {v : Int} (h : inE v = true) : fits64 v = true := by
  simp only [inE, fits64, decide_eq_true_eq] at h ⊢; omega
theorem inE_val {v : Int} (h : fits64 v = true) : inE (fitV v) = inE v := by simp [fitV, h]
theorem inE_no {v : Int} (h : fits64 v = false) : inE v = false := by
  cases h' : inE v
  · rfl
  · rw [inE_fits h'] at h; cases h

theorem within_any (n : Int) (w : World) : Calls Try.prog 43 #[.int .i64 n] w fun e w' => e = .returned (.bool (inE n)) ∧ w = w' := by
  rcases and1 (decide (-4611686018427387904 ≤ n)) with h1 | h1
  all_goals
    rcases and1 (decide (n ≤ 4611686018427387904)) with h2 | h2
    all_goals
      have HV : Hid (inE n = ((decide (-4611686018427387904 ≤ n)) && decide (n ≤ 4611686018427387904))) := by unfold Hid inE; simp
      go_enter Try.func43, Try.ntmps43
      go_wp2
      go_ret
      exact ⟨retb (by rw [HV.out, h1, h2]; try rfl), rfl⟩

theorem rwithin_any (n : Int) (w : World) : Calls Try.prog 39 #[.int .i64 n] w fun e w' => e = .returned (.bool (inE n)) ∧ w = w' := by
  rcases and1 (decide (-4611686018427387904 ≤ n)) with h1 | h1
  all_goals
    rcases and1 (decide (n ≤ 4611686018427387904)) with h2 | h2
    all_goals
      have HV : Hid (inE n = ((decide (-4611686018427387904 ≤ n)) && decide (n ≤ 4611686018427387904))) := by unfold Hid inE; simp
      go_enter Try.func39, Try.ntmps39
      go_wp2
      go_ret
      exact ⟨retb (by rw [HV.out, h1, h2]; try rfl), rfl⟩

set_option maxHeartbeats 400000 in
theorem rof_any (n : Int) (h : -9223372036854775808 ≤ n) (h' : n ≤ 9223372036854775807) (w : World) :
    Calls Try.prog 55 #[.int .i64 n] w fun e w' => e = .returned (.agg #[.int .i64 (whi n), .int .u64 (wlo n)]) ∧ Ext w w' := by
  by_cases hn : n < 0
  · have HV : Hid (whi n = -1) := by unfold Hid whi; omega
    go_enter Try.func55, Try.ntmps55
    go_wp2
    refine bodyPost_ret (v := .agg #[.int .i64 (-1), .int .u64 (IntKind.u64.wrap n)]) (by simp [results, Try.results55, go_sem, *]) rfl ?_
    exact ⟨retw HV.out.symm (wlo_wrap n), (by repeat (first | exact Ext.refl _ | refine Ext.setCell ?_ (by simp) _ | refine Ext.alloc ?_ _))⟩
  · have HV : Hid (whi n = 0) := by unfold Hid whi; omega
    go_enter Try.func55, Try.ntmps55
    go_wp2
    refine bodyPost_ret (v := .agg #[.int .i64 0, .int .u64 n]) (by simp [results, Try.results55, go_sem, *]) rfl ?_
    exact ⟨retw HV.out.symm (by unfold wlo; omega), (by repeat (first | exact Ext.refl _ | refine Ext.setCell ?_ (by simp) _ | refine Ext.alloc ?_ _))⟩

set_option maxHeartbeats 2000000 in
theorem radd_any (x y : Int) (hx : -9223372036854775808 ≤ x) (hx' : x ≤ 9223372036854775807) (hy : -9223372036854775808 ≤ y) (hy' : y ≤ 9223372036854775807) (w : World) :
    Calls Try.prog 54 #[.agg #[.int .i64 (whi x), .int .u64 (wlo x)], .agg #[.int .i64 (whi y), .int .u64 (wlo y)]] w fun e w' => e = .returned (.tuple #[.agg #[.int .i64 (whi (x + y)), .int .u64 (wlo (x + y))], .bool true]) ∧ Ext w w' := by
  obtain ⟨a1, a2⟩ := wlo_bd x
  obtain ⟨b1, b2⟩ := wlo_bd y
  rcases whi_cases hx hx' with h1 | h1 <;> rcases whi_cases hy hy' with h2 | h2
  · rw [h1, h2]
    by_cases hc : wlo x + wlo y < 18446744073709551616
    · have hA1 : IntKind.u64.wrap (wlo x + wlo y) = wlo (x + y) := by rw [IntKind.wrap_u64]; unfold wlo; omega
      have hA2 : (decide (wlo (x + y) < wlo x)) = false := by rw [decide_eq_false_iff_not]; unfold wlo at hc ⊢; omega
      have hW : wrap64 0 = 0 := by rw [wrap64_eq]; decide
      have HV : Hid (whi (x + y) = 0) := by unfold Hid; unfold wlo at hc; unfold whi at h1 h2 ⊢; omega
      clear h1 h2 hc a1 a2 b1 b2 hx hx' hy hy'
      go_enter Try.func54, Try.ntmps54
      go_wp2
      refine bodyPost_ret (v := .tuple #[.agg #[.int .i64 (0), .int .u64 (wlo (x + y))], .bool true]) (by simp [results, Try.results54, go_sem, *]) rfl ?_
      exact ⟨by rw [HV.out], (by repeat (first | exact Ext.refl _ | refine Ext.setCell ?_ (by simp) _ | refine Ext.alloc ?_ _))⟩
    · have hA1 : IntKind.u64.wrap (wlo x + wlo y) = wlo (x + y) := by rw [IntKind.wrap_u64]; unfold wlo; omega
      have hA2 : (decide (wlo (x + y) < wlo x)) = true := by rw [decide_eq_true_eq]; unfold wlo at hc ⊢; omega
      have hW : wrap64 (IntKind.u64.wrap (0 + 1)) = 1 := by rw [wrap64_eq]; decide
      have HV : Hid (whi (x + y) = 1) := by unfold Hid; unfold wlo at hc; unfold whi at h1 h2 ⊢; omega
      clear h1 h2 hc a1 a2 b1 b2 hx hx' hy hy'
      go_enter Try.func54, Try.ntmps54
      go_wp2
      refine bodyPost_ret (v := .tuple #[.agg #[.int .i64 (1), .int .u64 (wlo (x + y))], .bool true]) (by simp [results, Try.results54, go_sem, *]) rfl ?_
      exact ⟨by rw [HV.out], (by repeat (first | exact Ext.refl _ | refine Ext.setCell ?_ (by simp) _ | refine Ext.alloc ?_ _))⟩
  · rw [h1, h2]
    by_cases hc : wlo x + wlo y < 18446744073709551616
    · have hA1 : IntKind.u64.wrap (wlo x + wlo y) = wlo (x + y) := by rw [IntKind.wrap_u64]; unfold wlo; omega
      have hA2 : (decide (wlo (x + y) < wlo x)) = false := by rw [decide_eq_false_iff_not]; unfold wlo at hc ⊢; omega
      have hW : wrap64 (IntKind.u64.wrap (IntKind.u64.wrap (-1))) = -1 := by rw [wrap64_eq]; decide
      have HV : Hid (whi (x + y) = -1) := by unfold Hid; unfold wlo at hc; unfold whi at h1 h2 ⊢; omega
      clear h1 h2 hc a1 a2 b1 b2 hx hx' hy hy'
      go_enter Try.func54, Try.ntmps54
      go_wp2
      refine bodyPost_ret (v := .tuple #[.agg #[.int .i64 (-1), .int .u64 (wlo (x + y))], .bool true]) (by simp [results, Try.results54, go_sem, *]) rfl ?_
      exact ⟨by rw [HV.out], (by repeat (first | exact Ext.refl _ | refine Ext.setCell ?_ (by simp) _ | refine Ext.alloc ?_ _))⟩
    · have hA1 : IntKind.u64.wrap (wlo x + wlo y) = wlo (x + y) := by rw [IntKind.wrap_u64]; unfold wlo; omega
      have hA2 : (decide (wlo (x + y) < wlo x)) = true := by rw [decide_eq_true_eq]; unfold wlo at hc ⊢; omega
      have hW : wrap64 (IntKind.u64.wrap ((IntKind.u64.wrap (IntKind.u64.wrap (-1))) + 1)) = 0 := by rw [wrap64_eq]; decide
      have HV : Hid (whi (x + y) = 0) := by unfold Hid; unfold wlo at hc; unfold whi at h1 h2 ⊢; omega
      clear h1 h2 hc a1 a2 b1 b2 hx hx' hy hy'
      go_enter Try.func54, Try.ntmps54
      go_wp2
      refine bodyPost_ret (v := .tuple #[.agg #[.int .i64 (0), .int .u64 (wlo (x + y))], .bool true]) (by simp [results, Try.results54, go_sem, *]) rfl ?_
      exact ⟨by rw [HV.out], (by repeat (first | exact Ext.refl _ | refine Ext.setCell ?_ (by simp) _ | refine Ext.alloc ?_ _))⟩
  · rw [h1, h2]
    by_cases hc : wlo x + wlo y < 18446744073709551616
    · have hA1 : IntKind.u64.wrap (wlo x + wlo y) = wlo (x + y) := by rw [IntKind.wrap_u64]; unfold wlo; omega
      have hA2 : (decide (wlo (x + y) < wlo x)) = false := by rw [decide_eq_false_iff_not]; unfold wlo at hc ⊢; omega
      have hW : wrap64 (IntKind.u64.wrap (IntKind.u64.wrap (-1))) = -1 := by rw [wrap64_eq]; decide
      have HV : Hid (whi (x + y) = -1) := by unfold Hid; unfold wlo at hc; unfold whi at h1 h2 ⊢; omega
      clear h1 h2 hc a1 a2 b1 b2 hx hx' hy hy'
      go_enter Try.func54, Try.ntmps54
      go_wp2
      refine bodyPost_ret (v := .tuple #[.agg #[.int .i64 (-1), .int .u64 (wlo (x + y))], .bool true]) (by simp [results, Try.results54, go_sem, *]) rfl ?_
      exact ⟨by rw [HV.out], (by repeat (first | exact Ext.refl _ | refine Ext.setCell ?_ (by simp) _ | refine Ext.alloc ?_ _))⟩
    · have hA1 : IntKind.u64.wrap (wlo x + wlo y) = wlo (x + y) := by rw [IntKind.wrap_u64]; unfold wlo; omega
      have hA2 : (decide (wlo (x + y) < wlo x)) = true := by rw [decide_eq_true_eq]; unfold wlo at hc ⊢; omega
      have hW : wrap64 (IntKind.u64.wrap ((IntKind.u64.wrap (IntKind.u64.wrap (-1))) + 1)) = 0 := by rw [wrap64_eq]; decide
      have HV : Hid (whi (x + y) = 0) := by unfold Hid; unfold wlo at hc; unfold whi at h1 h2 ⊢; omega
      clear h1 h2 hc a1 a2 b1 b2 hx hx' hy hy'
      go_enter Try.func54, Try.ntmps54
      go_wp2
      refine bodyPost_ret (v := .tuple #[.agg #[.int .i64 (0), .int .u64 (wlo (x + y))], .bool true]) (by simp [results, Try.results54, go_sem, *]) rfl ?_
      exact ⟨by rw [HV.out], (by repeat (first | exact Ext.refl _ | refine Ext.setCell ?_ (by simp) _ | refine Ext.alloc ?_ _))⟩
  · rw [h1, h2]
    by_cases hc : wlo x + wlo y < 18446744073709551616
    · have hA1 : IntKind.u64.wrap (wlo x + wlo y) = wlo (x + y) := by rw [IntKind.wrap_u64]; unfold wlo; omega
      have hA2 : (decide (wlo (x + y) < wlo x)) = false := by rw [decide_eq_false_iff_not]; unfold wlo at hc ⊢; omega
      have hW : wrap64 (IntKind.u64.wrap (IntKind.u64.wrap (-1) + IntKind.u64.wrap (-1))) = -2 := by rw [wrap64_eq]; decide
      have HV : Hid (whi (x + y) = -2) := by unfold Hid; unfold wlo at hc; unfold whi at h1 h2 ⊢; omega
      clear h1 h2 hc a1 a2 b1 b2 hx hx' hy hy'
      go_enter Try.func54, Try.ntmps54
      go_wp2
      refine bodyPost_ret (v := .tuple #[.agg #[.int .i64 (-2), .int .u64 (wlo (x + y))], .bool true]) (by simp [results, Try.results54, go_sem, *]) rfl ?_
      exact ⟨by rw [HV.out], (by repeat (first | exact Ext.refl _ | refine Ext.setCell ?_ (by simp) _ | refine Ext.alloc ?_ _))⟩
    · have hA1 : IntKind.u64.wrap (wlo x + wlo y) = wlo (x + y) := by rw [IntKind.wrap_u64]; unfold wlo; omega
      have hA2 : (decide (wlo (x + y) < wlo x)) = true := by rw [decide_eq_true_eq]; unfold wlo at hc ⊢; omega
      have hW : wrap64 (IntKind.u64.wrap ((IntKind.u64.wrap (IntKind.u64.wrap (-1) + IntKind.u64.wrap (-1))) + 1)) = -1 := by rw [wrap64_eq]; decide
      have HV : Hid (whi (x + y) = -1) := by unfold Hid; unfold wlo at hc; unfold whi at h1 h2 ⊢; omega
      clear h1 h2 hc a1 a2 b1 b2 hx hx' hy hy'
      go_enter Try.func54, Try.ntmps54
      go_wp2
      refine bodyPost_ret (v := .tuple #[.agg #[.int .i64 (-1), .int .u64 (wlo (x + y))], .bool true]) (by simp [results, Try.results54, go_sem, *]) rfl ?_
      exact ⟨by rw [HV.out], (by repeat (first | exact Ext.refl _ | refine Ext.setCell ?_ (by simp) _ | refine Ext.alloc ?_ _))⟩

set_option maxHeartbeats 1000000 in
theorem wfits_any (v : Int) (w : World) :
    Calls Try.prog 60 #[.agg #[.int .i64 (whi v), .int .u64 (wlo v)]] w fun e w' => e = .returned (.tuple #[.int .i64 (fitV v), .bool (fits64 v)]) ∧ Ext w w' := by
  rcases and1 (fits64 v) with h1 | h1
  · obtain ⟨hn, hm⟩ := fits_not h1
    obtain ⟨i1, i2⟩ := i64_wrap_bd (wlo v)
    have HV : Hid (fitV v = 0) := by simp [Hid, fitV, h1]
    have HF := Lib.hid h1
    clear h1
    go_enter Try.func60, Try.ntmps60
    go_wp2
    go_region_held3 (fun w' => w'.cell? ⟨w.heap.size, 0, none⟩ = some (.int .i64 (whi v)) ∧ w'.cell? ⟨w.heap.size, 1, none⟩ = some (.int .u64 (wlo v))) (simp [go_sem, *]) ((go_at_call 38; refine (of_any _ i1 i2 _).mono ?_; rintro e w1 ⟨rfl, hE⟩; obtain ⟨hcell, hfr⟩ := hE.cells))
    go_wp2
    go_ret2
    exact ⟨retib HV.out.symm HF.out.symm, (by first | exact ((Ext.refl _).alloc _).trans ‹_› | exact (((Ext.refl _).alloc _).drew).trans ‹_›)⟩
  · have hn := fits_word h1
    have HV : Hid (fitV v = v) := by simp [Hid, fitV, h1]
    have HF := Lib.hid h1
    obtain ⟨i1, i2⟩ : -9223372036854775808 ≤ v ∧ v ≤ 9223372036854775807 := by simpa [fits64] using h1
    clear h1
    go_enter Try.func60, Try.ntmps60
    go_wp2
    go_region_held3 (fun w' => w'.cell? ⟨w.heap.size, 0, none⟩ = some (.int .i64 (whi v)) ∧ w'.cell? ⟨w.heap.size, 1, none⟩ = some (.int .u64 (wlo v))) (simp [go_sem, *]) ((go_at_call 38; refine (of_any _ i1 i2 _).mono ?_; rintro e w1 ⟨rfl, hE⟩; obtain ⟨hcell, hfr⟩ := hE.cells))
    go_wp2
    go_ret2
    exact ⟨retib HV.out.symm HF.out.symm, (by first | exact ((Ext.refl _).alloc _).trans ‹_› | exact (((Ext.refl _).alloc _).drew).trans ‹_›)⟩

set_option maxHeartbeats 1000000 in
theorem rfits_any (v : Int) (w : World) :
    Calls Try.prog 46 #[.agg #[.int .i64 (whi v), .int .u64 (wlo v)]] w fun e w' => e = .returned (.tuple #[.int .i64 (fitV v), .bool (fits64 v)]) ∧ Ext w w' := by
  rcases and1 (fits64 v) with h1 | h1
  · obtain ⟨hn, hm⟩ := fits_not h1
    obtain ⟨i1, i2⟩ := i64_wrap_bd (wlo v)
    have HV : Hid (fitV v = 0) := by simp [Hid, fitV, h1]
    have HF := Lib.hid h1
    clear h1
    go_enter Try.func46, Try.ntmps46
    go_wp2
    go_region_held3 (fun w' => w'.cell? ⟨w.heap.size, 0, none⟩ = some (.int .i64 (whi v)) ∧ w'.cell? ⟨w.heap.size, 1, none⟩ = some (.int .u64 (wlo v))) (simp [go_sem, *]) ((go_at_call 55; refine (rof_any _ i1 i2 _).mono ?_; rintro e w1 ⟨rfl, hE⟩; obtain ⟨hcell, hfr⟩ := hE.cells))
    go_wp2
    go_ret2
    exact ⟨retib HV.out.symm HF.out.symm, (by first | exact ((Ext.refl _).alloc _).trans ‹_› | exact (((Ext.refl _).alloc _).drew).trans ‹_›)⟩
  · have hn := fits_word h1
    have HV : Hid (fitV v = v) := by simp [Hid, fitV, h1]
    have HF := Lib.hid h1
    obtain ⟨i1, i2⟩ : -9223372036854775808 ≤ v ∧ v ≤ 9223372036854775807 := by simpa [fits64] using h1
    clear h1
    go_enter Try.func46, Try.ntmps46
    go_wp2
    go_region_held3 (fun w' => w'.cell? ⟨w.heap.size, 0, none⟩ = some (.int .i64 (whi v)) ∧ w'.cell? ⟨w.heap.size, 1, none⟩ = some (.int .u64 (wlo v))) (simp [go_sem, *]) ((go_at_call 55; refine (rof_any _ i1 i2 _).mono ?_; rintro e w1 ⟨rfl, hE⟩; obtain ⟨hcell, hfr⟩ := hE.cells))
    go_wp2
    go_ret2
    exact ⟨retib HV.out.symm HF.out.symm, (by first | exact ((Ext.refl _).alloc _).trans ‹_› | exact (((Ext.refl _).alloc _).drew).trans ‹_›)⟩

end Go.Proofs.Ythckbfkhbegmgaa

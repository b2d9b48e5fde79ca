/-
  Contracts of layer 29 (interval) and its reference: Fits, end, made, sum, less.
-/
import Derived.Test.YthckbfkhbegmgaaDoorIntA
namespace Go.Proofs.YthckbfkhbegmgaaDoor
open Go.RowKit
set_option linter.unusedSimpArgs false

def fits64 (v : Int) : Bool := decide (-9223372036854775808 ≤ v ∧ v ≤ 9223372036854775807)
def fitV (v : Int) : Int := if fits64 v then v else 0
/-- It may be an end. -/
def inE (v : Int) : Bool := decide (-4611686018427387904 ≤ v ∧ v ≤ 4611686018427387904)
theorem wrap64_eq (n : Int) : wrap64 n = IntKind.i64.wrap n := (IntWalk.i64_left n).symm
theorem fits_word {v : Int} (h : fits64 v = true) : wrap64 (wlo v) = v := by
  simp only [fits64, decide_eq_true_eq] at h
  rw [wrap64_eq, IntKind.wrap_i64]; unfold wlo; omega
theorem fits_not {v : Int} (h : fits64 v = false) : (whi (wrap64 (wlo v)) == whi v) = false ∧ wlo (wrap64 (wlo v)) = wlo v := by
  simp only [fits64, decide_eq_false_iff_not] at h
  rw [wrap64_eq, IntKind.wrap_i64, beq_eq_false_iff_ne]; unfold whi wlo; omega
theorem i64_wrap_bd (n : Int) : -9223372036854775808 ≤ wrap64 n ∧ wrap64 n ≤ 9223372036854775807 := by
  rw [wrap64_eq, IntKind.wrap_i64]; omega
theorem inE_fits {v : Int} (h : inE v = true) : fits64 v = true := by
  simp only [inE, fits64, decide_eq_true_eq] at h ⊢; omega
theorem inE_val {v : Int} (h : fits64 v = true) : inE (fitV v) = inE v := by simp [fitV, h]
theorem inE_no {v : Int} (h : fits64 v = false) : inE v = false := by
  cases h' : inE v
  · rfl
  · rw [inE_fits h'] at h; cases h

theorem within_any (n : Int) (w : World) : Calls Tryd.prog 28 #[.int .i64 n] w fun e w' => e = .returned (.bool (inE n)) ∧ w = w' := by
  rcases and1 (decide (-4611686018427387904 ≤ n)) with h1 | h1
  all_goals
    rcases and1 (decide (n ≤ 4611686018427387904)) with h2 | h2
    all_goals
      have HV : Hid (inE n = ((decide (-4611686018427387904 ≤ n)) && decide (n ≤ 4611686018427387904))) := by unfold Hid inE; simp
      go_enter Tryd.func28, Tryd.ntmps28
      go_wp2
      go_ret
      exact ⟨retb (by rw [HV.out, h1, h2]; try rfl), rfl⟩

theorem rwithin_any (n : Int) (w : World) : Calls Tryd.prog 30 #[.int .i64 n] w fun e w' => e = .returned (.bool (inE n)) ∧ w = w' := by
  rcases and1 (decide (-4611686018427387904 ≤ n)) with h1 | h1
  all_goals
    rcases and1 (decide (n ≤ 4611686018427387904)) with h2 | h2
    all_goals
      have HV : Hid (inE n = ((decide (-4611686018427387904 ≤ n)) && decide (n ≤ 4611686018427387904))) := by unfold Hid inE; simp
      go_enter Tryd.func30, Tryd.ntmps30
      go_wp2
      go_ret
      exact ⟨retb (by rw [HV.out, h1, h2]; try rfl), rfl⟩

set_option maxHeartbeats 400000 in
theorem rof_any (n : Int) (h : -9223372036854775808 ≤ n) (h' : n ≤ 9223372036854775807) (w : World) :
    Calls Tryd.prog 17 #[.int .i64 n] w fun e w' => e = .returned (.agg #[.int .i64 (whi n), .int .u64 (wlo n)]) ∧ Ext w w' := by
  by_cases hn : n < 0
  · have HV : Hid (whi n = -1) := by unfold Hid whi; omega
    go_enter Tryd.func17, Tryd.ntmps17
    go_wp2
    refine bodyPost_ret (v := .agg #[.int .i64 (-1), .int .u64 (IntKind.u64.wrap n)]) (by simp [results, Tryd.results17, go_sem, *]) rfl ?_
    exact ⟨retw HV.out.symm (wlo_wrap n), (by repeat (first | exact Ext.refl _ | refine Ext.setCell ?_ (by simp) _ | refine Ext.alloc ?_ _))⟩
  · have HV : Hid (whi n = 0) := by unfold Hid whi; omega
    go_enter Tryd.func17, Tryd.ntmps17
    go_wp2
    refine bodyPost_ret (v := .agg #[.int .i64 0, .int .u64 n]) (by simp [results, Tryd.results17, go_sem, *]) rfl ?_
    exact ⟨retw HV.out.symm (by unfold wlo; omega), (by repeat (first | exact Ext.refl _ | refine Ext.setCell ?_ (by simp) _ | refine Ext.alloc ?_ _))⟩

set_option maxHeartbeats 1000000 in
theorem wfits_any (v : Int) (w : World) :
    Calls Tryd.prog 56 #[.agg #[.int .i64 (whi v), .int .u64 (wlo v)]] w fun e w' => e = .returned (.tuple #[.int .i64 (fitV v), .bool (fits64 v)]) ∧ Ext w w' := by
  rcases and1 (fits64 v) with h1 | h1
  · obtain ⟨hn, hm⟩ := fits_not h1
    obtain ⟨i1, i2⟩ := i64_wrap_bd (wlo v)
    have HV : Hid (fitV v = 0) := by simp [Hid, fitV, h1]
    have HF := Lib.hid h1
    clear h1
    go_enter Tryd.func56, Tryd.ntmps56
    go_wp2
    go_region_held3 (fun w' => w'.cell? ⟨w.heap.size, 0, none⟩ = some (.int .i64 (whi v)) ∧ w'.cell? ⟨w.heap.size, 1, none⟩ = some (.int .u64 (wlo v))) (simp [go_sem, *]) ((go_at_call 41; refine (of_any _ i1 i2 _).mono ?_; rintro e w1 ⟨rfl, hE⟩; obtain ⟨hcell, hfr⟩ := hE.cells))
    go_wp2
    go_ret2
    exact ⟨retib HV.out.symm HF.out.symm, (by first | exact ((Ext.refl _).alloc _).trans ‹_› | exact (((Ext.refl _).alloc _).drew).trans ‹_›)⟩
  · have hn := fits_word h1
    have HV : Hid (fitV v = v) := by simp [Hid, fitV, h1]
    have HF := Lib.hid h1
    obtain ⟨i1, i2⟩ : -9223372036854775808 ≤ v ∧ v ≤ 9223372036854775807 := by simpa [fits64] using h1
    clear h1
    go_enter Tryd.func56, Tryd.ntmps56
    go_wp2
    go_region_held3 (fun w' => w'.cell? ⟨w.heap.size, 0, none⟩ = some (.int .i64 (whi v)) ∧ w'.cell? ⟨w.heap.size, 1, none⟩ = some (.int .u64 (wlo v))) (simp [go_sem, *]) ((go_at_call 41; refine (of_any _ i1 i2 _).mono ?_; rintro e w1 ⟨rfl, hE⟩; obtain ⟨hcell, hfr⟩ := hE.cells))
    go_wp2
    go_ret2
    exact ⟨retib HV.out.symm HF.out.symm, (by first | exact ((Ext.refl _).alloc _).trans ‹_› | exact (((Ext.refl _).alloc _).drew).trans ‹_›)⟩

set_option maxHeartbeats 1000000 in
theorem rfits_any (v : Int) (w : World) :
    Calls Tryd.prog 21 #[.agg #[.int .i64 (whi v), .int .u64 (wlo v)]] w fun e w' => e = .returned (.tuple #[.int .i64 (fitV v), .bool (fits64 v)]) ∧ Ext w w' := by
  rcases and1 (fits64 v) with h1 | h1
  · obtain ⟨hn, hm⟩ := fits_not h1
    obtain ⟨i1, i2⟩ := i64_wrap_bd (wlo v)
    have HV : Hid (fitV v = 0) := by simp [Hid, fitV, h1]
    have HF := Lib.hid h1
    clear h1
    go_enter Tryd.func21, Tryd.ntmps21
    go_wp2
    go_region_held3 (fun w' => w'.cell? ⟨w.heap.size, 0, none⟩ = some (.int .i64 (whi v)) ∧ w'.cell? ⟨w.heap.size, 1, none⟩ = some (.int .u64 (wlo v))) (simp [go_sem, *]) ((go_at_call 17; refine (rof_any _ i1 i2 _).mono ?_; rintro e w1 ⟨rfl, hE⟩; obtain ⟨hcell, hfr⟩ := hE.cells))
    go_wp2
    go_ret2
    exact ⟨retib HV.out.symm HF.out.symm, (by first | exact ((Ext.refl _).alloc _).trans ‹_› | exact (((Ext.refl _).alloc _).drew).trans ‹_›)⟩
  · have hn := fits_word h1
    have HV : Hid (fitV v = v) := by simp [Hid, fitV, h1]
    have HF := Lib.hid h1
    obtain ⟨i1, i2⟩ : -9223372036854775808 ≤ v ∧ v ≤ 9223372036854775807 := by simpa [fits64] using h1
    clear h1
    go_enter Tryd.func21, Tryd.ntmps21
    go_wp2
    go_region_held3 (fun w' => w'.cell? ⟨w.heap.size, 0, none⟩ = some (.int .i64 (whi v)) ∧ w'.cell? ⟨w.heap.size, 1, none⟩ = some (.int .u64 (wlo v))) (simp [go_sem, *]) ((go_at_call 17; refine (rof_any _ i1 i2 _).mono ?_; rintro e w1 ⟨rfl, hE⟩; obtain ⟨hcell, hfr⟩ := hE.cells))
    go_wp2
    go_ret2
    exact ⟨retib HV.out.symm HF.out.symm, (by first | exact ((Ext.refl _).alloc _).trans ‹_› | exact (((Ext.refl _).alloc _).drew).trans ‹_›)⟩

end Go.Proofs.YthckbfkhbegmgaaDoor

/-
  Weak contracts of the reference of layer 2, continued: of, Neg, times, Scale by 10, of any wide numbers.
-/
import Derived.Test.YthckbfkhbegmgaaDoorIntV
namespace Go.Proofs.YthckbfkhbegmgaaDoor
open Go.RowKit
set_option linter.unusedSimpArgs false

/-- A wide number's value. -/
def B128 (v : Int) : Prop := -170141183460469231731687303715884105728 ≤ v ∧ v < 170141183460469231731687303715884105728
theorem ww_of {v : Int} (h : B128 v) : WW (whi v) (wlo v) := by
  unfold B128 at h; unfold whi wlo; exact ⟨by omega, by omega, by omega, by omega⟩
theorem vI_of (v : Int) : vI (whi v) (wlo v) = v := by unfold vI whi wlo; omega
theorem of_ww {h l : Int} (w : WW h l) : B128 (vI h l) ∧ whi (vI h l) = h ∧ wlo (vI h l) = l := by
  obtain ⟨a1, a2, b1, b2⟩ := w
  unfold B128 vI whi wlo; omega
theorem b128_0 : B128 0 := by unfold B128; omega
/-- A wide number and whether it is exact, of which Q is known. -/
def WPost (Qf : Int → Bool → Prop) (w : World) (e : Ending) (w' : World) : Prop := ∃ (v : Int) (k : Bool), e = .returned (.tuple #[.agg #[.int .i64 (whi v), .int .u64 (wlo v)], .bool k]) ∧ B128 v ∧ Qf v k ∧ Ext w w'
def SubQ (a b v : Int) (k : Bool) : Prop := B128 (a - b) → k = true ∧ v = a - b
def OfQ (p0 p1 p2 p3 : Int) (neg : Bool) (v : Int) (k : Bool) : Prop := p3 < 2147483648 → k = true ∧ v = if neg then -(p0 + p1 * 4294967296 + (p2 + p3 * 4294967296) * 18446744073709551616) else (p0 + p1 * 4294967296 + (p2 + p3 * 4294967296) * 18446744073709551616)
theorem r2subv_any (a b : Int) (ha : B128 a) (hb : B128 b) (w : World) :
    Calls Tryd.prog 37 #[.agg #[.int .i64 (whi a), .int .u64 (wlo a)], .agg #[.int .i64 (whi b), .int .u64 (wlo b)]] w (WPost (SubQ a b) w) := by
  refine (r2subw_any _ _ _ _ (ww_of ha) (ww_of hb) w).mono ?_
  rintro e w' ⟨x, y, k, rfl, h1, h2, h3⟩
  obtain ⟨g1, g2, g3⟩ := of_ww h1
  rw [vI_of, vI_of] at h2
  exact ⟨vI x y, k, by rw [g2, g3], g1, fun h => h2 h.1 h.2, h3⟩

set_option maxHeartbeats 1000000 in
theorem r2negv_any (a : Int) (ha : B128 a) (w : World) :
    Calls Tryd.prog 38 #[.agg #[.int .i64 (whi a), .int .u64 (wlo a)]] w (WPost (SubQ 0 a) w) := by
  have HS : Hid (∀ W, Calls Tryd.prog 37 #[.agg #[.int .i64 0, .int .u64 0], .agg #[.int .i64 (whi a), .int .u64 (wlo a)]] W (WPost (SubQ 0 a) W)) := fun W => r2subv_any 0 a b128_0 ha W
  go_enter Tryd.func38, Tryd.ntmps38
  go_wp2_with (go_at_call 37; refine (HS.out _).mono ?_; rintro e w1 ⟨v, k, rfl, hv, hk, hb1⟩; obtain ⟨hc1, hf1⟩ := hb1.cells; (try (have l1_0 : w.heap.size < w1.heap.size := hb1.lt (by first | (simp; done) | (simp; omega) | (simp [go_sem]; done) | (simp [go_sem]; omega) | omega))); (try (have l1_1 : w.heap.size + 1 < w1.heap.size := hb1.lt (by first | (simp; done) | (simp; omega) | (simp [go_sem]; done) | (simp [go_sem]; omega) | omega))))
  refine bodyPost_ret (v := .tuple #[.agg #[.int .i64 (whi v), .int .u64 (wlo v)], .bool k]) (by simp [results, Tryd.results38, go_sem, *]) rfl ?_
  exact ⟨v, k, rfl, hv, hk, (by repeat (first | exact Ext.refl _ | refine Ext.setCell ?_ (by first | (simp; done) | (simp; omega)) _ | refine Ext.drew ?_ | refine Ext.drewN ?_ _ | refine Ext.alloc ?_ _ | refine Ext.trans ?_ hb1))⟩

set_option maxHeartbeats 2000000 in
theorem r2ofw_any (p0 p1 p2 p3 : Int) (neg : Bool) (b0 : 0 ≤ p0 ∧ p0 < 4294967296) (b1 : 0 ≤ p1 ∧ p1 < 4294967296) (b2 : 0 ≤ p2 ∧ p2 < 4294967296) (b3 : 0 ≤ p3 ∧ p3 < 4294967296) (w : World) :
    Calls Tryd.prog 55 #[.agg #[.int .u64 p0, .int .u64 p1, .int .u64 p2, .int .u64 p3], .bool neg] w (WPost (OfQ p0 p1 p2 p3 neg) w) := by
  by_cases h3 : p3 < 2147483648
  · refine (r2of_any p0 p1 p2 p3 neg b0 b1 b2 ⟨b3.1, h3⟩ w).mono ?_
    rintro e w' ⟨rfl, hb⟩
    refine ⟨_, true, rfl, ?_, fun _ => ⟨rfl, rfl⟩, hb⟩
    unfold B128; cases neg <;> simp only [if_true, Bool.false_eq_true, if_false] <;> omega
  obtain ⟨A', hA'⟩ : ∃ A : Int, p3 * 4294967296 + p2 = A := ⟨_, rfl⟩
  obtain ⟨B, hB⟩ : ∃ B : Int, p1 * 4294967296 + p0 = B := ⟨_, rfl⟩
  have j1 := or_join p3 p2 b3.1 b3.2 b2.1 b2.2
  have j2 := or_join p1 p0 b1.1 b1.2 b0.1 b0.2
  rw [hA'] at j1
  rw [hB] at j2
  have s1 : IntKind.u64.wrap (p3 * 4294967296) = p3 * 4294967296 := IntWalk.u64_in _ (by omega)
  have s2 : IntKind.u64.wrap (p1 * 4294967296) = p1 * 4294967296 := IntWalk.u64_in _ (by omega)
  obtain ⟨A, hA⟩ : ∃ A : Int, A' - 18446744073709551616 = A := ⟨_, rfl⟩
  have hW : wrap64 A' = A := by rw [wrap64_eq, IntKind.wrap_i64]; omega
  have a1 : A < 0 := by omega
  have a2 : -9223372036854775808 ≤ A := by omega
  have c1 : 0 ≤ B := by omega
  have c2 : B < 18446744073709551616 := by omega
  have HX : Hid (∀ v : Int, ∀ k : Bool, OfQ p0 p1 p2 p3 neg v k) := fun v k h => absurd h h3
  have HV : Hid (whi (A * 18446744073709551616 + B) = A ∧ wlo (A * 18446744073709551616 + B) = B ∧ B128 (A * 18446744073709551616 + B)) := by unfold Hid whi wlo B128; omega
  have H0 : Hid (whi 0 = 0 ∧ wlo 0 = 0) := by unfold Hid whi wlo; omega
  clear hA hA' hB h3
  cases neg
  · go_enter Tryd.func55, Tryd.ntmps55
    go_wp2
    refine bodyPost_ret (v := .tuple #[.agg #[.int .i64 0, .int .u64 0], .bool false]) (by simp [results, Tryd.results55, go_sem, *]) rfl ?_
    exact ⟨0, false, by rw [H0.out.1, H0.out.2], b128_0, HX.out _ _, (by repeat (first | exact Ext.refl _ | refine Ext.setCell ?_ (by first | (simp; done) | (simp; omega)) _ | refine Ext.drew ?_ | refine Ext.drewN ?_ _ | refine Ext.alloc ?_ _))⟩
  · rcases and2 (A == -9223372036854775808) (B == 0) with h1 | ⟨h1, h2⟩ | ⟨h1, h2⟩
    · go_enter Tryd.func55, Tryd.ntmps55
      go_wp2
      refine bodyPost_ret (v := .tuple #[.agg #[.int .i64 0, .int .u64 0], .bool false]) (by simp [results, Tryd.results55, go_sem, *]) rfl ?_
      exact ⟨0, false, by rw [H0.out.1, H0.out.2], b128_0, HX.out _ _, (by repeat (first | exact Ext.refl _ | refine Ext.setCell ?_ (by first | (simp; done) | (simp; omega)) _ | refine Ext.drew ?_ | refine Ext.drewN ?_ _ | refine Ext.alloc ?_ _))⟩
    · go_enter Tryd.func55, Tryd.ntmps55
      go_wp2
      refine bodyPost_ret (v := .tuple #[.agg #[.int .i64 0, .int .u64 0], .bool false]) (by simp [results, Tryd.results55, go_sem, *]) rfl ?_
      exact ⟨0, false, by rw [H0.out.1, H0.out.2], b128_0, HX.out _ _, (by repeat (first | exact Ext.refl _ | refine Ext.setCell ?_ (by first | (simp; done) | (simp; omega)) _ | refine Ext.drew ?_ | refine Ext.drewN ?_ _ | refine Ext.alloc ?_ _))⟩
    · go_enter Tryd.func55, Tryd.ntmps55
      go_wp2
      refine bodyPost_ret (v := .tuple #[.agg #[.int .i64 A, .int .u64 B], .bool true]) (by simp [results, Tryd.results55, go_sem, *]) rfl ?_
      exact ⟨A * 18446744073709551616 + B, true, by rw [HV.out.1, HV.out.2.1], HV.out.2.2, HX.out _ _, (by repeat (first | exact Ext.refl _ | refine Ext.setCell ?_ (by first | (simp; done) | (simp; omega)) _ | refine Ext.drew ?_ | refine Ext.drewN ?_ _ | refine Ext.alloc ?_ _))⟩

end Go.Proofs.YthckbfkhbegmgaaDoor

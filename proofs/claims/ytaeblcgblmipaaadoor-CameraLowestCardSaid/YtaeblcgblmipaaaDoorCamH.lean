/-
  The laws CameraChecks, CameraBounces and CameraLowest, walked.
-/
import Derived.Test.YtaeblcgblmipaaaDoorCamG
namespace Go.Proofs.YtaeblcgblmipaaaDoor
open Go.RowKit
set_option linter.unusedSimpArgs false

set_option maxHeartbeats 16000000 in
theorem cameraChecks_any (A0 : Option Addr) (n C : Nat) (f : Nat → Nat → Int) (b off : Nat) (w : World) (T : SeenAt w A0 n f b off) (hC0 : n ≤ C) (hA00 : A0 = none → C = 0) (hX : TX w) :
    Calls Tryd.prog 3 #[.slice A0 n C] w fun e w' => e = .returned (.bool true) ∧ Ext w w' := by
  have hn := T.nle
  have HX := Lib.hid hX
  have hC := Lib.hid hC0
  have hA := Lib.hid hA00
  clear hX hC0 hA00
  by_cases hbig : 200 < n
  · have hbig' : (200 : Int) < (n : Int) := by omega
    go_enter Tryd.func3, Tryd.ntmps3
    go_wp2_with (first | ((fail_if_success (have hzz := hb1)); go_at_call 10; refine (awake_any _ (HX.out.ext (by repeat (first | exact Ext.refl _ | refine Ext.setCell ?_ (by first | exact Nat.le_refl _ | (simp; done) | (simp; omega)) _ | refine Ext.drew ?_ | refine Ext.drewN ?_ _ | refine Ext.alloc ?_ _)))).mono ?_; rintro e w1 ⟨rfl, hb1⟩))
    go_ret
    exact ⟨rfl, (by repeat (first | exact Ext.refl _ | refine Ext.setCell ?_ (by first | exact Nat.le_refl _ | (simp; done) | (simp; omega)) _ | refine Ext.drew ?_ | refine Ext.drewN ?_ _ | refine Ext.alloc ?_ _ | refine Ext.trans ?_ hb1))⟩
  have hbig' : ¬ ((200 : Int) < (n : Int)) := by omega
  go_enter Tryd.func3, Tryd.ntmps3
  go_wp2_with (first | ((fail_if_success (have hzz := hb1)); go_at_call 10; refine (awake_any _ (HX.out.ext (by repeat (first | exact Ext.refl _ | refine Ext.setCell ?_ (by first | exact Nat.le_refl _ | (simp; done) | (simp; omega)) _ | refine Ext.drew ?_ | refine Ext.drewN ?_ _ | refine Ext.alloc ?_ _)))).mono ?_; rintro e w1 ⟨rfl, hb1⟩) | ((fail_if_success (have hzz := hb2)); go_at_call 11; refine (check_any _ _ _ _ _ _ _ (T.ext (by repeat (first | exact Ext.refl _ | refine Ext.setCell ?_ (by first | exact Nat.le_refl _ | (simp; done) | (simp; omega)) _ | refine Ext.drew ?_ | refine Ext.drewN ?_ _ | refine Ext.alloc ?_ _ | refine Ext.trans ?_ hb1)))).mono ?_; rintro e w2 ⟨rfl, hb2⟩) | ((fail_if_success (have hzz := hb3)); go_at_call 12; refine (rcheck_any _ _ _ _ _ _ _ (T.ext (by repeat (first | exact Ext.refl _ | refine Ext.setCell ?_ (by first | exact Nat.le_refl _ | (simp; done) | (simp; omega)) _ | refine Ext.drew ?_ | refine Ext.drewN ?_ _ | refine Ext.alloc ?_ _ | refine Ext.trans ?_ hb2 | refine Ext.trans ?_ hb1)))).mono ?_; rintro e w3 ⟨rfl, hb3⟩))
  go_ret
  exact ⟨retb (by first | rfl | simp), (by repeat (first | exact Ext.refl _ | refine Ext.setCell ?_ (by first | exact Nat.le_refl _ | (simp; done) | (simp; omega)) _ | refine Ext.drew ?_ | refine Ext.drewN ?_ _ | refine Ext.alloc ?_ _ | refine Ext.trans ?_ hb3 | refine Ext.trans ?_ hb2 | refine Ext.trans ?_ hb1))⟩

set_option maxHeartbeats 16000000 in
theorem cameraBounces_any (A0 : Option Addr) (n C : Nat) (f : Nat → Nat → Int) (b off : Nat) (w : World) (T : SeenAt w A0 n f b off) (hC0 : n ≤ C) (hA00 : A0 = none → C = 0) (hX : TX w) :
    Calls Tryd.prog 4 #[.slice A0 n C] w fun e w' => e = .returned (.bool true) ∧ Ext w w' := by
  have hn := T.nle
  have HX := Lib.hid hX
  have hC := Lib.hid hC0
  have hA := Lib.hid hA00
  clear hX hC0 hA00
  by_cases hbig : 200 < n
  · have hbig' : (200 : Int) < (n : Int) := by omega
    go_enter Tryd.func4, Tryd.ntmps4
    go_wp2_with (first | ((fail_if_success (have hzz := hb1)); go_at_call 10; refine (awake_any _ (HX.out.ext (by repeat (first | exact Ext.refl _ | refine Ext.setCell ?_ (by first | exact Nat.le_refl _ | (simp; done) | (simp; omega)) _ | refine Ext.drew ?_ | refine Ext.drewN ?_ _ | refine Ext.alloc ?_ _)))).mono ?_; rintro e w1 ⟨rfl, hb1⟩))
    go_ret
    exact ⟨rfl, (by repeat (first | exact Ext.refl _ | refine Ext.setCell ?_ (by first | exact Nat.le_refl _ | (simp; done) | (simp; omega)) _ | refine Ext.drew ?_ | refine Ext.drewN ?_ _ | refine Ext.alloc ?_ _ | refine Ext.trans ?_ hb1))⟩
  have hbig' : ¬ ((200 : Int) < (n : Int)) := by omega
  go_enter Tryd.func4, Tryd.ntmps4
  go_wp2_with (first | ((fail_if_success (have hzz := hb1)); go_at_call 10; refine (awake_any _ (HX.out.ext (by repeat (first | exact Ext.refl _ | refine Ext.setCell ?_ (by first | exact Nat.le_refl _ | (simp; done) | (simp; omega)) _ | refine Ext.drew ?_ | refine Ext.drewN ?_ _ | refine Ext.alloc ?_ _)))).mono ?_; rintro e w1 ⟨rfl, hb1⟩) | ((fail_if_success (have hzz := hb2)); go_at_call 13; refine (bounce_any _ _ _ _ _ _ _ (T.ext (by repeat (first | exact Ext.refl _ | refine Ext.setCell ?_ (by first | exact Nat.le_refl _ | (simp; done) | (simp; omega)) _ | refine Ext.drew ?_ | refine Ext.drewN ?_ _ | refine Ext.alloc ?_ _ | refine Ext.trans ?_ hb1)))).mono ?_; rintro e w2 ⟨rfl, hb2⟩) | ((fail_if_success (have hzz := hb3)); go_at_call 14; refine (rbounce_any _ _ _ _ _ _ _ (T.ext (by repeat (first | exact Ext.refl _ | refine Ext.setCell ?_ (by first | exact Nat.le_refl _ | (simp; done) | (simp; omega)) _ | refine Ext.drew ?_ | refine Ext.drewN ?_ _ | refine Ext.alloc ?_ _ | refine Ext.trans ?_ hb2 | refine Ext.trans ?_ hb1)))).mono ?_; rintro e w3 ⟨rfl, hb3⟩) | ((fail_if_success (have hzz := hb4)); go_at_call 16; refine (behind_any _ _ _ _ _ _ _ (T.ext (by repeat (first | exact Ext.refl _ | refine Ext.setCell ?_ (by first | exact Nat.le_refl _ | (simp; done) | (simp; omega)) _ | refine Ext.drew ?_ | refine Ext.drewN ?_ _ | refine Ext.alloc ?_ _ | refine Ext.trans ?_ hb3 | refine Ext.trans ?_ hb2 | refine Ext.trans ?_ hb1))) hC.out hA.out).mono ?_; rintro e w4 hr4; obtain ⟨v4, g4, rfl, hb4, hS4⟩ := hr4; obtain ⟨A4, C4, rfl, T4, hC4, hA4⟩ := hS4.ex) | ((fail_if_success (have hzz := hb5)); go_at_call 17; refine (rbehind_any _ _ _ _ _ _ _ (T.ext (by repeat (first | exact Ext.refl _ | refine Ext.setCell ?_ (by first | exact Nat.le_refl _ | (simp; done) | (simp; omega)) _ | refine Ext.drew ?_ | refine Ext.drewN ?_ _ | refine Ext.alloc ?_ _ | refine Ext.trans ?_ hb4 | refine Ext.trans ?_ hb3 | refine Ext.trans ?_ hb2 | refine Ext.trans ?_ hb1))) hC.out hA.out).mono ?_; rintro e w5 hr5; obtain ⟨v5, g5, rfl, hb5, hS5⟩ := hr5; obtain ⟨A5, C5, rfl, T5, hC5, hA5⟩ := hS5.ex) | ((fail_if_success (have hzz := hb6)); go_at_call 15; refine (same_any _ _ _ _ _ _ _ _ _ _ _ (T4.ext (by repeat (first | exact Ext.refl _ | refine Ext.setCell ?_ (by first | exact Nat.le_refl _ | (simp; done) | (simp; omega)) _ | refine Ext.drew ?_ | refine Ext.drewN ?_ _ | refine Ext.alloc ?_ _ | refine Ext.trans ?_ hb5))) (T5.ext (by repeat (first | exact Ext.refl _ | refine Ext.setCell ?_ (by first | exact Nat.le_refl _ | (simp; done) | (simp; omega)) _ | refine Ext.drew ?_ | refine Ext.drewN ?_ _ | refine Ext.alloc ?_ _)))).mono ?_; rintro e w6 ⟨rfl, hb6⟩))
  go_ret
  exact ⟨retb (by first | rfl | simp), (by repeat (first | exact Ext.refl _ | refine Ext.setCell ?_ (by first | exact Nat.le_refl _ | (simp; done) | (simp; omega)) _ | refine Ext.drew ?_ | refine Ext.drewN ?_ _ | refine Ext.alloc ?_ _ | refine Ext.trans ?_ hb6 | refine Ext.trans ?_ hb5 | refine Ext.trans ?_ hb4 | refine Ext.trans ?_ hb3 | refine Ext.trans ?_ hb2 | refine Ext.trans ?_ hb1))⟩

theorem low_facts {n : Nat} {f : Nat → Nat → Int} (h : bnOk n f = true) : ∃ m q : Nat, bnK n f = (m : Int) ∧ 1 ≤ m ∧ m + 1 < n ∧ f m 3 ≤ 1000 ∧ bhN n f = q ∧ (n : Int) - (m : Int) = (q : Int) ∧ bhK n f = m ∧ ckE n f = 0 ∧
    (∀ i, i < n → f m 3 ≤ f i 3 ∧ (i < m → f m 3 < f i 3)) ∧ ckE q (fun i j => f (i + m) j) = 0 := by
  have h' := h
  simp only [bnOk, Bool.and_eq_true, Bool.not_eq_true', decide_eq_false_iff_not, beq_eq_false_iff_ne, beq_iff_eq, ne_eq] at h'
  obtain ⟨⟨⟨h1, h2⟩, h3⟩, h4⟩ := h'
  have hl := lowTo_le f n
  have hn : 0 < n := by omega
  have hlt := lowTo_lt f n hn
  have hk : bhK n f = lowTo f n := by simp [bhK, h]
  refine ⟨lowTo f n, n - lowTo f n, bn_yes h, by omega, by omega, by omega, ?_, by omega, hk, h1, fun i hi => lowTo_min f n i hi, ck_from h1 _⟩
  unfold bhN
  rw [h1, hk]; rfl
theorem beh_low {w' : World} {n m q : Nat} {f : Nat → Nat → Int} {v : Value} {g : Nat} (h : SeenV w' v (bhN n f) (bhF n f) g 0) (hq : bhN n f = q) (hk : bhK n f = m) :
    ∃ A1 C1, v = .slice A1 q C1 ∧ SeenAt w' A1 q (fun i j => f (i + m) j) g 0 := by
  obtain ⟨A1, C1, h1, h2, _⟩ := h.ex
  have e : bhF n f = fun i j => f (i + m) j := by unfold bhF; rw [hk]
  rw [hq, e] at h2
  rw [hq] at h1
  exact ⟨A1, C1, h1, h2⟩
theorem and1e (e : Int) : (e == 0) = false ∨ e = 0 := by
  by_cases h : e = 0
  · exact .inr h
  · exact .inl (by simp [h])

end Go.Proofs.YtaeblcgblmipaaaDoor

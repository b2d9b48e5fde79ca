/-
  The law CameraTexts, walked.
-/
import Derived.Test.YtaeblcgblmipaaaDoorCamO
import Derived.Test.YtaeblcgblmipaaaDoorCamG
namespace Go.Proofs.YtaeblcgblmipaaaDoor
open Go.RowKit
set_option linter.unusedSimpArgs false

set_option maxHeartbeats 16000000 in
theorem cameraTexts_any (A0 : Option Addr) (n C : Nat) (f : Nat → Nat → Int) (b off : Nat) (w : World) (T : SeenAt w A0 n f b off) (hX : DX w) :
    Calls Tryd.prog 8 #[.slice A0 n C] w fun e w' => e = .returned (.bool true) ∧ Ext w w' := by
  have hn := T.nle
  have HX := Lib.hid hX
  have HWF : Hid (SWf n f) := T.wf
  clear hX
  by_cases hbig : 200 < n
  · have hbig' : (200 : Int) < (n : Int) := by omega
    go_enter Tryd.func8, Tryd.ntmps8
    go_wp2_with (first | ((fail_if_success (have hzz := hb1)); go_at_call 10; refine (awake_any _ HX.out.tab).mono ?_; rintro e w1 ⟨rfl, hb1⟩))
    go_ret
    exact ⟨rfl, hb1⟩
  have hbig' : ¬ ((200 : Int) < (n : Int)) := by omega
  rcases and1 (ckE n f == 0) with he | he
  · have HT : Hid (txT n f = textTo f 0) := tx_no he
    have H0 : Hid (ckE 0 f = 0) := by rw [Hid, ck_iff]; exact ⟨by omega, fun i hi => absurd hi (by omega)⟩
    obtain ⟨E, hEq⟩ : ∃ E : Int, ckE n f = E := ⟨_, rfl⟩
    rw [hEq] at he
    have HE := Lib.hid hEq
    have hE1 : (E != 0) = true := by simp only [bne, he, Bool.not_false]
    clear hEq
    go_enter Tryd.func8, Tryd.ntmps8
    go_wp2_with (first | ((fail_if_success (have hzz := hb1)); go_at_call 10; refine (awake_any _ HX.out.tab).mono ?_; rintro e w1 ⟨rfl, hb1⟩) | ((fail_if_success (have hzz := hb2)); go_at_call 22; refine (text_any _ _ _ _ _ _ _ (T.ext (by repeat (first | exact Ext.refl _ | refine Ext.setCell ?_ (by first | exact Nat.le_refl _ | (simp; done) | (simp; omega)) _ | refine Ext.drew ?_ | refine Ext.drewN ?_ _ | refine Ext.alloc ?_ _ | refine Ext.trans ?_ hb1))) (HX.out.ext hb1).tab).mono ?_; rintro e w2 ⟨rfl, hb2⟩; rw [HT.out, HE.out]) | ((fail_if_success (have hzz := hb3)); go_at_call 23; refine (rtext_any _ _ _ _ _ _ _ (T.ext (by repeat (first | exact Ext.refl _ | refine Ext.setCell ?_ (by first | exact Nat.le_refl _ | (simp; done) | (simp; omega)) _ | refine Ext.drew ?_ | refine Ext.drewN ?_ _ | refine Ext.alloc ?_ _ | refine Ext.trans ?_ hb2 | refine Ext.trans ?_ hb1)))).mono ?_; rintro e w3 ⟨rfl, hb3⟩; rw [HT.out, HE.out]) | ((fail_if_success (have hzz := hb4)); go_at_call 24; refine (parse_good 0 f _ (HX.out.ext (by repeat (first | exact Ext.refl _ | refine Ext.setCell ?_ (by first | exact Nat.le_refl _ | (simp; done) | (simp; omega)) _ | refine Ext.drew ?_ | refine Ext.drewN ?_ _ | refine Ext.alloc ?_ _ | refine Ext.trans ?_ hb3 | refine Ext.trans ?_ hb2 | refine Ext.trans ?_ hb1))) H0.out (fun i j hi hj => absurd hi (by omega))).mono ?_; rintro e w4 hr4; obtain ⟨v4, g4, rfl, hb4, hS4⟩ := hr4; obtain ⟨A4, C4, rfl, T4, hC4, hA4⟩ := hS4.ex))
    go_ret
    exact ⟨retb (by first | rfl | simp), (by repeat (first | exact Ext.refl _ | refine Ext.setCell ?_ (by first | exact Nat.le_refl _ | (simp; done) | (simp; omega)) _ | refine Ext.drew ?_ | refine Ext.drewN ?_ _ | refine Ext.alloc ?_ _ | refine Ext.trans ?_ hb4 | refine Ext.trans ?_ hb3 | refine Ext.trans ?_ hb2 | refine Ext.trans ?_ hb1))⟩
  · have he0 : ckE n f = 0 := by simpa using he
    have HT : Hid (txT n f = textTo f n) := tx_yes he
    have HE := Lib.hid he0
    clear he he0
    go_enter Tryd.func8, Tryd.ntmps8
    go_wp2_with (first | ((fail_if_success (have hzz := hb1)); go_at_call 10; refine (awake_any _ HX.out.tab).mono ?_; rintro e w1 ⟨rfl, hb1⟩) | ((fail_if_success (have hzz := hb2)); go_at_call 22; refine (text_any _ _ _ _ _ _ _ (T.ext (by repeat (first | exact Ext.refl _ | refine Ext.setCell ?_ (by first | exact Nat.le_refl _ | (simp; done) | (simp; omega)) _ | refine Ext.drew ?_ | refine Ext.drewN ?_ _ | refine Ext.alloc ?_ _ | refine Ext.trans ?_ hb1))) (HX.out.ext hb1).tab).mono ?_; rintro e w2 ⟨rfl, hb2⟩; rw [HT.out, HE.out]) | ((fail_if_success (have hzz := hb3)); go_at_call 23; refine (rtext_any _ _ _ _ _ _ _ (T.ext (by repeat (first | exact Ext.refl _ | refine Ext.setCell ?_ (by first | exact Nat.le_refl _ | (simp; done) | (simp; omega)) _ | refine Ext.drew ?_ | refine Ext.drewN ?_ _ | refine Ext.alloc ?_ _ | refine Ext.trans ?_ hb2 | refine Ext.trans ?_ hb1)))).mono ?_; rintro e w3 ⟨rfl, hb3⟩; rw [HT.out, HE.out]) | ((fail_if_success (have hzz := hb4)); go_at_call 24; refine (parse_good n f _ (HX.out.ext (by repeat (first | exact Ext.refl _ | refine Ext.setCell ?_ (by first | exact Nat.le_refl _ | (simp; done) | (simp; omega)) _ | refine Ext.drew ?_ | refine Ext.drewN ?_ _ | refine Ext.alloc ?_ _ | refine Ext.trans ?_ hb3 | refine Ext.trans ?_ hb2 | refine Ext.trans ?_ hb1))) HE.out HWF.out).mono ?_; rintro e w4 hr4; obtain ⟨v4, g4, rfl, hb4, hS4⟩ := hr4; obtain ⟨A4, C4, rfl, T4, hC4, hA4⟩ := hS4.ex) | ((fail_if_success (have hzz := hb5)); go_at_call 15; refine (same_any _ _ _ _ _ _ _ _ _ _ _ T4 (T.ext (by repeat (first | exact Ext.refl _ | refine Ext.setCell ?_ (by first | exact Nat.le_refl _ | (simp; done) | (simp; omega)) _ | refine Ext.drew ?_ | refine Ext.drewN ?_ _ | refine Ext.alloc ?_ _ | refine Ext.trans ?_ hb4 | refine Ext.trans ?_ hb3 | refine Ext.trans ?_ hb2 | refine Ext.trans ?_ hb1)))).mono ?_; rintro e w5 ⟨rfl, hb5⟩))
    go_ret
    exact ⟨retb (by first | rfl | simp), (by repeat (first | exact Ext.refl _ | refine Ext.setCell ?_ (by first | exact Nat.le_refl _ | (simp; done) | (simp; omega)) _ | refine Ext.drew ?_ | refine Ext.drewN ?_ _ | refine Ext.alloc ?_ _ | refine Ext.trans ?_ hb5 | refine Ext.trans ?_ hb4 | refine Ext.trans ?_ hb3 | refine Ext.trans ?_ hb2 | refine Ext.trans ?_ hb1))⟩

end Go.Proofs.YtaeblcgblmipaaaDoor

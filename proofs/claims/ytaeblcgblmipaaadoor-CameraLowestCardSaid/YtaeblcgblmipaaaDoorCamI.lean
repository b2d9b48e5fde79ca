/-
  The law CameraLowest, walked.
-/
import Derived.Test.YtaeblcgblmipaaaDoorCamH
namespace Go.Proofs.YtaeblcgblmipaaaDoor
open Go.RowKit
set_option linter.unusedSimpArgs false

set_option maxHeartbeats 16000000 in
theorem cameraLowest_any (A0 : Option Addr) (n C : Nat) (f : Nat → Nat → Int) (b off : Nat) (w : World) (T : SeenAt w A0 n f b off) (hC0 : n ≤ C) (hA00 : A0 = none → C = 0) (hX : TX w) :
    Calls Tryd.prog 5 #[.slice A0 n C] w fun e w' => e = .returned (.bool true) ∧ Ext w w' := by
  have hn := T.nle
  have HX := Lib.hid hX
  have hC := Lib.hid hC0
  have hA := Lib.hid hA00
  clear hX hC0 hA00
  by_cases hbig : 200 < n
  · have hbig' : (200 : Int) < (n : Int) := by omega
    go_enter Tryd.func5, Tryd.ntmps5
    go_wp2_with (first | ((fail_if_success (have hzz := hb1)); go_at_call 10; refine (awake_any _ (HX.out.ext (by repeat (first | exact Ext.refl _ | refine Ext.setCell ?_ (by first | exact Nat.le_refl _ | (simp; done) | (simp; omega)) _ | refine Ext.drew ?_ | refine Ext.drewN ?_ _ | refine Ext.alloc ?_ _)))).mono ?_; rintro e w1 ⟨rfl, hb1⟩))
    go_ret
    exact ⟨rfl, (by repeat (first | exact Ext.refl _ | refine Ext.setCell ?_ (by first | exact Nat.le_refl _ | (simp; done) | (simp; omega)) _ | refine Ext.drew ?_ | refine Ext.drewN ?_ _ | refine Ext.alloc ?_ _ | refine Ext.trans ?_ hb1))⟩
  have hbig' : ¬ ((200 : Int) < (n : Int)) := by omega
  rcases and1e (ckE n f) with he | he
  · have hnb : bnOk n f = false := by simp only [bnOk, he, Bool.false_and]
    have HV : Hid (bnK n f = 0 ∧ bnOk n f = false) := ⟨bn_no hnb, hnb⟩
    have HN : Hid (bhN n f = 0) := bh_no he
    clear hnb
    go_enter Tryd.func5, Tryd.ntmps5
    go_wp2_with (first | ((fail_if_success (have hzz := hb1)); go_at_call 10; refine (awake_any _ (HX.out.ext (by repeat (first | exact Ext.refl _ | refine Ext.setCell ?_ (by first | exact Nat.le_refl _ | (simp; done) | (simp; omega)) _ | refine Ext.drew ?_ | refine Ext.drewN ?_ _ | refine Ext.alloc ?_ _)))).mono ?_; rintro e w1 ⟨rfl, hb1⟩) | ((fail_if_success (have hzz := hb2)); go_at_call 13; refine (bounce_any _ _ _ _ _ _ _ (T.ext (by repeat (first | exact Ext.refl _ | refine Ext.setCell ?_ (by first | exact Nat.le_refl _ | (simp; done) | (simp; omega)) _ | refine Ext.drew ?_ | refine Ext.drewN ?_ _ | refine Ext.alloc ?_ _ | refine Ext.trans ?_ hb1)))).mono ?_; rintro e w2 ⟨rfl, hb2⟩; rw [HV.out.1, HV.out.2]) | ((fail_if_success (have hzz := hb3)); go_at_call 16; refine (behind_any _ _ _ _ _ _ _ (T.ext (by repeat (first | exact Ext.refl _ | refine Ext.setCell ?_ (by first | exact Nat.le_refl _ | (simp; done) | (simp; omega)) _ | refine Ext.drew ?_ | refine Ext.drewN ?_ _ | refine Ext.alloc ?_ _ | refine Ext.trans ?_ hb2 | refine Ext.trans ?_ hb1))) hC.out hA.out).mono ?_; rintro e w3 hr3; obtain ⟨v3, g3, rfl, hb3, hS3⟩ := hr3; obtain ⟨A3, C3, rfl, T3, hC3, hA3⟩ := hS3.ex; rw [HN.out]) | ((fail_if_success (have hzz := hb4)); go_at_call 11; refine (check_any _ _ _ _ _ _ _ (T.ext (by repeat (first | exact Ext.refl _ | refine Ext.setCell ?_ (by first | exact Nat.le_refl _ | (simp; done) | (simp; omega)) _ | refine Ext.drew ?_ | refine Ext.drewN ?_ _ | refine Ext.alloc ?_ _ | refine Ext.trans ?_ hb3 | refine Ext.trans ?_ hb2 | refine Ext.trans ?_ hb1)))).mono ?_; rintro e w4 ⟨rfl, hb4⟩))
    go_ret
    exact ⟨retb (by first | rfl | simp), (by repeat (first | exact Ext.refl _ | refine Ext.setCell ?_ (by first | exact Nat.le_refl _ | (simp; done) | (simp; omega)) _ | refine Ext.drew ?_ | refine Ext.drewN ?_ _ | refine Ext.alloc ?_ _ | refine Ext.trans ?_ hb4 | refine Ext.trans ?_ hb3 | refine Ext.trans ?_ hb2 | refine Ext.trans ?_ hb1))⟩
  have HE := Lib.hid he
  clear he
  rcases and1 (bnOk n f) with ho | ho
  · have HV : Hid (bnK n f = 0 ∧ bnOk n f = false) := ⟨bn_no ho, ho⟩
    have HN : Hid (bhN n f = n) := by
      have : bhK n f = 0 := by simp [bhK, ho]
      show bhN n f = n
      unfold bhN
      rw [HE.out, this]; rfl
    clear ho
    go_enter Tryd.func5, Tryd.ntmps5
    go_wp2_with (first | ((fail_if_success (have hzz := hb1)); go_at_call 10; refine (awake_any _ (HX.out.ext (by repeat (first | exact Ext.refl _ | refine Ext.setCell ?_ (by first | exact Nat.le_refl _ | (simp; done) | (simp; omega)) _ | refine Ext.drew ?_ | refine Ext.drewN ?_ _ | refine Ext.alloc ?_ _)))).mono ?_; rintro e w1 ⟨rfl, hb1⟩) | ((fail_if_success (have hzz := hb2)); go_at_call 13; refine (bounce_any _ _ _ _ _ _ _ (T.ext (by repeat (first | exact Ext.refl _ | refine Ext.setCell ?_ (by first | exact Nat.le_refl _ | (simp; done) | (simp; omega)) _ | refine Ext.drew ?_ | refine Ext.drewN ?_ _ | refine Ext.alloc ?_ _ | refine Ext.trans ?_ hb1)))).mono ?_; rintro e w2 ⟨rfl, hb2⟩; rw [HV.out.1, HV.out.2]) | ((fail_if_success (have hzz := hb3)); go_at_call 16; refine (behind_any _ _ _ _ _ _ _ (T.ext (by repeat (first | exact Ext.refl _ | refine Ext.setCell ?_ (by first | exact Nat.le_refl _ | (simp; done) | (simp; omega)) _ | refine Ext.drew ?_ | refine Ext.drewN ?_ _ | refine Ext.alloc ?_ _ | refine Ext.trans ?_ hb2 | refine Ext.trans ?_ hb1))) hC.out hA.out).mono ?_; rintro e w3 hr3; obtain ⟨v3, g3, rfl, hb3, hS3⟩ := hr3; obtain ⟨A3, C3, rfl, T3, hC3, hA3⟩ := hS3.ex; rw [HN.out]) | ((fail_if_success (have hzz := hb4)); go_at_call 11; refine (check_any _ _ _ _ _ _ _ (T.ext (by repeat (first | exact Ext.refl _ | refine Ext.setCell ?_ (by first | exact Nat.le_refl _ | (simp; done) | (simp; omega)) _ | refine Ext.drew ?_ | refine Ext.drewN ?_ _ | refine Ext.alloc ?_ _ | refine Ext.trans ?_ hb3 | refine Ext.trans ?_ hb2 | refine Ext.trans ?_ hb1)))).mono ?_; rintro e w4 ⟨rfl, hb4⟩; rw [HE.out]))
    go_ret
    exact ⟨retb (by first | rfl | simp), (by repeat (first | exact Ext.refl _ | refine Ext.setCell ?_ (by first | exact Nat.le_refl _ | (simp; done) | (simp; omega)) _ | refine Ext.drew ?_ | refine Ext.drewN ?_ _ | refine Ext.alloc ?_ _ | refine Ext.trans ?_ hb4 | refine Ext.trans ?_ hb3 | refine Ext.trans ?_ hb2 | refine Ext.trans ?_ hb1))⟩
  · obtain ⟨m, q, z1, m1, mn, zl, z2, zq, z3, _, z4, z5⟩ := low_facts ho
    have HV : Hid (bnK n f = (m : Int) ∧ bnOk n f = true) := ⟨z1, ho⟩
    have HN : Hid (bhN n f = q ∧ bhK n f = m) := ⟨z2, z3⟩
    have HM := Lib.hid z4
    have HC := Lib.hid z5
    clear z1 z2 z3 z4 z5 ho
    have m1' : ¬ ((m : Int) < 1) := by omega
    have mn' : ¬ ((n : Int) - 1 ≤ (m : Int)) := by omega
    have mn2 : m < n := by omega
    have mn3 : (m : Int) < (n : Int) := by omega
    have hq0 : (0 : Int) < (q : Int) := by omega
    have zl' : ¬ ((1000 : Int) < f m 3) := by omega
    obtain ⟨rfl, hbl⟩ := T.top (by omega)
    have cm := T.cell m 3 mn2 (by omega)
    go_enter Tryd.func5, Tryd.ntmps5
    go_wp2_with (first | ((fail_if_success (have hzz := hb1)); go_at_call 10; refine (awake_any _ (HX.out.ext (by repeat (first | exact Ext.refl _ | refine Ext.setCell ?_ (by first | exact Nat.le_refl _ | (simp; done) | (simp; omega)) _ | refine Ext.drew ?_ | refine Ext.drewN ?_ _ | refine Ext.alloc ?_ _)))).mono ?_; rintro e w1 ⟨rfl, hb1⟩) | ((fail_if_success (have hzz := hb2)); go_at_call 13; refine (bounce_any _ _ _ _ _ _ _ (T.ext (by repeat (first | exact Ext.refl _ | refine Ext.setCell ?_ (by first | exact Nat.le_refl _ | (simp; done) | (simp; omega)) _ | refine Ext.drew ?_ | refine Ext.drewN ?_ _ | refine Ext.alloc ?_ _ | refine Ext.trans ?_ hb1)))).mono ?_; rintro e w2 ⟨rfl, hb2⟩; rw [HV.out.1, HV.out.2]) | ((fail_if_success (have hzz := hb3)); go_at_call 16; refine (behind_any _ _ _ _ _ _ _ (T.ext (by repeat (first | exact Ext.refl _ | refine Ext.setCell ?_ (by first | exact Nat.le_refl _ | (simp; done) | (simp; omega)) _ | refine Ext.drew ?_ | refine Ext.drewN ?_ _ | refine Ext.alloc ?_ _ | refine Ext.trans ?_ hb2 | refine Ext.trans ?_ hb1))) hC.out hA.out).mono ?_; rintro e w3 hr3; obtain ⟨v3, g3, rfl, hb3, hS3⟩ := hr3; obtain ⟨A3, C3, rfl, T3⟩ := beh_low hS3 HN.out.1 HN.out.2; have cm3 := (T.ext (((Ext.refl w).trans hb1).trans hb2 |>.trans hb3)).cell m 3 mn2 (by omega)) | ((fail_if_success (have hzz := hb4)); go_at_call 11; refine (check_any _ _ _ _ _ _ _ (T.ext (by repeat (first | exact Ext.refl _ | refine Ext.setCell ?_ (by first | exact Nat.le_refl _ | (simp; done) | (simp; omega)) _ | refine Ext.drew ?_ | refine Ext.drewN ?_ _ | refine Ext.alloc ?_ _ | refine Ext.trans ?_ hb3 | refine Ext.trans ?_ hb2 | refine Ext.trans ?_ hb1)))).mono ?_; rintro e w4 ⟨rfl, hb4⟩; rw [HE.out]; have cm4 := (T.ext (((hb1.trans hb2).trans hb3).trans hb4)).cell m 3 mn2 (by omega)))
    go_loopw [77] (fun i wr => ∃ k : Nat, k ≤ n ∧ i = .int .i64 k ∧ Ext w4 wr) (fun i _ => n - (intOf i).toNat)
    case atStart => exact ⟨0, by omega, rfl, (by repeat (first | exact Ext.refl _ | refine Ext.setCell ?_ (by first | exact Nat.le_refl _ | (simp; done) | (simp; omega)) _ | refine Ext.drew ?_ | refine Ext.drewN ?_ _ | refine Ext.alloc ?_ _))⟩
    case round =>
      obtain ⟨k, hk, rfl, hE⟩ := hrel
      have ZE : Ext w wr := (((hb1.trans hb2).trans hb3).trans hb4).trans hE
      have TE := T.ext ZE
      have cmr := TE.cell m 3 mn2 (by omega)
      by_cases hlt : k < n
      · have c0 := TE.cell k 0 hlt (by omega)
        simp only [Nat.add_zero] at c0
        have c1 := TE.cell k 1 hlt (by omega)
        have c2 := TE.cell k 2 hlt (by omega)
        have c3 := TE.cell k 3 hlt (by omega)
        have c4 := TE.cell k 4 hlt (by omega)
        have hk1 := (HM.out k hlt).1
        have hk1' : decide (f k 3 < f m 3) = false := by simp only [decide_eq_false_iff_not]; omega
        have hbr : b < wr.heap.size := (TE.top (by omega)).2
        clear TE
        by_cases hkm : k < m
        · have hk2 := (HM.out k hlt).2 hkm
          have hkm' : (k : Int) < (m : Int) := by omega
          have hk3 : (f k 3 == f m 3) = false := by simp; omega
          have hk3' : decide (f k 3 = f m 3) = false := by simp only [decide_eq_false_iff_not]; omega
          go_wp2
          go_quiet (fail)
          go_wp2
          go_roundw
          case rel => exact ⟨k + 1, by omega, by go_num, (by repeat (first | exact Ext.refl _ | refine Ext.setCell ?_ (by first | exact Nat.le_refl _ | (simp; done) | (simp; omega)) _ | refine Ext.drew ?_ | refine Ext.drewN ?_ _ | refine Ext.alloc ?_ _ | exact hE))⟩
          case measure => simp [intOf]; omega
        · have hkm' : decide ((k : Int) < (m : Int)) = false := by simp only [decide_eq_false_iff_not]; omega
          go_wp2
          go_quiet (fail)
          go_wp2
          go_roundw
          case rel => exact ⟨k + 1, by omega, by go_num, (by repeat (first | exact Ext.refl _ | refine Ext.setCell ?_ (by first | exact Nat.le_refl _ | (simp; done) | (simp; omega)) _ | refine Ext.drew ?_ | refine Ext.drewN ?_ _ | refine Ext.alloc ?_ _ | exact hE))⟩
          case measure => simp [intOf]; omega
      · obtain rfl : k = n := by omega
        obtain ⟨rfl, hb3'⟩ := T3.top (by omega)
        have T3r := T3.ext (hb4.trans hE)
        have d0 := T3r.cell 0 0 (by omega) (by omega)
        have d1 := T3r.cell 0 1 (by omega) (by omega)
        have d2 := T3r.cell 0 2 (by omega) (by omega)
        have d3 := T3r.cell 0 3 (by omega) (by omega)
        have d4 := T3r.cell 0 4 (by omega) (by omega)
        have c0 := TE.cell m 0 mn2 (by omega)
        have c1 := TE.cell m 1 mn2 (by omega)
        have c2 := TE.cell m 2 mn2 (by omega)
        have c4 := TE.cell m 4 mn2 (by omega)
        simp only [Nat.add_zero, Nat.zero_add, Nat.zero_mul] at c0 d0 d1 d2 d3 d4
        have hbr : b < wr.heap.size := (TE.top (by omega)).2
        have hb3r : g3 < wr.heap.size := (T3r.top (by omega)).2
        clear TE T3r
        go_wp2_with (go_at_call 11; refine (check_any _ _ _ _ _ _ _ (T3.ext (hb4.trans hE))).mono ?_; rintro e w5 ⟨rfl, hb5⟩; rw [HC.out]; have e0 := hb5.keep c0; have e1 := hb5.keep c1; have e2 := hb5.keep c2; have e3 := hb5.keep cmr; have e4 := hb5.keep c4; have x0 := hb5.keep d0; have x1 := hb5.keep d1; have x2 := hb5.keep d2; have x3 := hb5.keep d3; have x4 := hb5.keep d4)
        go_quiet (fail)
        go_wp2
        go_ret
        exact ⟨retb (by first | rfl | simp), ZE.trans (by repeat (first | exact Ext.refl _ | refine Ext.setCell ?_ (by first | exact Nat.le_refl _ | (simp; done) | (simp; omega)) _ | refine Ext.drew ?_ | refine Ext.drewN ?_ _ | refine Ext.alloc ?_ _ | exact hb5))⟩

end Go.Proofs.YtaeblcgblmipaaaDoor

/-
  Check of layer 7 (program and reference).
-/
import Derived.Test.YtpeabgfolpgfjaaNotP
namespace Go.Proofs.Ytpeabgfolpgfjaa
open Go.RowKit
set_option linter.unusedSimpArgs false

theorem bet_any (n lo hi : Int) (w : World) : Calls Try.prog 59 #[.int .i64 n, .int .i64 lo, .int .i64 hi] w fun e w' => e = .returned (.bool (rng n lo hi)) ∧ w = w' := by
  rcases and2 (decide (lo ≤ n)) (decide (n ≤ hi)) with h1 | ⟨h1, h2⟩ | ⟨h1, h2⟩
  all_goals
    first
      | (have HV : Hid (rng n lo hi = false) := (by simp only [decide_eq_true_eq, decide_eq_false_iff_not] at *; simp [Hid, rng]; omega)
         go_enter Try.func59, Try.ntmps59
         go_wp2
         go_ret
         exact ⟨retb HV.out.symm, rfl⟩)
      | (have HV : Hid (rng n lo hi = true) := (by simp only [decide_eq_true_eq, decide_eq_false_iff_not] at *; simp [Hid, rng]; omega)
         go_enter Try.func59, Try.ntmps59
         go_wp2
         go_ret
         exact ⟨retb HV.out.symm, rfl⟩)

set_option maxHeartbeats 16000000 in
theorem check_any (d : Dl) (w : World) : Calls Try.prog 29 #[d.v] w fun e w' => e = .returned (.int .i64 (ckD d)) ∧ Ext w w' := by
  obtain ⟨ty, so, ru, sh, bo, cr, ho, vi, fi, se, su, sc⟩ := d
  unfold Dl.v
  dsimp only
  by_cases h1 : ty < 1
  · have HV : Hid (ckD ⟨ty, so, ru, sh, bo, cr, ho, vi, fi, se, su, sc⟩ = 3) := ck_type (by dsimp only; omega)
    go_enter Try.func29, Try.ntmps29
    go_wp2
    go_ret
    exact ⟨ret1 HV.out.symm, (by repeat (first | exact Ext.refl _ | refine Ext.setCell ?_ (by first | exact Nat.le_refl _ | (simp; done) | (simp; omega)) _ | refine Ext.drew ?_ | refine Ext.drewN ?_ _ | refine Ext.alloc ?_ _))⟩
  by_cases h2 : 3 < ty
  · have HV : Hid (ckD ⟨ty, so, ru, sh, bo, cr, ho, vi, fi, se, su, sc⟩ = 3) := ck_type (by dsimp only; omega)
    go_enter Try.func29, Try.ntmps29
    go_wp2
    go_ret
    exact ⟨ret1 HV.out.symm, (by repeat (first | exact Ext.refl _ | refine Ext.setCell ?_ (by first | exact Nat.le_refl _ | (simp; done) | (simp; omega)) _ | refine Ext.drew ?_ | refine Ext.drewN ?_ _ | refine Ext.alloc ?_ _))⟩
  by_cases h3 : 3 < so
  · have HV : Hid (ckD ⟨ty, so, ru, sh, bo, cr, ho, vi, fi, se, su, sc⟩ = 3) := ck_type (by dsimp only; omega)
    go_enter Try.func29, Try.ntmps29
    go_wp2
    go_ret
    exact ⟨ret1 HV.out.symm, (by repeat (first | exact Ext.refl _ | refine Ext.setCell ?_ (by first | exact Nat.le_refl _ | (simp; done) | (simp; omega)) _ | refine Ext.drew ?_ | refine Ext.drewN ?_ _ | refine Ext.alloc ?_ _))⟩
  by_cases h4 : 10 < ho
  · have HV : Hid (ckD ⟨ty, so, ru, sh, bo, cr, ho, vi, fi, se, su, sc⟩ = 3) := ck_type (by dsimp only; omega)
    go_enter Try.func29, Try.ntmps29
    go_wp2
    go_ret
    exact ⟨ret1 HV.out.symm, (by repeat (first | exact Ext.refl _ | refine Ext.setCell ?_ (by first | exact Nat.le_refl _ | (simp; done) | (simp; omega)) _ | refine Ext.drew ?_ | refine Ext.drewN ?_ _ | refine Ext.alloc ?_ _))⟩
  have HT : ∀ ru sh bo cr vi fi se su sc, ckT ⟨ty, so, ru, sh, bo, cr, ho, vi, fi, se, su, sc⟩ = true := by intros; simp only [ckT, Bool.and_eq_true, decide_eq_true_eq]; omega
  rcases bo_cases bo with rfl | rfl | rfl | ⟨hb, hb0, hb4, hb6⟩
  · rcases or7 (rng ru 0 7) (rng sh 0 ru) (rng vi 0 2) (rng fi 0 11) (rng se 0 11) (rng sc 0 8) with h0 | ⟨h0, h1'⟩ | ⟨h0, h1', h2'⟩ | ⟨h0, h1', h2', h3'⟩ | ⟨h0, h1', h2', h3', h4'⟩ | ⟨h0, h1', h2', h3', h4', h5'⟩ | ⟨h0, h1', h2', h3', h4', h5'⟩
    all_goals
      obtain ⟨V, hV⟩ : ∃ V, ckD ⟨ty, so, ru, sh, 0, cr, ho, vi, fi, se, su, sc⟩ = V := ⟨_, rfl⟩
      have HV := Lib.hid hV
      (try simp only [ckD, HT, ckR, h0, boOk] at hV)
      (try simp only [h1'] at hV)
      (try simp only [h2'] at hV)
      (try simp only [h3'] at hV)
      (try simp only [h4'] at hV)
      (try simp only [h5'] at hV)
      (try simp only [boOk] at hb)
      (try simp only [hb] at hV)
      simp at hV
      subst hV
      have X0 := Lib.hid h0
      try have X1 := Lib.hid h1'
      try have X2 := Lib.hid h2'
      try have X3 := Lib.hid h3'
      try have X4 := Lib.hid h4'
      try have X5 := Lib.hid h5'
      clear h0 HT
      try clear h1'
      try clear h2'
      try clear h3'
      try clear h4'
      try clear h5'
      try clear hb
      go_enter Try.func29, Try.ntmps29
      go_wp2_with (first | (go_at_call 59; refine (bet_any _ _ _ _).mono ?_; rintro e w' ⟨rfl, rfl⟩; (first | rw [X0.out] | rw [X1.out] | rw [X2.out] | rw [X3.out] | rw [X4.out] | rw [X5.out])))
      go_ret
      exact ⟨ret1 HV.out.symm, (by repeat (first | exact Ext.refl _ | refine Ext.setCell ?_ (by first | exact Nat.le_refl _ | (simp; done) | (simp; omega)) _ | refine Ext.drew ?_ | refine Ext.drewN ?_ _ | refine Ext.alloc ?_ _))⟩
  · rcases or7 (rng ru 0 7) (rng sh 0 ru) (rng vi 0 2) (rng fi 0 11) (rng se 0 11) (rng sc 0 8) with h0 | ⟨h0, h1'⟩ | ⟨h0, h1', h2'⟩ | ⟨h0, h1', h2', h3'⟩ | ⟨h0, h1', h2', h3', h4'⟩ | ⟨h0, h1', h2', h3', h4', h5'⟩ | ⟨h0, h1', h2', h3', h4', h5'⟩
    all_goals
      obtain ⟨V, hV⟩ : ∃ V, ckD ⟨ty, so, ru, sh, 4, cr, ho, vi, fi, se, su, sc⟩ = V := ⟨_, rfl⟩
      have HV := Lib.hid hV
      (try simp only [ckD, HT, ckR, h0, boOk] at hV)
      (try simp only [h1'] at hV)
      (try simp only [h2'] at hV)
      (try simp only [h3'] at hV)
      (try simp only [h4'] at hV)
      (try simp only [h5'] at hV)
      (try simp only [boOk] at hb)
      (try simp only [hb] at hV)
      simp at hV
      subst hV
      have X0 := Lib.hid h0
      try have X1 := Lib.hid h1'
      try have X2 := Lib.hid h2'
      try have X3 := Lib.hid h3'
      try have X4 := Lib.hid h4'
      try have X5 := Lib.hid h5'
      clear h0 HT
      try clear h1'
      try clear h2'
      try clear h3'
      try clear h4'
      try clear h5'
      try clear hb
      go_enter Try.func29, Try.ntmps29
      go_wp2_with (first | (go_at_call 59; refine (bet_any _ _ _ _).mono ?_; rintro e w' ⟨rfl, rfl⟩; (first | rw [X0.out] | rw [X1.out] | rw [X2.out] | rw [X3.out] | rw [X4.out] | rw [X5.out])))
      go_ret
      exact ⟨ret1 HV.out.symm, (by repeat (first | exact Ext.refl _ | refine Ext.setCell ?_ (by first | exact Nat.le_refl _ | (simp; done) | (simp; omega)) _ | refine Ext.drew ?_ | refine Ext.drewN ?_ _ | refine Ext.alloc ?_ _))⟩
  · rcases or7 (rng ru 0 7) (rng sh 0 ru) (rng vi 0 2) (rng fi 0 11) (rng se 0 11) (rng sc 0 8) with h0 | ⟨h0, h1'⟩ | ⟨h0, h1', h2'⟩ | ⟨h0, h1', h2', h3'⟩ | ⟨h0, h1', h2', h3', h4'⟩ | ⟨h0, h1', h2', h3', h4', h5'⟩ | ⟨h0, h1', h2', h3', h4', h5'⟩
    all_goals
      obtain ⟨V, hV⟩ : ∃ V, ckD ⟨ty, so, ru, sh, 6, cr, ho, vi, fi, se, su, sc⟩ = V := ⟨_, rfl⟩
      have HV := Lib.hid hV
      (try simp only [ckD, HT, ckR, h0, boOk] at hV)
      (try simp only [h1'] at hV)
      (try simp only [h2'] at hV)
      (try simp only [h3'] at hV)
      (try simp only [h4'] at hV)
      (try simp only [h5'] at hV)
      (try simp only [boOk] at hb)
      (try simp only [hb] at hV)
      simp at hV
      subst hV
      have X0 := Lib.hid h0
      try have X1 := Lib.hid h1'
      try have X2 := Lib.hid h2'
      try have X3 := Lib.hid h3'
      try have X4 := Lib.hid h4'
      try have X5 := Lib.hid h5'
      clear h0 HT
      try clear h1'
      try clear h2'
      try clear h3'
      try clear h4'
      try clear h5'
      try clear hb
      go_enter Try.func29, Try.ntmps29
      go_wp2_with (first | (go_at_call 59; refine (bet_any _ _ _ _).mono ?_; rintro e w' ⟨rfl, rfl⟩; (first | rw [X0.out] | rw [X1.out] | rw [X2.out] | rw [X3.out] | rw [X4.out] | rw [X5.out])))
      go_ret
      exact ⟨ret1 HV.out.symm, (by repeat (first | exact Ext.refl _ | refine Ext.setCell ?_ (by first | exact Nat.le_refl _ | (simp; done) | (simp; omega)) _ | refine Ext.drew ?_ | refine Ext.drewN ?_ _ | refine Ext.alloc ?_ _))⟩
  · rcases or7 (rng ru 0 7) (rng sh 0 ru) (rng vi 0 2) (rng fi 0 11) (rng se 0 11) (rng sc 0 8) with h0 | ⟨h0, h1'⟩ | ⟨h0, h1', h2'⟩ | ⟨h0, h1', h2', h3'⟩ | ⟨h0, h1', h2', h3', h4'⟩ | ⟨h0, h1', h2', h3', h4', h5'⟩ | ⟨h0, h1', h2', h3', h4', h5'⟩
    all_goals
      obtain ⟨V, hV⟩ : ∃ V, ckD ⟨ty, so, ru, sh, bo, cr, ho, vi, fi, se, su, sc⟩ = V := ⟨_, rfl⟩
      have HV := Lib.hid hV
      (try simp only [ckD, HT, ckR, h0, boOk] at hV)
      (try simp only [h1'] at hV)
      (try simp only [h2'] at hV)
      (try simp only [h3'] at hV)
      (try simp only [h4'] at hV)
      (try simp only [h5'] at hV)
      (try simp only [boOk] at hb)
      (try simp only [hb] at hV)
      simp at hV
      subst hV
      have X0 := Lib.hid h0
      try have X1 := Lib.hid h1'
      try have X2 := Lib.hid h2'
      try have X3 := Lib.hid h3'
      try have X4 := Lib.hid h4'
      try have X5 := Lib.hid h5'
      clear h0 HT
      try clear h1'
      try clear h2'
      try clear h3'
      try clear h4'
      try clear h5'
      try clear hb
      go_enter Try.func29, Try.ntmps29
      go_wp2_with (first | (go_at_call 59; refine (bet_any _ _ _ _).mono ?_; rintro e w' ⟨rfl, rfl⟩; (first | rw [X0.out] | rw [X1.out] | rw [X2.out] | rw [X3.out] | rw [X4.out] | rw [X5.out])))
      go_ret
      exact ⟨ret1 HV.out.symm, (by repeat (first | exact Ext.refl _ | refine Ext.setCell ?_ (by first | exact Nat.le_refl _ | (simp; done) | (simp; omega)) _ | refine Ext.drew ?_ | refine Ext.drewN ?_ _ | refine Ext.alloc ?_ _))⟩

end Go.Proofs.Ytpeabgfolpgfjaa

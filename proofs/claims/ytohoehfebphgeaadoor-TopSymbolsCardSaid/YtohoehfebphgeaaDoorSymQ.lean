/-
  The two symbols of a delivery (layer 21), walked.
-/
import Derived.Test.YtohoehfebphgeaaDoorSymP
namespace Go.Proofs.YtohoehfebphgeaaDoor
open Go.RowKit
set_option linter.unusedSimpArgs false

set_option maxRecDepth 20000 in
set_option maxHeartbeats 8000000 in
theorem strip_any (r : Ru) (d : Dl) (hd : d.Lg) (h0 : lgD d = 0) (hwi : 0 ≤ r.wi ∧ r.wi ≤ 5) (hnb : 0 ≤ r.nb ∧ r.nb ≤ 5) (w : World) (hX : TX w) :
    Calls Tryd.prog 17 #[r.v, d.v] w fun e w' => e = .returned (.string ⟨(strS d 0).toArray⟩) ∧ Ext w w' := by
  have HC : Hid (∀ W, Calls Tryd.prog 8 #[r.v, d.v] W fun e w' => e = .returned (crV d r.wi r.nb) ∧ Ext W w') := fun W => credit_any r d hd h0 hwi hnb W
  have hbd := (cred_bd hd hwi hnb).1
  have HX := Lib.hid hX
  have HV : Hid (strS d 0 = if d.ty = 2 then [] else numL (batN d)) := rfl
  rw [HV.out]
  unfold crV at HC
  try dsimp only at HC
  obtain ⟨a0, g0⟩ : ∃ x, batN d = x := ⟨_, rfl⟩
  rw [g0] at HC hbd ⊢
  obtain ⟨a1, g1⟩ : ∃ x, widN d r.wi = x := ⟨_, rfl⟩
  rw [g1] at HC
  obtain ⟨a2, g2⟩ : ∃ x, nbsN d r.nb = x := ⟨_, rfl⟩
  rw [g2] at HC
  obtain ⟨a3, g3⟩ : ∃ x, byeN d = x := ⟨_, rfl⟩
  rw [g3] at HC
  obtain ⟨a4, g4⟩ : ∃ x, legN d = x := ⟨_, rfl⟩
  rw [g4] at HC
  obtain ⟨a8, g8⟩ : ∃ x, crdB d.ho = x := ⟨_, rfl⟩
  rw [g8] at HC
  obtain ⟨a9, g9⟩ : ∃ x, swapB d = x := ⟨_, rfl⟩
  rw [g9] at HC
  obtain ⟨a5, g5⟩ : ∃ x, a0 + a1 + a2 = x := ⟨_, rfl⟩
  rw [g5] at HC
  have HA0 := Lib.hid hbd
  clear g0 g1 g2 g3 g4 g5 g8 g9 hd h0 hwi hnb hX HV hbd
  obtain ⟨ty, so, ru, sh, bo, cr, ho, vi, fi, se, su, sc⟩ := d
  obtain ⟨nm, si, inn, ov, ba, qu, wi, nb, fh, nw, fo, re, ou, pa, pl, pc⟩ := r
  unfold Dl.v at HC ⊢
  unfold Ru.v at HC ⊢
  dsimp only at *
  by_cases h2 : ty = 2
  · subst h2
    go_enter Tryd.func17, Tryd.ntmps17
    go_wp2_with ((fail_if_success (have hzz := hb1)); go_at_call 8; refine (HC.out _).mono ?_; rintro e w1 ⟨rfl, hb1⟩; obtain ⟨hc1, hf1⟩ := hb1.cells; (try (have l1_0 : w.heap.size < w1.heap.size := hb1.lt (by first | (simp; done) | (simp; omega) | (simp [go_sem]; done) | (simp [go_sem]; omega) | omega))); (try (have l1_1 : w.heap.size + 1 < w1.heap.size := hb1.lt (by first | (simp; done) | (simp; omega) | (simp [go_sem]; done) | (simp [go_sem]; omega) | omega))))
    go_ret
    exact ⟨by first | rfl | simp, (by repeat (first | exact Ext.refl _ | refine Ext.setCell ?_ (by first | exact Nat.le_refl _ | (simp; done) | (simp; omega)) _ | refine Ext.drew ?_ | refine Ext.drewN ?_ _ | refine Ext.alloc ?_ _ | refine Ext.trans ?_ hb1))⟩
  · have h3 : (ty != 2) = true := by simpa using h2
    have H2 := Lib.hid h2
    clear h2
    go_enter Tryd.func17, Tryd.ntmps17
    go_wp2_with (first | ((fail_if_success (have hzz := hb1)); go_at_call 8; refine (HC.out _).mono ?_; rintro e w1 ⟨rfl, hb1⟩; obtain ⟨hc1, hf1⟩ := hb1.cells; (try (have l1_0 : w.heap.size < w1.heap.size := hb1.lt (by first | (simp; done) | (simp; omega) | (simp [go_sem]; done) | (simp [go_sem]; omega) | omega))); (try (have l1_1 : w.heap.size + 1 < w1.heap.size := hb1.lt (by first | (simp; done) | (simp; omega) | (simp [go_sem]; done) | (simp [go_sem]; omega) | omega)))) | ((fail_if_success (have hzz := hb2)); go_at_call 28; refine (number_any a0 (by have := HA0.out; omega) (by have := HA0.out; omega) _ (HX.out.ext (by repeat (first | exact Ext.refl _ | refine Ext.setCell ?_ (by first | exact Nat.le_refl _ | (simp; done) | (simp; omega)) _ | refine Ext.drew ?_ | refine Ext.drewN ?_ _ | refine Ext.alloc ?_ _ | refine Ext.trans ?_ hb1)))).mono ?_; rintro e w2 ⟨rfl, hb2⟩))
    go_ret
    exact ⟨by have hq : ¬ (ty = 2) := H2.out; simp [hq], (by repeat (first | exact Ext.refl _ | refine Ext.setCell ?_ (by first | exact Nat.le_refl _ | (simp; done) | (simp; omega)) _ | refine Ext.drew ?_ | refine Ext.drewN ?_ _ | refine Ext.alloc ?_ _ | refine Ext.trans ?_ hb2 | refine Ext.trans ?_ hb1))⟩

set_option maxRecDepth 20000 in
set_option maxHeartbeats 8000000 in
theorem stripsym_any (r : Ru) (d : Dl) (hw : d.Wf) (f : Nat → Nat → Int) (b off : Nat) (hnm : r.nm.length ≤ 9223372036854775807) (K : Int) (hK : ckB (ckRu r (phE r.pl f r.ov)) d = K) (w : World) (T : PhAt w r.pa r.pl f b off) (hX : TX w) :
    Calls Tryd.prog 6 #[r.v, d.v] w fun e w' => e = .returned (.tuple #[.string ⟨(strS d K).toArray⟩, .int .i64 K]) ∧ Ext w w' := by
  have HCK : Hid (∀ W, PhAt W r.pa r.pl f b off → Calls Tryd.prog 14 #[r.v, d.v] W fun e w' => e = .returned (.int .i64 K) ∧ Ext W w') := fun W h => by
    have := bcheck_any r d hw f b off hnm W h
    rwa [hK] at this
  have HT := Lib.hid T
  have HX := Lib.hid hX
  by_cases hk : K = 0
  · rw [hk] at hK HCK ⊢
    obtain ⟨k1, k2, k3⟩ := ckB_zero hK
    obtain ⟨k4, k5⟩ := ckRu_zero k1
    have hd := lg_ok hw k2
    have HS : Hid (∀ W, TX W → Calls Tryd.prog 17 #[r.v, d.v] W fun e w' => e = .returned (.string ⟨(strS d 0).toArray⟩) ∧ Ext W w') := fun W h => strip_any r d hd k2 k4 k5 W h
    obtain ⟨S, hS⟩ : ∃ S, strS d 0 = S := ⟨_, rfl⟩
    rw [hS] at HS
    rw [hS]
    clear hS hd k1 k2 k3 k4 k5 hK hw hnm T hX
    obtain ⟨ty, so, ru, sh, bo, cr, ho, vi, fi, se, su, sc⟩ := d
    obtain ⟨nm, si, inn, ov, ba, qu, wi, nb, fh, nw, fo, re, ou, pa, pl, pc⟩ := r
    unfold Dl.v at *
    unfold Ru.v at *
    dsimp only at *
    go_enter Tryd.func6, Tryd.ntmps6
    go_wp2_with (first | ((fail_if_success (have hzz := hb1)); go_at_call 14; refine (HCK.out _ (HT.out.ext (by repeat (first | exact Ext.refl _ | refine Ext.setCell ?_ (by first | exact Nat.le_refl _ | (simp; done) | (simp; omega)) _ | refine Ext.drew ?_ | refine Ext.drewN ?_ _ | refine Ext.alloc ?_ _)))).mono ?_; rintro e w1 ⟨rfl, hb1⟩; obtain ⟨hc1, hf1⟩ := hb1.cells; (try (have l1_0 : w.heap.size < w1.heap.size := hb1.lt (by first | (simp; done) | (simp; omega) | (simp [go_sem]; done) | (simp [go_sem]; omega) | omega))); (try (have l1_1 : w.heap.size + 1 < w1.heap.size := hb1.lt (by first | (simp; done) | (simp; omega) | (simp [go_sem]; done) | (simp [go_sem]; omega) | omega)))) | ((fail_if_success (have hzz := hb2)); go_at_call 17; refine (HS.out _ (HX.out.ext (by repeat (first | exact Ext.refl _ | refine Ext.setCell ?_ (by first | exact Nat.le_refl _ | (simp; done) | (simp; omega)) _ | refine Ext.drew ?_ | refine Ext.drewN ?_ _ | refine Ext.alloc ?_ _ | refine Ext.trans ?_ hb1)))).mono ?_; rintro e w2 ⟨rfl, hb2⟩))
    go_ret2
    exact ⟨by first | rfl | simp, (by repeat (first | exact Ext.refl _ | refine Ext.setCell ?_ (by first | exact Nat.le_refl _ | (simp; done) | (simp; omega)) _ | refine Ext.drew ?_ | refine Ext.drewN ?_ _ | refine Ext.alloc ?_ _ | refine Ext.trans ?_ hb3 | refine Ext.trans ?_ hb2 | refine Ext.trans ?_ hb1))⟩
  · have HV : Hid (strS d K = []) := if_neg hk
    rw [HV.out]
    have hp1 : (K != 0) = true := by simpa using hk
    have hp2 : (K == 0) = false := by simpa using hk
    clear hk HV hK hw hnm T hX
    obtain ⟨ty, so, ru, sh, bo, cr, ho, vi, fi, se, su, sc⟩ := d
    obtain ⟨nm, si, inn, ov, ba, qu, wi, nb, fh, nw, fo, re, ou, pa, pl, pc⟩ := r
    unfold Dl.v at *
    unfold Ru.v at *
    dsimp only at *
    go_enter Tryd.func6, Tryd.ntmps6
    go_wp2_with ((fail_if_success (have hzz := hb1)); go_at_call 14; refine (HCK.out _ (HT.out.ext (by repeat (first | exact Ext.refl _ | refine Ext.setCell ?_ (by first | exact Nat.le_refl _ | (simp; done) | (simp; omega)) _ | refine Ext.drew ?_ | refine Ext.drewN ?_ _ | refine Ext.alloc ?_ _)))).mono ?_; rintro e w1 ⟨rfl, hb1⟩; obtain ⟨hc1, hf1⟩ := hb1.cells; (try (have l1_0 : w.heap.size < w1.heap.size := hb1.lt (by first | (simp; done) | (simp; omega) | (simp [go_sem]; done) | (simp [go_sem]; omega) | omega))); (try (have l1_1 : w.heap.size + 1 < w1.heap.size := hb1.lt (by first | (simp; done) | (simp; omega) | (simp [go_sem]; done) | (simp [go_sem]; omega) | omega))))
    go_ret2
    exact ⟨by first | rfl | simp, (by repeat (first | exact Ext.refl _ | refine Ext.setCell ?_ (by first | exact Nat.le_refl _ | (simp; done) | (simp; omega)) _ | refine Ext.drew ?_ | refine Ext.drewN ?_ _ | refine Ext.alloc ?_ _ | refine Ext.trans ?_ hb1))⟩

end Go.Proofs.YtohoehfebphgeaaDoor

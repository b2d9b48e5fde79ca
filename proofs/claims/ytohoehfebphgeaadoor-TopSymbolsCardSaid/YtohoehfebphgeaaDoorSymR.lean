/-
  The symbol of a delivery in a box (layer 21), walked.
-/
import Derived.Test.YtohoehfebphgeaaDoorSymP
namespace Go.Proofs.YtohoehfebphgeaaDoor
open Go.RowKit
set_option linter.unusedSimpArgs false

set_option maxRecDepth 20000 in
set_option maxHeartbeats 8000000 in
theorem boxsym_any (r : Ru) (d : Dl) (hw : d.Wf) (f : Nat → Nat → Int) (b off : Nat) (hnm : r.nm.length ≤ 9223372036854775807) (K : Int) (hK : ckB (ckRu r (phE r.pl f r.ov)) d = K) (w : World) (T : PhAt w r.pa r.pl f b off) (hX : TX w) :
    Calls Tryd.prog 5 #[r.v, d.v] w fun e w' => e = .returned (.tuple #[.string ⟨(boxS r d K).toArray⟩, .int .i64 K]) ∧ Ext w w' := by
  have HCK : Hid (∀ W, PhAt W r.pa r.pl f b off → Calls Tryd.prog 14 #[r.v, d.v] W fun e w' => e = .returned (.int .i64 K) ∧ Ext W w') := fun W h => by
    have := bcheck_any r d hw f b off hnm W h
    rwa [hK] at this
  have HT := Lib.hid T
  have HX := Lib.hid hX
  by_cases hk : K = 0
  · rw [hk] at hK HCK ⊢
    obtain ⟨k1, k2, k3⟩ := ckB_zero hK
    obtain ⟨k4, k5⟩ := ckRu_zero k1
    have hd := lg_ok hw k2
    obtain ⟨c0, c1, c2, c3, c4, c5⟩ := cred_bd hd k4 k5
    have HSY : Hid (∀ W, TX W → Calls Tryd.prog 16 #[.agg #[.int .u8 (kndN d.ty), .int .i64 (batN d + widN d r.wi + nbsN d r.nb), .int .i64 (byeN d), .int .i64 (legN d), .int .u8 (mrkN d.ho)]] W fun e w' => e = .returned (.string ⟨(symS (kndN d.ty) (batN d + widN d r.wi + nbsN d r.nb) (byeN d) (legN d) (mrkN d.ho)).toArray⟩) ∧ Ext W w') := fun W h =>
      symbol_any _ _ _ _ _ (by unfold kndN; split <;> (try split) <;> simp) (by unfold mrkN; split <;> (try split) <;> simp) (by omega) (by omega) (by omega) c5 W h
    have HEN : Hid (∀ W, Calls Tryd.prog 15 #[r.v, d.v] W fun e w' => e = .returned (enV r d) ∧ Ext W w') := fun W => entry_any r d hd k2 k4 k5 W
    clear c0 c1 c2 c3 c4 c5
    obtain ⟨S, hS⟩ : ∃ S, boxS r d 0 = S := ⟨_, rfl⟩
    have hS2 : symS (kndN d.ty) (batN d + widN d r.wi + nbsN d r.nb) (byeN d) (legN d) (mrkN d.ho) = S := by rw [← hS]; rfl
    rw [hS2] at HSY
    obtain ⟨q1, z1⟩ : ∃ x, kndN d.ty = x := ⟨_, rfl⟩
    obtain ⟨q2, z2⟩ : ∃ x, batN d + widN d r.wi + nbsN d r.nb = x := ⟨_, rfl⟩
    obtain ⟨q3, z3⟩ : ∃ x, byeN d = x := ⟨_, rfl⟩
    obtain ⟨q4, z4⟩ : ∃ x, legN d = x := ⟨_, rfl⟩
    obtain ⟨q5, z5⟩ : ∃ x, mrkN d.ho = x := ⟨_, rfl⟩
    unfold enV at HEN
    rw [z1, z2, z3, z4, z5] at HEN HSY
    clear hS2 z1 z2 z3 z4 z5
    rw [hS]
    clear hS hd k1 k2 k3 k4 k5 hK hw hnm T hX
    obtain ⟨ty, so, ru, sh, bo, cr, ho, vi, fi, se, su, sc⟩ := d
    obtain ⟨nm, si, inn, ov, ba, qu, wi, nb, fh, nw, fo, re, ou, pa, pl, pc⟩ := r
    unfold Dl.v at *
    unfold Ru.v at *
    dsimp only at *
    go_enter Tryd.func5, Tryd.ntmps5
    go_wp2_with (first | ((fail_if_success (have hzz := hb1)); go_at_call 14; refine (HCK.out _ (HT.out.ext (by repeat (first | exact Ext.refl _ | refine Ext.setCell ?_ (by first | exact Nat.le_refl _ | (simp; done) | (simp; omega)) _ | refine Ext.drew ?_ | refine Ext.drewN ?_ _ | refine Ext.alloc ?_ _)))).mono ?_; rintro e w1 ⟨rfl, hb1⟩; obtain ⟨hc1, hf1⟩ := hb1.cells; (try (have l1_0 : w.heap.size < w1.heap.size := hb1.lt (by first | (simp; done) | (simp; omega) | (simp [go_sem]; done) | (simp [go_sem]; omega) | omega))); (try (have l1_1 : w.heap.size + 1 < w1.heap.size := hb1.lt (by first | (simp; done) | (simp; omega) | (simp [go_sem]; done) | (simp [go_sem]; omega) | omega)))) | ((fail_if_success (have hzz := hb2)); go_at_call 15; refine (HEN.out _).mono ?_; rintro e w2 ⟨rfl, hb2⟩) | ((fail_if_success (have hzz := hb3)); go_at_call 16; refine (HSY.out _ (HX.out.ext (by repeat (first | exact Ext.refl _ | refine Ext.setCell ?_ (by first | exact Nat.le_refl _ | (simp; done) | (simp; omega)) _ | refine Ext.drew ?_ | refine Ext.drewN ?_ _ | refine Ext.alloc ?_ _ | refine Ext.trans ?_ hb2 | refine Ext.trans ?_ hb1)))).mono ?_; rintro e w3 ⟨rfl, hb3⟩))
    go_ret2
    exact ⟨by first | rfl | simp, (by repeat (first | exact Ext.refl _ | refine Ext.setCell ?_ (by first | exact Nat.le_refl _ | (simp; done) | (simp; omega)) _ | refine Ext.drew ?_ | refine Ext.drewN ?_ _ | refine Ext.alloc ?_ _ | refine Ext.trans ?_ hb3 | refine Ext.trans ?_ hb2 | refine Ext.trans ?_ hb1))⟩
  · have HV : Hid (boxS r d K = []) := if_neg hk
    rw [HV.out]
    have hp1 : (K != 0) = true := by simpa using hk
    have hp2 : (K == 0) = false := by simpa using hk
    clear hk HV hK hw hnm T hX
    obtain ⟨ty, so, ru, sh, bo, cr, ho, vi, fi, se, su, sc⟩ := d
    obtain ⟨nm, si, inn, ov, ba, qu, wi, nb, fh, nw, fo, re, ou, pa, pl, pc⟩ := r
    unfold Dl.v at *
    unfold Ru.v at *
    dsimp only at *
    go_enter Tryd.func5, Tryd.ntmps5
    go_wp2_with ((fail_if_success (have hzz := hb1)); go_at_call 14; refine (HCK.out _ (HT.out.ext (by repeat (first | exact Ext.refl _ | refine Ext.setCell ?_ (by first | exact Nat.le_refl _ | (simp; done) | (simp; omega)) _ | refine Ext.drew ?_ | refine Ext.drewN ?_ _ | refine Ext.alloc ?_ _)))).mono ?_; rintro e w1 ⟨rfl, hb1⟩; obtain ⟨hc1, hf1⟩ := hb1.cells; (try (have l1_0 : w.heap.size < w1.heap.size := hb1.lt (by first | (simp; done) | (simp; omega) | (simp [go_sem]; done) | (simp [go_sem]; omega) | omega))); (try (have l1_1 : w.heap.size + 1 < w1.heap.size := hb1.lt (by first | (simp; done) | (simp; omega) | (simp [go_sem]; done) | (simp [go_sem]; omega) | omega))))
    go_ret2
    exact ⟨by first | rfl | simp, (by repeat (first | exact Ext.refl _ | refine Ext.setCell ?_ (by first | exact Nat.le_refl _ | (simp; done) | (simp; omega)) _ | refine Ext.drew ?_ | refine Ext.drewN ?_ _ | refine Ext.alloc ?_ _ | refine Ext.trans ?_ hb1))⟩

end Go.Proofs.YtohoehfebphgeaaDoor

/-
  Check, box symbol and strip symbol of a delivery (layer 21).
-/
import Derived.Test.YtohoehfebphgeaaDoorSymE
import Derived.Test.YtohoehfebphgeaaDoorSymF
import Derived.Test.YtohoehfebphgeaaDoorSymJ
import Derived.Test.YtohoehfebphgeaaDoorSymO
namespace Go.Proofs.YtohoehfebphgeaaDoor
open Go.RowKit
set_option linter.unusedSimpArgs false

/-- What the check of rules and delivery says, where the rules' own check says E. -/
def ckB (E : Int) (d : Dl) : Int := if E ≠ 0 then E else if lgD d ≠ 0 ∨ psD d ≠ 0 then 1 else 0
theorem ckB_zero {E : Int} {d : Dl} (h : ckB E d = 0) : E = 0 ∧ lgD d = 0 ∧ psD d = 0 := by
  unfold ckB at h
  by_cases h1 : E = 0
  · rw [if_neg (by simpa using h1)] at h
    by_cases h2 : lgD d ≠ 0 ∨ psD d ≠ 0
    · rw [if_pos h2] at h; omega
    · exact ⟨h1, by omega, by omega⟩
  · rw [if_pos h1] at h; exact absurd h h1
theorem ckRu_zero {r : Ru} {P : Int} (h : ckRu r P = 0) : (0 ≤ r.wi ∧ r.wi ≤ 5) ∧ (0 ≤ r.nb ∧ r.nb ≤ 5) := by
  unfold ckRu at h
  split at h
  · cases h
  · split at h
    · cases h
    · rename_i h1 h2
      have hi : irB r = true := by cases hh : irB r <;> simp_all
      simp only [irB, Bool.and_eq_true] at hi
      have h3 := rng_yes hi.1.1.1.1.1.2
      have h4 := rng_yes hi.1.1.1.1.2
      omega

set_option maxRecDepth 20000 in
set_option maxHeartbeats 8000000 in
theorem bcheck_any (r : Ru) (d : Dl) (hw : d.Wf) (f : Nat → Nat → Int) (b off : Nat) (hnm : r.nm.length ≤ 9223372036854775807) (w : World) (T : PhAt w r.pa r.pl f b off) :
    Calls Tryd.prog 14 #[r.v, d.v] w fun e w' => e = .returned (.int .i64 (ckB (ckRu r (phE r.pl f r.ov)) d)) ∧ Ext w w' := by
  have HRU : Hid (∀ W, PhAt W r.pa r.pl f b off → Calls Tryd.prog 26 #[r.v] W fun e w' => e = .returned (.int .i64 (ckRu r (phE r.pl f r.ov))) ∧ Ext W w') := fun W h => rucheck_any r f b off W hnm h
  have HLG : Hid (∀ W, Calls Tryd.prog 22 #[d.v] W fun e w' => e = .returned (.int .i64 (lgD d)) ∧ Ext W w') := fun W => legal_any d W
  have HT := Lib.hid T
  clear T hnm
  obtain ⟨E, hE⟩ : ∃ E, ckRu r (phE r.pl f r.ov) = E := ⟨_, rfl⟩
  rw [hE] at HRU ⊢
  clear hE
  by_cases hE0 : E = 0
  · by_cases hL0 : lgD d = 0
    · have HG := lg_ok hw hL0
      have HPS : Hid (∀ W, Calls Tryd.prog 27 #[d.v, .bool false] W fun e w' => e = .returned (.int .i64 (psD d)) ∧ Ext W w') := fun W => possible_any d HG.ho.1 HG.ho.2 W
      have HV : Hid (ckB E d = if psD d ≠ 0 then 1 else 0) := by simp [Hid, ckB, hE0, hL0]
      rw [HV.out]
      rw [hL0] at HLG
      subst hE0
      clear hL0 HG hw HV
      obtain ⟨P, hP⟩ : ∃ P, psD d = P := ⟨_, rfl⟩
      rw [hP] at HPS ⊢
      clear hP
      obtain ⟨ty, so, ru, sh, bo, cr, ho, vi, fi, se, su, sc⟩ := d
      obtain ⟨nm, si, inn, ov, ba, qu, wi, nb, fh, nw, fo, re, ou, pa, pl, pc⟩ := r
      unfold Dl.v at HLG HPS ⊢
      unfold Ru.v at HRU ⊢
      dsimp only at *
      by_cases hp : P = 0
      · subst hp
        go_enter Tryd.func14, Tryd.ntmps14
        go_wp2_with (first | ((fail_if_success (have hzz := hb1)); go_at_call 26; refine (HRU.out _ (HT.out.ext (by repeat (first | exact Ext.refl _ | refine Ext.setCell ?_ (by first | exact Nat.le_refl _ | (simp; done) | (simp; omega)) _ | refine Ext.drew ?_ | refine Ext.drewN ?_ _ | refine Ext.alloc ?_ _)))).mono ?_; rintro e w1 ⟨rfl, hb1⟩; obtain ⟨hc1, hf1⟩ := hb1.cells; (try (have l1_0 : w.heap.size < w1.heap.size := hb1.lt (by first | (simp; done) | (simp; omega) | (simp [go_sem]; done) | (simp [go_sem]; omega) | omega))); (try (have l1_1 : w.heap.size + 1 < w1.heap.size := hb1.lt (by first | (simp; done) | (simp; omega) | (simp [go_sem]; done) | (simp [go_sem]; omega) | omega)))) | ((fail_if_success (have hzz := hb2)); go_at_call 22; refine (HLG.out _).mono ?_; rintro e w2 ⟨rfl, hb2⟩; obtain ⟨hc2, hf2⟩ := hb2.cells; (try (have l2_0 : w.heap.size < w2.heap.size := hb2.lt (by first | (simp; done) | (simp; omega) | (simp [go_sem]; done) | (simp [go_sem]; omega) | omega))); (try (have l2_1 : w.heap.size + 1 < w2.heap.size := hb2.lt (by first | (simp; done) | (simp; omega) | (simp [go_sem]; done) | (simp [go_sem]; omega) | omega)))) | ((fail_if_success (have hzz := hb3)); go_at_call 27; refine (HPS.out _).mono ?_; rintro e w3 ⟨rfl, hb3⟩))
        go_ret
        exact ⟨by first | rfl | simp, (by repeat (first | exact Ext.refl _ | refine Ext.setCell ?_ (by first | exact Nat.le_refl _ | (simp; done) | (simp; omega)) _ | refine Ext.drew ?_ | refine Ext.drewN ?_ _ | refine Ext.alloc ?_ _ | refine Ext.trans ?_ hb3 | refine Ext.trans ?_ hb2 | refine Ext.trans ?_ hb1))⟩
      · have hp1 : (P != 0) = true := by simpa using hp
        have hp2 : (P == 0) = false := by simpa using hp
        have HP := Lib.hid hp
        clear hp
        go_enter Tryd.func14, Tryd.ntmps14
        go_wp2_with (first | ((fail_if_success (have hzz := hb1)); go_at_call 26; refine (HRU.out _ (HT.out.ext (by repeat (first | exact Ext.refl _ | refine Ext.setCell ?_ (by first | exact Nat.le_refl _ | (simp; done) | (simp; omega)) _ | refine Ext.drew ?_ | refine Ext.drewN ?_ _ | refine Ext.alloc ?_ _)))).mono ?_; rintro e w1 ⟨rfl, hb1⟩; obtain ⟨hc1, hf1⟩ := hb1.cells; (try (have l1_0 : w.heap.size < w1.heap.size := hb1.lt (by first | (simp; done) | (simp; omega) | (simp [go_sem]; done) | (simp [go_sem]; omega) | omega))); (try (have l1_1 : w.heap.size + 1 < w1.heap.size := hb1.lt (by first | (simp; done) | (simp; omega) | (simp [go_sem]; done) | (simp [go_sem]; omega) | omega)))) | ((fail_if_success (have hzz := hb2)); go_at_call 22; refine (HLG.out _).mono ?_; rintro e w2 ⟨rfl, hb2⟩; obtain ⟨hc2, hf2⟩ := hb2.cells; (try (have l2_0 : w.heap.size < w2.heap.size := hb2.lt (by first | (simp; done) | (simp; omega) | (simp [go_sem]; done) | (simp [go_sem]; omega) | omega))); (try (have l2_1 : w.heap.size + 1 < w2.heap.size := hb2.lt (by first | (simp; done) | (simp; omega) | (simp [go_sem]; done) | (simp [go_sem]; omega) | omega)))) | ((fail_if_success (have hzz := hb3)); go_at_call 27; refine (HPS.out _).mono ?_; rintro e w3 ⟨rfl, hb3⟩))
        go_ret
        exact ⟨by have hq : ¬ (P = 0) := HP.out; simp [hq], (by repeat (first | exact Ext.refl _ | refine Ext.setCell ?_ (by first | exact Nat.le_refl _ | (simp; done) | (simp; omega)) _ | refine Ext.drew ?_ | refine Ext.drewN ?_ _ | refine Ext.alloc ?_ _ | refine Ext.trans ?_ hb3 | refine Ext.trans ?_ hb2 | refine Ext.trans ?_ hb1))⟩
    · have HV : Hid (ckB E d = 1) := by simp [Hid, ckB, hE0, hL0]
      rw [HV.out]
      obtain ⟨P, hP⟩ : ∃ P, lgD d = P := ⟨_, rfl⟩
      rw [hP] at HLG hL0
      subst hE0
      have hp1 : (P != 0) = true := by simpa using hL0
      have hp2 : (P == 0) = false := by simpa using hL0
      clear hP hL0 hw HV
      obtain ⟨ty, so, ru, sh, bo, cr, ho, vi, fi, se, su, sc⟩ := d
      obtain ⟨nm, si, inn, ov, ba, qu, wi, nb, fh, nw, fo, re, ou, pa, pl, pc⟩ := r
      unfold Dl.v at HLG ⊢
      unfold Ru.v at HRU ⊢
      dsimp only at *
      go_enter Tryd.func14, Tryd.ntmps14
      go_wp2_with (first | ((fail_if_success (have hzz := hb1)); go_at_call 26; refine (HRU.out _ (HT.out.ext (by repeat (first | exact Ext.refl _ | refine Ext.setCell ?_ (by first | exact Nat.le_refl _ | (simp; done) | (simp; omega)) _ | refine Ext.drew ?_ | refine Ext.drewN ?_ _ | refine Ext.alloc ?_ _)))).mono ?_; rintro e w1 ⟨rfl, hb1⟩; obtain ⟨hc1, hf1⟩ := hb1.cells; (try (have l1_0 : w.heap.size < w1.heap.size := hb1.lt (by first | (simp; done) | (simp; omega) | (simp [go_sem]; done) | (simp [go_sem]; omega) | omega))); (try (have l1_1 : w.heap.size + 1 < w1.heap.size := hb1.lt (by first | (simp; done) | (simp; omega) | (simp [go_sem]; done) | (simp [go_sem]; omega) | omega)))) | ((fail_if_success (have hzz := hb2)); go_at_call 22; refine (HLG.out _).mono ?_; rintro e w2 ⟨rfl, hb2⟩; obtain ⟨hc2, hf2⟩ := hb2.cells; (try (have l2_0 : w.heap.size < w2.heap.size := hb2.lt (by first | (simp; done) | (simp; omega) | (simp [go_sem]; done) | (simp [go_sem]; omega) | omega))); (try (have l2_1 : w.heap.size + 1 < w2.heap.size := hb2.lt (by first | (simp; done) | (simp; omega) | (simp [go_sem]; done) | (simp [go_sem]; omega) | omega)))))
      go_ret
      exact ⟨rfl, (by repeat (first | exact Ext.refl _ | refine Ext.setCell ?_ (by first | exact Nat.le_refl _ | (simp; done) | (simp; omega)) _ | refine Ext.drew ?_ | refine Ext.drewN ?_ _ | refine Ext.alloc ?_ _ | refine Ext.trans ?_ hb2 | refine Ext.trans ?_ hb1))⟩
  · have HV : Hid (ckB E d = E) := by simp [Hid, ckB, hE0]
    rw [HV.out]
    have hp1 : (E != 0) = true := by simpa using hE0
    have hp2 : (E == 0) = false := by simpa using hE0
    clear hE0 hw HV
    obtain ⟨ty, so, ru, sh, bo, cr, ho, vi, fi, se, su, sc⟩ := d
    obtain ⟨nm, si, inn, ov, ba, qu, wi, nb, fh, nw, fo, re, ou, pa, pl, pc⟩ := r
    unfold Dl.v
    unfold Ru.v at HRU ⊢
    dsimp only at *
    go_enter Tryd.func14, Tryd.ntmps14
    go_wp2_with ((fail_if_success (have hzz := hb1)); go_at_call 26; refine (HRU.out _ (HT.out.ext (by repeat (first | exact Ext.refl _ | refine Ext.setCell ?_ (by first | exact Nat.le_refl _ | (simp; done) | (simp; omega)) _ | refine Ext.drew ?_ | refine Ext.drewN ?_ _ | refine Ext.alloc ?_ _)))).mono ?_; rintro e w1 ⟨rfl, hb1⟩; obtain ⟨hc1, hf1⟩ := hb1.cells; (try (have l1_0 : w.heap.size < w1.heap.size := hb1.lt (by first | (simp; done) | (simp; omega) | (simp [go_sem]; done) | (simp [go_sem]; omega) | omega))); (try (have l1_1 : w.heap.size + 1 < w1.heap.size := hb1.lt (by first | (simp; done) | (simp; omega) | (simp [go_sem]; done) | (simp [go_sem]; omega) | omega))))
    go_ret
    exact ⟨rfl, (by repeat (first | exact Ext.refl _ | refine Ext.setCell ?_ (by first | exact Nat.le_refl _ | (simp; done) | (simp; omega)) _ | refine Ext.drew ?_ | refine Ext.drewN ?_ _ | refine Ext.alloc ?_ _ | refine Ext.trans ?_ hb1))⟩
def boxS (r : Ru) (d : Dl) (K : Int) : List UInt8 := if K = 0 then symS (kndN d.ty) (batN d + widN d r.wi + nbsN d r.nb) (byeN d) (legN d) (mrkN d.ho) else []
def strS (d : Dl) (K : Int) : List UInt8 := if K = 0 then (if d.ty = 2 then [] else numL (batN d)) else []
theorem cred_bd {d : Dl} (hd : d.Lg) {wi nb : Int} (hwi : 0 ≤ wi ∧ wi ≤ 5) (hnb : 0 ≤ nb ∧ nb ≤ 5) : (0 ≤ batN d ∧ batN d ≤ 13) ∧ (0 ≤ widN d wi ∧ widN d wi ≤ 18) ∧ (0 ≤ nbsN d nb ∧ nbsN d nb ≤ 5) ∧ (0 ≤ byeN d ∧ byeN d ≤ 13) ∧ (0 ≤ legN d ∧ legN d ≤ 13) ∧ (byeN d = 0 ∨ legN d = 0) := by
  obtain ⟨g1, g2, g3, g4, g5, g6, g7⟩ := hd
  unfold batN widN nbsN byeN legN
  by_cases h2 : d.ty = 2
  · simp only [h2, if_true]
    simp
    omega
  · simp only [if_neg h2]
    by_cases s1 : d.so = 1 <;> by_cases s2 : d.so = 2 <;> by_cases s3 : d.so = 3 <;> by_cases t3 : d.ty = 3 <;> simp [s1, s2, s3, t3] <;> omega

end Go.Proofs.YtohoehfebphgeaaDoor

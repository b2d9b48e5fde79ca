/-
  The law TopSymbols, walked.
-/
import Derived.Test.YtohoehfebphgeaaDoorSymQ
import Derived.Test.YtohoehfebphgeaaDoorSymR
import Derived.Test.YtohoehfebphgeaaDoorSymD
import Derived.Test.YtohoehfebphgeaaDoorNotI
import Derived.Test.YtohoehfebphgeaaDoorNotN
import Derived.Deep.DeepCutAuto
namespace Go.Proofs.YtohoehfebphgeaaDoor
open Go.RowKit
set_option linter.unusedSimpArgs false
theorem sym_len {d : Dl} (h : d.Ok) : (symD d).length ≤ 100 := by
  have l1 := itoa_small h.fi
  have l2 := itoa_small h.se
  have a1 : (tyL d.ty).length ≤ 1 := by unfold tyL; repeat' split
                                        all_goals simp
  have a2 : (srL d.ty d.so).length ≤ 1 := by unfold srL; repeat' split
                                             all_goals simp
  have a3 : (ruL d).length ≤ 1 := by unfold ruL dgL; split <;> simp
  have a4 : (boL d.bo).length ≤ 1 := by unfold boL; repeat' split
                                        all_goals simp
  have a5 : (shL d.sh).length ≤ 2 := by unfold shL dgL; split <;> simp
  have a6 : (crL d.cr).length ≤ 1 := by unfold crL; split <;> simp
  have a7 : (wiL d).length ≤ 60 := by
    unfold wiL wiG dgL
    repeat' split
    all_goals simp <;> omega
  have a8 : (scL d.sc).length ≤ 2 := by unfold scL dgL; split <;> simp
  simp only [symD, List.length_append]
  omega

theorem pa_back {d : Dl} (hd : d.Wf) (h : ckD d = 0) : paD (prS d) = d ∧ paE (prS d) = 0 ∧ (prS d).length ≤ 100 := by
  have hk := ck_ok h hd
  have hs : prS d = symD d := by rw [prS, if_pos h]
  have hb : paB (pG (symD d)) (symD d) = true := by
    rw [read_back hk]
    unfold paB
    simp [h]
  rw [hs]
  unfold paD paE
  rw [hb, read_back hk]
  exact ⟨rfl, rfl, sym_len hk⟩

theorem ok_of {d : Dl} (hd : d.Lg) (hp : psD d = 0) : d.Ok := by
  obtain ⟨g1, g2, g3, g4, g5, g6, g7⟩ := hd
  unfold psD at hp
  by_cases h0 : d.ho = 0
  · rw [if_pos h0] at hp
    unfold psZ at hp
    split at hp
    · cases hp
    · split at hp
      · cases hp
      · exact ⟨g1, g2, g3, g4, g5, g6, by omega, by omega, by omega, g7⟩
  · rw [if_neg h0] at hp
    unfold psK at hp
    split at hp
    · cases hp
    · split at hp
      · cases hp
      · split at hp
        · cases hp
        · split at hp
          · cases hp
          · rename_i h1 h2 h3 h4
            have hv : d.vi = 1 ∨ d.vi = 2 := by
              simp only [p3B, Bool.and_eq_true, Bool.or_eq_true, decide_eq_true_eq] at h3
              by_cases q1 : d.vi = 1
              · exact Or.inl q1
              · by_cases q2 : d.vi = 2
                · exact Or.inr q2
                · exact absurd ⟨q1, Or.inl q2⟩ h3
            have hf : (0 ≤ d.fi ∧ d.fi ≤ 11) ∧ (0 ≤ d.se ∧ d.se ≤ 11) := by
              cases hb : fdB (flT d.ho.toNat) d.ho.toNat d.fi d.se
              · exact absurd hb h4
              · unfold fdB at hb
                split at hb
                · cases hb
                · rename_i h5
                  simp only [Bool.or_eq_true, Bool.and_eq_true, bne_iff_ne, beq_iff_eq, Bool.not_eq_true', not_or, not_and] at h5 hb
                  constructor
                  · cases hfl : flT d.ho.toNat
                    · have := h5.2 hfl
                      have h6 : d.fi = 0 := by simpa using this
                      omega
                    · have h7 : rng d.fi 1 11 = true := by
                        have := h5.1
                        rw [hfl] at this
                        cases hr : rng d.fi 1 11
                        · rw [hr] at this; exact absurd (by simp) this
                        · rfl
                      have := rng_yes h7
                      omega
                  · rcases hb with hb | ⟨⟨_, hb⟩, _⟩
                    · omega
                    · have := rng_yes hb
                      omega
            exact ⟨g1, g2, g3, g4, g5, g6, by omega, hf.1, hf.2, g7⟩

set_option maxRecDepth 20000 in
set_option maxHeartbeats 16000000 in
theorem topSymbols_any (r : Ru) (d : Dl) (hw : d.Wf) (f : Nat → Nat → Int) (b off : Nat) (hnm : r.nm.length ≤ 9223372036854775807) (w : World) (T : PhAt w r.pa r.pl f b off) (hX : TX w) :
    Calls Tryd.prog 3 #[r.v, d.v] w fun e w' => e = .returned (.bool true) ∧ Ext w w' := by
  obtain ⟨K, hK⟩ : ∃ K, ckB (ckRu r (phE r.pl f r.ov)) d = K := ⟨_, rfl⟩
  have H1 : Hid (∀ W, TX W → Calls Tryd.prog 4 #[d.v] W fun e w' => e = .returned (.tuple #[.string ⟨(prS d).toArray⟩, .int .i64 (ckD d)]) ∧ Ext W w') := fun W h => print_any d hw W h
  have H2 : Hid (∀ W, PhAt W r.pa r.pl f b off → TX W → Calls Tryd.prog 5 #[r.v, d.v] W fun e w' => e = .returned (.tuple #[.string ⟨(boxS r d K).toArray⟩, .int .i64 K]) ∧ Ext W w') := fun W h1 h2 => boxsym_any r d hw f b off hnm K hK W h1 h2
  have H3 : Hid (∀ W, PhAt W r.pa r.pl f b off → TX W → Calls Tryd.prog 6 #[r.v, d.v] W fun e w' => e = .returned (.tuple #[.string ⟨(strS d K).toArray⟩, .int .i64 K]) ∧ Ext W w') := fun W h1 h2 => stripsym_any r d hw f b off hnm K hK W h1 h2
  have HT := Lib.hid T
  have HX := Lib.hid hX
  obtain ⟨S1, hS1⟩ : ∃ S, prS d = S := ⟨_, rfl⟩
  by_cases hk : K = 0
  · subst hk
    obtain ⟨k1, k2, k3⟩ := ckB_zero hK
    obtain ⟨k4, k5⟩ := ckRu_zero k1
    have hd := lg_ok hw k2
    have hck := ok_ck (ok_of hd k3)
    obtain ⟨p1, p2, p3⟩ := pa_back hw hck
    have H4 : Hid (∀ W, TX W → Calls Tryd.prog 7 #[.string ⟨(prS d).toArray⟩] W fun e w' => e = .returned (.tuple #[d.v, .int .i64 0]) ∧ Ext W w') := fun W h => by
      have := parse_any (prS d) (by omega) W h
      rwa [p1, p2] at this
    have H5 : Hid (∀ W, Calls Tryd.prog 8 #[r.v, d.v] W fun e w' => e = .returned (crV d r.wi r.nb) ∧ Ext W w') := fun W => credit_any r d hd k2 k4 k5 W
    obtain ⟨c0, c1, c2, c3, c4, _⟩ := cred_bd hd k4 k5
    rw [hck] at H1
    rw [hS1] at H1 H4
    obtain ⟨S2, hS2⟩ : ∃ S, boxS r d 0 = S := ⟨_, rfl⟩
    rw [hS2] at H2
    have hS3 : strS d 0 = if d.ty = 2 then [] else numL (batN d) := rfl
    have hNE := numL_ne (batN d)
    unfold crV at H5
    try dsimp only at H5
    obtain ⟨a0, z0⟩ : ∃ x, batN d = x := ⟨_, rfl⟩
    obtain ⟨a1, z1⟩ : ∃ x, widN d r.wi = x := ⟨_, rfl⟩
    obtain ⟨a2, z2⟩ : ∃ x, nbsN d r.nb = x := ⟨_, rfl⟩
    obtain ⟨a3, z3⟩ : ∃ x, byeN d = x := ⟨_, rfl⟩
    obtain ⟨a4, z4⟩ : ∃ x, legN d = x := ⟨_, rfl⟩
    obtain ⟨a8, z8⟩ : ∃ x, crdB d.ho = x := ⟨_, rfl⟩
    obtain ⟨a9, z9⟩ : ∃ x, swapB d = x := ⟨_, rfl⟩
    rw [z0] at hS3 hNE
    rw [z0, z1, z2, z3, z4, z8, z9] at H5
    rw [z0] at c0
    rw [z1] at c1
    rw [z2] at c2
    rw [z3] at c3
    rw [z4] at c4
    obtain ⟨a5, z5⟩ : ∃ x, a0 + a1 + a2 = x := ⟨_, rfl⟩
    rw [z5] at H5
    have H6 : Hid (∀ (b6 b7 b8 b9 : Bool) W, Calls Tryd.prog 9 #[.agg #[.int .i64 a0, .int .i64 a1, .int .i64 a2, .int .i64 a3, .int .i64 a4, .int .i64 a5, .bool b6, .bool b7, .bool b8, .bool b9]] W fun e w' => e = .returned (.int .i64 (a5 + a3 + a4)) ∧ Ext W w') := fun b6 b7 b8 b9 W => by
      have := total_any a0 a1 a2 a3 a4 a5 b6 b7 b8 b9 (by omega) (by omega) (by omega) (by omega) (by omega) W
      rwa [z5] at this
    have e1 : IntKind.i64.wrap (a5 + a3) = a5 + a3 := IntWalk.i64_in _ (by omega)
    have e2 : IntKind.i64.wrap (a5 + a3 + a4) = a5 + a3 + a4 := IntWalk.i64_in _ (by omega)
    clear hS1 hS2 hck p1 p2 p3 hd k1 k2 k3 k4 k5 c0 c1 c2 c3 c4 z0 z1 z2 z3 z4 z5 z8 z9 hK hw hnm T hX
    obtain ⟨ty, so, ru, sh, bo, cr, ho, vi, fi, se, su, sc⟩ := d
    obtain ⟨nm, si, inn, ov, ba, qu, wi, nb, fh, nw, fo, re, ou, pa, pl, pc⟩ := r
    unfold Dl.v at *
    unfold Ru.v at *
    dsimp only at *
    have hR0 := (boxRu_new (⟨nm, si, inn, ov, ba, qu, wi, nb, fh, nw, fo, re, ou, pa, pl, pc⟩ : Ru) w 24).ext ((Ext.refl _).alloc (.cells #[.int .u8 ty, .int .u8 so, .int .i64 ru, .int .i64 sh, .int .i64 bo, .bool cr, .int .u8 ho, .int .i64 vi, .int .i64 fi, .int .i64 se, .bool su, .int .i64 sc] 29))
    have hD0 := boxD_new (⟨ty, so, ru, sh, bo, cr, ho, vi, fi, se, su, sc⟩ : Dl) (w.alloc (.cells #[.string ⟨nm.toArray⟩, .int .i64 si, .int .i64 inn, .int .i64 ov, .int .i64 ba, .int .i64 qu, .int .i64 wi, .int .i64 nb, .bool fh, .int .i64 nw, .int .i64 fo, .int .i64 re, .int .i64 ou, .slice pa pl pc] 24)) 29
    rw [show (w.alloc (.cells #[.string ⟨nm.toArray⟩, .int .i64 si, .int .i64 inn, .int .i64 ov, .int .i64 ba, .int .i64 qu, .int .i64 wi, .int .i64 nb, .bool fh, .int .i64 nw, .int .i64 fo, .int .i64 re, .int .i64 ou, .slice pa pl pc] 24)).heap.size = w.heap.size + 1 by simp [go_sem]] at hD0
    by_cases h2 : ty = 2
    · subst h2
      rw [if_pos rfl] at hS3
      rw [hS3] at H3
      clear hS3 hNE
      go_enter Tryd.func3, Tryd.ntmps3
      go_wp2_with (first | ((fail_if_success (have hzz := hb1)); go_at_call 4; refine (H1.out _ (HX.out.ext (by repeat (first | exact Ext.refl _ | refine Ext.setCell ?_ (by first | exact Nat.le_refl _ | (simp; done) | (simp; omega)) _ | refine Ext.drew ?_ | refine Ext.drewN ?_ _ | refine Ext.alloc ?_ _)))).mono ?_; rintro e w1 ⟨rfl, hb1⟩; (have hR1 := BoxRu.ext hR0 hb1); (have hD1 := BoxD.ext hD0 hb1); (have hRk := hR1); (have hDk := hD1); obtain ⟨r0, r1, r2, r3, r4, r5, r6, r7, r8, r9, r10, r11, r12, r13⟩ := hRk; obtain ⟨d0, d1, d2, d3, d4, d5, d6, d7, d8, d9, d10, d11⟩ := hDk; dsimp only at r0 r1 r2 r3 r4 r5 r6 r7 r8 r9 r10 r11 r12 r13 d0 d1 d2 d3 d4 d5 d6 d7 d8 d9 d10 d11) | ((fail_if_success (have hzz := hb2)); go_at_call 5; refine (H2.out _ (HT.out.ext (by repeat (first | exact Ext.refl _ | refine Ext.setCell ?_ (by first | exact Nat.le_refl _ | (simp; done) | (simp; omega)) _ | refine Ext.drew ?_ | refine Ext.drewN ?_ _ | refine Ext.alloc ?_ _ | refine Ext.trans ?_ hb1))) (HX.out.ext (by repeat (first | exact Ext.refl _ | refine Ext.setCell ?_ (by first | exact Nat.le_refl _ | (simp; done) | (simp; omega)) _ | refine Ext.drew ?_ | refine Ext.drewN ?_ _ | refine Ext.alloc ?_ _ | refine Ext.trans ?_ hb1)))).mono ?_; rintro e w2 ⟨rfl, hb2⟩; clear r0 r1 r2 r3 r4 r5 r6 r7 r8 r9 r10 r11 r12 r13 d0 d1 d2 d3 d4 d5 d6 d7 d8 d9 d10 d11; (have hR2 := BoxRu.ext hR1 hb2); (have hD2 := BoxD.ext hD1 hb2); (have hRk := hR2); (have hDk := hD2); obtain ⟨r0, r1, r2, r3, r4, r5, r6, r7, r8, r9, r10, r11, r12, r13⟩ := hRk; obtain ⟨d0, d1, d2, d3, d4, d5, d6, d7, d8, d9, d10, d11⟩ := hDk; dsimp only at r0 r1 r2 r3 r4 r5 r6 r7 r8 r9 r10 r11 r12 r13 d0 d1 d2 d3 d4 d5 d6 d7 d8 d9 d10 d11) | ((fail_if_success (have hzz := hb3)); go_at_call 6; refine (H3.out _ (HT.out.ext (by repeat (first | exact Ext.refl _ | refine Ext.setCell ?_ (by first | exact Nat.le_refl _ | (simp; done) | (simp; omega)) _ | refine Ext.drew ?_ | refine Ext.drewN ?_ _ | refine Ext.alloc ?_ _ | refine Ext.trans ?_ hb2 | refine Ext.trans ?_ hb1))) (HX.out.ext (by repeat (first | exact Ext.refl _ | refine Ext.setCell ?_ (by first | exact Nat.le_refl _ | (simp; done) | (simp; omega)) _ | refine Ext.drew ?_ | refine Ext.drewN ?_ _ | refine Ext.alloc ?_ _ | refine Ext.trans ?_ hb2 | refine Ext.trans ?_ hb1)))).mono ?_; rintro e w3 ⟨rfl, hb3⟩; clear r0 r1 r2 r3 r4 r5 r6 r7 r8 r9 r10 r11 r12 r13 d0 d1 d2 d3 d4 d5 d6 d7 d8 d9 d10 d11; (have hR3 := BoxRu.ext hR2 hb3); (have hD3 := BoxD.ext hD2 hb3); (have hRk := hR3); (have hDk := hD3); obtain ⟨r0, r1, r2, r3, r4, r5, r6, r7, r8, r9, r10, r11, r12, r13⟩ := hRk; obtain ⟨d0, d1, d2, d3, d4, d5, d6, d7, d8, d9, d10, d11⟩ := hDk; dsimp only at r0 r1 r2 r3 r4 r5 r6 r7 r8 r9 r10 r11 r12 r13 d0 d1 d2 d3 d4 d5 d6 d7 d8 d9 d10 d11) | ((fail_if_success (have hzz := hb4)); go_at_call 7; refine (H4.out _ (HX.out.ext (by repeat (first | exact Ext.refl _ | refine Ext.setCell ?_ (by first | exact Nat.le_refl _ | (simp; done) | (simp; omega)) _ | refine Ext.drew ?_ | refine Ext.drewN ?_ _ | refine Ext.alloc ?_ _ | refine Ext.trans ?_ hb3 | refine Ext.trans ?_ hb2 | refine Ext.trans ?_ hb1)))).mono ?_; rintro e w4 ⟨rfl, hb4⟩; clear r0 r1 r2 r3 r4 r5 r6 r7 r8 r9 r10 r11 r12 r13 d0 d1 d2 d3 d4 d5 d6 d7 d8 d9 d10 d11; (have hR4 := BoxRu.ext hR3 hb4); (have hD4 := BoxD.ext hD3 hb4); (have hRk := hR4); (have hDk := hD4); obtain ⟨r0, r1, r2, r3, r4, r5, r6, r7, r8, r9, r10, r11, r12, r13⟩ := hRk; obtain ⟨d0, d1, d2, d3, d4, d5, d6, d7, d8, d9, d10, d11⟩ := hDk; dsimp only at r0 r1 r2 r3 r4 r5 r6 r7 r8 r9 r10 r11 r12 r13 d0 d1 d2 d3 d4 d5 d6 d7 d8 d9 d10 d11; (have l4_0 := cell_lt r0); (have l4_1 := cell_lt d0); (have hG4 := boxD_new (⟨2, so, ru, sh, bo, cr, ho, vi, fi, se, su, sc⟩ : Dl) w4 29)) | ((fail_if_success (have hzz := hb5)); go_at_call 5; refine (H2.out _ (HT.out.ext (by repeat (first | exact Ext.refl _ | refine Ext.setCell ?_ (by first | exact Nat.le_refl _ | (simp; done) | (simp; omega)) _ | refine Ext.drew ?_ | refine Ext.drewN ?_ _ | refine Ext.alloc ?_ _ | refine Ext.trans ?_ hb4 | refine Ext.trans ?_ hb3 | refine Ext.trans ?_ hb2 | refine Ext.trans ?_ hb1))) (HX.out.ext (by repeat (first | exact Ext.refl _ | refine Ext.setCell ?_ (by first | exact Nat.le_refl _ | (simp; done) | (simp; omega)) _ | refine Ext.drew ?_ | refine Ext.drewN ?_ _ | refine Ext.alloc ?_ _ | refine Ext.trans ?_ hb4 | refine Ext.trans ?_ hb3 | refine Ext.trans ?_ hb2 | refine Ext.trans ?_ hb1)))).mono ?_; rintro e w5 ⟨rfl, hb5⟩; clear r0 r1 r2 r3 r4 r5 r6 r7 r8 r9 r10 r11 r12 r13 d0 d1 d2 d3 d4 d5 d6 d7 d8 d9 d10 d11; (have hR5 := BoxRu.ext (hR4.ext ((Ext.refl _).alloc _)) hb5); (have hD5 := BoxD.ext (hD4.ext ((Ext.refl _).alloc _)) hb5); (have hRk := hR5); (have hDk := hD5); obtain ⟨r0, r1, r2, r3, r4, r5, r6, r7, r8, r9, r10, r11, r12, r13⟩ := hRk; obtain ⟨d0, d1, d2, d3, d4, d5, d6, d7, d8, d9, d10, d11⟩ := hDk; dsimp only at r0 r1 r2 r3 r4 r5 r6 r7 r8 r9 r10 r11 r12 r13 d0 d1 d2 d3 d4 d5 d6 d7 d8 d9 d10 d11; (have hG5 := BoxD.ext hG4 hb5); (have hGk := hG5); obtain ⟨g0, g1, g2, g3, g4, g5, g6, g7, g8, g9, g10, g11⟩ := hGk; dsimp only at g0 g1 g2 g3 g4 g5 g6 g7 g8 g9 g10 g11) | ((fail_if_success (have hzz := hb6)); go_at_call 8; refine (H5.out _).mono ?_; rintro e w6 ⟨rfl, hb6⟩; clear r0 r1 r2 r3 r4 r5 r6 r7 r8 r9 r10 r11 r12 r13 d0 d1 d2 d3 d4 d5 d6 d7 d8 d9 d10 d11; (have hR6 := BoxRu.ext hR5 hb6); (have hD6 := BoxD.ext hD5 hb6); (have hRk := hR6); (have hDk := hD6); obtain ⟨r0, r1, r2, r3, r4, r5, r6, r7, r8, r9, r10, r11, r12, r13⟩ := hRk; obtain ⟨d0, d1, d2, d3, d4, d5, d6, d7, d8, d9, d10, d11⟩ := hDk; dsimp only at r0 r1 r2 r3 r4 r5 r6 r7 r8 r9 r10 r11 r12 r13 d0 d1 d2 d3 d4 d5 d6 d7 d8 d9 d10 d11; clear g0 g1 g2 g3 g4 g5 g6 g7 g8 g9 g10 g11; (have hG6 := BoxD.ext hG5 hb6); (have hGk := hG6); obtain ⟨g0, g1, g2, g3, g4, g5, g6, g7, g8, g9, g10, g11⟩ := hGk; dsimp only at g0 g1 g2 g3 g4 g5 g6 g7 g8 g9 g10 g11; (have l6_0 := cell_lt r0); (have l6_1 := cell_lt d0); (have l6_2 := cell_lt g0)))
      as_aux_lemma =>
        have HKP : Hid (∀ W W' : World, (fun w' => w'.cell? ⟨w4.heap.size, 0, none⟩ = some (.int .u8 2) ∧ w'.cell? ⟨w4.heap.size, 1, none⟩ = some (.int .u8 so) ∧ w'.cell? ⟨w4.heap.size, 2, none⟩ = some (.int .i64 ru) ∧ w'.cell? ⟨w4.heap.size, 3, none⟩ = some (.int .i64 sh) ∧ w'.cell? ⟨w4.heap.size, 4, none⟩ = some (.int .i64 bo) ∧ w'.cell? ⟨w4.heap.size, 5, none⟩ = some (.bool cr) ∧ w'.cell? ⟨w4.heap.size, 6, none⟩ = some (.int .u8 ho) ∧ w'.cell? ⟨w4.heap.size, 7, none⟩ = some (.int .i64 vi) ∧ w'.cell? ⟨w4.heap.size, 8, none⟩ = some (.int .i64 fi) ∧ w'.cell? ⟨w4.heap.size, 9, none⟩ = some (.int .i64 se) ∧ w'.cell? ⟨w4.heap.size, 10, none⟩ = some (.bool su) ∧ w'.cell? ⟨w4.heap.size, 11, none⟩ = some (.int .i64 sc) ∧ w'.cell? ⟨w.heap.size + 1, 0, none⟩ = some (.int .u8 2) ∧ w'.cell? ⟨w.heap.size + 1, 1, none⟩ = some (.int .u8 so) ∧ w'.cell? ⟨w.heap.size + 1, 2, none⟩ = some (.int .i64 ru) ∧ w'.cell? ⟨w.heap.size + 1, 3, none⟩ = some (.int .i64 sh) ∧ w'.cell? ⟨w.heap.size + 1, 4, none⟩ = some (.int .i64 bo) ∧ w'.cell? ⟨w.heap.size + 1, 5, none⟩ = some (.bool cr) ∧ w'.cell? ⟨w.heap.size + 1, 6, none⟩ = some (.int .u8 ho) ∧ w'.cell? ⟨w.heap.size + 1, 7, none⟩ = some (.int .i64 vi) ∧ w'.cell? ⟨w.heap.size + 1, 8, none⟩ = some (.int .i64 fi) ∧ w'.cell? ⟨w.heap.size + 1, 9, none⟩ = some (.int .i64 se) ∧ w'.cell? ⟨w.heap.size + 1, 10, none⟩ = some (.bool su) ∧ w'.cell? ⟨w.heap.size + 1, 11, none⟩ = some (.int .i64 sc) ∧ w'.cell? ⟨w6.heap.size, 0, none⟩ = some (.int .i64 a0) ∧ w'.cell? ⟨w6.heap.size, 1, none⟩ = some (.int .i64 a1) ∧ w'.cell? ⟨w6.heap.size, 2, none⟩ = some (.int .i64 a2) ∧ w'.cell? ⟨w6.heap.size, 3, none⟩ = some (.int .i64 a3) ∧ w'.cell? ⟨w6.heap.size, 4, none⟩ = some (.int .i64 a4) ∧ w'.cell? ⟨w6.heap.size, 5, none⟩ = some (.int .i64 a5) ∧ w'.cell? ⟨w6.heap.size, 6, none⟩ = some (.bool false) ∧ w'.cell? ⟨w6.heap.size, 7, none⟩ = some (.bool false) ∧ w'.cell? ⟨w6.heap.size, 8, none⟩ = some (.bool a8) ∧ w'.cell? ⟨w6.heap.size, 9, none⟩ = some (.bool a9)) W → Ext W W' → (fun w' => w'.cell? ⟨w4.heap.size, 0, none⟩ = some (.int .u8 2) ∧ w'.cell? ⟨w4.heap.size, 1, none⟩ = some (.int .u8 so) ∧ w'.cell? ⟨w4.heap.size, 2, none⟩ = some (.int .i64 ru) ∧ w'.cell? ⟨w4.heap.size, 3, none⟩ = some (.int .i64 sh) ∧ w'.cell? ⟨w4.heap.size, 4, none⟩ = some (.int .i64 bo) ∧ w'.cell? ⟨w4.heap.size, 5, none⟩ = some (.bool cr) ∧ w'.cell? ⟨w4.heap.size, 6, none⟩ = some (.int .u8 ho) ∧ w'.cell? ⟨w4.heap.size, 7, none⟩ = some (.int .i64 vi) ∧ w'.cell? ⟨w4.heap.size, 8, none⟩ = some (.int .i64 fi) ∧ w'.cell? ⟨w4.heap.size, 9, none⟩ = some (.int .i64 se) ∧ w'.cell? ⟨w4.heap.size, 10, none⟩ = some (.bool su) ∧ w'.cell? ⟨w4.heap.size, 11, none⟩ = some (.int .i64 sc) ∧ w'.cell? ⟨w.heap.size + 1, 0, none⟩ = some (.int .u8 2) ∧ w'.cell? ⟨w.heap.size + 1, 1, none⟩ = some (.int .u8 so) ∧ w'.cell? ⟨w.heap.size + 1, 2, none⟩ = some (.int .i64 ru) ∧ w'.cell? ⟨w.heap.size + 1, 3, none⟩ = some (.int .i64 sh) ∧ w'.cell? ⟨w.heap.size + 1, 4, none⟩ = some (.int .i64 bo) ∧ w'.cell? ⟨w.heap.size + 1, 5, none⟩ = some (.bool cr) ∧ w'.cell? ⟨w.heap.size + 1, 6, none⟩ = some (.int .u8 ho) ∧ w'.cell? ⟨w.heap.size + 1, 7, none⟩ = some (.int .i64 vi) ∧ w'.cell? ⟨w.heap.size + 1, 8, none⟩ = some (.int .i64 fi) ∧ w'.cell? ⟨w.heap.size + 1, 9, none⟩ = some (.int .i64 se) ∧ w'.cell? ⟨w.heap.size + 1, 10, none⟩ = some (.bool su) ∧ w'.cell? ⟨w.heap.size + 1, 11, none⟩ = some (.int .i64 sc) ∧ w'.cell? ⟨w6.heap.size, 0, none⟩ = some (.int .i64 a0) ∧ w'.cell? ⟨w6.heap.size, 1, none⟩ = some (.int .i64 a1) ∧ w'.cell? ⟨w6.heap.size, 2, none⟩ = some (.int .i64 a2) ∧ w'.cell? ⟨w6.heap.size, 3, none⟩ = some (.int .i64 a3) ∧ w'.cell? ⟨w6.heap.size, 4, none⟩ = some (.int .i64 a4) ∧ w'.cell? ⟨w6.heap.size, 5, none⟩ = some (.int .i64 a5) ∧ w'.cell? ⟨w6.heap.size, 6, none⟩ = some (.bool false) ∧ w'.cell? ⟨w6.heap.size, 7, none⟩ = some (.bool false) ∧ w'.cell? ⟨w6.heap.size, 8, none⟩ = some (.bool a8) ∧ w'.cell? ⟨w6.heap.size, 9, none⟩ = some (.bool a9)) W') := fun W W' h e => by
          obtain ⟨m0, m1, m2, m3, m4, m5, m6, m7, m8, m9, m10, m11, m12, m13, m14, m15, m16, m17, m18, m19, m20, m21, m22, m23, m24, m25, m26, m27, m28, m29, m30, m31, m32, m33⟩ := h
          exact ⟨e.keep m0, e.keep m1, e.keep m2, e.keep m3, e.keep m4, e.keep m5, e.keep m6, e.keep m7, e.keep m8, e.keep m9, e.keep m10, e.keep m11, e.keep m12, e.keep m13, e.keep m14, e.keep m15, e.keep m16, e.keep m17, e.keep m18, e.keep m19, e.keep m20, e.keep m21, e.keep m22, e.keep m23, e.keep m24, e.keep m25, e.keep m26, e.keep m27, e.keep m28, e.keep m29, e.keep m30, e.keep m31, e.keep m32, e.keep m33⟩
        go_region_held3 (fun w' => w'.cell? ⟨w4.heap.size, 0, none⟩ = some (.int .u8 2) ∧ w'.cell? ⟨w4.heap.size, 1, none⟩ = some (.int .u8 so) ∧ w'.cell? ⟨w4.heap.size, 2, none⟩ = some (.int .i64 ru) ∧ w'.cell? ⟨w4.heap.size, 3, none⟩ = some (.int .i64 sh) ∧ w'.cell? ⟨w4.heap.size, 4, none⟩ = some (.int .i64 bo) ∧ w'.cell? ⟨w4.heap.size, 5, none⟩ = some (.bool cr) ∧ w'.cell? ⟨w4.heap.size, 6, none⟩ = some (.int .u8 ho) ∧ w'.cell? ⟨w4.heap.size, 7, none⟩ = some (.int .i64 vi) ∧ w'.cell? ⟨w4.heap.size, 8, none⟩ = some (.int .i64 fi) ∧ w'.cell? ⟨w4.heap.size, 9, none⟩ = some (.int .i64 se) ∧ w'.cell? ⟨w4.heap.size, 10, none⟩ = some (.bool su) ∧ w'.cell? ⟨w4.heap.size, 11, none⟩ = some (.int .i64 sc) ∧ w'.cell? ⟨w.heap.size + 1, 0, none⟩ = some (.int .u8 2) ∧ w'.cell? ⟨w.heap.size + 1, 1, none⟩ = some (.int .u8 so) ∧ w'.cell? ⟨w.heap.size + 1, 2, none⟩ = some (.int .i64 ru) ∧ w'.cell? ⟨w.heap.size + 1, 3, none⟩ = some (.int .i64 sh) ∧ w'.cell? ⟨w.heap.size + 1, 4, none⟩ = some (.int .i64 bo) ∧ w'.cell? ⟨w.heap.size + 1, 5, none⟩ = some (.bool cr) ∧ w'.cell? ⟨w.heap.size + 1, 6, none⟩ = some (.int .u8 ho) ∧ w'.cell? ⟨w.heap.size + 1, 7, none⟩ = some (.int .i64 vi) ∧ w'.cell? ⟨w.heap.size + 1, 8, none⟩ = some (.int .i64 fi) ∧ w'.cell? ⟨w.heap.size + 1, 9, none⟩ = some (.int .i64 se) ∧ w'.cell? ⟨w.heap.size + 1, 10, none⟩ = some (.bool su) ∧ w'.cell? ⟨w.heap.size + 1, 11, none⟩ = some (.int .i64 sc) ∧ w'.cell? ⟨w6.heap.size, 0, none⟩ = some (.int .i64 a0) ∧ w'.cell? ⟨w6.heap.size, 1, none⟩ = some (.int .i64 a1) ∧ w'.cell? ⟨w6.heap.size, 2, none⟩ = some (.int .i64 a2) ∧ w'.cell? ⟨w6.heap.size, 3, none⟩ = some (.int .i64 a3) ∧ w'.cell? ⟨w6.heap.size, 4, none⟩ = some (.int .i64 a4) ∧ w'.cell? ⟨w6.heap.size, 5, none⟩ = some (.int .i64 a5) ∧ w'.cell? ⟨w6.heap.size, 6, none⟩ = some (.bool false) ∧ w'.cell? ⟨w6.heap.size, 7, none⟩ = some (.bool false) ∧ w'.cell? ⟨w6.heap.size, 8, none⟩ = some (.bool a8) ∧ w'.cell? ⟨w6.heap.size, 9, none⟩ = some (.bool a9)) (first | assumption | (simp [go_sem, *]; done) | (simp [go_sem, *])) (((fail_if_success (have hzz := hb7)); go_at_call 9; refine (H6.out _ _ _ _ _).mono ?_; rintro e w7 ⟨rfl, hb7⟩; have hs7 := HKP.out _ _ (by assumption) hb7))
        go_wp2
        go_ret
        exact ⟨by first | rfl | simp, (by repeat (first | exact Ext.refl _ | refine Ext.setCell ?_ (by first | exact Nat.le_refl _ | (simp; done) | (simp; omega)) _ | refine Ext.drew ?_ | refine Ext.drewN ?_ _ | refine Ext.alloc ?_ _ | refine Ext.trans ?_ hb7 | refine Ext.trans ?_ hb6 | refine Ext.trans ?_ hb5 | refine Ext.trans ?_ hb4 | refine Ext.trans ?_ hb3 | refine Ext.trans ?_ hb2 | refine Ext.trans ?_ hb1))⟩
    · rw [if_neg h2] at hS3
      obtain ⟨S3, hS⟩ : ∃ S, numL a0 = S := ⟨_, rfl⟩
      rw [hS] at hS3 hNE
      rw [hS3] at H3
      have hie : S3.isEmpty = false := by cases S3 with
        | nil => exact absurd rfl hNE
        | cons x t => rfl
      have f1 : (ty != 2) = true := by simpa using h2
      clear hS3 hNE hS
      rw [f1] at H5
      go_enter Tryd.func3, Tryd.ntmps3
      go_wp2_with (first | ((fail_if_success (have hzz := hb1)); go_at_call 4; refine (H1.out _ (HX.out.ext (by repeat (first | exact Ext.refl _ | refine Ext.setCell ?_ (by first | exact Nat.le_refl _ | (simp; done) | (simp; omega)) _ | refine Ext.drew ?_ | refine Ext.drewN ?_ _ | refine Ext.alloc ?_ _)))).mono ?_; rintro e w1 ⟨rfl, hb1⟩; (have hR1 := BoxRu.ext hR0 hb1); (have hD1 := BoxD.ext hD0 hb1); (have hRk := hR1); (have hDk := hD1); obtain ⟨r0, r1, r2, r3, r4, r5, r6, r7, r8, r9, r10, r11, r12, r13⟩ := hRk; obtain ⟨d0, d1, d2, d3, d4, d5, d6, d7, d8, d9, d10, d11⟩ := hDk; dsimp only at r0 r1 r2 r3 r4 r5 r6 r7 r8 r9 r10 r11 r12 r13 d0 d1 d2 d3 d4 d5 d6 d7 d8 d9 d10 d11) | ((fail_if_success (have hzz := hb2)); go_at_call 5; refine (H2.out _ (HT.out.ext (by repeat (first | exact Ext.refl _ | refine Ext.setCell ?_ (by first | exact Nat.le_refl _ | (simp; done) | (simp; omega)) _ | refine Ext.drew ?_ | refine Ext.drewN ?_ _ | refine Ext.alloc ?_ _ | refine Ext.trans ?_ hb1))) (HX.out.ext (by repeat (first | exact Ext.refl _ | refine Ext.setCell ?_ (by first | exact Nat.le_refl _ | (simp; done) | (simp; omega)) _ | refine Ext.drew ?_ | refine Ext.drewN ?_ _ | refine Ext.alloc ?_ _ | refine Ext.trans ?_ hb1)))).mono ?_; rintro e w2 ⟨rfl, hb2⟩; clear r0 r1 r2 r3 r4 r5 r6 r7 r8 r9 r10 r11 r12 r13 d0 d1 d2 d3 d4 d5 d6 d7 d8 d9 d10 d11; (have hR2 := BoxRu.ext hR1 hb2); (have hD2 := BoxD.ext hD1 hb2); (have hRk := hR2); (have hDk := hD2); obtain ⟨r0, r1, r2, r3, r4, r5, r6, r7, r8, r9, r10, r11, r12, r13⟩ := hRk; obtain ⟨d0, d1, d2, d3, d4, d5, d6, d7, d8, d9, d10, d11⟩ := hDk; dsimp only at r0 r1 r2 r3 r4 r5 r6 r7 r8 r9 r10 r11 r12 r13 d0 d1 d2 d3 d4 d5 d6 d7 d8 d9 d10 d11) | ((fail_if_success (have hzz := hb3)); go_at_call 6; refine (H3.out _ (HT.out.ext (by repeat (first | exact Ext.refl _ | refine Ext.setCell ?_ (by first | exact Nat.le_refl _ | (simp; done) | (simp; omega)) _ | refine Ext.drew ?_ | refine Ext.drewN ?_ _ | refine Ext.alloc ?_ _ | refine Ext.trans ?_ hb2 | refine Ext.trans ?_ hb1))) (HX.out.ext (by repeat (first | exact Ext.refl _ | refine Ext.setCell ?_ (by first | exact Nat.le_refl _ | (simp; done) | (simp; omega)) _ | refine Ext.drew ?_ | refine Ext.drewN ?_ _ | refine Ext.alloc ?_ _ | refine Ext.trans ?_ hb2 | refine Ext.trans ?_ hb1)))).mono ?_; rintro e w3 ⟨rfl, hb3⟩; clear r0 r1 r2 r3 r4 r5 r6 r7 r8 r9 r10 r11 r12 r13 d0 d1 d2 d3 d4 d5 d6 d7 d8 d9 d10 d11; (have hR3 := BoxRu.ext hR2 hb3); (have hD3 := BoxD.ext hD2 hb3); (have hRk := hR3); (have hDk := hD3); obtain ⟨r0, r1, r2, r3, r4, r5, r6, r7, r8, r9, r10, r11, r12, r13⟩ := hRk; obtain ⟨d0, d1, d2, d3, d4, d5, d6, d7, d8, d9, d10, d11⟩ := hDk; dsimp only at r0 r1 r2 r3 r4 r5 r6 r7 r8 r9 r10 r11 r12 r13 d0 d1 d2 d3 d4 d5 d6 d7 d8 d9 d10 d11) | ((fail_if_success (have hzz := hb4)); go_at_call 7; refine (H4.out _ (HX.out.ext (by repeat (first | exact Ext.refl _ | refine Ext.setCell ?_ (by first | exact Nat.le_refl _ | (simp; done) | (simp; omega)) _ | refine Ext.drew ?_ | refine Ext.drewN ?_ _ | refine Ext.alloc ?_ _ | refine Ext.trans ?_ hb3 | refine Ext.trans ?_ hb2 | refine Ext.trans ?_ hb1)))).mono ?_; rintro e w4 ⟨rfl, hb4⟩; clear r0 r1 r2 r3 r4 r5 r6 r7 r8 r9 r10 r11 r12 r13 d0 d1 d2 d3 d4 d5 d6 d7 d8 d9 d10 d11; (have hR4 := BoxRu.ext hR3 hb4); (have hD4 := BoxD.ext hD3 hb4); (have hRk := hR4); (have hDk := hD4); obtain ⟨r0, r1, r2, r3, r4, r5, r6, r7, r8, r9, r10, r11, r12, r13⟩ := hRk; obtain ⟨d0, d1, d2, d3, d4, d5, d6, d7, d8, d9, d10, d11⟩ := hDk; dsimp only at r0 r1 r2 r3 r4 r5 r6 r7 r8 r9 r10 r11 r12 r13 d0 d1 d2 d3 d4 d5 d6 d7 d8 d9 d10 d11; (have l4_0 := cell_lt r0); (have l4_1 := cell_lt d0); (have hG4 := boxD_new (⟨ty, so, ru, sh, bo, cr, ho, vi, fi, se, su, sc⟩ : Dl) w4 29)) | ((fail_if_success (have hzz := hb5)); go_at_call 5; refine (H2.out _ (HT.out.ext (by repeat (first | exact Ext.refl _ | refine Ext.setCell ?_ (by first | exact Nat.le_refl _ | (simp; done) | (simp; omega)) _ | refine Ext.drew ?_ | refine Ext.drewN ?_ _ | refine Ext.alloc ?_ _ | refine Ext.trans ?_ hb4 | refine Ext.trans ?_ hb3 | refine Ext.trans ?_ hb2 | refine Ext.trans ?_ hb1))) (HX.out.ext (by repeat (first | exact Ext.refl _ | refine Ext.setCell ?_ (by first | exact Nat.le_refl _ | (simp; done) | (simp; omega)) _ | refine Ext.drew ?_ | refine Ext.drewN ?_ _ | refine Ext.alloc ?_ _ | refine Ext.trans ?_ hb4 | refine Ext.trans ?_ hb3 | refine Ext.trans ?_ hb2 | refine Ext.trans ?_ hb1)))).mono ?_; rintro e w5 ⟨rfl, hb5⟩; clear r0 r1 r2 r3 r4 r5 r6 r7 r8 r9 r10 r11 r12 r13 d0 d1 d2 d3 d4 d5 d6 d7 d8 d9 d10 d11; (have hR5 := BoxRu.ext (hR4.ext ((Ext.refl _).alloc _)) hb5); (have hD5 := BoxD.ext (hD4.ext ((Ext.refl _).alloc _)) hb5); (have hRk := hR5); (have hDk := hD5); obtain ⟨r0, r1, r2, r3, r4, r5, r6, r7, r8, r9, r10, r11, r12, r13⟩ := hRk; obtain ⟨d0, d1, d2, d3, d4, d5, d6, d7, d8, d9, d10, d11⟩ := hDk; dsimp only at r0 r1 r2 r3 r4 r5 r6 r7 r8 r9 r10 r11 r12 r13 d0 d1 d2 d3 d4 d5 d6 d7 d8 d9 d10 d11; (have hG5 := BoxD.ext hG4 hb5); (have hGk := hG5); obtain ⟨g0, g1, g2, g3, g4, g5, g6, g7, g8, g9, g10, g11⟩ := hGk; dsimp only at g0 g1 g2 g3 g4 g5 g6 g7 g8 g9 g10 g11) | ((fail_if_success (have hzz := hb6)); go_at_call 8; refine (H5.out _).mono ?_; rintro e w6 ⟨rfl, hb6⟩; clear r0 r1 r2 r3 r4 r5 r6 r7 r8 r9 r10 r11 r12 r13 d0 d1 d2 d3 d4 d5 d6 d7 d8 d9 d10 d11; (have hR6 := BoxRu.ext hR5 hb6); (have hD6 := BoxD.ext hD5 hb6); (have hRk := hR6); (have hDk := hD6); obtain ⟨r0, r1, r2, r3, r4, r5, r6, r7, r8, r9, r10, r11, r12, r13⟩ := hRk; obtain ⟨d0, d1, d2, d3, d4, d5, d6, d7, d8, d9, d10, d11⟩ := hDk; dsimp only at r0 r1 r2 r3 r4 r5 r6 r7 r8 r9 r10 r11 r12 r13 d0 d1 d2 d3 d4 d5 d6 d7 d8 d9 d10 d11; clear g0 g1 g2 g3 g4 g5 g6 g7 g8 g9 g10 g11; (have hG6 := BoxD.ext hG5 hb6); (have hGk := hG6); obtain ⟨g0, g1, g2, g3, g4, g5, g6, g7, g8, g9, g10, g11⟩ := hGk; dsimp only at g0 g1 g2 g3 g4 g5 g6 g7 g8 g9 g10 g11; (have l6_0 := cell_lt r0); (have l6_1 := cell_lt d0); (have l6_2 := cell_lt g0)))
      as_aux_lemma =>
        have HKP : Hid (∀ W W' : World, (fun w' => w'.cell? ⟨w4.heap.size, 0, none⟩ = some (.int .u8 ty) ∧ w'.cell? ⟨w4.heap.size, 1, none⟩ = some (.int .u8 so) ∧ w'.cell? ⟨w4.heap.size, 2, none⟩ = some (.int .i64 ru) ∧ w'.cell? ⟨w4.heap.size, 3, none⟩ = some (.int .i64 sh) ∧ w'.cell? ⟨w4.heap.size, 4, none⟩ = some (.int .i64 bo) ∧ w'.cell? ⟨w4.heap.size, 5, none⟩ = some (.bool cr) ∧ w'.cell? ⟨w4.heap.size, 6, none⟩ = some (.int .u8 ho) ∧ w'.cell? ⟨w4.heap.size, 7, none⟩ = some (.int .i64 vi) ∧ w'.cell? ⟨w4.heap.size, 8, none⟩ = some (.int .i64 fi) ∧ w'.cell? ⟨w4.heap.size, 9, none⟩ = some (.int .i64 se) ∧ w'.cell? ⟨w4.heap.size, 10, none⟩ = some (.bool su) ∧ w'.cell? ⟨w4.heap.size, 11, none⟩ = some (.int .i64 sc) ∧ w'.cell? ⟨w.heap.size + 1, 0, none⟩ = some (.int .u8 ty) ∧ w'.cell? ⟨w.heap.size + 1, 1, none⟩ = some (.int .u8 so) ∧ w'.cell? ⟨w.heap.size + 1, 2, none⟩ = some (.int .i64 ru) ∧ w'.cell? ⟨w.heap.size + 1, 3, none⟩ = some (.int .i64 sh) ∧ w'.cell? ⟨w.heap.size + 1, 4, none⟩ = some (.int .i64 bo) ∧ w'.cell? ⟨w.heap.size + 1, 5, none⟩ = some (.bool cr) ∧ w'.cell? ⟨w.heap.size + 1, 6, none⟩ = some (.int .u8 ho) ∧ w'.cell? ⟨w.heap.size + 1, 7, none⟩ = some (.int .i64 vi) ∧ w'.cell? ⟨w.heap.size + 1, 8, none⟩ = some (.int .i64 fi) ∧ w'.cell? ⟨w.heap.size + 1, 9, none⟩ = some (.int .i64 se) ∧ w'.cell? ⟨w.heap.size + 1, 10, none⟩ = some (.bool su) ∧ w'.cell? ⟨w.heap.size + 1, 11, none⟩ = some (.int .i64 sc) ∧ w'.cell? ⟨w6.heap.size, 0, none⟩ = some (.int .i64 a0) ∧ w'.cell? ⟨w6.heap.size, 1, none⟩ = some (.int .i64 a1) ∧ w'.cell? ⟨w6.heap.size, 2, none⟩ = some (.int .i64 a2) ∧ w'.cell? ⟨w6.heap.size, 3, none⟩ = some (.int .i64 a3) ∧ w'.cell? ⟨w6.heap.size, 4, none⟩ = some (.int .i64 a4) ∧ w'.cell? ⟨w6.heap.size, 5, none⟩ = some (.int .i64 a5) ∧ w'.cell? ⟨w6.heap.size, 6, none⟩ = some (.bool (ty == 1)) ∧ w'.cell? ⟨w6.heap.size, 7, none⟩ = some (.bool true) ∧ w'.cell? ⟨w6.heap.size, 8, none⟩ = some (.bool a8) ∧ w'.cell? ⟨w6.heap.size, 9, none⟩ = some (.bool a9)) W → Ext W W' → (fun w' => w'.cell? ⟨w4.heap.size, 0, none⟩ = some (.int .u8 ty) ∧ w'.cell? ⟨w4.heap.size, 1, none⟩ = some (.int .u8 so) ∧ w'.cell? ⟨w4.heap.size, 2, none⟩ = some (.int .i64 ru) ∧ w'.cell? ⟨w4.heap.size, 3, none⟩ = some (.int .i64 sh) ∧ w'.cell? ⟨w4.heap.size, 4, none⟩ = some (.int .i64 bo) ∧ w'.cell? ⟨w4.heap.size, 5, none⟩ = some (.bool cr) ∧ w'.cell? ⟨w4.heap.size, 6, none⟩ = some (.int .u8 ho) ∧ w'.cell? ⟨w4.heap.size, 7, none⟩ = some (.int .i64 vi) ∧ w'.cell? ⟨w4.heap.size, 8, none⟩ = some (.int .i64 fi) ∧ w'.cell? ⟨w4.heap.size, 9, none⟩ = some (.int .i64 se) ∧ w'.cell? ⟨w4.heap.size, 10, none⟩ = some (.bool su) ∧ w'.cell? ⟨w4.heap.size, 11, none⟩ = some (.int .i64 sc) ∧ w'.cell? ⟨w.heap.size + 1, 0, none⟩ = some (.int .u8 ty) ∧ w'.cell? ⟨w.heap.size + 1, 1, none⟩ = some (.int .u8 so) ∧ w'.cell? ⟨w.heap.size + 1, 2, none⟩ = some (.int .i64 ru) ∧ w'.cell? ⟨w.heap.size + 1, 3, none⟩ = some (.int .i64 sh) ∧ w'.cell? ⟨w.heap.size + 1, 4, none⟩ = some (.int .i64 bo) ∧ w'.cell? ⟨w.heap.size + 1, 5, none⟩ = some (.bool cr) ∧ w'.cell? ⟨w.heap.size + 1, 6, none⟩ = some (.int .u8 ho) ∧ w'.cell? ⟨w.heap.size + 1, 7, none⟩ = some (.int .i64 vi) ∧ w'.cell? ⟨w.heap.size + 1, 8, none⟩ = some (.int .i64 fi) ∧ w'.cell? ⟨w.heap.size + 1, 9, none⟩ = some (.int .i64 se) ∧ w'.cell? ⟨w.heap.size + 1, 10, none⟩ = some (.bool su) ∧ w'.cell? ⟨w.heap.size + 1, 11, none⟩ = some (.int .i64 sc) ∧ w'.cell? ⟨w6.heap.size, 0, none⟩ = some (.int .i64 a0) ∧ w'.cell? ⟨w6.heap.size, 1, none⟩ = some (.int .i64 a1) ∧ w'.cell? ⟨w6.heap.size, 2, none⟩ = some (.int .i64 a2) ∧ w'.cell? ⟨w6.heap.size, 3, none⟩ = some (.int .i64 a3) ∧ w'.cell? ⟨w6.heap.size, 4, none⟩ = some (.int .i64 a4) ∧ w'.cell? ⟨w6.heap.size, 5, none⟩ = some (.int .i64 a5) ∧ w'.cell? ⟨w6.heap.size, 6, none⟩ = some (.bool (ty == 1)) ∧ w'.cell? ⟨w6.heap.size, 7, none⟩ = some (.bool true) ∧ w'.cell? ⟨w6.heap.size, 8, none⟩ = some (.bool a8) ∧ w'.cell? ⟨w6.heap.size, 9, none⟩ = some (.bool a9)) W') := fun W W' h e => by
          obtain ⟨m0, m1, m2, m3, m4, m5, m6, m7, m8, m9, m10, m11, m12, m13, m14, m15, m16, m17, m18, m19, m20, m21, m22, m23, m24, m25, m26, m27, m28, m29, m30, m31, m32, m33⟩ := h
          exact ⟨e.keep m0, e.keep m1, e.keep m2, e.keep m3, e.keep m4, e.keep m5, e.keep m6, e.keep m7, e.keep m8, e.keep m9, e.keep m10, e.keep m11, e.keep m12, e.keep m13, e.keep m14, e.keep m15, e.keep m16, e.keep m17, e.keep m18, e.keep m19, e.keep m20, e.keep m21, e.keep m22, e.keep m23, e.keep m24, e.keep m25, e.keep m26, e.keep m27, e.keep m28, e.keep m29, e.keep m30, e.keep m31, e.keep m32, e.keep m33⟩
        go_region_held3 (fun w' => w'.cell? ⟨w4.heap.size, 0, none⟩ = some (.int .u8 ty) ∧ w'.cell? ⟨w4.heap.size, 1, none⟩ = some (.int .u8 so) ∧ w'.cell? ⟨w4.heap.size, 2, none⟩ = some (.int .i64 ru) ∧ w'.cell? ⟨w4.heap.size, 3, none⟩ = some (.int .i64 sh) ∧ w'.cell? ⟨w4.heap.size, 4, none⟩ = some (.int .i64 bo) ∧ w'.cell? ⟨w4.heap.size, 5, none⟩ = some (.bool cr) ∧ w'.cell? ⟨w4.heap.size, 6, none⟩ = some (.int .u8 ho) ∧ w'.cell? ⟨w4.heap.size, 7, none⟩ = some (.int .i64 vi) ∧ w'.cell? ⟨w4.heap.size, 8, none⟩ = some (.int .i64 fi) ∧ w'.cell? ⟨w4.heap.size, 9, none⟩ = some (.int .i64 se) ∧ w'.cell? ⟨w4.heap.size, 10, none⟩ = some (.bool su) ∧ w'.cell? ⟨w4.heap.size, 11, none⟩ = some (.int .i64 sc) ∧ w'.cell? ⟨w.heap.size + 1, 0, none⟩ = some (.int .u8 ty) ∧ w'.cell? ⟨w.heap.size + 1, 1, none⟩ = some (.int .u8 so) ∧ w'.cell? ⟨w.heap.size + 1, 2, none⟩ = some (.int .i64 ru) ∧ w'.cell? ⟨w.heap.size + 1, 3, none⟩ = some (.int .i64 sh) ∧ w'.cell? ⟨w.heap.size + 1, 4, none⟩ = some (.int .i64 bo) ∧ w'.cell? ⟨w.heap.size + 1, 5, none⟩ = some (.bool cr) ∧ w'.cell? ⟨w.heap.size + 1, 6, none⟩ = some (.int .u8 ho) ∧ w'.cell? ⟨w.heap.size + 1, 7, none⟩ = some (.int .i64 vi) ∧ w'.cell? ⟨w.heap.size + 1, 8, none⟩ = some (.int .i64 fi) ∧ w'.cell? ⟨w.heap.size + 1, 9, none⟩ = some (.int .i64 se) ∧ w'.cell? ⟨w.heap.size + 1, 10, none⟩ = some (.bool su) ∧ w'.cell? ⟨w.heap.size + 1, 11, none⟩ = some (.int .i64 sc) ∧ w'.cell? ⟨w6.heap.size, 0, none⟩ = some (.int .i64 a0) ∧ w'.cell? ⟨w6.heap.size, 1, none⟩ = some (.int .i64 a1) ∧ w'.cell? ⟨w6.heap.size, 2, none⟩ = some (.int .i64 a2) ∧ w'.cell? ⟨w6.heap.size, 3, none⟩ = some (.int .i64 a3) ∧ w'.cell? ⟨w6.heap.size, 4, none⟩ = some (.int .i64 a4) ∧ w'.cell? ⟨w6.heap.size, 5, none⟩ = some (.int .i64 a5) ∧ w'.cell? ⟨w6.heap.size, 6, none⟩ = some (.bool (ty == 1)) ∧ w'.cell? ⟨w6.heap.size, 7, none⟩ = some (.bool true) ∧ w'.cell? ⟨w6.heap.size, 8, none⟩ = some (.bool a8) ∧ w'.cell? ⟨w6.heap.size, 9, none⟩ = some (.bool a9)) (first | assumption | (simp [go_sem, *]; done) | (simp [go_sem, *])) (((fail_if_success (have hzz := hb7)); go_at_call 9; refine (H6.out _ _ _ _ _).mono ?_; rintro e w7 ⟨rfl, hb7⟩; have hs7 := HKP.out _ _ (by assumption) hb7))
        go_wp2
        go_ret
        exact ⟨by first | rfl | simp, (by repeat (first | exact Ext.refl _ | refine Ext.setCell ?_ (by first | exact Nat.le_refl _ | (simp; done) | (simp; omega)) _ | refine Ext.drew ?_ | refine Ext.drewN ?_ _ | refine Ext.alloc ?_ _ | refine Ext.trans ?_ hb7 | refine Ext.trans ?_ hb6 | refine Ext.trans ?_ hb5 | refine Ext.trans ?_ hb4 | refine Ext.trans ?_ hb3 | refine Ext.trans ?_ hb2 | refine Ext.trans ?_ hb1))⟩
  · have hb2 : boxS r d K = [] := if_neg hk
    have hs2 : strS d K = [] := if_neg hk
    rw [hb2] at H2
    rw [hs2] at H3
    rw [hS1] at H1
    obtain ⟨E1, hE1⟩ : ∃ E, ckD d = E := ⟨_, rfl⟩
    rw [hE1] at H1
    have hp1 : (K != 0) = true := by simpa using hk
    have hp2 : (K == 0) = false := by simpa using hk
    clear hS1 hE1 hb2 hs2 hk hK hw hnm T hX
    obtain ⟨ty, so, ru, sh, bo, cr, ho, vi, fi, se, su, sc⟩ := d
    obtain ⟨nm, si, inn, ov, ba, qu, wi, nb, fh, nw, fo, re, ou, pa, pl, pc⟩ := r
    unfold Dl.v at *
    unfold Ru.v at *
    dsimp only at *
    have hR0 := (boxRu_new (⟨nm, si, inn, ov, ba, qu, wi, nb, fh, nw, fo, re, ou, pa, pl, pc⟩ : Ru) w 24).ext ((Ext.refl _).alloc (.cells #[.int .u8 ty, .int .u8 so, .int .i64 ru, .int .i64 sh, .int .i64 bo, .bool cr, .int .u8 ho, .int .i64 vi, .int .i64 fi, .int .i64 se, .bool su, .int .i64 sc] 29))
    have hD0 := boxD_new (⟨ty, so, ru, sh, bo, cr, ho, vi, fi, se, su, sc⟩ : Dl) (w.alloc (.cells #[.string ⟨nm.toArray⟩, .int .i64 si, .int .i64 inn, .int .i64 ov, .int .i64 ba, .int .i64 qu, .int .i64 wi, .int .i64 nb, .bool fh, .int .i64 nw, .int .i64 fo, .int .i64 re, .int .i64 ou, .slice pa pl pc] 24)) 29
    rw [show (w.alloc (.cells #[.string ⟨nm.toArray⟩, .int .i64 si, .int .i64 inn, .int .i64 ov, .int .i64 ba, .int .i64 qu, .int .i64 wi, .int .i64 nb, .bool fh, .int .i64 nw, .int .i64 fo, .int .i64 re, .int .i64 ou, .slice pa pl pc] 24)).heap.size = w.heap.size + 1 by simp [go_sem]] at hD0
    go_enter Tryd.func3, Tryd.ntmps3
    go_wp2_with (first | ((fail_if_success (have hzz := hb1)); go_at_call 4; refine (H1.out _ (HX.out.ext (by repeat (first | exact Ext.refl _ | refine Ext.setCell ?_ (by first | exact Nat.le_refl _ | (simp; done) | (simp; omega)) _ | refine Ext.drew ?_ | refine Ext.drewN ?_ _ | refine Ext.alloc ?_ _)))).mono ?_; rintro e w1 ⟨rfl, hb1⟩; (have hR1 := BoxRu.ext hR0 hb1); (have hD1 := BoxD.ext hD0 hb1); (have hRk := hR1); (have hDk := hD1); obtain ⟨r0, r1, r2, r3, r4, r5, r6, r7, r8, r9, r10, r11, r12, r13⟩ := hRk; obtain ⟨d0, d1, d2, d3, d4, d5, d6, d7, d8, d9, d10, d11⟩ := hDk; dsimp only at r0 r1 r2 r3 r4 r5 r6 r7 r8 r9 r10 r11 r12 r13 d0 d1 d2 d3 d4 d5 d6 d7 d8 d9 d10 d11) | ((fail_if_success (have hzz := hb2)); go_at_call 5; refine (H2.out _ (HT.out.ext (by repeat (first | exact Ext.refl _ | refine Ext.setCell ?_ (by first | exact Nat.le_refl _ | (simp; done) | (simp; omega)) _ | refine Ext.drew ?_ | refine Ext.drewN ?_ _ | refine Ext.alloc ?_ _ | refine Ext.trans ?_ hb1))) (HX.out.ext (by repeat (first | exact Ext.refl _ | refine Ext.setCell ?_ (by first | exact Nat.le_refl _ | (simp; done) | (simp; omega)) _ | refine Ext.drew ?_ | refine Ext.drewN ?_ _ | refine Ext.alloc ?_ _ | refine Ext.trans ?_ hb1)))).mono ?_; rintro e w2 ⟨rfl, hb2⟩; clear r0 r1 r2 r3 r4 r5 r6 r7 r8 r9 r10 r11 r12 r13 d0 d1 d2 d3 d4 d5 d6 d7 d8 d9 d10 d11; (have hR2 := BoxRu.ext hR1 hb2); (have hD2 := BoxD.ext hD1 hb2); (have hRk := hR2); (have hDk := hD2); obtain ⟨r0, r1, r2, r3, r4, r5, r6, r7, r8, r9, r10, r11, r12, r13⟩ := hRk; obtain ⟨d0, d1, d2, d3, d4, d5, d6, d7, d8, d9, d10, d11⟩ := hDk; dsimp only at r0 r1 r2 r3 r4 r5 r6 r7 r8 r9 r10 r11 r12 r13 d0 d1 d2 d3 d4 d5 d6 d7 d8 d9 d10 d11) | ((fail_if_success (have hzz := hb3)); go_at_call 6; refine (H3.out _ (HT.out.ext (by repeat (first | exact Ext.refl _ | refine Ext.setCell ?_ (by first | exact Nat.le_refl _ | (simp; done) | (simp; omega)) _ | refine Ext.drew ?_ | refine Ext.drewN ?_ _ | refine Ext.alloc ?_ _ | refine Ext.trans ?_ hb2 | refine Ext.trans ?_ hb1))) (HX.out.ext (by repeat (first | exact Ext.refl _ | refine Ext.setCell ?_ (by first | exact Nat.le_refl _ | (simp; done) | (simp; omega)) _ | refine Ext.drew ?_ | refine Ext.drewN ?_ _ | refine Ext.alloc ?_ _ | refine Ext.trans ?_ hb2 | refine Ext.trans ?_ hb1)))).mono ?_; rintro e w3 ⟨rfl, hb3⟩; clear r0 r1 r2 r3 r4 r5 r6 r7 r8 r9 r10 r11 r12 r13 d0 d1 d2 d3 d4 d5 d6 d7 d8 d9 d10 d11; (have hR3 := BoxRu.ext hR2 hb3); (have hD3 := BoxD.ext hD2 hb3); (have hRk := hR3); (have hDk := hD3); obtain ⟨r0, r1, r2, r3, r4, r5, r6, r7, r8, r9, r10, r11, r12, r13⟩ := hRk; obtain ⟨d0, d1, d2, d3, d4, d5, d6, d7, d8, d9, d10, d11⟩ := hDk; dsimp only at r0 r1 r2 r3 r4 r5 r6 r7 r8 r9 r10 r11 r12 r13 d0 d1 d2 d3 d4 d5 d6 d7 d8 d9 d10 d11))
    go_ret
    exact ⟨by first | rfl | simp, (by repeat (first | exact Ext.refl _ | refine Ext.setCell ?_ (by first | exact Nat.le_refl _ | (simp; done) | (simp; omega)) _ | refine Ext.drew ?_ | refine Ext.drewN ?_ _ | refine Ext.alloc ?_ _ | refine Ext.trans ?_ hb3 | refine Ext.trans ?_ hb2 | refine Ext.trans ?_ hb1))⟩

end Go.Proofs.YtohoehfebphgeaaDoor

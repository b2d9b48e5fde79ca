/-
  The fielders of a delivery (layer 10).
-/
import Derived.Test.YtpeabgfolpgfjaaSymM
import Derived.Deep.DeepCutAuto
import Derived.Deep.CutBlock
namespace Go.Proofs.Ytpeabgfolpgfjaa
open Go.RowKit
set_option linter.unusedSimpArgs false

theorem pl_any (n : Int) (w : World) : Calls Try.prog 101 #[.int .i64 n] w fun e w' => e = .returned (.bool (rng n 1 11)) ∧ w' = w := by
  obtain ⟨V, hV⟩ : ∃ V, rng n 1 11 = V := ⟨_, rfl⟩
  have HV := Lib.hid hV
  rw [hV]
  clear hV
  go_enter Try.func101, Try.ntmps101
  go_wp2
  all_goals
    refine bodyPost_ret (v := .bool V) ?_ rfl ⟨rfl, rfl⟩
    rw [← HV.out]
    simp [results, Try.results101, go_sem, rng, *]
    try omega
def fdB (fl : Bool) (ho fi se : Int) : Bool := if (fl != rng fi 1 11) || (!fl && fi != 0) then false else (se == 0 || (ho == 6 && rng se 1 11 && se != fi))
set_option maxRecDepth 20000 in
set_option maxHeartbeats 8000000 in
theorem fielders_any (d : Dl) (h : Int) (nm : ByteArray) (b2 b3 b4 fl b6 : Bool) (w : World) : Calls Try.prog 97 #[d.v, .agg #[.int .u8 h, .string nm, .bool b2, .bool b3, .bool b4, .bool fl, .bool b6]] w fun e w' => e = .returned (.bool (fdB fl d.ho d.fi d.se)) ∧ Ext w w' := by
  obtain ⟨V, hV⟩ : ∃ V, fdB fl d.ho d.fi d.se = V := ⟨_, rfl⟩
  have HV := Lib.hid hV
  rw [hV]
  clear hV
  obtain ⟨ty, so, ru, sh, bo, cr, ho, vi, fi, se, su, sc⟩ := d
  unfold Dl.v
  unfold fdB at HV
  dsimp only at HV ⊢
  have HP1 : Hid (∀ W, Calls Try.prog 101 #[.int .i64 fi] W fun e w' => e = .returned (.bool (rng fi 1 11)) ∧ w' = W) := fun W => pl_any fi W
  have HP2 : Hid (∀ W, Calls Try.prog 101 #[.int .i64 se] W fun e w' => e = .returned (.bool (rng se 1 11)) ∧ w' = W) := fun W => pl_any se W
  have hz : rng fi 1 11 = true → fi ≠ 0 := fun h0 => by have := rng_yes h0; omega
  obtain ⟨P1, h1⟩ : ∃ x, rng fi 1 11 = x := ⟨_, rfl⟩
  obtain ⟨P2, h2⟩ : ∃ x, rng se 1 11 = x := ⟨_, rfl⟩
  rw [h1] at HP1 HV hz
  rw [h2] at HP2 HV
  clear h1 h2
  by_cases hf0 : fi = 0
  · subst hf0
    cases P1
    · cases fl
      all_goals
        have HV2 := Lib.hid HV.out
        clear hz
        go_enter Try.func97, Try.ntmps97
        go_upto_region 2 with fail
        go_quiet ((go_at_call 101; refine Calls.quiet_of_same (HP1.out _)))
        go_wp2_with (go_at_call 101; refine (HP2.out _).mono ?_; rintro e w' ⟨rfl, rfl⟩)
        all_goals
          try simp only [beq_iff_eq, beq_eq_false_iff_ne, bne_iff_ne, ne_eq, bne_eq_false_iff_eq] at *
          refine bodyPost_ret (v := .bool V) ?_ rfl ⟨rfl, (by repeat (first | exact Ext.refl _ | refine Ext.setCell ?_ (by first | exact Nat.le_refl _ | (simp; done) | (simp; omega)) _ | refine Ext.drew ?_ | refine Ext.drewN ?_ _ | refine Ext.alloc ?_ _))⟩
          rw [← HV.out]
          simp [results, Try.results97, go_sem, *]
    · exact absurd rfl (hz rfl)
  · have g1 : (fi == 0) = false := by simpa using hf0
    have g2 : (fi != 0) = true := by simpa using hf0
    cases P1 <;> cases fl
    all_goals
      clear hz
      go_enter Try.func97, Try.ntmps97
      go_upto_region 2 with fail
      go_quiet ((go_at_call 101; refine Calls.quiet_of_same (HP1.out _)))
      go_wp2_with (go_at_call 101; refine (HP2.out _).mono ?_; rintro e w' ⟨rfl, rfl⟩)
      all_goals
        try simp only [beq_iff_eq, beq_eq_false_iff_ne, bne_iff_ne, ne_eq, bne_eq_false_iff_eq] at *
        refine bodyPost_ret (v := .bool V) ?_ rfl ⟨rfl, (by repeat (first | exact Ext.refl _ | refine Ext.setCell ?_ (by first | exact Nat.le_refl _ | (simp; done) | (simp; omega)) _ | refine Ext.drew ?_ | refine Ext.drewN ?_ _ | refine Ext.alloc ?_ _))⟩
        rw [← HV.out]
        simp [results, Try.results97, go_sem, *]

end Go.Proofs.Ytpeabgfolpgfjaa

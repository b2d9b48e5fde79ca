/-
  awake of layer 41's statements returns true.
-/
import Derived.Test.YtgokaonikdmnfaaSlowC
namespace Go.Proofs.Ytgokaonikdmnfaa
open Go.RowKit

theorem ka : alwV 90 240 120 60 5 12 1 3 2 10 = 18 ∧ alwE 90 240 120 60 5 12 1 3 2 10 = 0 := by decide +kernel
theorem km : misV 90 240 120 60 5 12 1 3 2 10 15 = 2 ∧ misE 90 240 120 60 5 12 1 3 2 10 15 = 0 := by decide +kernel
theorem kr : runV 90 240 120 60 5 12 1 3 = 12 ∧ runE 90 240 120 60 5 12 1 3 = 0 := by decide +kernel
theorem kf1 : rng 240 60 1000 = true := by decide +kernel
theorem kf2 : rng 9 0 600 = true := by decide +kernel

set_option maxHeartbeats 1000000 in
theorem awake_any (w : World) :
    Calls Try.prog 10 #[] w fun e w' => e = .returned (.bool true) ∧ Ext w w' := by
  have HA := Lib.hid ka
  have HM := Lib.hid km
  have HR := Lib.hid kr
  have H1 := Lib.hid kf1
  have H2 := Lib.hid kf2
  go_enter Try.func10, Try.ntmps10
  go_wp2_with (first
    | (go_at_call 11; refine (allowed_any _ _ _ _ _ _ _ _ _ _ _).mono ?_; rintro e w1 ⟨rfl, hb1⟩; rw [HA.out.1, HA.out.2]; obtain ⟨hcell1, _⟩ := hb1.cells)
    | (go_at_call 14; refine (missing_any _ _ _ _ _ _ _ _ _ _ _ _).mono ?_; rintro e w2 ⟨rfl, hb2⟩; rw [HM.out.1, HM.out.2]; have hb2 := hb1.trans hb2; obtain ⟨hcell2, _⟩ := hb2.cells; clear hcell1)
    | (go_at_call 18; refine (runs_any _ _ _ _ _ _ _ _ _).mono ?_; rintro e w3 ⟨rfl, hb3⟩; rw [HR.out.1, HR.out.2]; have hb3 := hb2.trans hb3; obtain ⟨hcell3, _⟩ := hb3.cells; clear hcell2)
    | (go_at_call 25; refine (from_any _ _ _ _).mono ?_; rintro e w' ⟨rfl, rfl⟩; rw [H1.out])
    | (go_at_call 25; refine (from_any _ _ _ _).mono ?_; rintro e w' ⟨rfl, rfl⟩; rw [H2.out])
    | go_in)
  go_ret
  exact ⟨rfl, ((Ext.refl _).alloc _).trans hb3⟩

end Go.Proofs.Ytgokaonikdmnfaa

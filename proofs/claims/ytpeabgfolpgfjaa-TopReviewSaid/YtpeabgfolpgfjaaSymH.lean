/-
  Numbers of rules in range (layer 5).
-/
import Derived.Test.YtpeabgfolpgfjaaSymG
namespace Go.Proofs.Ytpeabgfolpgfjaa
open Go.RowKit
set_option linter.unusedSimpArgs false

def irB (r : Ru) : Bool := rng r.si 2 11 && rng r.inn 1 2 && rng r.ov 0 90 && rng r.ba 4 8 && rng r.qu 0 90 && rng r.wi 1 5 && rng r.nb 1 5 && rng r.nw 0 200 && rng r.fo 0 1000 && rng r.re 0 9 && rng r.ou 0 11
set_option maxHeartbeats 4000000 in
theorem inrange_any (r : Ru) (w : World) : Calls Try.prog 52 #[r.v] w fun e w' => e = .returned (.bool (irB r)) ∧ Ext w w' := by
  obtain ⟨V, hV⟩ : ∃ V, irB r = V := ⟨_, rfl⟩
  have HV := Lib.hid hV
  rw [hV]
  clear hV
  obtain ⟨nm, si, inn, ov, ba, qu, wi, nb, fh, nw, fo, re, ou, pa, pl, pc⟩ := r
  unfold Ru.v
  dsimp only
  unfold irB at HV
  dsimp only at HV
  obtain ⟨x0, hx0⟩ : ∃ x, rng si 2 11 = x := ⟨_, rfl⟩
  have X0 := Lib.hid hx0
  rw [hx0] at HV
  clear hx0
  obtain ⟨x1, hx1⟩ : ∃ x, rng inn 1 2 = x := ⟨_, rfl⟩
  have X1 := Lib.hid hx1
  rw [hx1] at HV
  clear hx1
  obtain ⟨x2, hx2⟩ : ∃ x, rng ov 0 90 = x := ⟨_, rfl⟩
  have X2 := Lib.hid hx2
  rw [hx2] at HV
  clear hx2
  obtain ⟨x3, hx3⟩ : ∃ x, rng ba 4 8 = x := ⟨_, rfl⟩
  have X3 := Lib.hid hx3
  rw [hx3] at HV
  clear hx3
  obtain ⟨x4, hx4⟩ : ∃ x, rng qu 0 90 = x := ⟨_, rfl⟩
  have X4 := Lib.hid hx4
  rw [hx4] at HV
  clear hx4
  obtain ⟨x5, hx5⟩ : ∃ x, rng wi 1 5 = x := ⟨_, rfl⟩
  have X5 := Lib.hid hx5
  rw [hx5] at HV
  clear hx5
  obtain ⟨x6, hx6⟩ : ∃ x, rng nb 1 5 = x := ⟨_, rfl⟩
  have X6 := Lib.hid hx6
  rw [hx6] at HV
  clear hx6
  obtain ⟨x7, hx7⟩ : ∃ x, rng nw 0 200 = x := ⟨_, rfl⟩
  have X7 := Lib.hid hx7
  rw [hx7] at HV
  clear hx7
  obtain ⟨x8, hx8⟩ : ∃ x, rng fo 0 1000 = x := ⟨_, rfl⟩
  have X8 := Lib.hid hx8
  rw [hx8] at HV
  clear hx8
  obtain ⟨x9, hx9⟩ : ∃ x, rng re 0 9 = x := ⟨_, rfl⟩
  have X9 := Lib.hid hx9
  rw [hx9] at HV
  clear hx9
  obtain ⟨x10, hx10⟩ : ∃ x, rng ou 0 11 = x := ⟨_, rfl⟩
  have X10 := Lib.hid hx10
  rw [hx10] at HV
  clear hx10
  go_enter Try.func52, Try.ntmps52
  go_wp2_with (go_at_call 79; refine (rbet_any _ _ _ _).mono ?_; rintro e w' ⟨rfl, rfl⟩; (first | rw [X0.out] | rw [X1.out] | rw [X2.out] | rw [X3.out] | rw [X4.out] | rw [X5.out] | rw [X6.out] | rw [X7.out] | rw [X8.out] | rw [X9.out] | rw [X10.out]))
  all_goals
    refine bodyPost_ret (v := .bool V) ?_ rfl ⟨rfl, (by repeat (first | exact Ext.refl _ | refine Ext.setCell ?_ (by first | exact Nat.le_refl _ | (simp; done) | (simp; omega)) _ | refine Ext.drew ?_ | refine Ext.drewN ?_ _ | refine Ext.alloc ?_ _))⟩
    rw [← HV.out]
    simp [results, Try.results52, go_sem, *]

end Go.Proofs.Ytpeabgfolpgfjaa

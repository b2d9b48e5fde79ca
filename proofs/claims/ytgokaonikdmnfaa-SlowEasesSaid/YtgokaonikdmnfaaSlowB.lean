/-
  Contracts of Allowed, Missing and Runs of the program and of the reference, over the seat's own dump.
-/
import Derived.Test.YtgokaonikdmnfaaSlowA
namespace Go.Proofs.Ytgokaonikdmnfaa
open Go.RowKit

/-- What Allowed gives, value and error. -/
def alwV (m po wk rv pe mx gr a b c : Int) : Int := if pok m po wk rv pe mx gr && (rng a 0 40 && rng b 0 40 && rng c 0 m) then (max (60 * (m - c) - wk * a - rv * b) 0) / po else 0
def alwE (m po wk rv pe mx gr a b c : Int) : Int := if pok m po wk rv pe mx gr && (rng a 0 40 && rng b 0 40 && rng c 0 m) then 0 else 2
theorem alw_ok {m po wk rv pe mx gr a b c : Int} (h : pok m po wk rv pe mx gr = true) (h1 : rng a 0 40 = true) (h2 : rng b 0 40 = true) (h3 : rng c 0 m = true) :
    alwV m po wk rv pe mx gr a b c = (max (60 * (m - c) - wk * a - rv * b) 0) / po ∧ alwE m po wk rv pe mx gr a b c = 0 := by simp [alwV, alwE, h, h1, h2, h3]
theorem alw_no {m po wk rv pe mx gr a b c : Int} (h : (pok m po wk rv pe mx gr && (rng a 0 40 && rng b 0 40 && rng c 0 m)) = false) :
    alwV m po wk rv pe mx gr a b c = 0 ∧ alwE m po wk rv pe mx gr a b c = 2 := by simp [alwV, alwE, h]
theorem pok_bd {m po wk rv pe mx gr : Int} (h : pok m po wk rv pe mx gr = true) : 0 ≤ m ∧ m ≤ 600 ∧ 60 ≤ po ∧ po ≤ 1000 ∧ 0 ≤ wk ∧ wk ≤ 600 ∧ 0 ≤ rv ∧ rv ≤ 600 ∧ 0 ≤ pe ∧ pe ≤ 10 ∧ 0 ≤ mx ∧ mx ≤ 50 ∧ 0 ≤ gr ∧ gr ≤ 10 := by
  simp [pok, rng] at h; omega
theorem chk_ok {m po wk rv pe mx gr : Int} (h : pok m po wk rv pe mx gr = true) : chk m po wk rv pe mx gr = 0 := by simp [chk, h]
theorem chk_no {m po wk rv pe mx gr : Int} (h : pok m po wk rv pe mx gr = false) : chk m po wk rv pe mx gr = 2 := by simp [chk, h]


set_option maxHeartbeats 1000000 in
theorem allowed_any (m po wk rv pe mx gr a b c : Int) (w : World) :
    Calls Try.prog 11 #[.agg #[.int .i64 m, .int .i64 po, .int .i64 wk, .int .i64 rv, .int .i64 pe, .int .i64 mx, .int .i64 gr], .int .i64 a, .int .i64 b, .int .i64 c] w fun e w' =>
      e = .returned (.tuple #[.int .i64 (alwV m po wk rv pe mx gr a b c), .int .i64 (alwE m po wk rv pe mx gr a b c)]) ∧ Ext w w' := by
  cases hp : pok m po wk rv pe mx gr
  · have Hc := Lib.hid (chk_no hp)
    have HN := Lib.hid (@alw_no m po wk rv pe mx gr a b c (by rw [hp]; rfl))
    clear hp
    go_enter Try.func11, Try.ntmps11
    go_wp2_with (go_at_call 16; refine (check_any _ _ _ _ _ _ _ _).mono ?_; rintro e w1 ⟨rfl, hb1⟩; rw [Hc.out])
    go_ret2
    exact ⟨ret2 HN.out.1.symm HN.out.2.symm, ((Ext.refl _).alloc _).trans hb1⟩
  · have Hc := Lib.hid (chk_ok hp)
    obtain ⟨hd0, hd1, hd2, hd3, hd4, hd5, hd6, hd7, hd8, hd9, hd10, hd11, hd12, hd13⟩ := pok_bd hp
    rcases and3 (rng a 0 40) (rng b 0 40) (rng c 0 m) with h1 | ⟨h1, h2⟩ | ⟨h1, h2, h3⟩ | ⟨h1, h2, h3⟩
    iterate 3
      · have HN := Lib.hid (@alw_no m po wk rv pe mx gr a b c (by simp [*]))
        clear hp
        go_enter Try.func11, Try.ntmps11
        go_wp2_with (first
          | (go_at_call 16; refine (check_any _ _ _ _ _ _ _ _).mono ?_; rintro e w1 ⟨rfl, hb1⟩; rw [Hc.out]; obtain ⟨hcell, _⟩ := hb1.cells)
          | (go_at_call 25; refine (from_any _ _ _ _).mono ?_; rintro e w' ⟨rfl, rfl⟩))
        go_ret2
        exact ⟨ret2 HN.out.1.symm HN.out.2.symm, ((Ext.refl _).alloc _).trans hb1⟩
    · have HN := Lib.hid (@alw_ok m po wk rv pe mx gr a b c hp h1 h2 h3)
      have g1 := rng_yes h1
      have g2 := rng_yes h2
      have g3 := rng_yes h3
      have k1 := mul_bd hd4 hd5 g1.1 g1.2
      have k2 := mul_bd hd6 hd7 g2.1 g2.2
      obtain ⟨g10, g11⟩ := g1
      obtain ⟨g20, g21⟩ := g2
      obtain ⟨g30, g31⟩ := g3
      obtain ⟨k10, k11⟩ := k1
      obtain ⟨k20, k21⟩ := k2
      have k3 : 0 ≤ max (60 * (m - c) - wk * a - rv * b) 0 := by omega
      have k4 : max (60 * (m - c) - wk * a - rv * b) 0 ≤ 36000 := by omega
      clear hp
      go_enter Try.func11, Try.ntmps11
      go_wp2_with (first
        | (go_at_call 16; refine (check_any _ _ _ _ _ _ _ _).mono ?_; rintro e w1 ⟨rfl, hb1⟩; rw [Hc.out]; obtain ⟨hcell, _⟩ := hb1.cells)
        | (go_at_call 25; refine (from_any _ _ _ _).mono ?_; rintro e w' ⟨rfl, rfl⟩))
      all_goals
        go_ret2
        exact ⟨ret2 (by rw [HN.out.1]; first | (rw [Int.max_eq_right (by omega)]; simp; done) | rw [Int.max_eq_left (by omega)]) HN.out.2.symm, ((Ext.refl _).alloc _).trans hb1⟩

set_option maxHeartbeats 1000000 in
theorem rallowed_any (m po wk rv pe mx gr a b c : Int) (w : World) :
    Calls Try.prog 13 #[.agg #[.int .i64 m, .int .i64 po, .int .i64 wk, .int .i64 rv, .int .i64 pe, .int .i64 mx, .int .i64 gr], .int .i64 a, .int .i64 b, .int .i64 c] w fun e w' =>
      e = .returned (.tuple #[.int .i64 (alwV m po wk rv pe mx gr a b c), .int .i64 (alwE m po wk rv pe mx gr a b c)]) ∧ Ext w w' := by
  cases hp : pok m po wk rv pe mx gr
  · have Hc := Lib.hid (chk_no hp)
    have HN := Lib.hid (@alw_no m po wk rv pe mx gr a b c (by rw [hp]; rfl))
    clear hp
    go_enter Try.func13, Try.ntmps13
    go_wp2_with (go_at_call 17; refine (rcheck_any _ _ _ _ _ _ _ _).mono ?_; rintro e w1 ⟨rfl, hb1⟩; rw [Hc.out])
    go_ret2
    exact ⟨ret2 HN.out.1.symm HN.out.2.symm, ((Ext.refl _).alloc _).trans hb1⟩
  · have Hc := Lib.hid (chk_ok hp)
    obtain ⟨hd0, hd1, hd2, hd3, hd4, hd5, hd6, hd7, hd8, hd9, hd10, hd11, hd12, hd13⟩ := pok_bd hp
    rcases and3 (rng a 0 40) (rng b 0 40) (rng c 0 m) with h1 | ⟨h1, h2⟩ | ⟨h1, h2, h3⟩ | ⟨h1, h2, h3⟩
    iterate 3
      · have HN := Lib.hid (@alw_no m po wk rv pe mx gr a b c (by simp [*]))
        clear hp
        go_enter Try.func13, Try.ntmps13
        go_wp2_with (first
          | (go_at_call 17; refine (rcheck_any _ _ _ _ _ _ _ _).mono ?_; rintro e w1 ⟨rfl, hb1⟩; rw [Hc.out]; obtain ⟨hcell, _⟩ := hb1.cells)
          | (go_at_call 26; refine (between_any _ _ _ _).mono ?_; rintro e w' ⟨rfl, rfl⟩))
        go_ret2
        exact ⟨ret2 HN.out.1.symm HN.out.2.symm, ((Ext.refl _).alloc _).trans hb1⟩
    · have HN := Lib.hid (@alw_ok m po wk rv pe mx gr a b c hp h1 h2 h3)
      have g1 := rng_yes h1
      have g2 := rng_yes h2
      have g3 := rng_yes h3
      have k1 := mul_bd hd4 hd5 g1.1 g1.2
      have k2 := mul_bd hd6 hd7 g2.1 g2.2
      obtain ⟨g10, g11⟩ := g1
      obtain ⟨g20, g21⟩ := g2
      obtain ⟨g30, g31⟩ := g3
      obtain ⟨k10, k11⟩ := k1
      obtain ⟨k20, k21⟩ := k2
      have k3 : 0 ≤ max (60 * (m - c) - wk * a - rv * b) 0 := by omega
      have k4 : max (60 * (m - c) - wk * a - rv * b) 0 ≤ 36000 := by omega
      clear hp
      go_enter Try.func13, Try.ntmps13
      go_wp2_with (first
        | (go_at_call 17; refine (rcheck_any _ _ _ _ _ _ _ _).mono ?_; rintro e w1 ⟨rfl, hb1⟩; rw [Hc.out]; obtain ⟨hcell, _⟩ := hb1.cells)
        | (go_at_call 26; refine (between_any _ _ _ _).mono ?_; rintro e w' ⟨rfl, rfl⟩))
      all_goals
        go_ret2
        exact ⟨ret2 (by rw [HN.out.1]; first | (rw [Int.max_eq_right (by omega)]; simp; done) | rw [Int.max_eq_left (by omega)]) HN.out.2.symm, ((Ext.refl _).alloc _).trans hb1⟩

end Go.Proofs.Ytgokaonikdmnfaa

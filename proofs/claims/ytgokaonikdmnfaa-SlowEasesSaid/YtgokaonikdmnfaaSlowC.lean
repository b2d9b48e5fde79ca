/-
  Contracts of Missing and Runs (program and reference) and of the law's own helpers (of, awake), over the seat's own dump.
-/
import Derived.Test.YtgokaonikdmnfaaSlowB
namespace Go.Proofs.Ytgokaonikdmnfaa
open Go.RowKit

def okA (m po wk rv pe mx gr a b c : Int) : Bool := pok m po wk rv pe mx gr && (rng a 0 40 && rng b 0 40 && rng c 0 m)
def misV (m po wk rv pe mx gr a b c d : Int) : Int := if okA m po wk rv pe mx gr a b c && rng d 0 1000 then max (alwV m po wk rv pe mx gr a b c - gr - d) 0 else 0
def misE (m po wk rv pe mx gr a b c d : Int) : Int := if okA m po wk rv pe mx gr a b c && rng d 0 1000 then 0 else 2
theorem okA_alw {m po wk rv pe mx gr a b c : Int} (h : okA m po wk rv pe mx gr a b c = true) :
    alwV m po wk rv pe mx gr a b c = (max (60 * (m - c) - wk * a - rv * b) 0) / po ∧ alwE m po wk rv pe mx gr a b c = 0 := by
  unfold okA at h; simp [alwV, alwE, h]
theorem okA_not {m po wk rv pe mx gr a b c : Int} (h : okA m po wk rv pe mx gr a b c = false) :
    alwV m po wk rv pe mx gr a b c = 0 ∧ alwE m po wk rv pe mx gr a b c = 2 := alw_no h
theorem okA_bd {m po wk rv pe mx gr a b c : Int} (h : okA m po wk rv pe mx gr a b c = true) :
    pok m po wk rv pe mx gr = true ∧ 0 ≤ a ∧ a ≤ 40 ∧ 0 ≤ b ∧ b ≤ 40 ∧ 0 ≤ c ∧ c ≤ m := by
  simp [okA, rng] at h; simp [h]
theorem alwV_bd {m po wk rv pe mx gr a b c : Int} (h : okA m po wk rv pe mx gr a b c = true) : 0 ≤ alwV m po wk rv pe mx gr a b c ∧ alwV m po wk rv pe mx gr a b c ≤ 600 := by
  obtain ⟨h1, h2⟩ := okA_bd h
  have h3 := pok_bd h1
  have k1 := mul_bd h3.2.2.2.2.1 h3.2.2.2.2.2.1 h2.1 h2.2.1
  have k2 := mul_bd h3.2.2.2.2.2.2.1 h3.2.2.2.2.2.2.2.1 h2.2.2.1 h2.2.2.2.1
  rw [(okA_alw h).1]
  have hM : 0 ≤ max (60 * (m - c) - wk * a - rv * b) 0 ∧ max (60 * (m - c) - wk * a - rv * b) 0 ≤ 36000 := by omega
  generalize max (60 * (m - c) - wk * a - rv * b) 0 = M at hM
  refine ⟨Int.ediv_nonneg hM.1 (by omega), ?_⟩
  have := (Int.ediv_lt_iff_lt_mul (a := M) (b := 601) (c := po) (by omega)).2 (by omega)
  omega

set_option maxHeartbeats 1000000 in
theorem missing_any (m po wk rv pe mx gr a b c d : Int) (w : World) :
    Calls Try.prog 14 #[.agg #[.int .i64 m, .int .i64 po, .int .i64 wk, .int .i64 rv, .int .i64 pe, .int .i64 mx, .int .i64 gr], .int .i64 a, .int .i64 b, .int .i64 c, .int .i64 d] w fun e w' =>
      e = .returned (.tuple #[.int .i64 (misV m po wk rv pe mx gr a b c d), .int .i64 (misE m po wk rv pe mx gr a b c d)]) ∧ Ext w w' := by
  rcases and2 (okA m po wk rv pe mx gr a b c) (rng d 0 1000) with h1 | ⟨h1, h2⟩ | ⟨h1, h2⟩
  · have HN := Lib.hid (okA_not h1)
    have HM : Hid (misV m po wk rv pe mx gr a b c d = 0 ∧ misE m po wk rv pe mx gr a b c d = 2) := by simp [Hid, misV, misE, h1]
    clear h1
    go_enter Try.func14, Try.ntmps14
    go_wp2_with (go_at_call 11; refine (allowed_any _ _ _ _ _ _ _ _ _ _ _).mono ?_; rintro e w1 ⟨rfl, hb1⟩; rw [HN.out.1, HN.out.2])
    go_ret2
    exact ⟨ret2 HM.out.1.symm HM.out.2.symm, ((Ext.refl _).alloc _).trans hb1⟩
  · have HN := Lib.hid (okA_alw h1).2
    have HM : Hid (misV m po wk rv pe mx gr a b c d = 0 ∧ misE m po wk rv pe mx gr a b c d = 2) := by simp [Hid, misV, misE, h2]
    have g := rng_no h2
    clear h1
    go_enter Try.func14, Try.ntmps14
    go_wp2_with (first
        | (go_at_call 11; refine (allowed_any _ _ _ _ _ _ _ _ _ _ _).mono ?_; rintro e w1 ⟨rfl, hb1⟩; rw [HN.out]; obtain ⟨hcell, _⟩ := hb1.cells))
    all_goals
      go_ret2
      exact ⟨ret2 (by first | exact HM.out.1.symm | (exfalso; omega)) (by first | exact HM.out.2.symm | (exfalso; omega)), ((Ext.refl _).alloc _).trans hb1⟩
  · have HN := Lib.hid (okA_alw h1).2
    have HM : Hid (misV m po wk rv pe mx gr a b c d = max (alwV m po wk rv pe mx gr a b c - gr - d) 0 ∧ misE m po wk rv pe mx gr a b c d = 0) := by simp [Hid, misV, misE, h1, h2]
    obtain ⟨g1, g2⟩ := rng_yes h2
    obtain ⟨g3, g4⟩ := alwV_bd h1
    obtain ⟨_, _, _, _, _, _, _, _, _, _, _, _, g5, g6⟩ := pok_bd (okA_bd h1).1
    have g7 : d < 1001 := by omega
    clear h1
    go_enter Try.func14, Try.ntmps14
    go_wp2_with (first
        | (go_at_call 11; refine (allowed_any _ _ _ _ _ _ _ _ _ _ _).mono ?_; rintro e w1 ⟨rfl, hb1⟩; rw [HN.out]; obtain ⟨hcell, _⟩ := hb1.cells))
    all_goals
      go_ret2
      exact ⟨ret2 (by rw [HM.out.1]; first | rw [Int.max_eq_right (by omega)] | rw [Int.max_eq_left (by omega)]) HM.out.2.symm, ((Ext.refl _).alloc _).trans hb1⟩

set_option maxHeartbeats 1000000 in
theorem rmissing_any (m po wk rv pe mx gr a b c d : Int) (w : World) :
    Calls Try.prog 15 #[.agg #[.int .i64 m, .int .i64 po, .int .i64 wk, .int .i64 rv, .int .i64 pe, .int .i64 mx, .int .i64 gr], .int .i64 a, .int .i64 b, .int .i64 c, .int .i64 d] w fun e w' =>
      e = .returned (.tuple #[.int .i64 (misV m po wk rv pe mx gr a b c d), .int .i64 (misE m po wk rv pe mx gr a b c d)]) ∧ Ext w w' := by
  rcases and2 (okA m po wk rv pe mx gr a b c) (rng d 0 1000) with h1 | ⟨h1, h2⟩ | ⟨h1, h2⟩
  · have HN := Lib.hid (okA_not h1)
    have HM : Hid (misV m po wk rv pe mx gr a b c d = 0 ∧ misE m po wk rv pe mx gr a b c d = 2) := by simp [Hid, misV, misE, h1]
    clear h1
    go_enter Try.func15, Try.ntmps15
    go_wp2_with (go_at_call 13; refine (rallowed_any _ _ _ _ _ _ _ _ _ _ _).mono ?_; rintro e w1 ⟨rfl, hb1⟩; rw [HN.out.1, HN.out.2])
    go_ret2
    exact ⟨ret2 HM.out.1.symm HM.out.2.symm, ((Ext.refl _).alloc _).trans hb1⟩
  · have HN := Lib.hid (okA_alw h1).2
    have HM : Hid (misV m po wk rv pe mx gr a b c d = 0 ∧ misE m po wk rv pe mx gr a b c d = 2) := by simp [Hid, misV, misE, h2]
    have g := rng_no h2
    clear h1
    go_enter Try.func15, Try.ntmps15
    go_wp2_with (first
        | (go_at_call 13; refine (rallowed_any _ _ _ _ _ _ _ _ _ _ _).mono ?_; rintro e w1 ⟨rfl, hb1⟩; rw [HN.out]; obtain ⟨hcell, _⟩ := hb1.cells)
        | (go_at_call 26; refine (between_any _ _ _ _).mono ?_; rintro e w' ⟨rfl, rfl⟩))
    all_goals
      go_ret2
      exact ⟨ret2 (by first | exact HM.out.1.symm | (exfalso; omega)) (by first | exact HM.out.2.symm | (exfalso; omega)), ((Ext.refl _).alloc _).trans hb1⟩
  · have HN := Lib.hid (okA_alw h1).2
    have HM : Hid (misV m po wk rv pe mx gr a b c d = max (alwV m po wk rv pe mx gr a b c - gr - d) 0 ∧ misE m po wk rv pe mx gr a b c d = 0) := by simp [Hid, misV, misE, h1, h2]
    obtain ⟨g1, g2⟩ := rng_yes h2
    obtain ⟨g3, g4⟩ := alwV_bd h1
    obtain ⟨_, _, _, _, _, _, _, _, _, _, _, _, g5, g6⟩ := pok_bd (okA_bd h1).1
    have g7 : d < 1001 := by omega
    clear h1
    go_enter Try.func15, Try.ntmps15
    go_wp2_with (first
        | (go_at_call 13; refine (rallowed_any _ _ _ _ _ _ _ _ _ _ _).mono ?_; rintro e w1 ⟨rfl, hb1⟩; rw [HN.out]; obtain ⟨hcell, _⟩ := hb1.cells)
        | (go_at_call 26; refine (between_any _ _ _ _).mono ?_; rintro e w' ⟨rfl, rfl⟩))
    all_goals
      go_ret2
      exact ⟨ret2 (by rw [HM.out.1]; first | rw [Int.max_eq_right (by omega)] | rw [Int.max_eq_left (by omega)]) HM.out.2.symm, ((Ext.refl _).alloc _).trans hb1⟩

def runV (m po wk rv pe mx gr d : Int) : Int := if pok m po wk rv pe mx gr && rng d 0 1000 then min (pe * d) mx else 0
def runE (m po wk rv pe mx gr d : Int) : Int := if pok m po wk rv pe mx gr && rng d 0 1000 then 0 else 2

set_option maxHeartbeats 1000000 in
theorem runs_any (m po wk rv pe mx gr d : Int) (w : World) :
    Calls Try.prog 18 #[.agg #[.int .i64 m, .int .i64 po, .int .i64 wk, .int .i64 rv, .int .i64 pe, .int .i64 mx, .int .i64 gr], .int .i64 d] w fun e w' =>
      e = .returned (.tuple #[.int .i64 (runV m po wk rv pe mx gr d), .int .i64 (runE m po wk rv pe mx gr d)]) ∧ Ext w w' := by
  rcases and2 (pok m po wk rv pe mx gr) (rng d 0 1000) with h1 | ⟨h1, h2⟩ | ⟨h1, h2⟩
  · have HN := Lib.hid (chk_no h1)
    have HM : Hid (runV m po wk rv pe mx gr d = 0 ∧ runE m po wk rv pe mx gr d = 2) := by simp [Hid, runV, runE, h1]
    clear h1
    go_enter Try.func18, Try.ntmps18
    go_wp2_with (go_at_call 16; refine (check_any _ _ _ _ _ _ _ _).mono ?_; rintro e w1 ⟨rfl, hb1⟩; rw [HN.out])
    go_ret2
    exact ⟨ret2 HM.out.1.symm HM.out.2.symm, ((Ext.refl _).alloc _).trans hb1⟩
  · have HN := Lib.hid (chk_ok h1)
    have HM : Hid (runV m po wk rv pe mx gr d = 0 ∧ runE m po wk rv pe mx gr d = 2) := by simp [Hid, runV, runE, h2]
    have g := rng_no h2
    clear h1
    go_enter Try.func18, Try.ntmps18
    go_wp2_with (first
        | (go_at_call 16; refine (check_any _ _ _ _ _ _ _ _).mono ?_; rintro e w1 ⟨rfl, hb1⟩; rw [HN.out]; obtain ⟨hcell, _⟩ := hb1.cells))
    all_goals
      go_ret2
      exact ⟨ret2 (by first | exact HM.out.1.symm | (exfalso; omega)) (by first | exact HM.out.2.symm | (exfalso; omega)), ((Ext.refl _).alloc _).trans hb1⟩
  · have HN := Lib.hid (chk_ok h1)
    have HM : Hid (runV m po wk rv pe mx gr d = min (pe * d) mx ∧ runE m po wk rv pe mx gr d = 0) := by simp [Hid, runV, runE, h1, h2]
    obtain ⟨g1, g2⟩ := rng_yes h2
    obtain ⟨_, _, _, _, _, _, _, _, g3, g4, g5, g6, _, _⟩ := pok_bd h1
    have g7 : d < 1001 := by omega
    have hc : d * pe = pe * d := Int.mul_comm _ _
    have k := mul_bd g3 g4 g1 g2
    obtain ⟨k0, k1⟩ := k
    have k2 : 0 ≤ d * pe := by omega
    have k3 : d * pe ≤ 10 * 1000 := by omega
    have HC := Lib.hid hc
    clear h1 hc
    go_enter Try.func18, Try.ntmps18
    go_wp2_with (first
        | (go_at_call 16; refine (check_any _ _ _ _ _ _ _ _).mono ?_; rintro e w1 ⟨rfl, hb1⟩; rw [HN.out]; obtain ⟨hcell, _⟩ := hb1.cells))
    all_goals
      have hc := HC.out
      go_ret2
      exact ⟨ret2 (by rw [HM.out.1]; first | (rw [Int.min_eq_right (by omega)]; done) | (rw [Int.min_eq_left (by omega)]; done) | (rw [Int.min_eq_left (by omega)]; exact hc)) HM.out.2.symm, ((Ext.refl _).alloc _).trans hb1⟩

set_option maxHeartbeats 1000000 in
theorem rruns_any (m po wk rv pe mx gr d : Int) (w : World) :
    Calls Try.prog 19 #[.agg #[.int .i64 m, .int .i64 po, .int .i64 wk, .int .i64 rv, .int .i64 pe, .int .i64 mx, .int .i64 gr], .int .i64 d] w fun e w' =>
      e = .returned (.tuple #[.int .i64 (runV m po wk rv pe mx gr d), .int .i64 (runE m po wk rv pe mx gr d)]) ∧ Ext w w' := by
  rcases and2 (pok m po wk rv pe mx gr) (rng d 0 1000) with h1 | ⟨h1, h2⟩ | ⟨h1, h2⟩
  · have HN := Lib.hid (chk_no h1)
    have HM : Hid (runV m po wk rv pe mx gr d = 0 ∧ runE m po wk rv pe mx gr d = 2) := by simp [Hid, runV, runE, h1]
    clear h1
    go_enter Try.func19, Try.ntmps19
    go_wp2_with (go_at_call 17; refine (rcheck_any _ _ _ _ _ _ _ _).mono ?_; rintro e w1 ⟨rfl, hb1⟩; rw [HN.out])
    go_ret2
    exact ⟨ret2 HM.out.1.symm HM.out.2.symm, ((Ext.refl _).alloc _).trans hb1⟩
  · have HN := Lib.hid (chk_ok h1)
    have HM : Hid (runV m po wk rv pe mx gr d = 0 ∧ runE m po wk rv pe mx gr d = 2) := by simp [Hid, runV, runE, h2]
    have g := rng_no h2
    clear h1
    go_enter Try.func19, Try.ntmps19
    go_wp2_with (first
        | (go_at_call 17; refine (rcheck_any _ _ _ _ _ _ _ _).mono ?_; rintro e w1 ⟨rfl, hb1⟩; rw [HN.out]; obtain ⟨hcell, _⟩ := hb1.cells)
        | (go_at_call 26; refine (between_any _ _ _ _).mono ?_; rintro e w' ⟨rfl, rfl⟩))
    all_goals
      go_ret2
      exact ⟨ret2 (by first | exact HM.out.1.symm | (exfalso; omega)) (by first | exact HM.out.2.symm | (exfalso; omega)), ((Ext.refl _).alloc _).trans hb1⟩
  · have HN := Lib.hid (chk_ok h1)
    have HM : Hid (runV m po wk rv pe mx gr d = min (pe * d) mx ∧ runE m po wk rv pe mx gr d = 0) := by simp [Hid, runV, runE, h1, h2]
    obtain ⟨g1, g2⟩ := rng_yes h2
    obtain ⟨_, _, _, _, _, _, _, _, g3, g4, g5, g6, _, _⟩ := pok_bd h1
    have g7 : d < 1001 := by omega
    have hc : d * pe = pe * d := Int.mul_comm _ _
    have k := mul_bd g3 g4 g1 g2
    obtain ⟨k0, k1⟩ := k
    have k2 : 0 ≤ d * pe := by omega
    have k3 : d * pe ≤ 10 * 1000 := by omega
    have HC := Lib.hid hc
    clear h1 hc
    go_enter Try.func19, Try.ntmps19
    go_wp2_with (first
        | (go_at_call 17; refine (rcheck_any _ _ _ _ _ _ _ _).mono ?_; rintro e w1 ⟨rfl, hb1⟩; rw [HN.out]; obtain ⟨hcell, _⟩ := hb1.cells)
        | (go_at_call 26; refine (between_any _ _ _ _).mono ?_; rintro e w' ⟨rfl, rfl⟩))
    all_goals
      have hc := HC.out
      go_ret2
      exact ⟨ret2 (by rw [HM.out.1]; first | (rw [Int.min_eq_right (by omega)]; done) | (rw [Int.min_eq_left (by omega)]; done) | (rw [Int.min_eq_left (by omega)]; exact hc)) HM.out.2.symm, ((Ext.refl _).alloc _).trans hb1⟩

set_option maxHeartbeats 1000000 in
theorem of_any (m po wk rv pe mx gr : Int) (w : World) :
    Calls Try.prog 12 #[.agg #[.int .i64 m, .int .i64 po, .int .i64 wk, .int .i64 rv, .int .i64 pe, .int .i64 mx, .int .i64 gr]] w fun e w' => e = .returned (.agg #[.int .i64 m, .int .i64 po, .int .i64 wk, .int .i64 rv, .int .i64 pe, .int .i64 mx, .int .i64 gr]) ∧ Ext w w' := by
  go_enter Try.func12, Try.ntmps12
  go_wp2
  refine bodyPost_ret (v := .agg #[.int .i64 m, .int .i64 po, .int .i64 wk, .int .i64 rv, .int .i64 pe, .int .i64 mx, .int .i64 gr]) (by simp [results, Try.results12, go_sem]) rfl ⟨rfl, ?_⟩
  exact ((Ext.refl _).alloc _).alloc _

end Go.Proofs.Ytgokaonikdmnfaa

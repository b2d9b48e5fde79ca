/-
  The laws SlowCuts and SlowRates, walked.
-/
import Derived.Test.YtgokaonikdmnfaaSlowG
namespace Go.Proofs.Ytgokaonikdmnfaa
open Go.RowKit

set_option maxHeartbeats 2000000 in
theorem slowCuts_any (o n0 n1 n2 m : Int) (w : World) :
    Calls Try.prog 8 #[.int .i64 o, .agg #[.int .i64 n0, .int .i64 n1, .int .i64 n2], .int .i64 m] w fun e w' => e = .returned (.bool true) ∧ Ext w w' := by
  go_enter Try.func8, Try.ntmps8
  go_wp2_with (first | (go_at_call 10; refine (awake_any _).mono ?_; rintro e w1 ⟨rfl, hE⟩; obtain ⟨hcell, hfr⟩ := hE.cells) | (go_at_call 20; refine (cut_any _ _ _ _ _).mono ?_; rintro e w' ⟨rfl, hb⟩; (first | (replace hE := hE.trans hb) | (replace hE := hE.drew.trans hb)); clear hb hcell hfr; obtain ⟨hcell, hfr⟩ := hE.cells) | (go_at_call 21; refine (rcut_any _ _ _ _ _).mono ?_; rintro e w' ⟨rfl, hb⟩; (first | (replace hE := hE.trans hb) | (replace hE := hE.drew.trans hb)); clear hb hcell hfr; obtain ⟨hcell, hfr⟩ := hE.cells) | (go_at_call 22; refine (rate_any _ _ _).mono ?_; rintro e w4 ⟨rfl, hb⟩; replace hE := hE.trans hb; clear hb hcell hfr; obtain ⟨hcell, hfr⟩ := hE.cells; have l4 := hE.lt (n := w.heap.size) (by simp)) | (go_at_call 23; refine (rrate_any _ _ _).mono ?_; rintro e w5 ⟨rfl, hb⟩; obtain ⟨hcb, hfb⟩ := hb.cells; have lb := hb.lt (n := w4.heap.size) (by simp); replace hE := (hE.alloc _).trans hb; clear hcell hfr; obtain ⟨hcell, hfr⟩ := hE.cells))
  go_ret
  exact ⟨rfl, (((Ext.refl _).alloc _).trans hE).alloc _⟩

theorem rat_ok {o s : Int} (h : ratE o s = 0) : rng o 0 1000 = true ∧ rng s 1 100000 = true ∧ validB (ratA o s) (ratB o s) = true ∧ ratA o s * s = 3600 * o * ratB o s ∧
    -2147483648 ≤ ratA o s ∧ ratA o s ≤ 2147483648 ∧ 1 ≤ ratB o s ∧ ratB o s ≤ 2147483648 := by
  have hok : ratOk o s = true := by
    cases hk : ratOk o s
    · simp [ratE, hk] at h
    · rfl
  have hr : rng o 0 1000 = true ∧ rng s 1 100000 = true := by simpa [ratOk] using hok
  obtain ⟨o1, o2⟩ := rng_yes hr.1
  obtain ⟨s1, s2⟩ := rng_yes hr.2
  have s0 : (s == 0) = false := by simp; omega
  have hl : (3600 * o == least || s == least) = false := by simp [least]; omega
  obtain ⟨v1, v2, v3⟩ := mk_vals s0 hl
  have e1 : ratA o s = mkV1 (3600 * o) s := by simp [ratA, hok]
  have e2 : ratB o s = mkV2 (3600 * o) s := by simp [ratB, hok]
  have e3 : ratE o s = mkE (3600 * o) s := by simp [ratE, hok]
  have hk : decide (mkD (3600 * o) s ≤ 2147483648 ∧ -2147483648 ≤ mkN (3600 * o) s ∧ mkN (3600 * o) s ≤ 2147483648) = true := by
    cases hk : decide (mkD (3600 * o) s ≤ 2147483648 ∧ -2147483648 ≤ mkN (3600 * o) s ∧ mkN (3600 * o) s ≤ 2147483648)
    · rw [e3, v3, hk] at h; simp at h
    · rfl
  have hv := valid_mk (n := 3600 * o) (d := s) (by omega) (by omega) (by omega)
  have m1 := mkN_mul (3600 * o) s
  have m2 := mkD_mul (3600 * o) s
  have m3 := mkD_pos (n := 3600 * o) (d := s) (by omega)
  rw [hk, if_pos rfl] at v1 v2
  rw [hk] at hv
  rw [if_neg (by omega)] at m1
  rw [show (s.natAbs : Int) = s by omega] at m2
  rw [e1, e2, v1, v2]
  simp only [decide_eq_true_eq] at hk
  refine ⟨hr.1, hr.2, hv, ?_, hk.2.1, hk.2.2, m3, hk.1⟩
  have : mkN (3600 * o) s * s = mkN (3600 * o) s * (mkD (3600 * o) s * (gN (3600 * o) s : Int)) := by rw [m2]
  rw [this, Int.mul_comm (mkD (3600 * o) s), ← Int.mul_assoc, m1]
theorem rat_no {o s : Int} (h : ratE o s ≠ 0) : ratA o s = 0 ∧ ratB o s = 0 := by
  by_cases hok : ratOk o s = true
  · have e3 : ratE o s = mkE (3600 * o) s := by simp [ratE, hok]
    have hm : mkOk (3600 * o) s = false := by
      cases hk : mkOk (3600 * o) s
      · rfl
      · have : s ≠ 0 := by rintro rfl; simp [mkOk] at hk
        rw [e3] at h; simp [mkE, hk, this] at h
    simp [ratA, ratB, hok, mkV1, mkV2, hm]
  · simp [ratA, ratB, hok]

set_option maxHeartbeats 2000000 in
theorem slowRates_any (o s : Int) (w : World) :
    Calls Try.prog 9 #[.int .i64 o, .int .i64 s] w fun e w' => e = .returned (.bool true) ∧ Ext w w' := by
  by_cases h : ratE o s = 0
  · obtain ⟨h1, h2, h3, h4, h5, h6, h7, h8⟩ := rat_ok h
    obtain ⟨o1, o2⟩ := rng_yes h1
    obtain ⟨s1, s2⟩ := rng_yes h2
    have HV := Lib.hid h3
    have HQ := Lib.hid h4
    have HE := Lib.hid h
    have k1 : ratA o s * s ≤ 2147483648 * 100000 := by
      have := Int.mul_le_mul_of_nonneg_right h6 (show 0 ≤ s by omega)
      have := Int.mul_le_mul_of_nonneg_left s2 (show (0 : Int) ≤ 2147483648 by omega)
      omega
    have k2 : -(2147483648 * 100000) ≤ ratA o s * s := by
      have := Int.mul_le_mul_of_nonneg_right h5 (show 0 ≤ s by omega)
      have := Int.mul_le_mul_of_nonneg_left s2 (show (0 : Int) ≤ 2147483648 by omega)
      omega
    have k3 : 3600 * o * ratB o s ≤ 2147483648 * 100000 := by omega
    have k4 : -(2147483648 * 100000) ≤ 3600 * o * ratB o s := by omega
    clear h h1 h2 h3 h4
    go_enter Try.func9, Try.ntmps9
    go_wp2_with (first | (go_at_call 10; refine (awake_any _).mono ?_; rintro e w1 ⟨rfl, hb1⟩) | (go_at_call 22; refine (rate_any _ _ _).mono ?_; rintro e w2 ⟨rfl, hb2⟩; rw [HE.out]) | (go_at_call 24; refine (valid_any _ _ _).mono ?_; rintro e w3 ⟨rfl, hb3⟩; rw [HV.out]; obtain ⟨hcell, hfr⟩ := hb3.cells; have lb := hb3.lt (n := w2.heap.size) (by simp)))
    go_ret
    exact ⟨retb (by rw [HQ.out]; simp), ((hb1.trans hb2).alloc _).trans hb3⟩
  · obtain ⟨e1, e2⟩ := rat_no h
    have HZ := Lib.hid (And.intro e1 e2)
    have hne : (ratE o s != 0) = true := by simpa using h
    clear h e1 e2
    generalize hK : ratE o s = K at *
    replace hK := Lib.hid hK
    go_enter Try.func9, Try.ntmps9
    go_wp2_with (first | (go_at_call 10; refine (awake_any _).mono ?_; rintro e w1 ⟨rfl, hb1⟩) | (go_at_call 22; refine (rate_any _ _ _).mono ?_; rintro e w2 ⟨rfl, hb2⟩; rw [HZ.out.1, HZ.out.2, hK.out]))
    go_ret
    exact ⟨rfl, (hb1.trans hb2).alloc _⟩

end Go.Proofs.Ytgokaonikdmnfaa

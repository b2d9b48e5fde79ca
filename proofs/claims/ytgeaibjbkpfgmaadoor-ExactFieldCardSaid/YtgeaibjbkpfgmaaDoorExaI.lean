/-
  Plain facts of the field of ratios; the laws ExactRounds and ExactField, walked.
-/
import Derived.Test.YtgeaibjbkpfgmaaDoorExaG
namespace Go.Proofs.YtgeaibjbkpfgmaaDoor
open Go.RowKit
set_option linter.unusedSimpArgs false

theorem field_add {a b c d : Int} (hv : validB a b = true) (hw : validB c d = true) (hE : mkE (a * d + c * b) (b * d) = 0) :
    ∃ S T : Int, mkV1 (a * d + c * b) (b * d) = S ∧ mkV2 (a * d + c * b) (b * d) = T ∧ validB S T = true ∧ mkV1 (S * d - c * T) (T * d) = a ∧ mkV2 (S * d - c * T) (T * d) = b ∧ mkE (S * d - c * T) (T * d) = 0 ∧
      sgn (S * b) (a * T) = sgn (c * 1) (0 * d) := by
  obtain ⟨u1, u2, u3, u4, u5, u6, u7⟩ := cross_bd hv hw
  obtain ⟨g, hg, e1, e2, hS⟩ := mk_parts2 (n := a * d + c * b) (d := b * d) (by omega) u6.1 u6.2 (by omega) (by omega) hE
  refine ⟨_, _, rfl, rfl, hS, ?_⟩
  generalize mkV1 (a * d + c * b) (b * d) = S at *
  generalize mkV2 (a * d + c * b) (b * d) = T at *
  rw [if_neg (by omega)] at e1
  rw [show ((b * d).natAbs : Int) = b * d by omega] at e2
  obtain ⟨v1, v2, v3, v4, v5, v6, v7⟩ := cross_bd hS hw
  obtain ⟨p1, p2, p3, p4, p5⟩ := valid_parts hv
  have hc : (S * d - c * T) * b = a * (T * d) := by
    apply Int.eq_of_mul_eq_mul_right (show g ≠ 0 by omega)
    grind
  obtain ⟨m1, m2, m3⟩ := mk_of_cross hv (show T * d ≠ 0 by omega) v7.1 v7.2 (by omega) (by omega) hc
  refine ⟨m1, m2, m3, ?_⟩
  have ht : (S * b - a * T) * g = c * (b * b) := by grind
  have hb : 0 < b * b := Int.mul_pos (by omega) (by omega)
  unfold sgn
  rcases Int.lt_trichotomy c 0 with h | h | h
  · have h1 : c * (b * b) < 0 := Int.mul_neg_of_neg_of_pos h hb
    have h2 : S * b - a * T < 0 := by
      rcases Int.lt_or_le (S * b - a * T) 0 with h3 | h3
      · exact h3
      · have := Int.mul_nonneg h3 (show 0 ≤ g by omega); omega
    rw [if_pos (by omega), if_pos (by omega)]
  · subst h
    have h2 : S * b - a * T = 0 := by
      rw [Int.zero_mul] at ht
      rcases Int.mul_eq_zero.1 ht with h | h
      · exact h
      · omega
    rw [if_neg (by omega), if_neg (by omega), if_neg (by omega), if_neg (by omega)]
  · have h1 : 0 < c * (b * b) := Int.mul_pos h hb
    have h2 : 0 < S * b - a * T := by
      rcases Int.lt_or_le 0 (S * b - a * T) with h3 | h3
      · exact h3
      · have := Int.mul_nonpos_of_nonpos_of_nonneg h3 (show 0 ≤ g by omega); omega
    rw [if_neg (by omega), if_pos (by omega), if_neg (by omega), if_pos (by omega)]
theorem field_mul {a b c d : Int} (hv : validB a b = true) (hw : validB c d = true) (hc0 : c ≠ 0) (hE : mkE (a * c) (b * d) = 0) :
    ∃ S T : Int, mkV1 (a * c) (b * d) = S ∧ mkV2 (a * c) (b * d) = T ∧ validB S T = true ∧ mkV1 (S * d) (T * c) = a ∧ mkV2 (S * d) (T * c) = b ∧ mkE (S * d) (T * c) = 0 := by
  obtain ⟨u1, u2, u3, u4, u5, u6, u7⟩ := cross_bd hv hw
  obtain ⟨g, hg, e1, e2, hS⟩ := mk_parts2 (n := a * c) (d := b * d) (by omega) (by omega) (by omega) (by omega) (by omega) hE
  refine ⟨_, _, rfl, rfl, hS, ?_⟩
  generalize mkV1 (a * c) (b * d) = S at *
  generalize mkV2 (a * c) (b * d) = T at *
  rw [if_neg (by omega)] at e1
  rw [show ((b * d).natAbs : Int) = b * d by omega] at e2
  obtain ⟨v1, v2, v3, v4, v5, v6, v7⟩ := cross_bd hS hw
  obtain ⟨p1, -⟩ := valid_parts hS
  have hy : T * c ≠ 0 := by
    intro h
    rcases Int.mul_eq_zero.1 h with h | h <;> omega
  have hc : (S * d) * b = a * (T * c) := by
    apply Int.eq_of_mul_eq_mul_right (show g ≠ 0 by omega)
    grind
  exact mk_of_cross hv hy (by omega) (by omega) (by omega) (by omega) hc
theorem zero_den {d : Int} (h : validB 0 d = true) : d = 1 := by
  obtain ⟨h1, h2, h3, h4, h5⟩ := valid_parts h
  simp at h5; omega
theorem cmp_anti (a b c d : Int) : cmpV a b c d = -(cmpV c d a b) ∧ -1 ≤ cmpV c d a b ∧ cmpV c d a b ≤ 1 := by
  have e : vv c d a b = vv a b c d := by simp [vv, Bool.and_comm]
  unfold cmpV
  rw [e]
  cases vv a b c d
  · simp
  · simp only [if_true, sgn]
    split <;> split <;> (try split) <;> omega
theorem mkE_two {n d : Int} (h : d ≠ 0) : mkE n d = 0 ∨ mkE n d = 2 := by
  have : (d == 0) = false := by simpa using h
  simp only [mkE, this]
  cases mkOk n d <;> simp
theorem round_facts {a b : Int} (hv : validB a b = true) : ∃ L M K : Int, floV a b = L ∧ floV (2 * a + b) (2 * b) = M ∧ ceiV a b = K ∧ dvE a b = 0 ∧ dvE (2 * a + b) (2 * b) = 0 ∧
    L ≤ M ∧ M ≤ K ∧ K - L ≤ 1 ∧ 2 * a < (2 * M + 1) * b ∧ (2 * M - 1) * b ≤ 2 * a ∧ -5000000000 ≤ L ∧ L ≤ 5000000000 ∧ -5000000000 ≤ M ∧ M ≤ 5000000000 ∧ -5000000000 ≤ K ∧ K ≤ 5000000000 ∧
      (2 * M + 1) * b ≤ 20000000000 ∧ -20000000000 ≤ (2 * M - 1) * b := by
  obtain ⟨p1, p2, p3, p4, p5⟩ := valid_parts hv
  have z1 : (b == 0) = false := by simp; omega
  have z2 : (2 * b == 0) = false := by simp; omega
  have l1 : (a == least && b == -1) = false := by simp [least]; omega
  have l2 : (2 * a + b == least && 2 * b == -1) = false := by simp [least]; omega
  obtain ⟨d1, f1, c1⟩ := dvE_ok z1 l1
  obtain ⟨d2, f2, _⟩ := dvE_ok z2 l2
  refine ⟨_, _, _, f1, f2, c1, d1, d2, ?_⟩
  rw [Int.fdiv_eq_ediv_of_nonneg _ (show (0:Int) ≤ b by omega), Int.fdiv_eq_ediv_of_nonneg _ (show (0:Int) ≤ 2 * b by omega), Int.fdiv_eq_ediv_of_nonneg _ (show (0:Int) ≤ b by omega)]
  have q1 := Int.emod_add_mul_ediv a b
  have q2 := Int.emod_nonneg a (show b ≠ 0 by omega)
  have q3 := Int.emod_lt_of_pos a (show 0 < b by omega)
  have r1 := Int.emod_add_mul_ediv (-a) b
  have r2 := Int.emod_nonneg (-a) (show b ≠ 0 by omega)
  have r3 := Int.emod_lt_of_pos (-a) (show 0 < b by omega)
  have s1 := Int.emod_add_mul_ediv (2 * a + b) (2 * b)
  have s2 := Int.emod_nonneg (2 * a + b) (show 2 * b ≠ 0 by omega)
  have s3 := Int.emod_lt_of_pos (2 * a + b) (show 0 < 2 * b by omega)
  generalize a % b = ra at *
  generalize (-a) % b = rn at *
  generalize (2 * a + b) % (2 * b) = rs at *
  generalize a / b = L at *
  generalize (-a) / b = N at *
  generalize (2 * a + b) / (2 * b) = M at *
  have e1 : (2 * M + 1) * b = 2 * b * M + b := by grind
  have e2 : (2 * M - 1) * b = 2 * b * M - b := by grind
  have e3 : 2 * b * M = 2 * (b * M) := by grind
  rw [e3] at s1 e1 e2
  -- an integer k with b * k below b * m + b is at most m
  have le_of : ∀ x y : Int, b * x < b * y + b → x ≤ y := fun x y h => by
    rcases Int.lt_or_le y x with h1 | h1
    · have := Int.mul_le_mul_of_nonneg_left (show y + 1 ≤ x by omega) (show 0 ≤ b by omega)
      rw [Int.mul_add, Int.mul_one] at this; omega
    · exact h1
  have n1 : b * (-N) = -(b * N) := Int.mul_neg _ _
  have n2 : b * (-N - 1) = -(b * N) - b := by rw [Int.mul_sub, n1, Int.mul_one]
  have k1 := le_of L M (by omega)
  have k2 := le_of M (-N) (by omega)
  have k3 := le_of (-N - 1) L (by omega)
  have lo : ∀ x : Int, -5000000000 ≤ b * x → b * x ≤ 5000000000 → -5000000000 ≤ x ∧ x ≤ 5000000000 := fun x h1 h2 => by
    rcases Int.lt_or_le x 0 with h | h
    · have := Int.mul_le_mul_of_nonneg_right (show 1 ≤ b from p1) (show 0 ≤ -x by omega)
      have e : b * -x = -(b * x) := Int.mul_neg _ _
      omega
    · have := Int.mul_le_mul_of_nonneg_right (show 1 ≤ b from p1) h
      omega
  have j1 := lo L (by omega) (by omega)
  have j2 := lo (-N) (by omega) (by omega)
  omega

set_option maxHeartbeats 8000000 in
theorem exactRounds_any (a b : Int) (w : World) (hT : TX w) : Calls Tryd.prog 8 #[.agg #[.int .i64 a, .int .i64 b]] w fun e w' => e = .returned (.bool true) ∧ Ext w w' := by
  have HT := Lib.hid hT
  clear hT
  rcases and1 (validB a b) with h1 | h1
  · have X1 : Hid (flV (validB a b) a b = 0 ∧ roE (validB a b) a b = 1) := by simp [Hid, flV, roE, h1]
    have X2 : Hid (flV (validB a b) (2 * a + b) (2 * b) = 0 ∧ roE (validB a b) (2 * a + b) (2 * b) = 1) := by simp [Hid, flV, roE, h1]
    have X3 : Hid (ceV (validB a b) a b = 0 ∧ roE (validB a b) a b = 1) := by simp [Hid, ceV, roE, h1]
    clear h1
    go_enter Tryd.func8, Tryd.ntmps8
    go_wp2_with (first | ((fail_if_success (have hzz := hb1)); go_at_call 12; refine (awake_any _ (HT.out.ext (by repeat (first | exact Ext.refl _ | refine Ext.alloc ?_ _)))).mono ?_; rintro e w1 ⟨rfl, hb1⟩; obtain ⟨hc1, hf1⟩ := hb1.cells; (try (have l1_0 : w.heap.size < w1.heap.size := hb1.lt (by first | (simp; done) | (simp; omega) | (simp [go_sem]; done) | (simp [go_sem]; omega) | omega))); (try (have m1_0 : w.heap.size ≤ w1.heap.size := Nat.le_of_lt l1_0))) | ((fail_if_success (have hzz := hb2)); go_at_call 35; refine (floor_of _ _  _).mono ?_; rintro e w2 ⟨rfl, hb2⟩; obtain ⟨hc2, hf2⟩ := hb2.cells; (try (have l2_0 : w.heap.size < w2.heap.size := hb2.lt (by first | (simp; done) | (simp; omega) | (simp [go_sem]; done) | (simp [go_sem]; omega) | omega))); (try (have m2_0 : w.heap.size ≤ w2.heap.size := Nat.le_of_lt l2_0)); rw [X1.out.1, X1.out.2]) | ((fail_if_success (have hzz := hb3)); go_at_call 36; refine (round_of _ _  _).mono ?_; rintro e w3 ⟨rfl, hb3⟩; obtain ⟨hc3, hf3⟩ := hb3.cells; (try (have l3_0 : w.heap.size < w3.heap.size := hb3.lt (by first | (simp; done) | (simp; omega) | (simp [go_sem]; done) | (simp [go_sem]; omega) | omega))); (try (have m3_0 : w.heap.size ≤ w3.heap.size := Nat.le_of_lt l3_0)); rw [X2.out.1, X2.out.2]) | ((fail_if_success (have hzz := hb4)); go_at_call 37; refine (ceil_of _ _  _).mono ?_; rintro e w4 ⟨rfl, hb4⟩; obtain ⟨hc4, hf4⟩ := hb4.cells; (try (have l4_0 : w.heap.size < w4.heap.size := hb4.lt (by first | (simp; done) | (simp; omega) | (simp [go_sem]; done) | (simp [go_sem]; omega) | omega))); (try (have m4_0 : w.heap.size ≤ w4.heap.size := Nat.le_of_lt l4_0)); rw [X3.out.1, X3.out.2]) | ((fail_if_success (have hzz := hb5)); go_at_call 38; refine (rfloor_of _ _  _).mono ?_; rintro e w5 ⟨rfl, hb5⟩; obtain ⟨hc5, hf5⟩ := hb5.cells; (try (have l5_0 : w.heap.size < w5.heap.size := hb5.lt (by first | (simp; done) | (simp; omega) | (simp [go_sem]; done) | (simp [go_sem]; omega) | omega))); (try (have m5_0 : w.heap.size ≤ w5.heap.size := Nat.le_of_lt l5_0)); rw [X1.out.1, X1.out.2]) | ((fail_if_success (have hzz := hb6)); go_at_call 39; refine (rround_of _ _  _).mono ?_; rintro e w6 ⟨rfl, hb6⟩; obtain ⟨hc6, hf6⟩ := hb6.cells; (try (have l6_0 : w.heap.size < w6.heap.size := hb6.lt (by first | (simp; done) | (simp; omega) | (simp [go_sem]; done) | (simp [go_sem]; omega) | omega))); (try (have m6_0 : w.heap.size ≤ w6.heap.size := Nat.le_of_lt l6_0)); rw [X2.out.1, X2.out.2]) | ((fail_if_success (have hzz := hb7)); go_at_call 40; refine (rceil_of _ _  _).mono ?_; rintro e w7 ⟨rfl, hb7⟩; obtain ⟨hc7, hf7⟩ := hb7.cells; (try (have l7_0 : w.heap.size < w7.heap.size := hb7.lt (by first | (simp; done) | (simp; omega) | (simp [go_sem]; done) | (simp [go_sem]; omega) | omega))); (try (have m7_0 : w.heap.size ≤ w7.heap.size := Nat.le_of_lt l7_0)); rw [X3.out.1, X3.out.2]))
    go_ret
    exact ⟨rfl, (by repeat (first | exact Ext.refl _ | refine Ext.setCell ?_ (by first | exact Nat.le_refl _ | (simp; done) | (simp; omega)) _ | refine Ext.drew ?_ | refine Ext.drewN ?_ _ | refine Ext.alloc ?_ _ | refine Ext.trans ?_ hb7 | refine Ext.trans ?_ hb6 | refine Ext.trans ?_ hb5 | refine Ext.trans ?_ hb4 | refine Ext.trans ?_ hb3 | refine Ext.trans ?_ hb2 | refine Ext.trans ?_ hb1))⟩
  · obtain ⟨L, M, K, f1, f2, f3, f4, f5, g1, g2, g3, g4, g5, g6, g7, g8, g9, g10, g11, g12, g13⟩ := round_facts h1
    obtain ⟨p1, p2, p3, p4, -⟩ := valid_parts h1
    have X1 : Hid (flV (validB a b) a b = L ∧ roE (validB a b) a b = 0) := by simp [Hid, flV, roE, h1, f1, f4]
    have X2 : Hid (flV (validB a b) (2 * a + b) (2 * b) = M ∧ roE (validB a b) (2 * a + b) (2 * b) = 0) := by simp [Hid, flV, roE, h1, f2, f5]
    have X3 : Hid (ceV (validB a b) a b = K ∧ roE (validB a b) a b = 0) := by simp [Hid, ceV, roE, h1, f3, f4]
    clear h1 f1 f2 f3 f4 f5
    go_enter Tryd.func8, Tryd.ntmps8
    go_wp2_with (first | ((fail_if_success (have hzz := hb1)); go_at_call 12; refine (awake_any _ (HT.out.ext (by repeat (first | exact Ext.refl _ | refine Ext.alloc ?_ _)))).mono ?_; rintro e w1 ⟨rfl, hb1⟩; obtain ⟨hc1, hf1⟩ := hb1.cells; (try (have l1_0 : w.heap.size < w1.heap.size := hb1.lt (by first | (simp; done) | (simp; omega) | (simp [go_sem]; done) | (simp [go_sem]; omega) | omega))); (try (have m1_0 : w.heap.size ≤ w1.heap.size := Nat.le_of_lt l1_0))) | ((fail_if_success (have hzz := hb2)); go_at_call 35; refine (floor_of _ _  _).mono ?_; rintro e w2 ⟨rfl, hb2⟩; obtain ⟨hc2, hf2⟩ := hb2.cells; (try (have l2_0 : w.heap.size < w2.heap.size := hb2.lt (by first | (simp; done) | (simp; omega) | (simp [go_sem]; done) | (simp [go_sem]; omega) | omega))); (try (have m2_0 : w.heap.size ≤ w2.heap.size := Nat.le_of_lt l2_0)); rw [X1.out.1, X1.out.2]) | ((fail_if_success (have hzz := hb3)); go_at_call 36; refine (round_of _ _  _).mono ?_; rintro e w3 ⟨rfl, hb3⟩; obtain ⟨hc3, hf3⟩ := hb3.cells; (try (have l3_0 : w.heap.size < w3.heap.size := hb3.lt (by first | (simp; done) | (simp; omega) | (simp [go_sem]; done) | (simp [go_sem]; omega) | omega))); (try (have m3_0 : w.heap.size ≤ w3.heap.size := Nat.le_of_lt l3_0)); rw [X2.out.1, X2.out.2]) | ((fail_if_success (have hzz := hb4)); go_at_call 37; refine (ceil_of _ _  _).mono ?_; rintro e w4 ⟨rfl, hb4⟩; obtain ⟨hc4, hf4⟩ := hb4.cells; (try (have l4_0 : w.heap.size < w4.heap.size := hb4.lt (by first | (simp; done) | (simp; omega) | (simp [go_sem]; done) | (simp [go_sem]; omega) | omega))); (try (have m4_0 : w.heap.size ≤ w4.heap.size := Nat.le_of_lt l4_0)); rw [X3.out.1, X3.out.2]) | ((fail_if_success (have hzz := hb5)); go_at_call 38; refine (rfloor_of _ _  _).mono ?_; rintro e w5 ⟨rfl, hb5⟩; obtain ⟨hc5, hf5⟩ := hb5.cells; (try (have l5_0 : w.heap.size < w5.heap.size := hb5.lt (by first | (simp; done) | (simp; omega) | (simp [go_sem]; done) | (simp [go_sem]; omega) | omega))); (try (have m5_0 : w.heap.size ≤ w5.heap.size := Nat.le_of_lt l5_0)); rw [X1.out.1, X1.out.2]) | ((fail_if_success (have hzz := hb6)); go_at_call 39; refine (rround_of _ _  _).mono ?_; rintro e w6 ⟨rfl, hb6⟩; obtain ⟨hc6, hf6⟩ := hb6.cells; (try (have l6_0 : w.heap.size < w6.heap.size := hb6.lt (by first | (simp; done) | (simp; omega) | (simp [go_sem]; done) | (simp [go_sem]; omega) | omega))); (try (have m6_0 : w.heap.size ≤ w6.heap.size := Nat.le_of_lt l6_0)); rw [X2.out.1, X2.out.2]) | ((fail_if_success (have hzz := hb7)); go_at_call 40; refine (rceil_of _ _  _).mono ?_; rintro e w7 ⟨rfl, hb7⟩; obtain ⟨hc7, hf7⟩ := hb7.cells; (try (have l7_0 : w.heap.size < w7.heap.size := hb7.lt (by first | (simp; done) | (simp; omega) | (simp [go_sem]; done) | (simp [go_sem]; omega) | omega))); (try (have m7_0 : w.heap.size ≤ w7.heap.size := Nat.le_of_lt l7_0)); rw [X3.out.1, X3.out.2]))
    go_ret
    exact ⟨retb (by first | rfl | (simp; done) | (simp; omega)), (by repeat (first | exact Ext.refl _ | refine Ext.setCell ?_ (by first | exact Nat.le_refl _ | (simp; done) | (simp; omega)) _ | refine Ext.drew ?_ | refine Ext.drewN ?_ _ | refine Ext.alloc ?_ _ | refine Ext.trans ?_ hb7 | refine Ext.trans ?_ hb6 | refine Ext.trans ?_ hb5 | refine Ext.trans ?_ hb4 | refine Ext.trans ?_ hb3 | refine Ext.trans ?_ hb2 | refine Ext.trans ?_ hb1))⟩

end Go.Proofs.YtgeaibjbkpfgmaaDoor

/-
  The examples of layer 29's law, and the law IntervalTight, walked.
-/
import Derived.Test.YthckbfkhbegmgaaDoorIntE
namespace Go.Proofs.YthckbfkhbegmgaaDoor
open Go.RowKit
set_option linter.unusedSimpArgs false

set_option maxHeartbeats 1000000 in
theorem awake_any (w : World) : Calls Tryd.prog 5 #[] w fun e w' => e = .returned (.bool true) ∧ Ext w w' := by
  have A1 : Hid (arLo 10 3 = 7 ∧ arHi 10 3 = 13 ∧ arEr 10 3 = 0) := by unfold Hid; decide
  have A2 : Hid (sbLo 7 13 1 2 = 5 ∧ sbHi 7 13 1 2 = 12 ∧ sbEr 7 13 1 2 = 0) := by unfold Hid; decide
  have A3 : Hid (ovLo 7 7 (-2) = -4 ∧ ovHi 7 7 (-2) = -3 ∧ ovEr 7 7 (-2) = 0) := by unfold Hid; decide
  go_enter Tryd.func5, Tryd.ntmps5
  go_wp2_with (first | ((fail_if_success (have hzz := hb1)); go_at_call 10; refine (around_any _ _ (by decide) (by decide) (by decide) (by decide) _).mono ?_; rintro e w1 ⟨rfl, hb1⟩; obtain ⟨hc1, hf1⟩ := hb1.cells; rw [A1.out.1, A1.out.2.1, A1.out.2.2]) | ((fail_if_success (have hzz := hb2)); go_at_call 11; refine (isub_any _ _ _ _  _).mono ?_; rintro e w2 ⟨rfl, hb2⟩; obtain ⟨hc2, hf2⟩ := hb2.cells; (try (have l2_0 : w1.heap.size < w2.heap.size := hb2.lt (by first | (simp; done) | (simp; omega) | (simp [go_sem]; done) | (simp [go_sem]; omega) | omega))); (try (have m2_0 : w1.heap.size ≤ w2.heap.size := Nat.le_of_lt l2_0)); rw [A2.out.1, A2.out.2.1, A2.out.2.2]) | ((fail_if_success (have hzz := hb3)); go_at_call 12; refine (over_any _ _ _ (by decide) (by decide) (by decide) (by decide) (by decide) (by decide) _).mono ?_; rintro e w3 ⟨rfl, hb3⟩; obtain ⟨hc3, hf3⟩ := hb3.cells; (try (have l3_0 : w1.heap.size < w3.heap.size := hb3.lt (by first | (simp; done) | (simp; omega) | (simp [go_sem]; done) | (simp [go_sem]; omega) | omega))); (try (have m3_0 : w1.heap.size ≤ w3.heap.size := Nat.le_of_lt l3_0)); (try (have l3_1 : w2.heap.size < w3.heap.size := hb3.lt (by first | (simp; done) | (simp; omega) | (simp [go_sem]; done) | (simp [go_sem]; omega) | omega))); (try (have m3_1 : w2.heap.size ≤ w3.heap.size := Nat.le_of_lt l3_1)); rw [A3.out.1, A3.out.2.1, A3.out.2.2]))
  go_ret
  exact ⟨rfl, (by repeat (first | exact Ext.refl _ | refine Ext.setCell ?_ (by first | exact Nat.le_refl _ | (simp; done) | (simp; omega)) _ | refine Ext.drew ?_ | refine Ext.drewN ?_ _ | refine Ext.alloc ?_ _ | refine Ext.trans ?_ hb3 | refine Ext.trans ?_ hb2 | refine Ext.trans ?_ hb1))⟩

theorem ov_two (a b d : Int) : ovEr a b d = 1 ∨ (ovEr a b d = 0 ∧ vR a b = true ∧ (d == 0) = false) := by
  unfold ovEr
  cases h1 : vR a b <;> cases h2 : (d == 0) <;> simp
theorem ov_no {a b d : Int} (h : ovEr a b d = 1) : ovLo a b d = 0 ∧ ovHi a b d = 0 := by
  unfold ovEr at h
  unfold ovLo ovHi
  cases h1 : vR a b <;> cases h2 : (d == 0) <;> simp_all
theorem ov_pos {a b d : Int} (h1 : vR a b = true) (h : 1 ≤ d) : ovLo a b d = a / d ∧ ovHi a b d = -((-b) / d) := by
  have h2 : (d == 0) = false := by simp; omega
  have h3 : ¬ d < 0 := by omega
  have h4 : ∀ n : Int, (n == least && d == -1) = false := fun n => by simp; omega
  have e1 := (dvE_ok h2 (h4 a)).2.1
  have e2 := (dvE_ok h2 (h4 b)).2.2
  simp only [ovLo, ovHi, h1, h2, h3]
  refine ⟨?_, ?_⟩
  · simp [e1, Int.fdiv_eq_ediv_of_nonneg a (show (0:Int) ≤ d by omega)]
  · simp [e2, Int.fdiv_eq_ediv_of_nonneg (-b) (show (0:Int) ≤ d by omega)]
theorem tight_facts {a b d : Int} (h : 1 ≤ d) (hd : d ≤ 1048576) (ha : -1099511627776 ≤ a) (hab : a ≤ b) (hb : b ≤ 1099511627776) :
    ∃ L K : Int, a / d = L ∧ -((-b) / d) = K ∧ L * d ≤ a ∧ a < (L + 1) * d ∧ b ≤ K * d ∧ (K - 1) * d < b ∧ -1099513000000 ≤ L ∧ L ≤ 1099513000000 ∧ -1099513000000 ≤ K ∧ K ≤ 1099513000000 ∧
      -1099513000000 ≤ L * d ∧ (L + 1) * d ≤ 1099513000000 ∧ K * d ≤ 1099513000000 ∧ -1099513000000 ≤ (K - 1) * d := by
  have q1 := Int.emod_add_mul_ediv a d
  have q2 := Int.emod_nonneg a (show d ≠ 0 by omega)
  have q3 := Int.emod_lt_of_pos a (show 0 < d by omega)
  have r1 := Int.emod_add_mul_ediv (-b) d
  have r2 := Int.emod_nonneg (-b) (show d ≠ 0 by omega)
  have r3 := Int.emod_lt_of_pos (-b) (show 0 < d by omega)
  refine ⟨_, _, rfl, rfl, ?_⟩
  generalize a / d = L at *
  generalize (-b) / d = M at *
  have e1 : L * d = d * L := Int.mul_comm _ _
  have e2 : (L + 1) * d = d * L + d := by rw [Int.add_mul, Int.mul_comm]; omega
  have e3 : -M * d = -(d * M) := by rw [Int.neg_mul, Int.mul_comm]
  have e4 : (-M - 1) * d = -(d * M) - d := by rw [Int.sub_mul, e3]; omega
  have b1 : -1099513000000 ≤ L := by
    rcases Int.lt_or_le L (-1099513000000) with hl | hl
    · have := Int.mul_le_mul_of_nonneg_right (show 1 ≤ d from h) (show 0 ≤ -L by omega)
      have e5 : d * -L = -(d * L) := by rw [Int.mul_neg]
      omega
    · exact hl
  have b2 : L ≤ 1099513000000 := by
    rcases Int.lt_or_le 1099513000000 L with hl | hl
    · have := Int.mul_le_mul_of_nonneg_right (show 1 ≤ d from h) (show 0 ≤ L by omega)
      omega
    · exact hl
  have b3 : -1099513000000 ≤ M := by
    rcases Int.lt_or_le M (-1099513000000) with hl | hl
    · have := Int.mul_le_mul_of_nonneg_right (show 1 ≤ d from h) (show 0 ≤ -M by omega)
      have e5 : d * -M = -(d * M) := by rw [Int.mul_neg]
      omega
    · exact hl
  have b4 : M ≤ 1099513000000 := by
    rcases Int.lt_or_le 1099513000000 M with hl | hl
    · have := Int.mul_le_mul_of_nonneg_right (show 1 ≤ d from h) (show 0 ≤ M by omega)
      omega
    · exact hl
  rw [e1, e2, e3, e4]
  omega

theorem tight5 (d a b : Int) : d < 1 ∨ (1 ≤ d ∧ 1048576 < d) ∨ (1 ≤ d ∧ d ≤ 1048576 ∧ 1099511627776 < b) ∨ (1 ≤ d ∧ d ≤ 1048576 ∧ b ≤ 1099511627776 ∧ a < -1099511627776) ∨ (1 ≤ d ∧ d ≤ 1048576 ∧ b ≤ 1099511627776 ∧ -1099511627776 ≤ a) := by omega
end Go.Proofs.YthckbfkhbegmgaaDoor

/-
  Division of a number of 128 bits by ten, bit by bit, in parts of 32 bits (plain law).
-/
import Derived.Test.YthckbfkhbegmgaaDoorKit
namespace Go.Proofs.YthckbfkhbegmgaaDoor
/-- The part number j (32 bits) of a number. -/
def lb (V j : Nat) : Nat := V / 2 ^ (32 * j) % 2 ^ 32
theorem lb_lt (V j : Nat) : lb V j < 4294967296 := Nat.mod_lt _ (by decide)
theorem lb_test (V j b : Nat) : (lb V j).testBit b = (decide (b < 32) && V.testBit (32 * j + b)) := by
  unfold lb
  rw [Nat.testBit_mod_two_pow, Nat.testBit_div_two_pow, Nat.add_comm]
theorem lb_bit (P i : Nat) : lb P (i / 32) / 2 ^ (i % 32) % 2 = P / 2 ^ i % 2 := by
  have h := lb_test P (i / 32) (i % 32)
  have hi : 32 * (i / 32) + i % 32 = i := by omega
  have hm : i % 32 < 32 := by omega
  rw [hi] at h
  simp only [hm, decide_true, Bool.true_and] at h
  rw [Nat.testBit_eq_decide_div_mod_eq, Nat.testBit_eq_decide_div_mod_eq] at h
  have h1 : lb P (i / 32) / 2 ^ (i % 32) % 2 < 2 := Nat.mod_lt _ (by decide)
  have h2 : P / 2 ^ i % 2 < 2 := Nat.mod_lt _ (by decide)
  simp only [decide_eq_decide] at h
  omega
theorem lb_or (A B j : Nat) : lb (A ||| B) j = lb A j ||| lb B j := by
  apply Nat.eq_of_testBit_eq
  intro b
  rw [Nat.testBit_or, lb_test, lb_test, lb_test, Nat.testBit_or]
  cases decide (b < 32) <;> simp
theorem lb_pow (i j : Nat) : lb (2 ^ i) j = if j = i / 32 then 2 ^ (i % 32) else 0 := by
  apply Nat.eq_of_testBit_eq
  intro b
  rw [lb_test, Nat.testBit_two_pow]
  split
  · rename_i h
    subst h
    rw [Nat.testBit_two_pow]
    by_cases hb : b < 32
    · simp only [hb, decide_true, Bool.true_and]
      congr 1
      apply propext
      omega
    · simp only [hb, decide_false, Bool.false_and]
      symm
      simp
      omega
  · rename_i h
    simp only [Nat.zero_testBit]
    by_cases hb : b < 32
    · simp only [hb, decide_true, Bool.true_and, decide_eq_false_iff_not]
      intro e
      apply h
      omega
    · simp [hb]
/-- What is known when k bits are still to be read: the rest r, the quotient's number Q. -/
structure Dv (P k r Q : Nat) : Prop where
  r : r = P / 2 ^ k % 10
  q : Q = P / 2 ^ k / 10 * 2 ^ k
theorem Dv.start {P : Nat} (h : P < 2 ^ 128) : Dv P 128 0 0 := ⟨by rw [Nat.div_eq_of_lt h], by rw [Nat.div_eq_of_lt h]⟩
theorem Dv.stop {P r Q : Nat} (h : Dv P 0 r Q) : r = P % 10 ∧ Q = P / 10 := ⟨by simpa using h.r, by simpa using h.q⟩
theorem div_two {P i : Nat} : P / 2 ^ i = 2 * (P / 2 ^ (i + 1)) + P / 2 ^ i % 2 := by
  rw [Nat.pow_succ, ← Nat.div_div_eq_div_mul]; omega
theorem Dv.no {P i r Q b : Nat} (h : Dv P (i + 1) r Q) (hb : P / 2 ^ i % 2 = b) (hlt : 2 * r + b < 10) : Dv P i (2 * r + b) Q := by
  have e := div_two (P := P) (i := i)
  have h1 := h.r
  have h2 := h.q
  generalize P / 2 ^ (i + 1) = V at *
  rw [hb] at e
  have e1 : P / 2 ^ i % 10 = 2 * r + b := by omega
  have e2 : P / 2 ^ i / 10 = 2 * (V / 10) := by omega
  refine ⟨e1.symm, ?_⟩
  rw [h2, e2, Nat.pow_succ]
  rw [Nat.mul_comm 2 (V / 10), Nat.mul_assoc, Nat.mul_comm 2 (2 ^ i)]
theorem Dv.yes {P i r Q b : Nat} (h : Dv P (i + 1) r Q) (hb : P / 2 ^ i % 2 = b) (hge : 10 ≤ 2 * r + b) : Dv P i (2 * r + b - 10) (Q ||| 2 ^ i) := by
  have e := div_two (P := P) (i := i)
  have h1 := h.r
  have h2 := h.q
  generalize P / 2 ^ (i + 1) = V at *
  have hb2 : b < 2 := by omega
  rw [hb] at e
  have e1 : P / 2 ^ i % 10 = 2 * r + b - 10 := by omega
  have e2 : P / 2 ^ i / 10 = 2 * (V / 10) + 1 := by omega
  refine ⟨e1.symm, ?_⟩
  rw [h2, e2, ← Nat.shiftLeft_eq, ← Nat.shiftLeft_add_eq_or_of_lt (Nat.pow_lt_pow_right (by decide) (by omega)), Nat.shiftLeft_eq, Nat.add_mul, Nat.pow_succ, Nat.one_mul]
  rw [Nat.mul_comm 2 (V / 10), Nat.mul_assoc, Nat.mul_comm 2 (2 ^ i)]

end Go.Proofs.YthckbfkhbegmgaaDoor

/-
  Plain numbers of layer 1: a reduced ratio is known by its cross product; sums, differences, products, quotients, comparisons of ratios.
-/
import Derived.Test.YtgeaibjbkpfgmaaDoorExaC
namespace Go.Proofs.YtgeaibjbkpfgmaaDoor
open Go.RowKit
set_option linter.unusedSimpArgs false

theorem valid_parts {n d : Int} (h : validB n d = true) : 1 ≤ d ∧ d ≤ 2147483648 ∧ -2147483648 ≤ n ∧ n ≤ 2147483648 ∧ Nat.gcd n.natAbs d.natAbs = 1 := by
  simp only [validB, Bool.and_eq_true, beq_iff_eq] at h
  obtain ⟨h1, h2, h3, h4⟩ := rB_yes h.1
  have e := gcdv_gcd (a := n) (b := d) (by simp [least]; omega)
  rw [e] at h
  exact ⟨h1, h2, h3, h4, by omega⟩
theorem valid_mk2 {n d : Int} (h1 : 1 ≤ d) (h2 : d ≤ 2147483648) (h3 : -2147483648 ≤ n) (h4 : n ≤ 2147483648) (h5 : Nat.gcd n.natAbs d.natAbs = 1) : validB n d = true := by
  simp only [validB, Bool.and_eq_true, beq_iff_eq]
  refine ⟨rB_mk ⟨h1, h2, h3, h4⟩, ?_⟩
  rw [gcdv_gcd (a := n) (b := d) (by simp [least]; omega), h5]; rfl
theorem valid_neg {n d : Int} (h : validB n d = true) : validB (-n) d = true := by
  obtain ⟨h1, h2, h3, h4, h5⟩ := valid_parts h
  exact valid_mk2 h1 h2 (by omega) (by omega) (by rw [Int.natAbs_neg]; exact h5)
theorem mk_vals2 {x y : Int} (hy : y ≠ 0) (b1 : -9223372036854775807 ≤ x) (b2 : x ≤ 9223372036854775807) (b3 : -9223372036854775807 ≤ y) (b4 : y ≤ 9223372036854775807)
    (h1 : mkD x y ≤ 2147483648) (h2 : -2147483648 ≤ mkN x y) (h3 : mkN x y ≤ 2147483648) : mkV1 x y = mkN x y ∧ mkV2 x y = mkD x y ∧ mkE x y = 0 := by
  obtain ⟨v1, v2, v3⟩ := mk_vals (n := x) (d := y) (by simpa using hy) (by simp [least]; omega)
  rw [v1, v2, v3, if_pos (decide_eq_true ⟨h1, h2, h3⟩), if_pos (decide_eq_true ⟨h1, h2, h3⟩), if_pos (decide_eq_true ⟨h1, h2, h3⟩)]
  exact ⟨rfl, rfl, rfl⟩
theorem cross_uniq {a b N D : Int} (hb : 1 ≤ b) (hD : 1 ≤ D) (h1 : Nat.gcd a.natAbs b.natAbs = 1) (h2 : Nat.gcd N.natAbs D.natAbs = 1) (h : N * b = a * D) : N = a ∧ D = b := by
  have e := congrArg Int.natAbs h
  rw [Int.natAbs_mul, Int.natAbs_mul] at e
  have d1 : b.natAbs ∣ D.natAbs := by
    have : b.natAbs ∣ a.natAbs * D.natAbs := ⟨N.natAbs, by rw [← e, Nat.mul_comm]⟩
    exact Nat.Coprime.dvd_of_dvd_mul_left (Nat.Coprime.symm h1) this
  have d2 : D.natAbs ∣ b.natAbs := by
    have : D.natAbs ∣ N.natAbs * b.natAbs := ⟨a.natAbs, by rw [e, Nat.mul_comm]⟩
    exact Nat.Coprime.dvd_of_dvd_mul_left (Nat.Coprime.symm h2) this
  have e2 := Nat.dvd_antisymm d1 d2
  have e3 : D = b := by omega
  subst e3
  exact ⟨Int.eq_of_mul_eq_mul_right (by omega) h, rfl⟩
theorem mk_of_cross {a b x y : Int} (hv : validB a b = true) (hy : y ≠ 0) (b1 : -9223372036854775807 ≤ x) (b2 : x ≤ 9223372036854775807) (b3 : -9223372036854775807 ≤ y) (b4 : y ≤ 9223372036854775807)
    (hc : x * b = a * y) : mkV1 x y = a ∧ mkV2 x y = b ∧ mkE x y = 0 := by
  obtain ⟨h1, h2, h3, h4, h5⟩ := valid_parts hv
  have m1 := mkN_mul x y
  have m2 := mkD_mul x y
  have m3 := mkD_pos (n := x) hy
  have m4 := mk_cop (n := x) hy
  have g1 := gN_pos (n := x) hy
  have hg : (0 : Int) < (gN x y : Int) := by omega
  have e : mkN x y * b = a * mkD x y := by
    apply Int.eq_of_mul_eq_mul_right (show (gN x y : Int) ≠ 0 by omega)
    rw [Int.mul_assoc, Int.mul_comm b, ← Int.mul_assoc, m1, Int.mul_assoc a, m2]
    split
    · rw [Int.neg_mul, hc, show (y.natAbs : Int) = -y by omega, Int.mul_neg]
    · rw [hc, show (y.natAbs : Int) = y by omega]
  obtain ⟨e1, e2⟩ := cross_uniq h1 m3 h5 m4 e
  have := mk_vals2 hy b1 b2 b3 b4 (by omega) (by omega) (by omega)
  rw [e1, e2] at this
  exact this
theorem mk_parts2 {n d : Int} (hd : d ≠ 0) (b1 : -9223372036854775807 ≤ n) (b2 : n ≤ 9223372036854775807) (b3 : -9223372036854775807 ≤ d) (b4 : d ≤ 9223372036854775807) (h : mkE n d = 0) :
    ∃ g : Int, 1 ≤ g ∧ mkV1 n d * g = (if d < 0 then -n else n) ∧ mkV2 n d * g = (d.natAbs : Int) ∧ validB (mkV1 n d) (mkV2 n d) = true := by
  obtain ⟨v1, v2, v3⟩ := mk_vals (n := n) (d := d) (by simpa using hd) (by simp [least]; omega)
  have hk : mkD n d ≤ 2147483648 ∧ -2147483648 ≤ mkN n d ∧ mkN n d ≤ 2147483648 := by
    rw [v3] at h
    rcases Decidable.em (mkD n d ≤ 2147483648 ∧ -2147483648 ≤ mkN n d ∧ mkN n d ≤ 2147483648) with hk | hk
    · exact hk
    · rw [if_neg (by simpa using hk)] at h; omega
  obtain ⟨e1, e2, _⟩ := mk_vals2 hd b1 b2 b3 b4 hk.1 hk.2.1 hk.2.2
  have g1 := gN_pos (n := n) hd
  rw [e1, e2]
  exact ⟨(gN n d : Int), by omega, mkN_mul n d, mkD_mul n d, valid_mk2 (mkD_pos hd) hk.1 hk.2.1 hk.2.2 (mk_cop hd)⟩
/-- The products of valid parts fit. -/
theorem cross_bd {a b c d : Int} (h1 : validB a b = true) (h2 : validB c d = true) :
    (-4611686018427387904 ≤ a * d ∧ a * d ≤ 4611686018427387904) ∧ (-4611686018427387904 ≤ c * b ∧ c * b ≤ 4611686018427387904) ∧ (1 ≤ b * d ∧ b * d ≤ 4611686018427387904) ∧
    (-4611686018427387904 ≤ a * c ∧ a * c ≤ 4611686018427387904) ∧ (-4611686018427387904 ≤ b * c ∧ b * c ≤ 4611686018427387904) ∧
    (-9223372036854775807 ≤ a * d + c * b ∧ a * d + c * b ≤ 9223372036854775807) ∧ (-9223372036854775807 ≤ a * d - c * b ∧ a * d - c * b ≤ 9223372036854775807) := by
  obtain ⟨p1, p2, p3, p4, p5⟩ := valid_parts h1
  obtain ⟨q1, q2, q3, q4, q5⟩ := valid_parts h2
  have n1 : (a * d).natAbs ≤ 2147483648 * 2147483648 := by rw [Int.natAbs_mul]; exact Nat.mul_le_mul (by omega) (by omega)
  have n2 : (c * b).natAbs ≤ 2147483648 * 2147483648 := by rw [Int.natAbs_mul]; exact Nat.mul_le_mul (by omega) (by omega)
  have n3 : (a * c).natAbs ≤ 2147483648 * 2147483648 := by rw [Int.natAbs_mul]; exact Nat.mul_le_mul (by omega) (by omega)
  have n4 : (b * c).natAbs ≤ 2147483648 * 2147483648 := by rw [Int.natAbs_mul]; exact Nat.mul_le_mul (by omega) (by omega)
  have n5 : (b * d).natAbs ≤ 2147483648 * 2147483648 := by rw [Int.natAbs_mul]; exact Nat.mul_le_mul (by omega) (by omega)
  have n6 := Int.mul_le_mul p1 q1 (by omega) (by omega)
  have n7 : (a * d).natAbs + (c * b).natAbs ≤ 9223372036854775807 := by
    rcases Decidable.em (a.natAbs = 2147483648 ∧ d = 2147483648) with h | h
    · have hc : c.natAbs ≠ 2147483648 := by
        intro e; rw [e, h.2] at q5; exact absurd q5 (by decide)
      have : (c * b).natAbs ≤ 2147483647 * 2147483648 := by rw [Int.natAbs_mul]; exact Nat.mul_le_mul (by omega) (by omega)
      omega
    · have : (a * d).natAbs ≤ 2147483647 * 2147483648 := by
        rw [Int.natAbs_mul]
        rcases Decidable.em (a.natAbs = 2147483648) with h3 | h3
        · have : d.natAbs ≤ 2147483647 := by omega
          have := Nat.mul_le_mul (show a.natAbs ≤ 2147483648 by omega) this
          omega
        · exact Nat.mul_le_mul (by omega) (by omega)
      omega
  omega

end Go.Proofs.YtgeaibjbkpfgmaaDoor

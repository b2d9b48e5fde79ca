/-
  Plain numbers of layer 1: the greatest common divisor, the reduced ratio, the rounded quotients. No program in sight.
-/
import Derived.Test.YthckbfkhbegmgaaDoorKit
namespace Go.Proofs.YthckbfkhbegmgaaDoor
open Go.RowKit
set_option linter.unusedSimpArgs false

def least : Int := -9223372036854775808
def gcdv (a b : Int) : Int := if a == least || b == least then 0 else ((Nat.gcd a.natAbs b.natAbs : Nat) : Int)
theorem gcdv_min {a b : Int} (h : (a == least || b == least) = true) : gcdv a b = 0 := by simp only [gcdv, h, if_true]
theorem gcdv_gcd {a b : Int} (h : (a == least || b == least) = false) : gcdv a b = ((Nat.gcd a.natAbs b.natAbs : Nat) : Int) := by simp [gcdv, h]
def rB (num den : Int) : Bool := decide (1 ≤ den ∧ den ≤ 2147483648 ∧ -2147483648 ≤ num ∧ num ≤ 2147483648)
def validB (num den : Int) : Bool := rB num den && (gcdv num den == 1)
theorem rB_yes {n d : Int} (h : rB n d = true) : 1 ≤ d ∧ d ≤ 2147483648 ∧ -2147483648 ≤ n ∧ n ≤ 2147483648 := by simpa [rB] using h
theorem rB_mk {n d : Int} (h : 1 ≤ d ∧ d ≤ 2147483648 ∧ -2147483648 ≤ n ∧ n ≤ 2147483648) : rB n d = true := by simpa [rB] using h

/-- The common divisor of two numbers that are not the least one. -/
def gN (n d : Int) : Nat := Nat.gcd n.natAbs d.natAbs
def mkN (n d : Int) : Int := (if d < 0 then -n else n) / (gN n d : Int)
def mkD (n d : Int) : Int := (d.natAbs : Int) / (gN n d : Int)
def mkOk (n d : Int) : Bool := !(d == 0) && !(n == least || d == least) && decide (mkD n d ≤ 2147483648 ∧ -2147483648 ≤ mkN n d ∧ mkN n d ≤ 2147483648)
def mkV1 (n d : Int) : Int := if mkOk n d then mkN n d else 0
def mkV2 (n d : Int) : Int := if mkOk n d then mkD n d else 0
def mkE (n d : Int) : Int := if d == 0 then 1 else if mkOk n d then 0 else 2

theorem gN_pos {n d : Int} (h : d ≠ 0) : 1 ≤ gN n d := by
  have : 0 < Nat.gcd n.natAbs d.natAbs := Nat.gcd_pos_of_pos_right _ (by omega)
  unfold gN; omega
theorem gN_dvd1 (n d : Int) : (gN n d : Int) ∣ n := Int.ofNat_dvd_left.2 (Nat.gcd_dvd_left _ _)
theorem gN_dvd2 (n d : Int) : (gN n d : Int) ∣ d := Int.ofNat_dvd_left.2 (Nat.gcd_dvd_right _ _)
theorem gN_neg (n d : Int) : gN (-n) (-d) = gN n d := by simp [gN]
theorem gN_negl (n d : Int) : gN (-n) d = gN n d := by simp [gN]
theorem mkN_mul (n d : Int) : mkN n d * (gN n d : Int) = if d < 0 then -n else n := by
  unfold mkN
  apply Int.ediv_mul_cancel
  have := gN_dvd1 n d
  split <;> simpa using this
theorem mkD_mul (n d : Int) : mkD n d * (gN n d : Int) = (d.natAbs : Int) := by
  unfold mkD
  apply Int.ediv_mul_cancel
  have := gN_dvd2 n d
  exact (Int.dvd_natAbs).2 this
theorem mkD_pos {n d : Int} (h : d ≠ 0) : 1 ≤ mkD n d := by
  have h1 := mkD_mul n d
  have h2 := gN_pos (n := n) h
  rcases Int.lt_or_le 0 (mkD n d) with h3 | h3
  · omega
  · have : mkD n d * (gN n d : Int) ≤ 0 := Int.mul_nonpos_of_nonpos_of_nonneg h3 (by omega)
    omega
theorem mkD_le {n d : Int} (h : d ≠ 0) : mkD n d ≤ (d.natAbs : Int) := by
  have h1 := mkD_mul n d
  have h2 := gN_pos (n := n) h
  have h3 := mkD_pos (n := n) h
  have : mkD n d * 1 ≤ mkD n d * (gN n d : Int) := Int.mul_le_mul_of_nonneg_left (by omega) (by omega)
  omega
theorem mkN_abs {n d : Int} (h : d ≠ 0) : (mkN n d).natAbs ≤ n.natAbs := by
  have h1 := mkN_mul n d
  have h2 := gN_pos (n := n) h
  have h4 : (mkN n d).natAbs * gN n d = n.natAbs := by
    have := congrArg Int.natAbs h1
    rw [Int.natAbs_mul, Int.natAbs_natCast] at this
    rw [this]; split <;> simp
  have : (mkN n d).natAbs * 1 ≤ (mkN n d).natAbs * gN n d := Nat.mul_le_mul_left _ h2
  omega
theorem mk_cop {n d : Int} (h : d ≠ 0) : Nat.gcd (mkN n d).natAbs (mkD n d).natAbs = 1 := by
  have h2 := gN_pos (n := n) h
  have h4 : (mkN n d).natAbs * gN n d = n.natAbs := by
    have := congrArg Int.natAbs (mkN_mul n d)
    rw [Int.natAbs_mul, Int.natAbs_natCast] at this
    rw [this]; split <;> simp
  have h5 : (mkD n d).natAbs * gN n d = d.natAbs := by
    have := congrArg Int.natAbs (mkD_mul n d)
    rwa [Int.natAbs_mul, Int.natAbs_natCast, Int.natAbs_natCast] at this
  have h6 : Nat.gcd ((mkN n d).natAbs * gN n d) ((mkD n d).natAbs * gN n d) = gN n d := by rw [h4, h5]; rfl
  rw [Nat.gcd_mul_right] at h6
  have : Nat.gcd (mkN n d).natAbs (mkD n d).natAbs * gN n d = 1 * gN n d := by omega
  exact Nat.eq_of_mul_eq_mul_right (by omega) this

/-- n / d rounded down and up, and the errors of a division. -/
def flo (n d : Int) : Int := Int.fdiv n d
def dvE (n d : Int) : Int := if d == 0 then 1 else if n == least && d == -1 then 2 else 0
def floV (n d : Int) : Int := if dvE n d == 0 then Int.fdiv n d else 0
def ceiV (n d : Int) : Int := if dvE n d == 0 then -(Int.fdiv (-n) d) else 0

theorem dvE_zero {n d : Int} (h : (d == 0) = true) : dvE n d = 1 ∧ floV n d = 0 ∧ ceiV n d = 0 := by simp [dvE, floV, ceiV, h]
theorem dvE_least {n d : Int} (h : (d == 0) = false) (h1 : (n == least && d == -1) = true) : dvE n d = 2 ∧ floV n d = 0 ∧ ceiV n d = 0 := by
  have : dvE n d = 2 := by simp only [dvE, h, h1]; rfl
  simp [floV, ceiV, this]
theorem dvE_ok {n d : Int} (h : (d == 0) = false) (h1 : (n == least && d == -1) = false) : dvE n d = 0 ∧ floV n d = Int.fdiv n d ∧ ceiV n d = -(Int.fdiv (-n) d) := by
  have : dvE n d = 0 := by simp only [dvE, h, h1]; rfl
  simp [floV, ceiV, this]

theorem fdiv_t {n d : Int} (hd : d ≠ 0) : Int.fdiv n d = n.tdiv d - (if n.tmod d = 0 then 0 else if decide (n < 0) = decide (d < 0) then 0 else 1) := by
  rw [Int.fdiv_eq_tdiv]
  congr 1
  by_cases h0 : n.tmod d = 0
  · rw [if_pos (Int.dvd_of_tmod_eq_zero h0), if_pos h0]
  · rw [if_neg (fun h => h0 (Int.dvd_iff_tmod_eq_zero.1 h)), if_neg h0]
    by_cases h1 : 0 ≤ n <;> by_cases h2 : 0 ≤ d
    · simp [h1, h2, show ¬ n < 0 by omega, show ¬ d < 0 by omega]
    · simp [h1, h2, show ¬ n < 0 by omega, show d < 0 by omega]
    · simp [h1, h2, show n < 0 by omega, show ¬ d < 0 by omega, Int.sign_eq_one_of_pos (show 0 < d by omega)]
    · simp [h1, h2, show n < 0 by omega, show d < 0 by omega, Int.sign_eq_neg_one_of_neg (show d < 0 by omega)]
theorem cdiv_t {n d : Int} (hd : d ≠ 0) : -(Int.fdiv (-n) d) = n.tdiv d + (if n.tmod d = 0 then 0 else if decide (n < 0) = decide (d < 0) then 1 else 0) := by
  rw [fdiv_t hd, Int.neg_tdiv, Int.neg_tmod]
  have hn : n.tmod d ≠ 0 → n ≠ 0 := by rintro h rfl; simp at h
  by_cases h0 : n.tmod d = 0
  · simp [h0]
  · have := hn h0
    rw [if_neg (by omega), if_neg h0]
    by_cases h1 : n < 0 <;> by_cases h2 : d < 0
    · simp [h1, h2, show ¬ 0 < n by omega, show ¬ -n < 0 by omega]
      try omega
    · simp [h1, h2, show ¬ 0 < n by omega, show ¬ -n < 0 by omega]
    · simp [h1, h2, show 0 < n by omega]
    · simp [h1, h2, show 0 < n by omega]
      try omega
theorem cdiv_f {n d : Int} (hd : d ≠ 0) : -(Int.fdiv (-n) d) = Int.fdiv n d + (if n.tmod d = 0 then 0 else 1) := by
  rw [cdiv_t hd, fdiv_t hd]
  split
  · omega
  · split <;> omega
theorem tdiv_bd {n d : Int} (h1 : -9223372036854775808 ≤ n) (h2 : n ≤ 9223372036854775807) (hd : (d == 0) = false) (hm : (n == least && d == -1) = false) :
    -9223372036854775808 ≤ n.tdiv d ∧ n.tdiv d ≤ 9223372036854775807 := by
  have h := Int.natAbs_tdiv_le_natAbs n d
  by_cases hn : n = -9223372036854775808
  · subst hn
    have hd1 : d ≠ -1 := by rintro rfl; simp [least] at hm
    have hd0 : d ≠ 0 := by rintro rfl; simp at hd
    by_cases hpos : 0 < d
    · have h5 : (-9223372036854775808 : Int).tdiv d = -((9223372036854775808 : Int).tdiv d) := Int.neg_tdiv ..
      have h6 : 0 ≤ (9223372036854775808 : Int).tdiv d := Int.tdiv_nonneg (by omega) (by omega)
      omega
    · have h3 := Int.natAbs_tdiv (-9223372036854775808) d
      have h4 : Nat.div (Int.natAbs (-9223372036854775808)) d.natAbs ≤ Int.natAbs (-9223372036854775808) / 2 := Nat.div_le_div_left (by omega) (by omega)
      omega
  · omega
theorem tdiv_bd2 {n d : Int} (h1 : -9223372036854775808 ≤ n) (h2 : n ≤ 9223372036854775807) (hd : (d == 0) = false) (hr : n.tmod d ≠ 0) :
    -4611686018427387904 ≤ n.tdiv d ∧ n.tdiv d ≤ 4611686018427387904 := by
  have hd0 : d ≠ 0 := by rintro rfl; simp at hd
  have hd1 : d ≠ 1 := by rintro rfl; simp at hr
  have hd2 : d ≠ -1 := by rintro rfl; simp at hr
  have h3 := Int.natAbs_tdiv n d
  have h4 : Nat.div n.natAbs d.natAbs ≤ n.natAbs / 2 := Nat.div_le_div_left (by omega) (by omega)
  omega
theorem tmod_sign {n d : Int} (hr : n.tmod d ≠ 0) : decide (n.tmod d < 0) = decide (n < 0) := by
  by_cases h : n < 0
  · have h1 : (-n).tmod d = -(n.tmod d) := Int.neg_tmod ..
    have h2 := Int.tmod_nonneg (a := -n) d (by omega)
    simp [h]; omega
  · have h2 := Int.tmod_nonneg (a := n) d (by omega)
    simp [h]; omega
theorem eq_least (n : Int) : (n == least) = (n == -9223372036854775808) := rfl

end Go.Proofs.YthckbfkhbegmgaaDoor

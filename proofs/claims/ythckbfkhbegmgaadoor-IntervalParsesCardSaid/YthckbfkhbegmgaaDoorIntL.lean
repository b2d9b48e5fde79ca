/-
  Plain numbers of the schoolbook product: numbers in parts of 32 bits.
-/
import Derived.Test.YthckbfkhbegmgaaDoorIntJ
import Derived.Laws.Bits64b
namespace Go.Proofs.YthckbfkhbegmgaaDoor
open Go.RowKit
set_option linter.unusedSimpArgs false

def val (f : Nat → Int) : Nat → Int
  | 0 => 0
  | n + 1 => val f n + f n * (4294967296 : Int) ^ n
def upd (o : Nat → Int) (m : Nat) (x : Int) : Nat → Int := fun j => if j = m then x else o j
theorem val_above {o : Nat → Int} {m : Nat} {x : Int} : ∀ n, n ≤ m → val (upd o m x) n = val o n
  | 0, _ => rfl
  | n + 1, h => by
    simp only [val]
    rw [val_above n (by omega), show upd o m x n = o n by simp [upd]; omega]
theorem val_upd {o : Nat → Int} {m : Nat} {x : Int} : ∀ n, m < n → val (upd o m x) n = val o n + (x - o m) * (4294967296 : Int) ^ m
  | 0, h => by omega
  | n + 1, h => by
    simp only [val]
    rcases Nat.lt_or_ge m n with h1 | h1
    · rw [val_upd n h1, show upd o m x n = o n by simp [upd]; omega]; grind
    · obtain rfl : n = m := by omega
      rw [val_above n (Nat.le_refl _), show upd o n x n = x by simp [upd]]; grind
def part (x : Int) : Bool := decide (0 ≤ x ∧ x < 4294967296)
structure Nums (A B : Nat → Int) (u : Nat) (o : Nat → Int) : Prop where
  bd : ∀ j, j < 8 → 0 ≤ o j ∧ o j < 4294967296
  zs : ∀ j, u + 4 ≤ j → o j = 0
  eq : val o 8 = val A u * val B 4
structure Ins (A B : Nat → Int) (u v : Nat) (o : Nat → Int) (c : Int) : Prop where
  bd : ∀ j, j < 8 → 0 ≤ o j ∧ o j < 4294967296
  zs : ∀ j, u + 4 ≤ j → o j = 0
  c0 : 0 ≤ c
  c1 : c < 4294967296
  eq : val o 8 + c * (4294967296 : Int) ^ (u + v) = val A u * val B 4 + A u * (4294967296 : Int) ^ u * val B v
theorem nums0 (A B : Nat → Int) : Nums A B 0 (fun _ => 0) := ⟨fun _ _ => by omega, fun _ _ => rfl, by simp [val]⟩
theorem Nums.start {A B : Nat → Int} {u : Nat} {o : Nat → Int} (h : Nums A B u o) : Ins A B u 0 o 0 := ⟨h.bd, h.zs, by omega, by omega, by rw [h.eq]; simp [val]⟩
theorem Ins.sum_bd {A B : Nat → Int} {u v : Nat} {o : Nat → Int} {c N : Int} (h : Ins A B u v o c) (hu : u < 4) (hv : v < 4) (ha : 0 ≤ A u ∧ A u < 4294967296) (hb : 0 ≤ B v ∧ B v < 4294967296)
    (hN : A u * B v + o (u + v) + c = N) : 0 ≤ A u * B v ∧ 0 ≤ A u * B v + o (u + v) ∧ A u * B v < 18446744073709551616 ∧ A u * B v + o (u + v) < 18446744073709551616 ∧ 0 ≤ N ∧ N < 18446744073709551616 := by
  have h1 := mul_bd ha.1 (show A u ≤ 4294967295 by omega) hb.1 (show B v ≤ 4294967295 by omega)
  have h2 := h.bd (u + v) (by omega)
  have h3 := h.c0
  have h4 := h.c1
  omega
theorem ring_step {v8 c p N M D X Y Z a b om vB : Int} (e : v8 + c * X = p + a * Y * vB) (e1 : X = Y * Z) (e3 : M + 4294967296 * D = N) (hN : a * b + om + c = N) :
    v8 + (M - om) * X + D * (X * 4294967296) = p + a * Y * (vB + b * Z) := by grind
theorem Ins.step {A B : Nat → Int} {u v : Nat} {o : Nat → Int} {c N : Int} (h : Ins A B u v o c) (hu : u < 4) (hv : v < 4) (hN : A u * B v + o (u + v) + c = N) (h0 : 0 ≤ N) (h1 : N < 18446744073709551616) :
    Ins A B u (v + 1) (upd o (u + v) (N % 4294967296)) (N / 4294967296) where
  bd := fun j hj => by
    unfold upd; split
    · omega
    · exact h.bd j hj
  zs := fun j hj => by rw [← h.zs j hj]; unfold upd; rw [if_neg (by omega)]
  c0 := by omega
  c1 := by omega
  eq := by
    rw [val_upd 8 (by omega)]
    have e := h.eq
    have e1 : (4294967296 : Int) ^ (u + v) = (4294967296 : Int) ^ u * (4294967296 : Int) ^ v := Int.pow_add _ _ _
    have e2 : (4294967296 : Int) ^ (u + (v + 1)) = (4294967296 : Int) ^ (u + v) * 4294967296 := by rw [← Nat.add_assoc, Int.pow_succ]
    have e3 : N % 4294967296 + 4294967296 * (N / 4294967296) = N := Int.emod_add_mul_ediv N 4294967296
    rw [e2]
    exact ring_step e e1 e3 hN
theorem Ins.stop {A B : Nat → Int} {u : Nat} {o : Nat → Int} {c : Int} (h : Ins A B u 4 o c) (hu : u < 4) : Nums A B (u + 1) (upd o (u + 4) c) where
  bd := fun j hj => by
    have h0 := h.c0
    have h1 := h.c1
    unfold upd; split
    · omega
    · exact h.bd j hj
  zs := fun j hj => by rw [← h.zs j (by omega)]; unfold upd; rw [if_neg (by omega)]
  eq := by
    rw [val_upd 8 (by omega), h.zs (u + 4) (by omega)]
    have e := h.eq
    simp only [val] at e ⊢
    grind
theorem val_pos {o : Nat → Int} : ∀ n, (∀ j, j < n → 0 ≤ o j ∧ o j < 4294967296) → 0 ≤ val o n
  | 0, _ => by simp [val]
  | n + 1, h => by
    have h1 := val_pos n (fun j hj => h j (by omega))
    have h2 := Int.mul_nonneg (h n (by omega)).1 (show (0 : Int) ≤ (4294967296 : Int) ^ n from Int.pow_nonneg (by omega))
    simp only [val]; omega
/-- A product below 2^128 has its upper parts 0. -/
theorem Nums.low {A B : Nat → Int} {o : Nat → Int} (h : Nums A B 4 o) (hp : val A 4 * val B 4 < 340282366920938463463374607431768211456) :
    o 4 = 0 ∧ o 5 = 0 ∧ o 6 = 0 ∧ o 7 = 0 ∧ o 0 + o 1 * 4294967296 + (o 2 + o 3 * 4294967296) * 18446744073709551616 = val A 4 * val B 4 := by
  have e := h.eq
  rw [← e] at hp ⊢
  have b0 := h.bd 0 (by omega); have b1 := h.bd 1 (by omega); have b2 := h.bd 2 (by omega); have b3 := h.bd 3 (by omega)
  have b4 := h.bd 4 (by omega); have b5 := h.bd 5 (by omega); have b6 := h.bd 6 (by omega); have b7 := h.bd 7 (by omega)
  simp only [val] at hp ⊢
  simp only [show (4294967296 : Int) ^ 0 = 1 from rfl, show (4294967296 : Int) ^ 1 = 4294967296 from rfl, show (4294967296 : Int) ^ 2 = 18446744073709551616 from rfl, show (4294967296 : Int) ^ 3 = 79228162514264337593543950336 from rfl, show (4294967296 : Int) ^ 4 = 340282366920938463463374607431768211456 from rfl, show (4294967296 : Int) ^ 5 = 1461501637330902918203684832716283019655932542976 from rfl, show (4294967296 : Int) ^ 6 = 6277101735386680763835789423207666416102355444464034512896 from rfl, show (4294967296 : Int) ^ 7 = 26959946667150639794667015087019630673637144422540572481103610249216 from rfl] at hp ⊢
  omega
theorem and_low (n : Int) (h0 : 0 ≤ n) (h : n < 18446744073709551616) : bits .and .u64 n 4294967295 = n % 4294967296 := by
  obtain ⟨m, rfl⟩ := Int.eq_ofNat_of_zero_le h0
  have := bits_and_u64_nat m 4294967295 (by omega) (by omega)
  rw [show m &&& 4294967295 = m % 4294967296 from Nat.and_two_pow_sub_one_eq_mod m 32] at this
  exact this.trans (by omega)
theorem or_join (a b : Int) (ha : 0 ≤ a) (ha' : a < 4294967296) (hb : 0 ≤ b) (hb' : b < 4294967296) : bits .or .u64 (a * 4294967296) b = a * 4294967296 + b := by
  obtain ⟨m, rfl⟩ := Int.eq_ofNat_of_zero_le ha
  obtain ⟨n, rfl⟩ := Int.eq_ofNat_of_zero_le hb
  have e := Nat.two_pow_add_eq_or_of_lt (i := 32) (b := n) (by omega) m
  have := bits_or_u64_nat (4294967296 * m) n (by omega) (by omega)
  rw [show (4294967296 * m ||| n) = 4294967296 * m + n from e.symm] at this
  rw [show (m : Int) * 4294967296 = ((4294967296 * m : Nat) : Int) by omega]
  exact this.trans (by omega)

end Go.Proofs.YthckbfkhbegmgaaDoor

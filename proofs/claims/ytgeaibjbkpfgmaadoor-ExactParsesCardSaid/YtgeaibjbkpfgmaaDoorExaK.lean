/-
  Decimal digits: a numeral of fixed width, the numeral of a quotient and a rest.
-/
import Derived.Test.YtgeaibjbkpfgmaaDoorExaG
namespace Go.Proofs.YtgeaibjbkpfgmaaDoor
open Go.RowKit
set_option linter.unusedSimpArgs false

open Lib (decDigits) in
theorem dd_small {u : Nat} (h : u < 10) : decDigits u = [UInt8.ofNat (48 + u)] := by rw [decDigits, dif_pos h]
open Lib (decDigits) in
theorem dd_big {u : Nat} (h : ¬ u < 10) : decDigits u = decDigits (u / 10) ++ [UInt8.ofNat (48 + u % 10)] := by rw [decDigits, dif_neg h]
/-- The last k decimal digits of r. -/
def fw : Nat → Nat → List UInt8
  | 0, _ => []
  | k + 1, r => fw k (r / 10) ++ [UInt8.ofNat (48 + r % 10)]
theorem fw_len : ∀ k r, (fw k r).length = k
  | 0, _ => rfl
  | k + 1, r => by simp [fw, fw_len k]
theorem rep_snoc : ∀ k, Lib.repeatL [48] (k + 1) = Lib.repeatL [48] k ++ [48]
  | 0 => rfl
  | k + 1 => by
    have := rep_snoc k
    rw [show Lib.repeatL [48] (k + 1 + 1) = [48] ++ Lib.repeatL [48] (k + 1) from rfl, this]
    rw [← List.append_assoc, show [48] ++ Lib.repeatL [48] k = Lib.repeatL [48] (k + 1) from rfl, this]
theorem fw_zero : ∀ k, fw k 0 = Lib.repeatL [48] k
  | 0 => rfl
  | k + 1 => by rw [fw, rep_snoc, Nat.zero_div, fw_zero k]; rfl
theorem pad_snoc (k : Nat) (l : List UInt8) (d : UInt8) : pad (k + 1) (l ++ [d]) = pad k l ++ [d] := by
  unfold pad
  rw [List.length_append, List.length_singleton, show k + 1 - (l.length + 1) = k - l.length by omega, List.append_assoc]
theorem pad_dd : ∀ k N, pad (k + 1) (Lib.decDigits N) = Lib.decDigits (N / 10 ^ k) ++ fw k (N % 10 ^ k)
  | 0, N => by
    have : 1 ≤ (Lib.decDigits N).length := by rw [Lib.decDigits_length]; exact Lib.nDigits_pos _
    unfold pad
    rw [show 0 + 1 - (Lib.decDigits N).length = 0 by omega]
    simp [Lib.repeatL, fw]
  | k + 1, N => by
    by_cases h : N < 10
    · have h1 : N / 10 ^ (k + 1) = 0 := Nat.div_eq_of_lt (Nat.lt_of_lt_of_le h (by rw [Nat.pow_succ]; exact Nat.le_mul_of_pos_left _ (Nat.pow_pos (by omega))))
      have h2 : N % 10 ^ (k + 1) = N := Nat.mod_eq_of_lt (Nat.lt_of_lt_of_le h (by rw [Nat.pow_succ]; exact Nat.le_mul_of_pos_left _ (Nat.pow_pos (by omega))))
      rw [h1, h2, dd_small h, dd_small (show 0 < 10 by omega), fw, show N / 10 = 0 by omega, fw_zero, show N % 10 = N by omega]
      unfold pad
      simp only [List.length_singleton]
      rw [show k + 1 + 1 - 1 = k + 1 by omega]
      rfl
    · rw [dd_big h, pad_snoc, pad_dd k (N / 10), fw, Nat.div_div_eq_div_mul, Nat.mul_comm 10, ← Nat.pow_succ, List.append_assoc]
      have e1 : N % 10 ^ (k + 1) / 10 = N / 10 % 10 ^ k := by
        rw [Nat.pow_succ, Nat.mul_comm, Nat.mod_mul_right_div_self]
      have e2 : N % 10 ^ (k + 1) % 10 = N % 10 := Nat.mod_mod_of_dvd _ ⟨10 ^ k, by rw [Nat.pow_succ, Nat.mul_comm]⟩
      rw [e1, e2]
theorem pad_fw : ∀ k r, r < 10 ^ (k + 1) → pad (k + 1) (Lib.decDigits r) = fw (k + 1) r
  | 0, r, h => by
    have h : r < 10 := by simpa using h
    rw [dd_small h, fw, fw, show r % 10 = r by omega]; rfl
  | k + 1, r, h => by
    by_cases h1 : r < 10
    · rw [dd_small h1, fw, show r / 10 = 0 by omega, fw_zero, show r % 10 = r by omega]
      unfold pad
      simp only [List.length_singleton]
      rw [show k + 1 + 1 - 1 = k + 1 by omega]
    · rw [dd_big h1, pad_snoc, fw, pad_fw k (r / 10) (by rw [Nat.pow_succ] at h; omega)]
theorem point_dd {k N : Nat} (hk : k ≠ 0) : point k (pad (k + 1) (Lib.decDigits N)) = Lib.decDigits (N / 10 ^ k) ++ 46 :: pad k (Lib.decDigits (N % 10 ^ k)) := by
  obtain ⟨m, rfl⟩ : ∃ m, k = m + 1 := ⟨k - 1, by omega⟩
  rw [pad_dd, pad_fw m _ (Nat.mod_lt _ (Nat.pow_pos (by omega))), point, if_neg hk]
  have e : (Lib.decDigits (N / 10 ^ (m + 1)) ++ fw (m + 1) (N % 10 ^ (m + 1))).length - (m + 1) = (Lib.decDigits (N / 10 ^ (m + 1))).length := by rw [List.length_append, fw_len]; omega
  rw [e, List.take_left, List.drop_left]

end Go.Proofs.YtgeaibjbkpfgmaaDoor

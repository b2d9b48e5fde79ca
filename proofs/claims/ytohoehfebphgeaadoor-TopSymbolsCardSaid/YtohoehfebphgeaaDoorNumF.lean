/-
  Numerals read back: ParseInt of a numeral; Cut at the first byte that a numeral has not.
-/
import Derived.Test.YtohoehfebphgeaaDoorTabF
import Derived.Lib.ParseIntB
import Derived.Lib.IndexMore
import Derived.Lib.IndexLaws
namespace Go.Proofs.YtohoehfebphgeaaDoor
open Go.RowKit
set_option linter.unusedSimpArgs false

theorem dig_nat {k : Nat} (h : k < 10) : (UInt8.ofNat (48 + k)).toNat = 48 + k := by
  rw [UInt8.toNat_ofNat']; omega
theorem dig_all (u : Nat) : ∀ c ∈ Lib.decDigits u, 48 ≤ c.toNat ∧ c.toNat ≤ 57 := by
  intro c hc
  by_cases h : u < 10
  · rw [Lib.decDigits, dif_pos h] at hc
    simp only [List.mem_singleton] at hc
    subst hc
    rw [dig_nat h]; omega
  · rw [Lib.decDigits, dif_neg h] at hc
    rcases List.mem_append.1 hc with h1 | h1
    · exact dig_all (u / 10) c h1
    · simp only [List.mem_singleton] at h1
      subst h1
      rw [dig_nat (show u % 10 < 10 by omega)]; omega
termination_by u
decreasing_by omega
theorem dig_ne (u : Nat) : Lib.decDigits u ≠ [] := by
  intro h
  have := Lib.nDigits_pos u
  rw [← Lib.decDigits_length, h] at this
  simp at this
theorem parseM_dd (M : Nat) (hM : M ≤ 18446744073709551615) (u : Nat) (hu : u ≤ M) (r : List UInt8) : Lib.parseUintM M 0 (Lib.decDigits u ++ r) = Lib.parseUintM M u r := by
  by_cases h : u < 10
  · rw [Lib.decDigits, dif_pos h, List.singleton_append, Lib.parseUintM, dig_nat h, if_pos (by omega), if_neg (by omega), if_neg (by omega)]
    congr 1; omega
  · rw [Lib.decDigits, dif_neg h, List.append_assoc, parseM_dd M hM (u / 10) (by omega), List.singleton_append, Lib.parseUintM, dig_nat (show u % 10 < 10 by omega), if_pos (by omega), if_neg (by omega), if_neg (by omega)]
    congr 1; omega
termination_by u
decreasing_by omega
theorem parseU_dd (u : Nat) (hu : u ≤ 18446744073709551615) : Lib.parseUintB 64 (Lib.decDigits u) = .ok u := by
  unfold Lib.parseUintB
  rw [if_neg (dig_ne u)]
  have := parseM_dd (2 ^ 64 - 1) (by decide) u (by omega) []
  rw [List.append_nil] at this
  rw [this]; rfl
theorem parseI_itoa (n : Int) (h : -9223372036854775807 ≤ n) (h' : n ≤ 9223372036854775807) : Lib.parseIntB 64 (Lib.itoa n) = .ok n := by
  rcases Int.lt_or_le n 0 with hn | hn
  · obtain ⟨m, hm⟩ : ∃ m : Nat, n = -(m : Int) := ⟨n.natAbs, by omega⟩
    subst hm
    rw [Lib.itoa_neg m (by omega)]
    unfold Lib.parseIntB
    have e : (45 : UInt8).toNat = 45 := rfl
    simp only [e, or_true, if_true, parseU_dd m (by omega), not_true, false_and, if_false, true_and]
    rw [if_neg (by omega)]
  · obtain ⟨m, rfl⟩ := Int.eq_ofNat_of_zero_le hn
    rw [Lib.itoa_nonneg m]
    have hd := dig_all m
    have hp := parseU_dd m (by omega)
    have hne := dig_ne m
    generalize Lib.decDigits m = l at *
    cases l with
    | nil => exact absurd rfl hne
    | cons c r =>
      have hc := hd c (by simp)
      unfold Lib.parseIntB
      simp only [show ¬ c.toNat = 43 by omega, show ¬ c.toNat = 45 by omega, or_self, if_false, not_false_iff, true_and, false_and]
      rw [hp]
      show (if 2 ^ (64 - 1) ≤ m then _ else _) = _
      rw [if_neg (by omega)]
theorem itoa_bytes (n : Int) : ∀ c ∈ Lib.itoa n, c = 45 ∨ (48 ≤ c.toNat ∧ c.toNat ≤ 57) := by
  intro c hc
  unfold Lib.itoa at hc
  split at hc
  · rcases List.mem_cons.1 hc with h | h
    · exact Or.inl h
    · exact Or.inr (dig_all _ c h)
  · exact Or.inr (dig_all _ c hc)
theorem cut_at (A B : List UInt8) (x : UInt8) (h : ∀ c ∈ A, c ≠ x) : Lib.cut (A ++ x :: B) [x] = (A, B, true) := by
  have hi : Lib.index (A ++ x :: B) [x] = (A.length : Int) := by
    refine Lib.index_first (by simp) (by simp [Lib.occAt]) (fun j hj => ?_)
    have e : (A ++ x :: B).drop j = A[j] :: (A ++ x :: B).drop (j + 1) := by
      rw [List.drop_eq_getElem_cons (by simp; omega)]
      simp [List.getElem_append_left hj]
    unfold Lib.occAt
    rw [e]
    simp only [List.isPrefixOf]
    have := h _ (List.getElem_mem hj)
    simp [Ne.symm this]
  unfold Lib.cut
  rw [hi, if_pos (by omega)]
  simp
def numV (l : List UInt8) : Int := match Lib.parseIntB 64 l with
  | .ok v => v
  | .syntax => 0
  | .range => Lib.intSat 64 l
def numOk (l : List UInt8) : Bool := match Lib.parseIntB 64 l with
  | .ok _ => true
  | _ => false
theorem num_itoa {n : Int} (h : -9223372036854775807 ≤ n) (h' : n ≤ 9223372036854775807) : numV (Lib.itoa n) = n ∧ numOk (Lib.itoa n) = true := by
  unfold numV numOk
  rw [parseI_itoa n h h']
  exact ⟨rfl, rfl⟩

end Go.Proofs.YtohoehfebphgeaaDoor

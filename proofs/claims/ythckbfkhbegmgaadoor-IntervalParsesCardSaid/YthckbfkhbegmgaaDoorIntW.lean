/-
  Plain laws of the reference's Parse of layer 2: digits and numerals.
-/
import Derived.Test.YthckbfkhbegmgaaDoorIntR
namespace Go.Proofs.YthckbfkhbegmgaaDoor
open Go.RowKit
set_option linter.unusedSimpArgs false

theorem dig_nat' {c : Nat} (h : c < 10) : (UInt8.ofNat (48 + c)).toNat = 48 + c := by
  rw [UInt8.toNat_ofNat']; omega
def dval (l : List UInt8) : Nat := l.foldl (fun a c => a * 10 + (c.toNat - 48)) 0
theorem dval_snoc (l : List UInt8) (c : UInt8) : dval (l ++ [c]) = dval l * 10 + (c.toNat - 48) := by
  unfold dval
  rw [List.foldl_append, List.foldl_cons, List.foldl_nil]
theorem dval_one (c : UInt8) : dval [c] = c.toNat - 48 := by
  unfold dval
  rw [List.foldl_cons, List.foldl_nil, Nat.zero_mul, Nat.zero_add]
theorem dval_dd (u : Nat) : dval (Lib.decDigits u) = u := by
  by_cases h : u < 10
  · rw [Lib.decDigits, dif_pos h, dval_one, dig_nat' h]; omega
  · rw [Lib.decDigits, dif_neg h, dval_snoc, dval_dd (u / 10), dig_nat' (show u % 10 < 10 by omega)]; omega
termination_by u
decreasing_by omega
def isDg (c : UInt8) : Bool := decide (48 ≤ c.toNat ∧ c.toNat ≤ 57)
theorem dd_dg (u : Nat) : ∀ c ∈ Lib.decDigits u, isDg c = true := by
  intro c hc
  by_cases h : u < 10
  · rw [Lib.decDigits, dif_pos h, List.mem_singleton] at hc
    subst hc
    unfold isDg; rw [dig_nat' h, decide_eq_true_eq]; omega
  · rw [Lib.decDigits, dif_neg h, List.mem_append, List.mem_singleton] at hc
    rcases hc with hc | rfl
    · exact dd_dg (u / 10) c hc
    · unfold isDg; rw [dig_nat' (show u % 10 < 10 by omega), decide_eq_true_eq]; omega
termination_by u
decreasing_by omega
theorem take_snoc {D : List UInt8} {k : Nat} (h : k < D.length) : D.take (k + 1) = D.take k ++ [D.getD k 0] := by
  rw [List.take_add_one]; simp [List.getD, h]
theorem dval_up {D : List UInt8} {k : Nat} (h : k < D.length) : dval (D.take k) ≤ dval (D.take (k + 1)) := by
  rw [take_snoc h, dval_snoc]; omega
theorem dval_le {D : List UInt8} : ∀ n k, k + n = D.length → dval (D.take k) ≤ dval D
  | 0, k, h => by
    have : D.take k = D := List.take_of_length_le (by omega)
    rw [this]; exact Nat.le_refl _
  | n + 1, k, h => Nat.le_trans (dval_up (by omega)) (dval_le n (k + 1) (by omega))
/-- A numeral of a number of at most 2^62. -/
def Nml (L : List UInt8) (n : Int) : Prop := L = Lib.itoa n ∧ -4611686018427387904 ≤ n ∧ n ≤ 4611686018427387904
theorem nml_neg {D : List UInt8} {n : Int} (h : Nml (45 :: D) n) : n < 0 ∧ D = Lib.decDigits n.natAbs := by
  obtain ⟨h1, _, _⟩ := h
  unfold Lib.itoa at h1
  by_cases hn : n < 0
  · rw [if_pos hn] at h1
    exact ⟨hn, by simpa using h1⟩
  · rw [if_neg hn] at h1
    have := dd_dg _ 45 (by rw [← h1]; simp)
    exact absurd this (by decide)
theorem nml_pos {L : List UInt8} {n : Int} (h : Nml L n) (h0 : L.headD 0 ≠ 45) : 0 ≤ n ∧ L = Lib.decDigits n.natAbs := by
  obtain ⟨h1, _, _⟩ := h
  unfold Lib.itoa at h1
  by_cases hn : n < 0
  · rw [if_pos hn] at h1
    rw [h1] at h0
    exact absurd rfl h0
  · rw [if_neg hn] at h1
    exact ⟨by omega, by rw [h1, show n.toNat = n.natAbs by omega]⟩
theorem dd_at {m : Nat} {D : List UInt8} (h : D = Lib.decDigits m) {k : Nat} (hk : k < D.length) : isDg (D.getD k 0) = true := by
  refine dd_dg m _ ?_
  rw [← h]
  simp [List.getD, hk]
theorem byte_at (L : List UInt8) (k : Nat) (hk : k < L.length) (h : k < (⟨L.toArray⟩ : ByteArray).size) : (⟨L.toArray⟩ : ByteArray)[k]'h = L.getD k 0 := by
  simp [List.getD, hk]
  rfl
theorem ext_drop (L : List UInt8) (k : Nat) : (⟨L.toArray⟩ : ByteArray).extract k L.length = ⟨(L.drop k).toArray⟩ := by
  apply ByteArray.ext; simp [List.take_of_length_le]
theorem ext_take (L : List UInt8) (k : Nat) : (⟨L.toArray⟩ : ByteArray).extract 0 k = ⟨(L.take k).toArray⟩ := by
  apply ByteArray.ext; simp

end Go.Proofs.YthckbfkhbegmgaaDoor

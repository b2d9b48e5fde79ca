/-
  Tables of layer 37 in memory (TabAt), and what Shape and Check make of them, in plain numbers.
-/
import Derived.Test.YtoemcpndmfimiaaKit
namespace Go.Proofs.Ytoemcpndmfimiaa
open Go.RowKit

/-- A slice of slices of int64 in memory: n rows, row i of L i numbers Z i 0 .., in blocks that are there. -/
structure TabAt (w : World) (A0 : Option Addr) (n : Nat) (A : Nat → Option Addr) (L C : Nat → Nat) (Z : Nat → Nat → Int) (b off : Nat) (G O : Nat → Nat) : Prop where
  nle : n ≤ 9223372036854775807
  lle : ∀ i, i < n → L i ≤ 9223372036854775807
  top : 0 < n → A0 = some ⟨b, off, none⟩ ∧ b < w.heap.size
  row : ∀ i, i < n → w.cell? ⟨b, off + i, none⟩ = some (.slice (A i) (L i) (C i))
  got : ∀ i, i < n → 0 < L i → A i = some ⟨G i, O i, none⟩ ∧ G i < w.heap.size
  cell : ∀ i j, i < n → j < L i → w.cell? ⟨G i, O i + j, none⟩ = some (.int .i64 (Z i j))
  wf : ∀ i j, i < n → j < L i → -9223372036854775808 ≤ Z i j ∧ Z i j ≤ 9223372036854775807
section
variable {w w' : World} {A0 : Option Addr} {n : Nat} {A : Nat → Option Addr} {L C : Nat → Nat} {Z : Nat → Nat → Int} {b off : Nat} {G O : Nat → Nat}
theorem TabAt.ext (T : TabAt w A0 n A L C Z b off G O) (h : Ext w w') : TabAt w' A0 n A L C Z b off G O where
  nle := T.nle
  lle := T.lle
  top := fun k => ⟨(T.top k).1, Nat.lt_of_lt_of_le (T.top k).2 h.size⟩
  row := fun i hi => ((Ext.cells h).1 _ _ (T.top (by omega)).2).trans (T.row i hi)
  got := fun i hi hl => ⟨(T.got i hi hl).1, Nat.lt_of_lt_of_le (T.got i hi hl).2 h.size⟩
  cell := fun i j hi hj => ((Ext.cells h).1 _ _ (T.got i hi (by omega)).2).trans (T.cell i j hi hj)
  wf := T.wf
end
/-- All rows below k are as long as the first one. -/
def LensTo (L : Nat → Nat) (k : Nat) : Prop := ∀ i, i < k → L i = L 0
/-- All numbers of the rows below k are from 0 to 10000. -/
def ValsIn (Z : Nat → Nat → Int) (i k : Nat) : Prop := ∀ j, j < k → 0 ≤ Z i j ∧ Z i j ≤ 10000
def ValsTo (L : Nat → Nat) (Z : Nat → Nat → Int) (k : Nat) : Prop := ∀ i, i < k → ValsIn Z i (L i)
open Classical in
noncomputable def shapeV (n : Nat) (L : Nat → Nat) (Z : Nat → Nat → Int) : Int :=
  if n < 2 ∨ L 0 = 0 then 1 else if 91 < n ∨ 10 < L 0 then 9 else if LensTo L n then (if ValsTo L Z n then 0 else 2) else 1
section
variable {n : Nat} {L : Nat → Nat} {Z : Nat → Nat → Int}
theorem shape_arg (h : n < 2 ∨ L 0 = 0) : shapeV n L Z = 1 := by unfold shapeV; rw [if_pos h]
theorem shape_limit (h : ¬ (n < 2 ∨ L 0 = 0)) (h' : 91 < n ∨ 10 < L 0) : shapeV n L Z = 9 := by unfold shapeV; rw [if_neg h, if_pos h']
theorem shape_lens (h : ¬ (n < 2 ∨ L 0 = 0)) (h' : ¬ (91 < n ∨ 10 < L 0)) {k : Nat} (hk : k < n) (hl : L k ≠ L 0) : shapeV n L Z = 1 := by
  unfold shapeV; rw [if_neg h, if_neg h', if_neg (fun g => hl (g k hk))]
theorem shape_range (h : ¬ (n < 2 ∨ L 0 = 0)) (h' : ¬ (91 < n ∨ 10 < L 0)) (hl : LensTo L n) {i j : Nat} (hi : i < n) (hj : j < L i) (hv : ¬ (0 ≤ Z i j ∧ Z i j ≤ 10000)) : shapeV n L Z = 2 := by
  unfold shapeV; rw [if_neg h, if_neg h', if_pos hl, if_neg (fun g => hv (g i hi j hj))]
theorem shape_ok (h : ¬ (n < 2 ∨ L 0 = 0)) (h' : ¬ (91 < n ∨ 10 < L 0)) (hl : LensTo L n) (hv : ValsTo L Z n) : shapeV n L Z = 0 := by
  unfold shapeV; rw [if_neg h, if_neg h', if_pos hl, if_pos hv]
theorem shape_zero (h : shapeV n L Z = 0) : 2 ≤ n ∧ n ≤ 91 ∧ 1 ≤ L 0 ∧ L 0 ≤ 10 ∧ LensTo L n ∧ ValsTo L Z n := by
  unfold shapeV at h
  split at h
  · cases h
  · split at h
    · cases h
    · split at h
      · split at h
        · rename_i h1 h2 h3 h4
          exact ⟨by omega, by omega, by omega, by omega, h3, h4⟩
        · cases h
      · cases h
/-- The first row is 0 below column k. -/
def ZeroTo (Z : Nat → Nat → Int) (k : Nat) : Prop := ∀ j, j < k → Z 0 j = 0
def OrdAt (L : Nat → Nat) (Z : Nat → Nat → Int) (u w : Nat) : Prop := ¬ ((0 < u ∧ Z u w < Z (u - 1) w) ∨ (w + 1 < L u ∧ Z u w < Z u (w + 1)))
def OrdIn (L : Nat → Nat) (Z : Nat → Nat → Int) (u k : Nat) : Prop := ∀ w, w < k → OrdAt L Z u w
def OrdTo (L : Nat → Nat) (Z : Nat → Nat → Int) (k : Nat) : Prop := ∀ u, u < k → OrdIn L Z u (L u)
def ConAt (Z : Nat → Nat → Int) (u w : Nat) : Prop := Z u w - Z (u - 1) w ≤ Z (u - 1) w - Z (u - 2) w
def ConIn (Z : Nat → Nat → Int) (u k : Nat) : Prop := ∀ w, w < k → ConAt Z u w
def ConTo (L : Nat → Nat) (Z : Nat → Nat → Int) (k : Nat) : Prop := ∀ u, 2 ≤ u → u < k → ConIn Z u (L u)
open Classical in
noncomputable def endsV (n : Nat) (L : Nat → Nat) (Z : Nat → Nat → Int) : Int := if ZeroTo Z (L 0) then (if Z (n - 1) 0 = 10000 then 0 else 12) else 1
open Classical in
noncomputable def rendsV (n : Nat) (L : Nat → Nat) (Z : Nat → Nat → Int) : Int := if shapeV n L Z = 0 then endsV n L Z else shapeV n L Z
open Classical in
noncomputable def checkV (n : Nat) (L : Nat → Nat) (Z : Nat → Nat → Int) : Int :=
  if rendsV n L Z = 0 then (if OrdTo L Z n then (if ConTo L Z n then 0 else 13) else 8) else rendsV n L Z
theorem ends_arg {j : Nat} (hj : j < L 0) (h : Z 0 j ≠ 0) : endsV n L Z = 1 := by unfold endsV; rw [if_neg (fun g => h (g j hj))]
theorem ends_sum (h : ZeroTo Z (L 0)) (h' : Z (n - 1) 0 ≠ 10000) : endsV n L Z = 12 := by unfold endsV; rw [if_pos h, if_neg h']
theorem ends_ok (h : ZeroTo Z (L 0)) (h' : Z (n - 1) 0 = 10000) : endsV n L Z = 0 := by unfold endsV; rw [if_pos h, if_pos h']
theorem ends_zero (h : endsV n L Z = 0) : ZeroTo Z (L 0) ∧ Z (n - 1) 0 = 10000 := by
  unfold endsV at h
  split at h
  · split at h
    · rename_i h1 h2; exact ⟨h1, h2⟩
    · cases h
  · cases h
theorem rends_zero (h : rendsV n L Z = 0) : shapeV n L Z = 0 ∧ endsV n L Z = 0 := by
  unfold rendsV at h
  split at h
  · rename_i h1; exact ⟨h1, h⟩
  · exact absurd h ‹_›
theorem rends_shape (h : shapeV n L Z ≠ 0) : rendsV n L Z = shapeV n L Z := by unfold rendsV; rw [if_neg h]
theorem rends_ends (h : shapeV n L Z = 0) : rendsV n L Z = endsV n L Z := by unfold rendsV; rw [if_pos h]
theorem check_rends (h : rendsV n L Z ≠ 0) : checkV n L Z = rendsV n L Z := by unfold checkV; rw [if_neg h]
theorem check_ord (h : rendsV n L Z = 0) {u w : Nat} (hu : u < n) (hw : w < L u) (hv : ¬ OrdAt L Z u w) : checkV n L Z = 8 := by
  unfold checkV; rw [if_pos h, if_neg (fun g => hv (g u hu w hw))]
theorem check_con (h : rendsV n L Z = 0) (ho : OrdTo L Z n) {u w : Nat} (h2 : 2 ≤ u) (hu : u < n) (hw : w < L u) (hv : ¬ ConAt Z u w) : checkV n L Z = 13 := by
  unfold checkV; rw [if_pos h, if_pos ho, if_neg (fun g => hv (g u h2 hu w hw))]
theorem check_ok (h : rendsV n L Z = 0) (ho : OrdTo L Z n) (hc : ConTo L Z n) : checkV n L Z = 0 := by
  unfold checkV; rw [if_pos h, if_pos ho, if_pos hc]
theorem check_zero (h : checkV n L Z = 0) : rendsV n L Z = 0 ∧ OrdTo L Z n ∧ ConTo L Z n := by
  unfold checkV at h
  split at h
  · split at h
    · split at h
      · rename_i h1 h2 h3; exact ⟨h1, h2, h3⟩
      · cases h
    · cases h
  · exact absurd h ‹_›
theorem zero_zero : ZeroTo Z 0 := fun _ h => absurd h (by omega)
theorem zero_succ {k : Nat} (h : ZeroTo Z k) (hk : Z 0 k = 0) : ZeroTo Z (k + 1) := fun i hi => by
  rcases Nat.lt_or_ge i k with h1 | h1
  · exact h i h1
  · rw [show i = k by omega]; exact hk
theorem ordIn_zero {u : Nat} : OrdIn L Z u 0 := fun _ h => absurd h (by omega)
theorem ordIn_succ {u k : Nat} (h : OrdIn L Z u k) (hk : OrdAt L Z u k) : OrdIn L Z u (k + 1) := fun i hi => by
  rcases Nat.lt_or_ge i k with h1 | h1
  · exact h i h1
  · rw [show i = k by omega]; exact hk
theorem ord_zero : OrdTo L Z 0 := fun _ h => absurd h (by omega)
theorem ord_succ {k : Nat} (h : OrdTo L Z k) (hk : OrdIn L Z k (L k)) : OrdTo L Z (k + 1) := fun i hi => by
  rcases Nat.lt_or_ge i k with h1 | h1
  · exact h i h1
  · rw [show i = k by omega]; exact hk
theorem conIn_zero {u : Nat} : ConIn Z u 0 := fun _ h => absurd h (by omega)
theorem conIn_succ {u k : Nat} (h : ConIn Z u k) (hk : ConAt Z u k) : ConIn Z u (k + 1) := fun i hi => by
  rcases Nat.lt_or_ge i k with h1 | h1
  · exact h i h1
  · rw [show i = k by omega]; exact hk
theorem con_two : ConTo L Z 2 := fun _ h h' => absurd h (by omega)
theorem con_succ {k : Nat} (h : ConTo L Z k) (hk : ConIn Z k (L k)) : ConTo L Z (k + 1) := fun i h2 hi => by
  rcases Nat.lt_or_ge i k with h1 | h1
  · exact h i h2 h1
  · rw [show i = k by omega]; exact hk
theorem lens_zero : LensTo L 0 := fun _ h => absurd h (by omega)
theorem lens_succ {k : Nat} (h : LensTo L k) (hk : L k = L 0) : LensTo L (k + 1) := fun i hi => by
  rcases Nat.lt_or_ge i k with h1 | h1
  · exact h i h1
  · rw [show i = k by omega, hk]
theorem valsIn_zero {i : Nat} : ValsIn Z i 0 := fun _ h => absurd h (by omega)
theorem valsIn_succ {i k : Nat} (h : ValsIn Z i k) (hk : 0 ≤ Z i k ∧ Z i k ≤ 10000) : ValsIn Z i (k + 1) := fun j hj => by
  rcases Nat.lt_or_ge j k with h1 | h1
  · exact h j h1
  · rw [show j = k by omega]; exact hk
theorem vals_zero : ValsTo L Z 0 := fun _ h => absurd h (by omega)
theorem vals_succ {k : Nat} (h : ValsTo L Z k) (hk : ValsIn Z k (L k)) : ValsTo L Z (k + 1) := fun i hi => by
  rcases Nat.lt_or_ge i k with h1 | h1
  · exact h i h1
  · rw [show i = k by omega]; exact hk
end

end Go.Proofs.Ytoemcpndmfimiaa

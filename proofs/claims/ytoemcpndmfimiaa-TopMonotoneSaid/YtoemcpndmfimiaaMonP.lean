/-
  Plain numbers of TopMonotone: the step by which Above raises a table, its measure, and what its end says of the table.
-/
import Derived.Test.YtoemcpndmfimiaaResI
namespace Go.Proofs.Ytoemcpndmfimiaa
open Go.RowKit
set_option linter.unusedSimpArgs false

/-- The least number that a place may have because of its neighbours. -/
def wantV (n m : Nat) (Z : Nat → Nat → Int) (u w : Nat) : Int :=
  max (max (Z u w) (if w + 1 < m then Z u (w + 1) else Z u w)) (max (if 0 < u then Z (u - 1) w else Z u w) (if 0 < u ∧ u + 1 < n then (Z (u - 1) w + Z (u + 1) w + 1) / 2 else Z u w))
def upd (Z : Nat → Nat → Int) (u w : Nat) (v : Int) : Nat → Nat → Int := fun i j => if i = u ∧ j = w then v else Z i j
theorem upd_same (Z : Nat → Nat → Int) (u w : Nat) (v : Int) : upd Z u w v u w = v := by simp [upd]
theorem upd_ne (Z : Nat → Nat → Int) {u w i j : Nat} (v : Int) (h : ¬ (i = u ∧ j = w)) : upd Z u w v i j = Z i j := by unfold upd; rw [if_neg h]
def sumN (f : Nat → Nat) : Nat → Nat
  | 0 => 0
  | k + 1 => sumN f k + f k
theorem sumN_le {f g : Nat → Nat} : ∀ {k : Nat}, (∀ i, i < k → f i ≤ g i) → sumN f k ≤ sumN g k
  | 0, _ => Nat.le_refl _
  | k + 1, h => Nat.add_le_add (sumN_le fun i hi => h i (by omega)) (h k (by omega))
theorem sumN_lt {f g : Nat → Nat} : ∀ {k : Nat}, (∀ i, i < k → f i ≤ g i) → (∃ j, j < k ∧ f j < g j) → sumN f k < sumN g k
  | 0, _, ⟨j, hj, _⟩ => absurd hj (by omega)
  | k + 1, h, ⟨j, hj, hlt⟩ => by
    have h1 := h k (by omega)
    by_cases e : j = k
    · subst e
      have := sumN_le (k := j) (f := f) (g := g) fun i hi => h i (by omega)
      simp only [sumN]; omega
    · have := sumN_lt (k := k) (f := f) (g := g) (fun i hi => h i (by omega)) ⟨j, by omega, hlt⟩
      simp only [sumN]; omega
theorem sumN_congr {f g : Nat → Nat} {k : Nat} (h : ∀ i, i < k → f i = g i) : sumN f k = sumN g k :=
  Nat.le_antisymm (sumN_le fun i hi => by rw [h i hi]; exact Nat.le_refl _) (sumN_le fun i hi => by rw [h i hi]; exact Nat.le_refl _)
/-- How far a table is from the top. -/
def mu (n m : Nat) (Z : Nat → Nat → Int) : Nat := sumN (fun u => sumN (fun w => (10000 - Z u w).toNat) m) n
theorem mu_congr {n m : Nat} {Z Z' : Nat → Nat → Int} (h : ∀ i j, i < n → j < m → Z i j = Z' i j) : mu n m Z = mu n m Z' :=
  sumN_congr fun i hi => sumN_congr fun j hj => by rw [h i j hi hj]
theorem mu_upd {n m : Nat} {Z : Nat → Nat → Int} {u w : Nat} {v : Int} (hu : u < n) (hw : w < m) (h : Z u w < v) (h' : v ≤ 10000) : mu n m (upd Z u w v) < mu n m Z := by
  have hc : ∀ i j, (10000 - upd Z u w v i j).toNat ≤ (10000 - Z i j).toNat := fun i j => by
    by_cases e : i = u ∧ j = w
    · obtain ⟨rfl, rfl⟩ := e; rw [upd_same]; omega
    · rw [upd_ne Z v e]; exact Nat.le_refl _
  refine sumN_lt (fun i _ => sumN_le fun j _ => hc i j) ⟨u, hu, sumN_lt (fun j _ => hc u j) ⟨w, hw, ?_⟩⟩
  rw [upd_same]; omega

/-- What the least table needs of another one. -/
structure Vald (n m : Nat) (U : Nat → Nat → Int) : Prop where
  mon : ∀ u w, u + 1 < n → w < m → U u w ≤ U (u + 1) w
  fall : ∀ u w, u < n → w + 1 < m → U u (w + 1) ≤ U u w
  con : ∀ u w, u + 2 < n → w < m → U (u + 2) w + U u w ≤ 2 * U (u + 1) w
structure Good (n m : Nat) (R Z : Nat → Nat → Int) : Prop where
  lo : ∀ u w, u < n → w < m → R u w ≤ Z u w
  nn : ∀ u w, u < n → w < m → 0 ≤ Z u w ∧ Z u w ≤ 10000
  zero : ∀ w, w < m → Z 0 w = 0
  least : ∀ U, Vald n m U → (∀ u w, u < n → w < m → R u w ≤ U u w) → ∀ u w, u < n → w < m → Z u w ≤ U u w
section
variable {n m : Nat} {R Z : Nat → Nat → Int}
theorem want_ge {u w : Nat} : Z u w ≤ wantV n m Z u w := by unfold wantV; omega
theorem want_vald {U : Nat → Nat → Int} (h : Vald n m U) (hZ : ∀ u w, u < n → w < m → Z u w ≤ U u w) {u w : Nat} (hu : u < n) (hw : w < m) : wantV n m Z u w ≤ U u w := by
  have a1 := hZ u w hu hw
  have a2 : w + 1 < m → Z u (w + 1) ≤ U u w := fun k => by have := hZ u (w + 1) hu k; have := h.fall u w hu k; omega
  have a3 : 0 < u → Z (u - 1) w ≤ U u w := fun k => by
    have := hZ (u - 1) w (by omega) hw; have := h.mon (u - 1) w (by omega) hw
    rw [show u - 1 + 1 = u by omega] at this; omega
  have a4 : 0 < u ∧ u + 1 < n → (Z (u - 1) w + Z (u + 1) w + 1) / 2 ≤ U u w := fun k => by
    have := hZ (u - 1) w (by omega) hw; have := hZ (u + 1) w (by omega) hw; have := h.con (u - 1) w (by omega) hw
    rw [show u - 1 + 1 = u by omega, show u - 1 + 2 = u + 1 by omega] at this; omega
  unfold wantV
  by_cases b1 : w + 1 < m <;> by_cases b2 : 0 < u <;> by_cases b3 : u + 1 < n <;> simp only [b1, b2, b3, if_true, if_false, and_true, and_false, true_and, false_and] <;>
    (try have c2 := a2 b1) <;> (try have c3 := a3 b2) <;> (try have c4 := a4 ⟨b2, b3⟩) <;> clear a2 a3 a4 <;> omega
theorem want_bd (h : Good n m R Z) {u w : Nat} (hu : u < n) (hw : w < m) : 0 ≤ wantV n m Z u w ∧ wantV n m Z u w ≤ 10000 ∧ (u = 0 → wantV n m Z u w = 0) := by
  have a1 := h.nn u w hu hw
  have a2 : w + 1 < m → Z u (w + 1) ≤ 10000 := fun k => (h.nn u (w + 1) hu k).2
  have a3 : 0 < u → Z (u - 1) w ≤ 10000 := fun k => (h.nn (u - 1) w (by omega) hw).2
  have a4 : 0 < u ∧ u + 1 < n → (Z (u - 1) w + Z (u + 1) w + 1) / 2 ≤ 10000 := fun k => by
    have := h.nn (u - 1) w (by omega) hw; have := h.nn (u + 1) w (by omega) hw; omega
  have a5 : u = 0 → Z u w = 0 := fun k => by subst k; exact h.zero w hw
  have a6 : u = 0 → w + 1 < m → Z u (w + 1) = 0 := fun k k' => by subst k; exact h.zero (w + 1) k'
  unfold wantV
  by_cases b1 : w + 1 < m <;> by_cases b2 : 0 < u <;> by_cases b3 : u + 1 < n <;> simp only [b1, b2, b3, if_true, if_false, and_true, and_false, true_and, false_and] <;>
    (try have c2 := a2 b1) <;> (try have c3 := a3 b2) <;> (try have c4 := a4 ⟨b2, b3⟩) <;> clear a2 a3 a4 <;> refine ⟨?_, ?_, ?_⟩ <;> (try intro k) <;> (try have d5 := a5 k) <;> (try have d6 := a6 k b1) <;> clear a5 a6 <;> omega
theorem good_step (h : Good n m R Z) {u w : Nat} (hu : u < n) (hw : w < m) : Good n m R (upd Z u w (wantV n m Z u w)) := by
  obtain ⟨k1, k2, k3⟩ := want_bd h hu hw
  refine ⟨fun i j hi hj => ?_, fun i j hi hj => ?_, fun j hj => ?_, fun U hU hR i j hi hj => ?_⟩
  case refine_3 =>
    by_cases e : 0 = u ∧ j = w
    · obtain ⟨rfl, rfl⟩ := e
      rw [upd_same]; exact k3 rfl
    · rw [upd_ne _ _ e]; exact h.zero j hj
  all_goals
    by_cases e : i = u ∧ j = w
    · obtain ⟨rfl, rfl⟩ := e
      rw [upd_same]
      first
        | exact ⟨k1, k2⟩
        | exact want_vald hU (h.least U hU hR) hi hj
        | (have := h.lo i j hi hj; have := @want_ge n m Z i j; omega)
    · rw [upd_ne _ _ e]
      first
        | exact h.nn i j hi hj
        | exact h.least U hU hR i j hi hj
        | exact h.lo i j hi hj
/-- Nothing is left to do. -/
def Stable (n m : Nat) (Z : Nat → Nat → Int) : Prop := ∀ u w, u < n → w < m → wantV n m Z u w ≤ Z u w
/-- What a pass over some places has done: nothing, and the places of S want nothing; or something. -/
def Pass (n m : Nat) (Z : Nat → Nat → Int) (S : Nat → Nat → Prop) (c : Bool) (Z' : Nat → Nat → Int) : Prop :=
  (c = false ∧ Z' = Z ∧ ∀ u w, u < n → w < m → S u w → wantV n m Z u w ≤ Z u w) ∨ (c = true ∧ mu n m Z' < mu n m Z)
theorem pass_nil : Pass n m Z (fun _ _ => False) false Z := .inl ⟨rfl, rfl, fun _ _ _ _ h => h.elim⟩
theorem pass_keep {S S' : Nat → Nat → Prop} {c : Bool} {Z' : Nat → Nat → Int} {u w : Nat} (h : Pass n m Z S c Z') (hs : ∀ i j, i < n → j < m → S' i j → S i j ∨ (i = u ∧ j = w)) (hw : wantV n m Z' u w ≤ Z' u w) : Pass n m Z S' c Z' := by
  rcases h with ⟨h1, rfl, h3⟩ | h
  · refine .inl ⟨h1, rfl, fun i j hi hj hS => ?_⟩
    rcases hs i j hi hj hS with k | ⟨rfl, rfl⟩
    · exact h3 i j hi hj k
    · exact hw
  · exact .inr h
theorem pass_turn {S S' : Nat → Nat → Prop} {c : Bool} {Z' : Nat → Nat → Int} {u w : Nat} (hG : Good n m R Z') (h : Pass n m Z S c Z') (hu : u < n) (hj : w < m) (hw : Z' u w < wantV n m Z' u w) :
    Pass n m Z S' true (upd Z' u w (wantV n m Z' u w)) := by
  have hl := mu_upd hu hj hw (want_bd hG hu hj).2.1
  rcases h with ⟨_, rfl, _⟩ | ⟨_, h⟩
  · exact .inr ⟨rfl, hl⟩
  · exact .inr ⟨rfl, by omega⟩
theorem pass_trans {S S' S'' : Nat → Nat → Prop} {c c' : Bool} {Z' Z'' : Nat → Nat → Int} (h : Pass n m Z S c Z') (h' : Pass n m Z' S' c' Z'') (hs : ∀ i j, i < n → j < m → S'' i j → S i j ∨ S' i j) : Pass n m Z S'' (c' || c) Z'' := by
  rcases h with ⟨rfl, rfl, h3⟩ | ⟨rfl, h3⟩
  · rcases h' with ⟨rfl, rfl, k3⟩ | ⟨rfl, k3⟩
    · refine .inl ⟨rfl, rfl, fun i j hi hj hS => ?_⟩
      rcases hs i j hi hj hS with k | k
      · exact h3 i j hi hj k
      · exact k3 i j hi hj k
    · exact .inr ⟨rfl, k3⟩
  · rcases h' with ⟨rfl, rfl, k3⟩ | ⟨rfl, k3⟩
    · exact .inr ⟨rfl, h3⟩
    · exact .inr ⟨rfl, by omega⟩
theorem want_parts (h : Stable n m Z) : Vald n m Z := by
  refine ⟨fun u w hu hw => ?_, fun u w hu hw => ?_, fun u w hu hw => ?_⟩
  · have := h (u + 1) w hu hw
    unfold wantV at this
    rw [if_pos (show 0 < u + 1 by omega), show u + 1 - 1 = u by omega] at this
    omega
  · have := h u w hu (by omega)
    unfold wantV at this
    rw [if_pos hw] at this
    omega
  · have := h (u + 1) w (by omega) hw
    unfold wantV at this
    rw [if_pos (show 0 < u + 1 ∧ u + 1 + 1 < n by omega), show u + 1 - 1 = u by omega] at this
    have e : u + 1 + 1 = u + 2 := by omega
    rw [e] at this
    omega
/-- A raised table that wants nothing is valid. -/
theorem check_of {L : Nat → Nat} (h : Good n (L 0) R Z) (hs : Stable n (L 0) Z) (h1 : 2 ≤ n) (h2 : n ≤ 91) (h3 : 1 ≤ L 0) (h4 : L 0 ≤ 10) (hL : LensTo L n) (hR : R (n - 1) 0 = 10000) : checkV n L Z = 0 := by
  have hv := want_parts hs
  have hv0 : shapeV n L Z = 0 := shape_ok (by omega) (by omega) hL fun i hi j hj => h.nn i j hi (by rw [← hL i hi]; exact hj)
  have e0 : endsV n L Z = 0 := ends_ok (fun j hj => h.zero j hj) (by have := h.lo (n - 1) 0 (by omega) (by omega); have := h.nn (n - 1) 0 (by omega) (by omega); omega)
  have r0 : rendsV n L Z = 0 := by rw [rends_ends hv0]; exact e0
  refine check_ok r0 (fun u hu w hw => ?_) (fun u hu hu' w hw => ?_)
  · have hL0 := hL u hu
    rw [hL0] at hw
    refine ord_mk ?_ ?_
    · rcases Nat.eq_zero_or_pos u with k | k
      · exact .inl k
      · have := hv.mon (u - 1) w (by omega) hw
        rw [show u - 1 + 1 = u by omega] at this
        exact .inr this
    · by_cases k : w + 1 < L 0
      · exact .inr (hv.fall u w hu k)
      · exact .inl (by omega)
  · have hL0 := hL u hu'
    rw [hL0] at hw
    have := hv.con (u - 2) w (by omega) hw
    unfold ConAt
    rw [show u - 2 + 2 = u by omega, show u - 2 + 1 = u - 1 by omega] at this
    omega
theorem vald_of {L : Nat → Nat} (h : checkV n L Z = 0) : Vald n (L 0) Z := by
  obtain ⟨f1, f2, f3, f4, f5, f6, f7, f8, f9, f10, f11⟩ := check_facts h
  exact ⟨f9, f10, fun u w hu hw => by have := f11 u w hu hw; omega⟩
theorem good_start (hR : ∀ u w, u < n → w < m → 0 ≤ R u w ∧ R u w ≤ 10000) (h0 : ∀ w, w < m → R 0 w = 0) : Good n m R R :=
  ⟨fun _ _ _ _ => Int.le_refl _, hR, h0, fun _ _ h => h⟩
end
/-! What is left, over stops. -/
section
variable {n : Nat} {L : Nat → Nat} {Z : Nat → Nat → Int}
theorem at_in {p b w : Int} (hc : checkV n L Z = 0) (hr : AtR n L p b w) : atE n L Z p b w = 0 := by
  by_cases hw : w = (L 0 : Int)
  · exact (at_all hc hr hw).2
  · exact (at_some hc hr hw).2
theorem at_up {p b w : Int} (hc : checkV n L Z = 0) : ∀ (k : Nat), AtR n L p b w → AtR n L p (b + k) w → atV n L Z p b w ≤ atV n L Z p (b + k) w
  | 0, _, _ => by simp
  | k + 1, h, h' => by
    have h1 : AtR n L p (b + k) w := ⟨h.1, h.2.1, by have := h.2.2.1; omega, by have := h'.2.2.2.1; omega, h.2.2.2.2⟩
    have e : b + ((k + 1 : Nat) : Int) = b + k + 1 := by omega
    rw [e] at h' ⊢
    exact Int.le_trans (at_up hc k h h1) (at_mono (at_in hc h1) (at_in hc h'))
theorem at_upto {p b b' w : Int} (hc : checkV n L Z = 0) (h : AtR n L p b w) (h' : AtR n L p b' w) (hb : b ≤ b') : atV n L Z p b w ≤ atV n L Z p b' w := by
  obtain ⟨k, hk⟩ := Int.eq_ofNat_of_zero_le (show 0 ≤ b' - b by omega)
  obtain rfl : b' = b + k := by omega
  exact at_up hc k h h'
theorem at_down {p b : Int} (hc : checkV n L Z = 0) : ∀ (k : Nat), AtR n L p b k → atV n L Z p b k ≤ atV n L Z p b 0
  | 0, _ => Int.le_refl _
  | k + 1, h => by
    have h1 : AtR n L p b k := ⟨h.1, h.2.1, h.2.2.1, h.2.2.2.1, by omega, by have := h.2.2.2.2.2; omega⟩
    have e : ((k + 1 : Nat) : Int) = (k : Int) + 1 := by omega
    rw [e] at h ⊢
    exact Int.le_trans (at_wicket (at_in hc h1) (at_in hc h)) (at_down hc k h1)
theorem at_downto {p b w : Int} (hc : checkV n L Z = 0) (h : AtR n L p b w) : atV n L Z p b w ≤ atV n L Z p b 0 := by
  obtain ⟨k, rfl⟩ := Int.eq_ofNat_of_zero_le h.2.2.2.2.1
  exact at_down hc k h
end
end Go.Proofs.Ytoemcpndmfimiaa

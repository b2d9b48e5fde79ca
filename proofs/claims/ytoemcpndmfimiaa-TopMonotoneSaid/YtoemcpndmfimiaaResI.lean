/-
  What At gives: it ends where it must, does not fall with the balls nor rise with the wickets, and grows ever less. Plain numbers.
-/
import Derived.Test.YtoemcpndmfimiaaResG
namespace Go.Proofs.Ytoemcpndmfimiaa
open Go.RowKit
set_option linter.unusedSimpArgs false

section
variable {n : Nat} {L : Nat → Nat} {Z : Nat → Nat → Int} {p : Int}
theorem atN_eq {u r w : Nat} (h0 : 1 ≤ p) (hr : (r : Int) < p) : atN Z p (p * u + r) (w : Int) = Z u w * (p - r) + Z (u + 1) w * r := by
  have e1 : (p * (u : Int) + r) / p = u := by
    rw [Int.add_comm, Int.add_mul_ediv_left _ _ (by omega), Int.ediv_eq_zero_of_lt (by omega) hr]; omega
  have e2 : (p * (u : Int) + r) % p = r := by
    rw [Int.add_comm, Int.add_mul_emod_self_left, Int.emod_eq_of_lt (by omega) hr]
  unfold atN
  rw [e1, e2]
  by_cases h : (0 : Int) < r
  · rw [if_pos h]; simp
  · have : r = 0 := by omega
    subst this
    simp
/-- Any number of balls, in overs and the rest. -/
theorem balls_form {b : Int} (h0 : 1 ≤ p) (hb : 0 ≤ b) : ∃ u r : Nat, b = p * u + r ∧ (r : Int) < p := by
  have e := Int.mul_ediv_add_emod b p
  obtain ⟨u, hu⟩ := Int.eq_ofNat_of_zero_le (Int.ediv_nonneg hb (by omega : 0 ≤ p))
  obtain ⟨r, hr⟩ := Int.eq_ofNat_of_zero_le (Int.emod_nonneg b (b := p) (by omega))
  have := Int.emod_lt_of_pos b (b := p) (by omega)
  exact ⟨u, r, by rw [hu, hr] at e; omega, by omega⟩
theorem balls_lt {u r m : Nat} (h0 : 1 ≤ p) (h : p * (u : Int) + r < (m : Int) * p) : u < m := by
  have : (u : Int) * p < (m : Int) * p := by rw [Int.mul_comm]; omega
  have := Int.lt_of_mul_lt_mul_right this (by omega)
  omega
theorem balls_le {u r m : Nat} (h0 : 1 ≤ p) (h : p * (u : Int) + r ≤ (m : Int) * p) : u ≤ m ∧ (u = m → r = 0) := by
  have h1 : (u : Int) * p ≤ (m : Int) * p := by rw [Int.mul_comm]; omega
  have h2 := Int.le_of_mul_le_mul_right h1 (by omega)
  refine ⟨by omega, fun e => ?_⟩
  subst e
  rw [Int.mul_comm] at h
  omega
/-- One ball more: what it adds. -/
theorem atN_step {u r w : Nat} (h0 : 1 ≤ p) (hr : (r : Int) < p) : atN Z p (p * u + r + 1) (w : Int) - atN Z p (p * u + r) (w : Int) = Z (u + 1) w - Z u w := by
  rw [atN_eq h0 hr]
  by_cases h : (r : Int) + 1 < p
  · have : p * (u : Int) + r + 1 = p * (u : Int) + ((r + 1 : Nat) : Int) := by omega
    rw [this, atN_eq h0 (by omega)]
    have e : ((r + 1 : Nat) : Int) = (r : Int) + 1 := by omega
    rw [e, show p - ((r : Int) + 1) = p - r - 1 by omega, Int.mul_sub (Z u w) (p - r), Int.mul_add (Z (u + 1) w)]
    omega
  · have e : (r : Int) = p - 1 := by omega
    have : p * (u : Int) + r + 1 = p * ((u + 1 : Nat) : Int) + ((0 : Nat) : Int) := by
      rw [e, show ((u + 1 : Nat) : Int) = (u : Int) + 1 by omega, Int.mul_add]; omega
    rw [this, atN_eq h0 (by omega), e]
    simp [Int.mul_sub]
    omega
/-- What the checks of a table say. -/
theorem check_facts (h : checkV n L Z = 0) : 2 ≤ n ∧ n ≤ 91 ∧ 1 ≤ L 0 ∧ L 0 ≤ 10 ∧ (∀ u, u < n → L u = L 0) ∧ (∀ u w, u < n → w < L 0 → 0 ≤ Z u w ∧ Z u w ≤ 10000) ∧
    (∀ w, w < L 0 → Z 0 w = 0) ∧ Z (n - 1) 0 = 10000 ∧ (∀ u w, u + 1 < n → w < L 0 → Z u w ≤ Z (u + 1) w) ∧ (∀ u w, u < n → w + 1 < L 0 → Z u (w + 1) ≤ Z u w) ∧
    (∀ u w, u + 2 < n → w < L 0 → Z (u + 2) w - Z (u + 1) w ≤ Z (u + 1) w - Z u w) := by
  obtain ⟨hr, ho, hc⟩ := check_zero h
  obtain ⟨hs, he⟩ := rends_zero hr
  obtain ⟨n1, n2, l1, l2, hL, hV⟩ := shape_zero hs
  obtain ⟨z1, z2⟩ := ends_zero he
  refine ⟨n1, n2, l1, l2, hL, fun u w hu hw => hV u hu w (by rw [hL u hu]; exact hw), z1, z2, fun u w hu hw => ?_, fun u w hu hw => ?_, fun u w hu hw => ?_⟩
  · have := ho (u + 1) hu w (by rw [hL (u + 1) hu]; exact hw)
    unfold OrdAt at this
    simp at this
    omega
  · have := ho u hu w (by rw [hL u hu]; omega)
    unfold OrdAt at this
    rw [hL u hu] at this
    simp at this
    have := this.2 hw
    omega
  · exact hc (u + 2) (by omega) hu w (by rw [hL (u + 2) hu]; exact hw)
theorem at_err {b w : Int} (h : atE n L Z p b w ≠ 0) : atV n L Z p b w = 0 := by
  by_cases hc : checkV n L Z = 0
  · by_cases hr : AtR n L p b w
    · by_cases hw : w = (L 0 : Int)
      · exact absurd (at_all hc hr hw).2 h
      · exact absurd (at_some hc hr hw).2 h
    · exact (at_range hc hr).1
  · exact (at_check hc).1
theorem at_okay {b w : Int} (h : atE n L Z p b w = 0) : checkV n L Z = 0 ∧ AtR n L p b w := by
  by_cases hc : checkV n L Z = 0
  · refine ⟨hc, ?_⟩
    by_cases hr : AtR n L p b w
    · exact hr
    · have := (at_range hc hr).2
      omega
  · have := (@at_check n L Z p b w hc).2
    omega
/-- The value, in overs and the rest, the last wicket let in. -/
theorem at_val {u r w : Nat} (hc : checkV n L Z = 0) (hr : AtR n L p (p * u + r) (w : Int)) (hp : (r : Int) < p) :
    atV n L Z p (p * u + r) (w : Int) = if w < L 0 then Z u w * (p - r) + Z (u + 1) w * r else 0 := by
  by_cases hw : (w : Int) = (L 0 : Int)
  · rw [(at_all hc hr hw).1, if_neg (by omega)]
  · have := hr.2.2.2.2.2
    rw [(at_some hc hr hw).1, if_pos (by omega), atN_eq hr.1 hp]
theorem at_bd {b w : Int} : 0 ≤ atV n L Z p b w ∧ atV n L Z p b w ≤ 200000 := by
  by_cases h : atE n L Z p b w = 0
  · obtain ⟨hc, hr⟩ := at_okay h
    obtain ⟨f1, f2, f3, f4, f5, f6, _⟩ := check_facts hc
    obtain ⟨w, rfl⟩ := Int.eq_ofNat_of_zero_le hr.2.2.2.2.1
    obtain ⟨u, r, rfl, hp⟩ := balls_form hr.1 hr.2.2.1
    rw [at_val hc hr hp]
    split
    · rename_i hw
      have hle := hr.2.2.2.1
      rw [show ((n : Int) - 1) = ((n - 1 : Nat) : Int) by omega] at hle
      obtain ⟨g1, g2⟩ := balls_le hr.1 hle
      obtain ⟨z1, z2⟩ := f6 u w (by omega) hw
      obtain ⟨a1, a2⟩ := mul_bd (y := p - r) z1 z2 (by omega) (show p - r ≤ 8 by have := hr.2.1; omega)
      by_cases hz : r = 0
      · subst hz; simp at a1 a2 ⊢; omega
      · obtain ⟨z3, z4⟩ := f6 (u + 1) w (by omega) hw
        obtain ⟨a3, a4⟩ := mul_bd (y := (r : Int)) z3 z4 (by omega) (show (r : Int) ≤ 8 by have := hr.2.1; omega)
        omega
    · omega
  · rw [at_err h]; omega
/-- P37.6: one wicket more never raises what is left. -/
theorem at_wicket {b w : Int} (h : atE n L Z p b w = 0) (h' : atE n L Z p b (w + 1) = 0) : atV n L Z p b (w + 1) ≤ atV n L Z p b w := by
  obtain ⟨hc, hr⟩ := at_okay h
  obtain ⟨_, hr'⟩ := at_okay h'
  obtain ⟨f1, f2, f3, f4, f5, f6, _, _, _, f10, _⟩ := check_facts hc
  obtain ⟨w, rfl⟩ := Int.eq_ofNat_of_zero_le hr.2.2.2.2.1
  obtain ⟨u, r, rfl, hp⟩ := balls_form hr.1 hr.2.2.1
  have hb := (@at_bd n L Z p (p * u + r) (w : Int)).1
  have e : (w : Int) + 1 = ((w + 1 : Nat) : Int) := by omega
  rw [e] at hr' ⊢
  rw [at_val hc hr' hp, at_val hc hr hp]
  rw [at_val hc hr hp] at hb
  have hle := hr.2.2.2.1
  rw [show ((n : Int) - 1) = ((n - 1 : Nat) : Int) by omega] at hle
  obtain ⟨g1, g2⟩ := balls_le hr.1 hle
  by_cases hw : w + 1 < L 0
  · rw [if_pos hw, if_pos (by omega)]
    have a1 := Int.mul_le_mul_of_nonneg_right (f10 u w (by omega) hw) (show 0 ≤ p - r by omega)
    by_cases hz : r = 0
    · subst hz; simp at a1 ⊢; exact a1
    · have a2 := Int.mul_le_mul_of_nonneg_right (f10 (u + 1) w (by omega) hw) (show (0 : Int) ≤ r by omega)
      omega
  · rw [if_neg hw]; exact hb
/-- The step of one ball. -/
theorem at_ball {u r w : Nat} (hc : checkV n L Z = 0) (h : AtR n L p (p * u + r) (w : Int)) (h' : AtR n L p (p * u + r + 1) (w : Int)) (hp : (r : Int) < p) :
    u + 1 < n ∧ atV n L Z p (p * u + r + 1) (w : Int) - atV n L Z p (p * u + r) (w : Int) = if w < L 0 then Z (u + 1) w - Z u w else 0 := by
  have hle := h'.2.2.2.1
  have n1 := (check_facts hc).1
  rw [show ((n : Int) - 1) = ((n - 1 : Nat) : Int) by omega] at hle
  have hlt := balls_lt (m := n - 1) (u := u) (r := r) h.1 (by omega)
  refine ⟨by omega, ?_⟩
  by_cases hw : (w : Int) = (L 0 : Int)
  · rw [(at_all hc h hw).1, (at_all hc h' hw).1, if_neg (by omega)]; omega
  · have := h.2.2.2.2.2
    rw [(at_some hc h hw).1, (at_some hc h' hw).1, if_pos (by omega), atN_step h.1 hp]
theorem at_mono {b w : Int} (h : atE n L Z p b w = 0) (h' : atE n L Z p (b + 1) w = 0) : atV n L Z p b w ≤ atV n L Z p (b + 1) w := by
  obtain ⟨hc, hr⟩ := at_okay h
  obtain ⟨_, hr'⟩ := at_okay h'
  obtain ⟨f1, f2, f3, f4, f5, f6, _, _, f9, f10, _⟩ := check_facts hc
  obtain ⟨w, rfl⟩ := Int.eq_ofNat_of_zero_le hr.2.2.2.2.1
  obtain ⟨u, r, rfl, hp⟩ := balls_form hr.1 hr.2.2.1
  obtain ⟨g1, g2⟩ := at_ball hc hr hr' hp
  split at g2
  · have := f9 u w g1 ‹_›; omega
  · omega
theorem at_next {b w : Int} (h : atE n L Z p b w = 0) (h' : atE n L Z p (b + 1) w ≠ 0) : b = ((n : Int) - 1) * p := by
  obtain ⟨hc, h1, h2, h3, h4, h5, h6⟩ := at_okay h
  by_cases hx : b + 1 ≤ ((n : Int) - 1) * p
  · exfalso
    have hr : AtR n L p (b + 1) w := ⟨h1, h2, by omega, hx, h5, h6⟩
    by_cases hw : w = (L 0 : Int)
    · exact h' (at_all hc hr hw).2
    · exact h' (at_some hc hr hw).2
  · omega
theorem at_prev {b w : Int} (h : atE n L Z p b w = 0) (h' : atE n L Z p (b - 1) w ≠ 0) : b = 0 := by
  obtain ⟨hc, h1, h2, h3, h4, h5, h6⟩ := at_okay h
  by_cases hx : 0 ≤ b - 1
  · exfalso
    have hr : AtR n L p (b - 1) w := ⟨h1, h2, by omega, by omega, h5, h6⟩
    by_cases hw : w = (L 0 : Int)
    · exact h' (at_all hc hr hw).2
    · exact h' (at_some hc hr hw).2
  · omega
theorem at_less {b w : Int} (h : atE n L Z p b w = 0) (h' : atE n L Z p (b + 1) w = 0) (h'' : atE n L Z p (b - 1) w = 0) :
    atV n L Z p (b + 1) w - atV n L Z p b w ≤ atV n L Z p b w - atV n L Z p (b - 1) w := by
  obtain ⟨hc, hr⟩ := at_okay h
  obtain ⟨_, hr'⟩ := at_okay h'
  obtain ⟨_, hr''⟩ := at_okay h''
  obtain ⟨f1, f2, f3, f4, f5, f6, _, _, f9, f10, f11⟩ := check_facts hc
  obtain ⟨w, rfl⟩ := Int.eq_ofNat_of_zero_le hr.2.2.2.2.1
  have hp1 := hr.1
  have hb1 := hr''.2.2.1
  obtain ⟨v, s, hv, hs⟩ := balls_form hr.1 hr''.2.2.1
  have hb : b = p * v + s + 1 := by omega
  subst hb
  have e : p * (v : Int) + s + 1 - 1 = p * (v : Int) + s := by omega
  rw [e] at hr'' ⊢
  obtain ⟨g1, g2⟩ := at_ball hc hr'' hr hs
  by_cases hlt : (s : Int) + 1 < p
  · have e2 : p * (v : Int) + s + 1 = p * (v : Int) + ((s + 1 : Nat) : Int) := by omega
    rw [e2] at hr hr' g2 ⊢
    obtain ⟨_, g4⟩ := at_ball hc hr hr' (by omega)
    rw [g4, g2]
    omega
  · have e2 : p * (v : Int) + s + 1 = p * ((v + 1 : Nat) : Int) + ((0 : Nat) : Int) := by
      rw [show (s : Int) = p - 1 by omega, show ((v + 1 : Nat) : Int) = (v : Int) + 1 by omega, Int.mul_add]; omega
    rw [e2] at hr hr' g2 ⊢
    obtain ⟨g3, g4⟩ := at_ball hc hr hr' (by omega)
    rw [g4, g2]
    split
    · exact f11 v w g3 ‹_›
    · omega
/-- P37.3: the ends. -/
theorem at_full (hc : checkV n L Z = 0) (h1 : 1 ≤ p) (h2 : p ≤ 8) : atV n L Z p (((n : Int) - 1) * p) 0 = 10000 * p ∧ atE n L Z p (((n : Int) - 1) * p) 0 = 0 := by
  obtain ⟨f1, f2, f3, f4, f5, f6, _, f8, _⟩ := check_facts hc
  have hr : AtR n L p (((n : Int) - 1) * p) 0 := ⟨h1, h2, Int.mul_nonneg (by omega) (by omega), Int.le_refl _, Int.le_refl _, by omega⟩
  have hw : (0 : Int) ≠ (L 0 : Int) := by omega
  obtain ⟨e1, e2⟩ := at_some hc hr hw
  refine ⟨?_, e2⟩
  have e : ((n : Int) - 1) * p = p * ((n - 1 : Nat) : Int) + ((0 : Nat) : Int) := by rw [Int.mul_comm, show ((n - 1 : Nat) : Int) = (n : Int) - 1 by omega]; omega
  rw [e1, e]
  have := @atN_eq Z p (n - 1) 0 0 h1 (by omega)
  have e0 : ((0 : Nat) : Int) = 0 := rfl
  rw [e0] at this ⊢
  rw [this, f8]
  simp
theorem at_none {w : Int} (hc : checkV n L Z = 0) (h1 : 1 ≤ p) (h2 : p ≤ 8) (h3 : 0 ≤ w) (h4 : w ≤ (L 0 : Int)) : atV n L Z p 0 w = 0 ∧ atE n L Z p 0 w = 0 := by
  obtain ⟨f1, f2, f3, f4, f5, f6, f7, _⟩ := check_facts hc
  have hr : AtR n L p 0 w := ⟨h1, h2, Int.le_refl _, Int.mul_nonneg (by omega) (by omega), h3, h4⟩
  by_cases hw : w = (L 0 : Int)
  · exact at_all hc hr hw
  · obtain ⟨e1, e2⟩ := at_some hc hr hw
    refine ⟨?_, e2⟩
    obtain ⟨k, rfl⟩ := Int.eq_ofNat_of_zero_le h3
    rw [e1]
    unfold atN
    simp [f7 k (by omega)]
theorem at_lost {b : Int} (hc : checkV n L Z = 0) (h1 : 1 ≤ p) (h2 : p ≤ 8) (h3 : 0 ≤ b) (h4 : b ≤ ((n : Int) - 1) * p) : atV n L Z p b (L 0 : Int) = 0 ∧ atE n L Z p b (L 0 : Int) = 0 :=
  at_all hc ⟨h1, h2, h3, h4, by omega, Int.le_refl _⟩ rfl
end

end Go.Proofs.Ytoemcpndmfimiaa

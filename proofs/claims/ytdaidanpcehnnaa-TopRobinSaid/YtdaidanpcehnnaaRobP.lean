/-
  What the fixtures of a round robin are, by reckoning: the teams, how often two meet, how often one plays.
-/
import Derived.Test.YtdaidanpcehnnaaRobF
namespace Go.Proofs.Ytdaidanpcehnnaa
open Go.RowKit

/-- Is fixture i one of the teams a and b? -/
def isPair (l : List Fx) (a b i : Nat) : Bool := (min (homeOf l i) (awayOf l i) == a) && (max (homeOf l i) (awayOf l i) == b)
def hasTeam (l : List Fx) (t i : Nat) : Bool := homeOf l i == t || awayOf l i == t
/-- How many of the first k. -/
def countTo (p : Nat → Bool) : Nat → Nat
  | 0 => 0
  | k + 1 => countTo p k + (if p k then 1 else 0)
def goodN (n : Nat) (d : Bool) : Bool :=
  let l := roundsL n d
  let w := if d then 2 else 1
  decide (l.length ≤ 30) && l.all (fun x => decide (x.2.1 < n) && decide (x.2.2 < n) && decide (x.2.1 ≠ x.2.2) && decide (x.1 ≤ 100)) &&
    (List.range n).all (fun i => decide (countTo (hasTeam l i) l.length = w * (n - 1)) && (List.range i).all fun j => decide (countTo (isPair l j i) l.length = w))
set_option maxRecDepth 100000 in
theorem good_all {n : Nat} (d : Bool) (h0 : 2 ≤ n) (h1 : n ≤ 6) : goodN n d = true := by
  have : n = 2 ∨ n = 3 ∨ n = 4 ∨ n = 5 ∨ n = 6 := by omega
  rcases this with rfl | rfl | rfl | rfl | rfl <;> cases d <;> decide +kernel
def wantN (d : Bool) : Nat := if d then 2 else 1
theorem good_facts {n : Nat} (d : Bool) (h0 : 2 ≤ n) (h1 : n ≤ 6) : (roundsL n d).length ≤ 30 ∧ (∀ x ∈ roundsL n d, x.2.1 < n ∧ x.2.2 < n ∧ x.2.1 ≠ x.2.2 ∧ x.1 ≤ 100) ∧
    (∀ i, i < n → countTo (hasTeam (roundsL n d) i) (roundsL n d).length = wantN d * (n - 1)) ∧ (∀ i j, i < n → j < i → countTo (isPair (roundsL n d) j i) (roundsL n d).length = wantN d) := by
  have h := good_all d h0 h1
  unfold goodN at h
  simp only [Bool.and_eq_true, decide_eq_true_eq, List.all_eq_true, List.mem_range] at h
  obtain ⟨⟨a, b⟩, c⟩ := h
  exact ⟨a, fun x hx => by have := b x hx; exact ⟨this.1.1.1, this.1.1.2, this.1.2, this.2⟩, fun i hi => (c i hi).1, fun i j hi hj => (c i hi).2 j hj⟩
theorem count_le (p : Nat → Bool) : ∀ k, countTo p k ≤ k
  | 0 => Nat.le_refl _
  | k + 1 => by have := count_le p k; unfold countTo; split <;> omega

end Go.Proofs.Ytdaidanpcehnnaa

/-
  season, known, plays, taken of layer 49; seasonAwake.
-/
import Derived.Test.YtdaidanpcehnnaaRobD
import Derived.Test.YtdaidanpcehnnaaRobA
namespace Go.Proofs.Ytdaidanpcehnnaa
open Go.RowKit
set_option linter.unusedSimpArgs false

/-- Placed fixtures: k of them, in cells. -/
def plC (l : List Fx) (ds gr : Nat → Int) (i : Nat) : List Value := [.int .i64 (l.getD i (0, 0, 0)).1, .int .i64 (l.getD i (0, 0, 0)).2.1, .int .i64 (l.getD i (0, 0, 0)).2.2, .int .i64 (ds i), .int .i64 (gr (l.getD i (0, 0, 0)).2.1)]
def plV (l : List Fx) (ds gr : Nat → Int) : Nat → List Value
  | 0 => []
  | k + 1 => plV l ds gr k ++ plC l ds gr k
theorem plV_len (l : List Fx) (ds gr : Nat → Int) : ∀ k, (plV l ds gr k).length = k * 5
  | 0 => rfl
  | k + 1 => by simp [plV, plC, plV_len l ds gr k]; omega
theorem plV_at (l : List Fx) (ds gr : Nat → Int) (j : Nat) (hj : j < 5) : ∀ (k i : Nat), i < k → (plV l ds gr k)[i * 5 + j]? = (plC l ds gr i)[j]?
  | 0, _, h => absurd h (by omega)
  | k + 1, i, h => by
    rcases Nat.lt_or_ge i k with h1 | h1
    · rw [plV, List.getElem?_append_left (by rw [plV_len]; omega)]
      exact plV_at l ds gr j hj k i h1
    · obtain rfl : i = k := by omega
      rw [plV, List.getElem?_append_right (by rw [plV_len]; omega), plV_len, show i * 5 + j - i * 5 = j by omega]
theorem plV_congr (l : List Fx) {ds ds' gr : Nat → Int} : ∀ {k : Nat}, (∀ i, i < k → ds i = ds' i) → plV l ds gr k = plV l ds' gr k
  | 0, _ => rfl
  | k + 1, h => by rw [plV, plV, plV_congr l (k := k) (fun i hi => h i (by omega))]; simp [plC, h k (by omega)]
def homeOf (l : List Fx) (i : Nat) : Nat := (l.getD i (0, 0, 0)).2.1
def awayOf (l : List Fx) (i : Nat) : Nat := (l.getD i (0, 0, 0)).2.2

theorem plays_any (w : World) (r h a t : Int) : Calls Try.prog 14 #[.agg #[.int .i64 r, .int .i64 h, .int .i64 a], .int .i64 t] w fun e w' => e = .returned (.bool (h == t || a == t)) ∧ Ext w w' := by
  by_cases h1 : h = t
  · have q1 : (h == t) = true := by simp [h1]
    have HV : Hid ((h == t || a == t) = true) := by simp [Hid, h1]
    clear h1
    go_enter Try.func14, Try.ntmps14
    go_wp2
    go_ret
    exact ⟨retb HV.out.symm, (Ext.refl _).alloc _⟩
  · have q1 : (h == t) = false := by simp [h1]
    have HV : Hid ((h == t || a == t) = (a == t)) := by simp [Hid, h1]
    clear h1
    go_enter Try.func14, Try.ntmps14
    go_wp2
    all_goals
      go_ret
      exact ⟨retb (by first | exact HV.out.symm | (rw [HV.out]; simp_all; done)), (Ext.refl _).alloc _⟩

set_option maxHeartbeats 1000000 in
theorem known_ok (w : World) (r F R : Int) (h a n : Nat) (A : Option Addr) (c : Nat) (hh : h < n) (ha : a < n) (hne : h ≠ a) :
    Calls Try.prog 13 #[.agg #[.int .i64 r, .int .i64 h, .int .i64 a], .agg #[.int .i64 F, .int .i64 R, .slice A n c]] w fun e w' => e = .returned (.bool true) ∧ Ext w w' := by
  have q1 : ((h : Int) != (a : Int)) = true := by simp; omega
  go_enter Try.func13, Try.ntmps13
  go_wp2
  go_ret
  exact ⟨retb (by first | rfl | (simp; done) | (simp [*]; done) | (simp; omega)), ((Ext.refl _).alloc _).alloc _⟩

set_option maxHeartbeats 2000000 in
theorem season_ok (w : World) (k F R : Int) (n gb : Nat) (h : Nat → Int) (hk : k ≤ 400) (hn : n ≤ 20) (hF0 : 0 ≤ F) (hF1 : F ≤ 109572) (hR0 : 0 ≤ R) (hR1 : R ≤ 400) (hr : w.rowIs gb 3 n (nums h)) (hh : ∀ j, j < n → 0 ≤ h j ∧ h j < 20) :
    Calls Try.prog 12 #[.int .i64 k, .agg #[.int .i64 F, .int .i64 R, .slice (some ⟨gb, 0, none⟩) n n]] w fun e w' => e = .returned (.int .i64 0) ∧ Ext w w' := by
  have hg := hr.lt
  replace hr := Lib.hid hr
  replace hh := Lib.hid hh
  go_enter Try.func12, Try.ntmps12
  go_wp2
  go_loop [6, 38] (fun _ i => ∃ j : Nat, j ≤ n ∧ i = .int .i64 j) (fun _ i => n - (intOf i).toNat)
  case atStart => exact ⟨0, Nat.zero_le _, rfl⟩
  case round =>
    obtain ⟨j, hj, rfl⟩ := hrel
    by_cases hlt : j < n
    · have hc : w.cell? ⟨gb, j, none⟩ = some (.int .i64 (h j)) := hr.out.cell hlt
      obtain ⟨d0, d1⟩ := hh.out j hlt
      go_wp2
      go_round
      case rel => exact ⟨j + 1, by omega, by go_num⟩
      case measure => simp [intOf]; omega
    · obtain rfl : j = n := by omega
      go_wp2
      go_ret
      exact ⟨rfl, (Ext.refl _).alloc _⟩

/-- Is a ground taken on a day, among k placed fixtures? -/
def Takes (l : List Fx) (ds gr : Nat → Int) (g d : Int) (j : Nat) : Prop := gr (homeOf l j) = g ∧ ds j = d
def TakenP (w : World) (l : List Fx) (ds gr : Nat → Int) (k : Nat) (g d : Int) (e : Ending) (w' : World) : Prop :=
  ∃ b : Bool, e = .returned (.bool b) ∧ Ext w w' ∧ (b = true → ∃ j, j < k ∧ Takes l ds gr g d j) ∧ (b = false → ∀ j, j < k → ¬ Takes l ds gr g d j)

set_option maxHeartbeats 4000000 in
theorem taken_any (w : World) (l : List Fx) (ds gr : Nat → Int) (k : Nat) (g d : Int) (v : Value) {base : Nat} (hv : w.ownsRow base 41 5 v k (plV l ds gr k)) (hk : k ≤ 400) :
    Calls Try.prog 15 #[v, .int .i64 g, .int .i64 d] w (TakenP w l ds gr k g d) := by
  obtain ⟨A, c, rfl, hA⟩ : ∃ A c, v = .slice A k c ∧ (0 < k → ∃ b, A = some ⟨b, 0, none⟩ ∧ ∀ i u, (plV l ds gr k)[i]? = some u → w.cell? ⟨b, i, none⟩ = some u) := by
    rcases hv.2 with ⟨rfl, rfl⟩ | ⟨b, cap, cur, rfl, _, _, _⟩
    · exact ⟨none, 0, rfl, fun h => absurd h (by omega)⟩
    · exact ⟨_, cap, rfl, fun _ => ⟨b, rfl, fun i u hu => own_cell_any hv hu⟩⟩
  replace hA := Lib.hid hA
  clear hv
  go_enter Try.func15, Try.ntmps15
  go_wp2
  go_loopw [8, 11] (fun _ i wr => ∃ j : Nat, j ≤ k ∧ i = .int .i64 j ∧ Ext w wr ∧ ∀ j', j' < j → ¬ Takes l ds gr g d j') (fun _ i _ => k - (intOf i).toNat)
  case atStart => exact ⟨0, Nat.zero_le _, rfl, Ext.refl _, fun _ h => absurd h (by omega)⟩
  case round =>
    obtain ⟨j, hj, rfl, hX, hT⟩ := hrel
    have HT := Lib.hid hT
    clear hT
    by_cases hlt : j < k
    · obtain ⟨b, rfl, hc⟩ := hA.out (by omega)
      have c0 : wr.cell? ⟨b, j * 5, none⟩ = some (.int .i64 (l.getD j (0, 0, 0)).1) := hX.keep (hc _ _ ((plV_at l ds gr 0 (by omega) k j hlt).trans rfl))
      have c1 : wr.cell? ⟨b, j * 5 + 1, none⟩ = some (.int .i64 (l.getD j (0, 0, 0)).2.1) := hX.keep (hc _ _ ((plV_at l ds gr 1 (by omega) k j hlt).trans rfl))
      have c2 : wr.cell? ⟨b, j * 5 + 2, none⟩ = some (.int .i64 (l.getD j (0, 0, 0)).2.2) := hX.keep (hc _ _ ((plV_at l ds gr 2 (by omega) k j hlt).trans rfl))
      have c3 : wr.cell? ⟨b, j * 5 + 3, none⟩ = some (.int .i64 (ds j)) := hX.keep (hc _ _ ((plV_at l ds gr 3 (by omega) k j hlt).trans rfl))
      have c4 : wr.cell? ⟨b, j * 5 + 4, none⟩ = some (.int .i64 (gr (homeOf l j))) := hX.keep (hc _ _ ((plV_at l ds gr 4 (by omega) k j hlt).trans rfl))
      generalize (l.getD j (0, 0, 0)) = x at c0 c1 c2
      obtain ⟨x0, x1, x2⟩ := x
      dsimp only at c0 c1 c2
      obtain ⟨G, hG⟩ : ∃ G, G = gr (homeOf l j) := ⟨_, rfl⟩
      rw [← hG] at c4
      by_cases h1 : G = g
      · by_cases h2 : ds j = d
        · have q1 : (G == g) = true := by simp [h1]
          have q2 : (ds j == d) = true := by simp [h2]
          have HV : Hid (Takes l ds gr g d j) := ⟨by rw [← hG]; exact h1, h2⟩
          clear h1 h2 hG hc
          go_wp2
          go_ret
          exact ⟨true, rfl, hX.alloc _, fun _ => ⟨j, hlt, HV.out⟩, fun h => by cases h⟩
        · have q1 : (G == g) = true := by simp [h1]
          have q2 : (ds j == d) = false := by simp [h2]
          have HV : Hid (¬ Takes l ds gr g d j) := fun h => h2 h.2
          clear h1 h2 hG hc
          go_wp2
          go_roundw
          case rel =>
            refine ⟨j + 1, by omega, by go_num, hX.alloc _, fun j' hj' => ?_⟩
            by_cases e : j' = j
            · subst e; exact HV.out
            · exact HT.out j' (by omega)
          case measure => simp [intOf]; omega
      · have q1 : (G == g) = false := by simp [h1]
        have HV : Hid (¬ Takes l ds gr g d j) := fun h => h1 (by rw [hG]; exact h.1)
        clear h1 hG hc
        go_wp2
        go_roundw
        case rel =>
          refine ⟨j + 1, by omega, by go_num, hX.alloc _, fun j' hj' => ?_⟩
          by_cases e : j' = j
          · subst e; exact HV.out
          · exact HT.out j' (by omega)
        case measure => simp [intOf]; omega
    · obtain rfl : j = k := by omega
      go_wp2
      go_ret
      exact ⟨false, rfl, hX, (fun h => by cases h), fun _ => HT.out⟩

set_option maxHeartbeats 1000000 in
theorem awake_any (w : World) : Calls Try.prog 4 #[] w fun e w' => e = .returned (.bool true) ∧ Ext w w' := by
  have HR := Lib.hid (fun W => rounds_any W 2 false (by omega) (by omega))
  have HL : Hid ((roundsL 2 false).length = 1) := by unfold Hid; decide
  go_enter Try.func4, Try.ntmps4
  go_wp2_with fail
  refine (HR.out _).mono ?_
  rintro e w1 ⟨v, rfl, hE, hown⟩
  obtain ⟨g, cap, rfl, _, _⟩ := own_form hown (by rw [HL.out]; omega)
  rw [HL.out]
  clear hown
  go_wp2_with (go_at_call 10; refine (day_march _).mono ?_; rintro e w' ⟨rfl, rfl⟩)
  go_ret
  exact ⟨rfl, hE⟩

end Go.Proofs.Ytdaidanpcehnnaa

/-
  The calendar of layer 48: leap years, lengths, Day at one date, Date, Rest.
-/
import Derived.Test.YtdaidanpcehnnaaKit
namespace Go.Proofs.Ytdaidanpcehnnaa
open Go.RowKit
set_option linter.unusedSimpArgs false

def leapB (y : Int) : Bool := decide (y % 4 = 0) && (decide (y % 100 ≠ 0) || decide (y % 400 = 0))
def daysV (y : Int) : Int := if leapB y then 366 else 365
def lenV (y m : Int) : Int := if m = 4 ∨ m = 6 ∨ m = 9 ∨ m = 11 then 30 else if m = 2 then (if leapB y then 29 else 28) else 31
theorem days_bd (y : Int) : 365 ≤ daysV y ∧ daysV y ≤ 366 := by unfold daysV; split <;> omega
theorem len_bd (y m : Int) : 28 ≤ lenV y m ∧ lenV y m ≤ 31 := by unfold lenV; split <;> (try split) <;> (try split) <;> omega

set_option maxHeartbeats 2000000 in
theorem leap_any (w : World) (y : Int) (h0 : 0 ≤ y) (h1 : y ≤ 10000) : Calls Try.prog 19 #[.int .i64 y] w fun e w' => e = .returned (.bool (leapB y)) ∧ w = w' := by
  by_cases a : y % 4 = 0
  · have q1 : (y % 4 == 0) = true := by simp [a]
    by_cases b : y % 100 = 0
    · have q2 : (y % 100 != 0) = false := by simp [b]
      by_cases c : y % 400 = 0
      · have q3 : (y % 400 == 0) = true := by simp [c]
        have HV : Hid (leapB y = true) := by simp [Hid, leapB, a, c]
        clear a b c
        go_enter Try.func19, Try.ntmps19
        go_wp2
        go_ret
        exact ⟨retb HV.out.symm, rfl⟩
      · have q3 : (y % 400 == 0) = false := by simp [c]
        have HV : Hid (leapB y = false) := by simp [Hid, leapB, a, b, c]
        clear a b c
        go_enter Try.func19, Try.ntmps19
        go_wp2
        go_ret
        exact ⟨retb HV.out.symm, rfl⟩
    · have q2 : (y % 100 != 0) = true := by simp [b]
      have HV : Hid (leapB y = true) := by simp [Hid, leapB, a, b]
      clear a b
      go_enter Try.func19, Try.ntmps19
      go_wp2
      go_ret
      exact ⟨retb HV.out.symm, rfl⟩
  · have q1 : (y % 4 == 0) = false := by simp [a]
    have HV : Hid (leapB y = false) := by simp [Hid, leapB, a]
    clear a
    go_enter Try.func19, Try.ntmps19
    go_wp2
    go_ret
    exact ⟨retb HV.out.symm, rfl⟩

set_option maxHeartbeats 1000000 in
theorem days_any (w : World) (y : Int) (h0 : 0 ≤ y) (h1 : y ≤ 10000) : Calls Try.prog 17 #[.int .i64 y] w fun e w' => e = .returned (.int .i64 (daysV y)) ∧ w = w' := by
  cases hb : leapB y
  · have HB := Lib.hid hb
    have HV : Hid (daysV y = 365) := by simp [Hid, daysV, hb]
    clear hb
    go_enter Try.func17, Try.ntmps17
    go_wp2_with (go_at_call 19; refine (leap_any _ y h0 h1).mono ?_; rintro e w' ⟨rfl, rfl⟩; rw [HB.out])
    go_ret
    exact ⟨ret1 HV.out.symm, rfl⟩
  · have HB := Lib.hid hb
    have HV : Hid (daysV y = 366) := by simp [Hid, daysV, hb]
    clear hb
    go_enter Try.func17, Try.ntmps17
    go_wp2_with (go_at_call 19; refine (leap_any _ y h0 h1).mono ?_; rintro e w' ⟨rfl, rfl⟩; rw [HB.out])
    go_ret
    exact ⟨ret1 HV.out.symm, rfl⟩

set_option maxHeartbeats 2000000 in
theorem length_any (w : World) (y m : Int) (h0 : 0 ≤ y) (h1 : y ≤ 10000) : Calls Try.prog 18 #[.int .i64 y, .int .i64 m] w fun e w' => e = .returned (.int .i64 (lenV y m)) ∧ w = w' := by
  by_cases h : m = 4 ∨ m = 6 ∨ m = 9 ∨ m = 11
  · have HV : Hid (lenV y m = 30) := by simp [Hid, lenV, h]
    rcases h with rfl | rfl | rfl | rfl
    all_goals
      go_enter Try.func18, Try.ntmps18
      go_wp2
      go_ret
      exact ⟨ret1 HV.out.symm, rfl⟩
  · have q1 : (m == 4) = false := by simp; omega
    have q2 : (m == 6) = false := by simp; omega
    have q3 : (m == 9) = false := by simp; omega
    have q4 : (m == 11) = false := by simp; omega
    by_cases h2 : m = 2
    · subst h2
      cases hb : leapB y
      · have HB := Lib.hid hb
        have HV : Hid (lenV y 2 = 28) := by simp [Hid, lenV, hb]
        clear hb h q1 q2 q3 q4
        go_enter Try.func18, Try.ntmps18
        go_wp2_with (go_at_call 19; refine (leap_any _ y h0 h1).mono ?_; rintro e w' ⟨rfl, rfl⟩; rw [HB.out])
        go_ret
        exact ⟨ret1 HV.out.symm, rfl⟩
      · have HB := Lib.hid hb
        have HV : Hid (lenV y 2 = 29) := by simp [Hid, lenV, hb]
        clear hb h q1 q2 q3 q4
        go_enter Try.func18, Try.ntmps18
        go_wp2_with (go_at_call 19; refine (leap_any _ y h0 h1).mono ?_; rintro e w' ⟨rfl, rfl⟩; rw [HB.out])
        go_ret
        exact ⟨ret1 HV.out.symm, rfl⟩
    · have q5 : (m == 2) = false := by simp; omega
      have HV : Hid (lenV y m = 31) := by unfold Hid lenV; rw [if_neg h, if_neg h2]
      clear h h2
      go_enter Try.func18, Try.ntmps18
      go_wp2
      go_ret
      exact ⟨ret1 HV.out.symm, rfl⟩

theorem inside_ok (w : World) (d : Int) (h0 : 0 ≤ d) (h1 : d ≤ 109572) : Calls Try.prog 16 #[.int .i64 d] w fun e w' => e = .returned (.bool true) ∧ w = w' := by
  go_enter Try.func16, Try.ntmps16
  go_wp2
  go_ret
  exact ⟨retb (by first | (simp; done) | (simp; omega)), rfl⟩

set_option maxHeartbeats 2000000 in
theorem day_march (w : World) : Calls Try.prog 10 #[.int .i64 1900, .int .i64 3, .int .i64 1] w fun e w' => e = .returned (.tuple #[.int .i64 59, .int .i64 0]) ∧ w = w' := by
  have H1 : Hid (lenV 1900 1 = 31) := by unfold Hid; decide
  have H2 : Hid (lenV 1900 2 = 28) := by unfold Hid; decide
  have H3 : Hid (lenV 1900 3 = 31) := by unfold Hid; decide
  go_enter Try.func10, Try.ntmps10
  go_wp2_with (go_at_call 18; refine (length_any _ 1900 3 (by omega) (by omega)).mono ?_; rintro e w' ⟨rfl, rfl⟩; rw [H3.out])
  go_loop [8, 9] (fun n y => n = .int .i64 0 ∧ y = .int .i64 1900) (fun _ _ => 0)
  case atStart => exact ⟨rfl, rfl⟩
  case round =>
    obtain ⟨rfl, rfl⟩ := hrel
    go_wp2
    go_loop [8, 10] (fun n m => (n = .int .i64 0 ∧ m = .int .i64 1) ∨ (n = .int .i64 31 ∧ m = .int .i64 2) ∨ (n = .int .i64 59 ∧ m = .int .i64 3)) (fun _ m => 3 - (intOf m).toNat)
    case atStart => exact .inl ⟨rfl, rfl⟩
    case round =>
      rcases hrel with ⟨rfl, rfl⟩ | ⟨rfl, rfl⟩ | ⟨rfl, rfl⟩
      · go_wp2_with (go_at_call 18; refine (length_any _ 1900 1 (by omega) (by omega)).mono ?_; rintro e w' ⟨rfl, rfl⟩; rw [H1.out])
        go_round
        case rel => exact .inr (.inl ⟨rfl, rfl⟩)
        case measure => simp [intOf]
      · go_wp2_with (go_at_call 18; refine (length_any _ 1900 2 (by omega) (by omega)).mono ?_; rintro e w' ⟨rfl, rfl⟩; rw [H2.out])
        go_round
        case rel => exact .inr (.inr ⟨rfl, rfl⟩)
        case measure => simp [intOf]
      · go_wp2
        go_ret2
        exact ⟨rfl, rfl⟩

def DateP (w : World) (e : Ending) (w' : World) : Prop := ∃ y m d : Int, e = .returned (.tuple #[.int .i64 y, .int .i64 m, .int .i64 d, .int .i64 0]) ∧ w = w' ∧ 1900 ≤ y ∧ 1 ≤ m ∧ 1 ≤ d

set_option maxHeartbeats 4000000 in
theorem date_ok (w : World) (d : Int) (h0 : 0 ≤ d) (h1 : d ≤ 109572) : Calls Try.prog 8 #[.int .i64 d] w (DateP w) := by
  go_enter Try.func8, Try.ntmps8
  go_wp2_with (go_at_call 16; refine (inside_ok _ d h0 h1).mono ?_; rintro e w' ⟨rfl, rfl⟩)
  go_loop [0, 2] (fun s y => ∃ d1 y1 : Int, s = .int .i64 d1 ∧ y = .int .i64 y1 ∧ 0 ≤ d1 ∧ 1900 ≤ y1 ∧ d1 + 365 * (y1 - 1900) ≤ 109572) (fun s _ => (intOf s).toNat)
  case atStart => exact ⟨d, 1900, rfl, rfl, h0, by omega, by omega⟩
  case round =>
    obtain ⟨d1, y1, rfl, rfl, a1, a2, a3⟩ := hrel
    obtain ⟨b1, b2⟩ := days_bd y1
    by_cases hc : daysV y1 ≤ d1
    · go_wp2_with (go_at_call 17; refine (days_any _ y1 (by omega) (by omega)).mono ?_; rintro e w' ⟨rfl, rfl⟩)
      go_round
      case rel => exact ⟨d1 - daysV y1, y1 + 1, by go_num, by go_num, by omega, by omega, by omega⟩
      case measure => simp [intOf]; omega
    · have hc' : d1 < daysV y1 := by omega
      clear hc
      go_wp2_with (go_at_call 17; refine (days_any _ y1 (by omega) (by omega)).mono ?_; rintro e w' ⟨rfl, rfl⟩)
      go_loop [0, 3] (fun s m => ∃ d2 m2 : Int, s = .int .i64 d2 ∧ m = .int .i64 m2 ∧ 0 ≤ d2 ∧ 1 ≤ m2 ∧ d2 + 28 * (m2 - 1) ≤ 366) (fun s _ => (intOf s).toNat)
      case atStart => exact ⟨d1, 1, rfl, rfl, a1, by omega, by omega⟩
      case round =>
        obtain ⟨d2, m2, rfl, rfl, c1, c2, c3⟩ := hrel
        obtain ⟨l1, l2⟩ := len_bd y1 m2
        by_cases he : lenV y1 m2 ≤ d2
        · go_wp2_with (go_at_call 18; refine (length_any _ y1 m2 (by omega) (by omega)).mono ?_; rintro e w' ⟨rfl, rfl⟩)
          go_round
          case rel => exact ⟨d2 - lenV y1 m2, m2 + 1, by go_num, by go_num, by omega, by omega, by omega⟩
          case measure => simp [intOf]; omega
        · have he' : d2 < lenV y1 m2 := by omega
          clear he
          go_wp2_with (go_at_call 18; refine (length_any _ y1 m2 (by omega) (by omega)).mono ?_; rintro e w' ⟨rfl, rfl⟩)
          refine bodyPost_ret (v := .tuple #[.int .i64 y1, .int .i64 m2, .int .i64 (d2 + 1), .int .i64 0]) (by simp [results, Try.results8, go_sem, *]) rfl ?_
          exact ⟨y1, m2, d2 + 1, rfl, rfl, a2, c2, by omega⟩

/-- k numbers in memory, behind a slice. -/
structure NumsAt (w : World) (v : Value) (k : Nat) (f : Nat → Int) : Prop where
  form : ∃ (A : Option Addr) (c : Nat), v = .slice A k c ∧ (0 < k → ∃ g o, A = some ⟨g, o, none⟩ ∧ g < w.heap.size ∧ ∀ j, j < k → w.cell? ⟨g, o + j, none⟩ = some (.int .i64 (f j)))

set_option maxHeartbeats 4000000 in
theorem rest_ok (w : World) (v : Value) (k : Nat) (f : Nat → Int) (R : Int) (N : NumsAt w v k f) (hk : k ≤ 400) (h0 : 0 ≤ R) (h1 : R ≤ 400) (hd : ∀ j, j < k → 0 ≤ f j ∧ f j ≤ 109572) (hr : ∀ j, j + 1 < k → f j + R < f (j + 1)) :
    Calls Try.prog 9 #[v, .int .i64 R] w fun e w' => e = .returned (.tuple #[.int .i64 (-1), .int .i64 0]) ∧ Ext w w' := by
  obtain ⟨A, c, rfl, hN⟩ := N.form
  replace hN := Lib.hid hN
  go_enter Try.func9, Try.ntmps9
  go_wp2
  go_loop [7, 22] (fun _ i => ∃ j : Nat, j ≤ k ∧ i = .int .i64 j) (fun _ i => k - (intOf i).toNat)
  case atStart => exact ⟨0, Nat.zero_le _, rfl⟩
  case round =>
    obtain ⟨j, hj, rfl⟩ := hrel
    by_cases hlt : j < k
    · obtain ⟨g, o, rfl, hg, hc⟩ := hN.out (by omega)
      have hc := hc j hlt
      obtain ⟨d0, d1⟩ := hd j hlt
      go_wp2_with (go_at_call 16; refine (inside_ok _ _ d0 d1).mono ?_; rintro e w' ⟨rfl, rfl⟩)
      go_round
      case rel => exact ⟨j + 1, by omega, by go_num⟩
      case measure => simp [intOf]; omega
    · obtain rfl : j = k := by omega
      go_wp2
      go_loopw [8] (fun i wr => ∃ m : Nat, (m ≤ j ∨ m = 1) ∧ 1 ≤ m ∧ i = .int .i64 m ∧ Ext w wr) (fun i _ => j - (intOf i).toNat)
      case atStart => exact ⟨1, .inr rfl, Nat.le_refl _, rfl, Ext.refl _⟩
      case round =>
        obtain ⟨m, hm, hm1, rfl, hX⟩ := hrel
        by_cases hlt2 : m < j
        · obtain ⟨g, o, rfl, hg, hc⟩ := hN.out (by omega)
          obtain ⟨t, rfl⟩ : ∃ t, m = t + 1 := ⟨m - 1, by omega⟩
          have c1 : wr.cell? ⟨g, o + (t + 1), none⟩ = some (.int .i64 (f (t + 1))) := hX.keep (hc (t + 1) hlt2)
          have c2 : wr.cell? ⟨g, o + t, none⟩ = some (.int .i64 (f t)) := hX.keep (hc t (by omega))
          obtain ⟨d0, d1⟩ := hd t (by omega)
          obtain ⟨d2, d3⟩ := hd (t + 1) hlt2
          have d4 := hr t hlt2
          have d5 : decide (f (t + 1) - f t ≤ R) = false := decide_eq_false (by omega)
          have t1 : (0 : Int) ≤ (t : Int) := by omega
          have t2 : (t : Int) < (j : Int) := by omega
          have t3 : (t : Int) + 1 < (j : Int) := by omega
          go_wp2
          go_quiet (fail)
          go_wp2
          go_roundw
          case rel => exact ⟨t + 1 + 1, by omega, by omega, by go_num, by first | exact hX | exact hX.drewN _ | exact hX.drew⟩
          case measure => simp [intOf]; omega
        · go_wp2
          go_ret2
          exact ⟨rfl, hX⟩

end Go.Proofs.Ytdaidanpcehnnaa

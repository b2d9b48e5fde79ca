/-
  Bounce of layer 31 (program and reference).
-/
import Derived.Test.YtaeblcgblmipaaaDoorCamA
namespace Go.Proofs.YtaeblcgblmipaaaDoor
open Go.RowKit
set_option linter.unusedSimpArgs false

/-- The first of the lowest among the first m observations. -/
def lowTo (f : Nat → Nat → Int) : Nat → Nat
  | 0 => 0
  | m + 1 => if f m 3 < f (lowTo f m) 3 then m else lowTo f m
theorem lowTo_lt (f : Nat → Nat → Int) : ∀ m, 0 < m → lowTo f m < m
  | 0, h => by omega
  | m + 1, _ => by
    unfold lowTo
    split
    · omega
    · rcases Nat.eq_zero_or_pos m with h | h
      · subst h; simp [lowTo]
      · have := lowTo_lt f m h; omega
theorem lowTo_le (f : Nat → Nat → Int) (m : Nat) : lowTo f m ≤ m := by
  rcases Nat.eq_zero_or_pos m with h | h
  · subst h; simp [lowTo]
  · have := lowTo_lt f m h; omega
def bnOk (n : Nat) (f : Nat → Nat → Int) : Bool := (ckE n f == 0) && !(lowTo f n == 0) && !(lowTo f n == n - 1) && !decide (1000 < f (lowTo f n) 3)
def bnK (n : Nat) (f : Nat → Nat → Int) : Int := if bnOk n f then (lowTo f n : Int) else 0
theorem bn_zero (f : Nat → Nat → Int) : bnOk 0 f = false := by
  have h : (lowTo f 0 == 0) = true := rfl
  rw [bnOk, h]; cases (ckE 0 f == 0) <;> rfl
theorem bn_no {n : Nat} {f : Nat → Nat → Int} (h : bnOk n f = false) : bnK n f = 0 := by simp [bnK, h]
theorem bn_yes {n : Nat} {f : Nat → Nat → Int} (h : bnOk n f = true) : bnK n f = (lowTo f n : Int) := by simp [bnK, h]

set_option maxHeartbeats 16000000 in
theorem bounce_any (A0 : Option Addr) (n C : Nat) (f : Nat → Nat → Int) (b off : Nat) (w : World) (T : SeenAt w A0 n f b off) :
    Calls Tryd.prog 13 #[.slice A0 n C] w fun e w' => e = .returned (.tuple #[.int .i64 (bnK n f), .bool (bnOk n f)]) ∧ Ext w w' := by
  have hn := T.nle
  rcases and1 (ckE n f == 0) with he | he
  · have HB : Hid (bnOk n f = false) := by simp [Hid, bnOk, he]
    obtain ⟨E, hEq⟩ : ∃ E : Int, ckE n f = E := ⟨_, rfl⟩
    rw [hEq] at he
    have HE := Lib.hid hEq
    clear hEq
    go_enter Tryd.func13, Tryd.ntmps13
    go_wp2_with (first | (go_at_call 11; refine (check_any _ _ _ _ _ _ _ T).mono ?_; rintro e w1 ⟨rfl, hb1⟩; rw [HE.out]))
    go_ret2
    exact ⟨by rw [bn_no HB.out, HB.out]; rfl, hb1⟩
  · have he0 : ckE n f = 0 := by simpa using he
    have HE := Lib.hid he0
    have HK := Lib.hid he
    clear he he0
    
    go_enter Tryd.func13, Tryd.ntmps13
    go_wp2_with (first | (go_at_call 11; refine (check_any _ _ _ _ _ _ _ T).mono ?_; rintro e w1 ⟨rfl, hb1⟩; rw [HE.out]))
    go_loopw [6, 18] (fun kk i wr => ∃ m : Nat, m ≤ n ∧ i = .int .i64 m ∧ kk = .int .i64 (lowTo f m : Nat) ∧ Ext w wr) (fun _ i _ => n - (intOf i).toNat)
    case atStart => exact ⟨0, by omega, rfl, rfl, hb1⟩
    case round =>
      obtain ⟨m, hm, rfl, rfl, hE⟩ := hrel
      by_cases hlt : m < n
      · have T2 := T.ext hE
        obtain ⟨hA, hb⟩ := T2.top (by omega)
        subst hA
        have c0 : wr.cell? ⟨b, off + m * 5, none⟩ = some (.int .i64 (f m 0)) := T2.cell m 0 hlt (by omega)
        have c1 := T2.cell m 1 hlt (by omega)
        have c2 := T2.cell m 2 hlt (by omega)
        have c3 := T2.cell m 3 hlt (by omega)
        have c4 := T2.cell m 4 hlt (by omega)
        have hl : lowTo f m < n := by have := lowTo_le f m; omega
        obtain ⟨q, hq⟩ : ∃ q : Nat, lowTo f m = q := ⟨_, rfl⟩
        have HS : Hid (lowTo f (m + 1) = if f m 3 < f q 3 then m else q) := by rw [Hid, lowTo, hq]
        rw [hq] at hl
        have d3 := T2.cell q 3 hl (by omega)
        rw [hq]
        clear T2 hq
        by_cases hlow : f m 3 < f q 3
        · have HS2 : Hid (lowTo f (m + 1) = m) := by rw [Hid, HS.out, if_pos hlow]
          go_wp2
          go_quiet (fail)
          go_wp2
          go_roundw
          case rel => exact ⟨m + 1, by omega, by go_num, by rw [HS2.out], (by repeat (first | exact hE | refine Ext.setCell ?_ (by first | exact Nat.le_refl _ | (simp; done) | (simp; omega)) _ | refine Ext.drew ?_ | refine Ext.drewN ?_ _ | refine Ext.alloc ?_ _))⟩
          case measure => simp [intOf]; omega
        · have HS2 : Hid (lowTo f (m + 1) = q) := by rw [Hid, HS.out, if_neg hlow]
          go_wp2
          go_quiet (fail)
          go_wp2
          go_roundw
          case rel => exact ⟨m + 1, by omega, by go_num, by rw [HS2.out], (by repeat (first | exact hE | refine Ext.setCell ?_ (by first | exact Nat.le_refl _ | (simp; done) | (simp; omega)) _ | refine Ext.drew ?_ | refine Ext.drewN ?_ _ | refine Ext.alloc ?_ _))⟩
          case measure => simp [intOf]; omega
      · obtain rfl : m = n := by omega
        have T2 := T.ext hE
        have hle := lowTo_le f m
        obtain ⟨q, hq⟩ : ∃ q : Nat, lowTo f m = q := ⟨_, rfl⟩
        have HQ := Lib.hid hq
        rw [hq] at hle
        rw [hq]
        by_cases h0 : q = 0
        · have HB : Hid (bnOk m f = false) := by simp [Hid, bnOk, HQ.out, h0]
          subst h0
          clear T2 hq
          (
            go_wp2
            go_ret2
            exact ⟨by rw [bn_no HB.out, HB.out]; rfl, (by repeat (first | exact hE | refine Ext.setCell ?_ (by first | exact Nat.le_refl _ | (simp; done) | (simp; omega)) _ | refine Ext.drew ?_ | refine Ext.drewN ?_ _ | refine Ext.alloc ?_ _))⟩
          )
        · have hpos : 0 < m := by omega
          have hqm : q < m := by rw [← hq]; exact lowTo_lt f m hpos
          obtain ⟨hA, hb⟩ := T2.top hpos
          subst hA
          have d3 := T2.cell q 3 hqm (by omega)
          have g0 : ¬ ((q : Int) = 0) := by omega
          have b0 : ((q : Int) == 0) = false := by simpa using g0
          clear T2 hq
          by_cases h1 : q = m - 1
          · have HB : Hid (bnOk m f = false) := by simp [Hid, bnOk, HQ.out, ← h1]
            have g1 : (q : Int) = (m : Int) - 1 := by omega
            have b1 : ((q : Int) == (m : Int) - 1) = true := by simpa using g1
            clear h1 g1
            go_wp2
            go_ret2
            exact ⟨by rw [bn_no HB.out, HB.out]; rfl, (by repeat (first | exact hE | refine Ext.setCell ?_ (by first | exact Nat.le_refl _ | (simp; done) | (simp; omega)) _ | refine Ext.drew ?_ | refine Ext.drewN ?_ _ | refine Ext.alloc ?_ _))⟩
          · have g1 : ¬ ((q : Int) = (m : Int) - 1) := by omega
            have b1 : ((q : Int) == (m : Int) - 1) = false := by simpa using g1
            by_cases h2 : 1000 < f q 3
            · have HB : Hid (bnOk m f = false) := by simp [Hid, bnOk, HQ.out, h2]
              go_wp2
              go_ret2
              exact ⟨by rw [bn_no HB.out, HB.out]; rfl, (by repeat (first | exact hE | refine Ext.setCell ?_ (by first | exact Nat.le_refl _ | (simp; done) | (simp; omega)) _ | refine Ext.drew ?_ | refine Ext.drewN ?_ _ | refine Ext.alloc ?_ _))⟩
            · have HB : Hid (bnOk m f = true) := by
                simp only [Hid, bnOk, HQ.out, HK.out]
                simp [h0, h1]; omega
              go_wp2
              go_ret2
              exact ⟨by rw [bn_yes HB.out, HB.out, HQ.out]; rfl, (by repeat (first | exact hE | refine Ext.setCell ?_ (by first | exact Nat.le_refl _ | (simp; done) | (simp; omega)) _ | refine Ext.drew ?_ | refine Ext.drewN ?_ _ | refine Ext.alloc ?_ _))⟩


set_option maxHeartbeats 16000000 in
theorem rbounce_any (A0 : Option Addr) (n C : Nat) (f : Nat → Nat → Int) (b off : Nat) (w : World) (T : SeenAt w A0 n f b off) :
    Calls Tryd.prog 14 #[.slice A0 n C] w fun e w' => e = .returned (.tuple #[.int .i64 (bnK n f), .bool (bnOk n f)]) ∧ Ext w w' := by
  have hn := T.nle
  rcases and1 (ckE n f == 0) with he | he
  · have HB : Hid (bnOk n f = false) := by simp [Hid, bnOk, he]
    obtain ⟨E, hEq⟩ : ∃ E : Int, ckE n f = E := ⟨_, rfl⟩
    rw [hEq] at he
    have HE := Lib.hid hEq
    clear hEq
    go_enter Tryd.func14, Tryd.ntmps14
    go_wp2_with (first | (go_at_call 12; refine (rcheck_any _ _ _ _ _ _ _ T).mono ?_; rintro e w1 ⟨rfl, hb1⟩; rw [HE.out]))
    go_ret2
    exact ⟨by rw [bn_no HB.out, HB.out]; rfl, hb1⟩
  · have he0 : ckE n f = 0 := by simpa using he
    have HE := Lib.hid he0
    have HK := Lib.hid he
    clear he he0
    by_cases hz : n = 0
    · have HB : Hid (bnOk n f = false) := by rw [Hid, hz]; exact bn_zero f
      subst hz
      go_enter Tryd.func14, Tryd.ntmps14
      go_wp2_with (first | (go_at_call 12; refine (rcheck_any _ _ _ _ _ _ _ T).mono ?_; rintro e w1 ⟨rfl, hb1⟩; rw [HE.out]))
      go_ret2
      exact ⟨by rw [bn_no HB.out, HB.out]; rfl, hb1⟩
    have hz1 : ((n : Int) == 0) = false := by simpa using hz
    clear hz
    go_enter Tryd.func14, Tryd.ntmps14
    go_wp2_with (first | (go_at_call 12; refine (rcheck_any _ _ _ _ _ _ _ T).mono ?_; rintro e w1 ⟨rfl, hb1⟩; rw [HE.out]))
    go_loopw [6, 23] (fun kk i wr => ∃ m : Nat, m ≤ n ∧ i = .int .i64 m ∧ kk = .int .i64 (lowTo f m : Nat) ∧ Ext w wr) (fun _ i _ => n - (intOf i).toNat)
    case atStart => exact ⟨0, by omega, rfl, rfl, hb1⟩
    case round =>
      obtain ⟨m, hm, rfl, rfl, hE⟩ := hrel
      by_cases hlt : m < n
      · have T2 := T.ext hE
        obtain ⟨hA, hb⟩ := T2.top (by omega)
        subst hA
        have c0 : wr.cell? ⟨b, off + m * 5, none⟩ = some (.int .i64 (f m 0)) := T2.cell m 0 hlt (by omega)
        have c1 := T2.cell m 1 hlt (by omega)
        have c2 := T2.cell m 2 hlt (by omega)
        have c3 := T2.cell m 3 hlt (by omega)
        have c4 := T2.cell m 4 hlt (by omega)
        have hl : lowTo f m < n := by have := lowTo_le f m; omega
        obtain ⟨q, hq⟩ : ∃ q : Nat, lowTo f m = q := ⟨_, rfl⟩
        have HS : Hid (lowTo f (m + 1) = if f m 3 < f q 3 then m else q) := by rw [Hid, lowTo, hq]
        rw [hq] at hl
        have d3 := T2.cell q 3 hl (by omega)
        rw [hq]
        clear T2 hq
        by_cases hlow : f m 3 < f q 3
        · have HS2 : Hid (lowTo f (m + 1) = m) := by rw [Hid, HS.out, if_pos hlow]
          go_wp2
          go_quiet (fail)
          go_wp2
          go_roundw
          case rel => exact ⟨m + 1, by omega, by go_num, by rw [HS2.out], (by repeat (first | exact hE | refine Ext.setCell ?_ (by first | exact Nat.le_refl _ | (simp; done) | (simp; omega)) _ | refine Ext.drew ?_ | refine Ext.drewN ?_ _ | refine Ext.alloc ?_ _))⟩
          case measure => simp [intOf]; omega
        · have HS2 : Hid (lowTo f (m + 1) = q) := by rw [Hid, HS.out, if_neg hlow]
          go_wp2
          go_quiet (fail)
          go_wp2
          go_roundw
          case rel => exact ⟨m + 1, by omega, by go_num, by rw [HS2.out], (by repeat (first | exact hE | refine Ext.setCell ?_ (by first | exact Nat.le_refl _ | (simp; done) | (simp; omega)) _ | refine Ext.drew ?_ | refine Ext.drewN ?_ _ | refine Ext.alloc ?_ _))⟩
          case measure => simp [intOf]; omega
      · obtain rfl : m = n := by omega
        have T2 := T.ext hE
        have hle := lowTo_le f m
        obtain ⟨q, hq⟩ : ∃ q : Nat, lowTo f m = q := ⟨_, rfl⟩
        have HQ := Lib.hid hq
        rw [hq] at hle
        rw [hq]
        by_cases h0 : q = 0
        · have HB : Hid (bnOk m f = false) := by simp [Hid, bnOk, HQ.out, h0]
          subst h0
          clear T2 hq
          (
            go_wp2
            go_ret2
            exact ⟨by rw [bn_no HB.out, HB.out]; rfl, (by repeat (first | exact hE | refine Ext.setCell ?_ (by first | exact Nat.le_refl _ | (simp; done) | (simp; omega)) _ | refine Ext.drew ?_ | refine Ext.drewN ?_ _ | refine Ext.alloc ?_ _))⟩
          )
        · have hpos : 0 < m := by omega
          have hqm : q < m := by rw [← hq]; exact lowTo_lt f m hpos
          obtain ⟨hA, hb⟩ := T2.top hpos
          subst hA
          have d3 := T2.cell q 3 hqm (by omega)
          have g0 : ¬ ((q : Int) = 0) := by omega
          have b0 : ((q : Int) == 0) = false := by simpa using g0
          clear T2 hq
          by_cases h1 : q = m - 1
          · have HB : Hid (bnOk m f = false) := by simp [Hid, bnOk, HQ.out, ← h1]
            have g1 : (q : Int) = (m : Int) - 1 := by omega
            have b1 : ((q : Int) == (m : Int) - 1) = true := by simpa using g1
            clear h1 g1
            go_wp2
            go_ret2
            exact ⟨by rw [bn_no HB.out, HB.out]; rfl, (by repeat (first | exact hE | refine Ext.setCell ?_ (by first | exact Nat.le_refl _ | (simp; done) | (simp; omega)) _ | refine Ext.drew ?_ | refine Ext.drewN ?_ _ | refine Ext.alloc ?_ _))⟩
          · have g1 : ¬ ((q : Int) = (m : Int) - 1) := by omega
            have b1 : ((q : Int) == (m : Int) - 1) = false := by simpa using g1
            by_cases h2 : 1000 < f q 3
            · have HB : Hid (bnOk m f = false) := by simp [Hid, bnOk, HQ.out, h2]
              go_wp2
              go_ret2
              exact ⟨by rw [bn_no HB.out, HB.out]; rfl, (by repeat (first | exact hE | refine Ext.setCell ?_ (by first | exact Nat.le_refl _ | (simp; done) | (simp; omega)) _ | refine Ext.drew ?_ | refine Ext.drewN ?_ _ | refine Ext.alloc ?_ _))⟩
            · have HB : Hid (bnOk m f = true) := by
                simp only [Hid, bnOk, HQ.out, HK.out]
                simp [h0, h1]; omega
              go_wp2
              go_ret2
              exact ⟨by rw [bn_yes HB.out, HB.out, HQ.out]; rfl, (by repeat (first | exact hE | refine Ext.setCell ?_ (by first | exact Nat.le_refl _ | (simp; done) | (simp; omega)) _ | refine Ext.drew ?_ | refine Ext.drewN ?_ _ | refine Ext.alloc ?_ _))⟩


end Go.Proofs.YtaeblcgblmipaaaDoor

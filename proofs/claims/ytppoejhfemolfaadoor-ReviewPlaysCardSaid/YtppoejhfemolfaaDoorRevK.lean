/-
  The reference's room of layer 36: its small functions.
-/
import Derived.Test.YtppoejhfemolfaaDoorRevH
import Derived.Test.YtppoejhfemolfaaDoorRNum
namespace Go.Proofs.YtppoejhfemolfaaDoor
open Go.RowKit
set_option linter.unusedSimpArgs false

def rcC (R : Rm) : Array Value := #[.int .i64 R.m, .int .i64 R.l0, .int .i64 R.l1, .int .i64 R.w0, .int .i64 R.w1, .int .i64 R.x0, .int .i64 R.x1, .int .i64 R.o0, .int .i64 R.o1, .int .i64 R.a, .int .u8 R.c]
theorem known_any (n : Int) (w : World) : Calls Tryd.prog 24 #[.int .i64 n] w fun e w' => e = .returned (.bool (sideB n)) ∧ w = w' := by
  by_cases h1 : n = 1
  · subst h1
    go_enter Tryd.func24, Tryd.ntmps24
    go_wp2
    go_ret
    exact ⟨rfl, rfl⟩
  · by_cases h2 : n = 2
    · subst h2
      go_enter Tryd.func24, Tryd.ntmps24
      go_wp2
      go_ret
      exact ⟨rfl, rfl⟩
    · have HV : Hid (sideB n = false) := by simp [Hid, sideB, h1, h2]
      go_enter Tryd.func24, Tryd.ntmps24
      go_wp2
      go_ret
      exact ⟨retb (by first | rfl | exact HV.out.symm), rfl⟩
theorem rleft_any (R : Rm) (n : Int) (w : World) : Calls Tryd.prog 27 #[.agg #[.int .i64 R.m, .int .i64 R.l0, .int .i64 R.l1, .int .i64 R.w0, .int .i64 R.w1, .int .i64 R.x0, .int .i64 R.x1, .int .i64 R.o0, .int .i64 R.o1, .int .i64 R.a, .int .u8 R.c], .int .i64 n] w fun e w' => e = .returned (.int .i64 (lfN R n)) ∧ Ext w w' := by
  rcases and1 (sideB n) with hs | hs
  · have HS := Lib.hid hs
    have HV : Hid (lfN R n = 0) := by
      have h1 : ¬ n = 1 := by rintro rfl; exact absurd hs (by decide)
      have h2 : ¬ n = 2 := by rintro rfl; exact absurd hs (by decide)
      simp [Hid, lfN, h1, h2]
    clear hs
    go_enter Tryd.func27, Tryd.ntmps27
    go_wp2_with (go_at_call 24; refine (known_any _ _).mono ?_; rintro e w' ⟨rfl, rfl⟩; rw [HS.out])
    go_ret
    exact ⟨by rw [HV.out]; rfl, (by repeat (first | exact Ext.refl _ | refine Ext.setCell ?_ (by first | exact Nat.le_refl _ | (simp; done) | (simp; omega)) _ | refine Ext.drew ?_ | refine Ext.drewN ?_ _ | refine Ext.alloc ?_ _))⟩
  · have HS := Lib.hid hs
    rcases side_cases hs with rfl | rfl
    all_goals
      clear hs
      go_enter Tryd.func27, Tryd.ntmps27
      go_wp2_with (go_at_call 24; refine (known_any _ _).mono ?_; rintro e w' ⟨rfl, rfl⟩; rw [HS.out])
      go_ret
      exact ⟨rfl, (by repeat (first | exact Ext.refl _ | refine Ext.setCell ?_ (by first | exact Nat.le_refl _ | (simp; done) | (simp; omega)) _ | refine Ext.drew ?_ | refine Ext.drewN ?_ _ | refine Ext.alloc ?_ _))⟩
set_option maxHeartbeats 8000000 in
theorem rcount_any (R : Rm) (n : Int) (w : World) (hB : R.small) : Calls Tryd.prog 26 #[.agg #[.int .i64 R.m, .int .i64 R.l0, .int .i64 R.l1, .int .i64 R.w0, .int .i64 R.w1, .int .i64 R.x0, .int .i64 R.x1, .int .i64 R.o0, .int .i64 R.o1, .int .i64 R.a, .int .u8 R.c], .int .i64 n] w fun e w' => e = .returned (cntV R n) ∧ Ext w w' := by
  obtain ⟨b1, b2, b3, b4, b5, b6, b7, b8, b9⟩ := hB
  rcases and1 (sideB n) with hs | hs
  · have HS := Lib.hid hs
    have HV : Hid (asN R n = 0 ∧ wnN R n = 0 ∧ lsN R n = 0 ∧ opN R n = 0) := by
      have h1 : ¬ n = 1 := by rintro rfl; exact absurd hs (by decide)
      have h2 : ¬ n = 2 := by rintro rfl; exact absurd hs (by decide)
      simp [Hid, asN, wnN, lsN, opN, h1, h2, hs]
    clear hs
    go_enter Tryd.func26, Tryd.ntmps26
    go_wp2_with (go_at_call 24; refine (known_any _ _).mono ?_; rintro e w' ⟨rfl, rfl⟩; rw [HS.out])
    refine bodyPost_ret (v := .tuple #[.int .i64 0, .int .i64 0, .int .i64 0, .int .i64 0]) (by (simp [results, Tryd.results26, go_sem, *]); first | done | rfl | (simp [rcC, *]; done)) rfl ?_
    exact ⟨by rw [cntV, HV.out.1, HV.out.2.1, HV.out.2.2.1, HV.out.2.2.2], (by repeat (first | exact Ext.refl _ | refine Ext.setCell ?_ (by first | exact Nat.le_refl _ | (simp; done) | (simp; omega)) _ | refine Ext.drew ?_ | refine Ext.drewN ?_ _ | refine Ext.alloc ?_ _))⟩
  · have HS := Lib.hid hs
    rcases side_cases hs with rfl | rfl
    · clear hs
      by_cases ha : R.a = 1
      · have HV : Hid (asN R 1 = R.w0 + R.x0 + R.o0 + 1) := by simp [Hid, asN, wnN, lsN, opN, sideB, ha]
        go_enter Tryd.func26, Tryd.ntmps26
        go_wp2_with (go_at_call 24; refine (known_any _ _).mono ?_; rintro e w' ⟨rfl, rfl⟩; rw [HS.out])
        go_quiet (fail)
        go_wp2
        go_quiet (fail)
        go_wp2
        refine bodyPost_ret (v := .tuple #[.int .i64 (R.w0 + R.x0 + R.o0 + 1), .int .i64 R.w0, .int .i64 R.x0, .int .i64 R.o0]) (by (simp [results, Tryd.results26, go_sem, *]); first | done | rfl | (simp [rcC, *]; done)) rfl ?_
        exact ⟨by rw [cntV, HV.out]; rfl, (by repeat (first | exact Ext.refl _ | refine Ext.setCell ?_ (by first | exact Nat.le_refl _ | (simp; done) | (simp; omega)) _ | refine Ext.drew ?_ | refine Ext.drewN ?_ _ | refine Ext.alloc ?_ _))⟩
      · have HV : Hid (asN R 1 = R.w0 + R.x0 + R.o0) := by simp [Hid, asN, wnN, lsN, opN, sideB, ha]
        have ha' : (R.a == 1) = false := by simp [ha]
        go_enter Tryd.func26, Tryd.ntmps26
        go_wp2_with (go_at_call 24; refine (known_any _ _).mono ?_; rintro e w' ⟨rfl, rfl⟩; rw [HS.out])
        go_quiet (fail)
        go_wp2
        go_quiet (fail)
        go_wp2
        refine bodyPost_ret (v := .tuple #[.int .i64 (R.w0 + R.x0 + R.o0), .int .i64 R.w0, .int .i64 R.x0, .int .i64 R.o0]) (by (simp [results, Tryd.results26, go_sem, *]); first | done | rfl | (simp [rcC, *]; done)) rfl ?_
        exact ⟨by rw [cntV, HV.out]; rfl, (by repeat (first | exact Ext.refl _ | refine Ext.setCell ?_ (by first | exact Nat.le_refl _ | (simp; done) | (simp; omega)) _ | refine Ext.drew ?_ | refine Ext.drewN ?_ _ | refine Ext.alloc ?_ _))⟩
    · clear hs
      by_cases ha : R.a = 2
      · have HV : Hid (asN R 2 = R.w1 + R.x1 + R.o1 + 1) := by simp [Hid, asN, wnN, lsN, opN, sideB, ha]
        go_enter Tryd.func26, Tryd.ntmps26
        go_wp2_with (go_at_call 24; refine (known_any _ _).mono ?_; rintro e w' ⟨rfl, rfl⟩; rw [HS.out])
        go_quiet (fail)
        go_wp2
        go_quiet (fail)
        go_wp2
        refine bodyPost_ret (v := .tuple #[.int .i64 (R.w1 + R.x1 + R.o1 + 1), .int .i64 R.w1, .int .i64 R.x1, .int .i64 R.o1]) (by (simp [results, Tryd.results26, go_sem, *]); first | done | rfl | (simp [rcC, *]; done)) rfl ?_
        exact ⟨by rw [cntV, HV.out]; rfl, (by repeat (first | exact Ext.refl _ | refine Ext.setCell ?_ (by first | exact Nat.le_refl _ | (simp; done) | (simp; omega)) _ | refine Ext.drew ?_ | refine Ext.drewN ?_ _ | refine Ext.alloc ?_ _))⟩
      · have HV : Hid (asN R 2 = R.w1 + R.x1 + R.o1) := by simp [Hid, asN, wnN, lsN, opN, sideB, ha]
        have ha' : (R.a == 2) = false := by simp [ha]
        go_enter Tryd.func26, Tryd.ntmps26
        go_wp2_with (go_at_call 24; refine (known_any _ _).mono ?_; rintro e w' ⟨rfl, rfl⟩; rw [HS.out])
        go_quiet (fail)
        go_wp2
        go_quiet (fail)
        go_wp2
        refine bodyPost_ret (v := .tuple #[.int .i64 (R.w1 + R.x1 + R.o1), .int .i64 R.w1, .int .i64 R.x1, .int .i64 R.o1]) (by (simp [results, Tryd.results26, go_sem, *]); first | done | rfl | (simp [rcC, *]; done)) rfl ?_
        exact ⟨by rw [cntV, HV.out]; rfl, (by repeat (first | exact Ext.refl _ | refine Ext.setCell ?_ (by first | exact Nat.le_refl _ | (simp; done) | (simp; omega)) _ | refine Ext.drew ?_ | refine Ext.drewN ?_ _ | refine Ext.alloc ?_ _))⟩

theorem rrenew_any (R : Rm) (w : World) : Calls Tryd.prog 14 #[.agg #[.int .i64 R.m, .int .i64 R.l0, .int .i64 R.l1, .int .i64 R.w0, .int .i64 R.w1, .int .i64 R.x0, .int .i64 R.x1, .int .i64 R.o0, .int .i64 R.o1, .int .i64 R.a, .int .u8 R.c]] w fun e w' => e = .returned (.agg (rcC (renR R))) ∧ Ext w w' := by
  go_enter Tryd.func14, Tryd.ntmps14
  go_wp2
  refine bodyPost_ret (v := .agg (rcC (renR R))) (by (simp [results, Tryd.results14, go_sem, *]); first | done | rfl | (simp [rcC, *]; done)) rfl ?_
  exact ⟨rfl, (by repeat (first | exact Ext.refl _ | refine Ext.setCell ?_ (by first | exact Nat.le_refl _ | (simp; done) | (simp; omega)) _ | refine Ext.drew ?_ | refine Ext.drewN ?_ _ | refine Ext.alloc ?_ _))⟩
theorem rnew_any (n : Int) (w : World) (h0 : 0 ≤ n) (h1 : n ≤ 20) : Calls Tryd.prog 10 #[.int .i64 n] w fun e w' => e = .returned (.tuple #[.agg (rcC (newR n)), .int .i64 0]) ∧ Ext w w' := by
  have h0' : ¬ (n < 0) := by omega
  have h1' : ¬ (20 < n) := by omega
  go_enter Tryd.func10, Tryd.ntmps10
  go_wp2
  refine bodyPost_ret (v := .tuple #[.agg (rcC (newR n)), .int .i64 0]) (by (simp [results, Tryd.results10, go_sem, *]); first | done | rfl | (simp [rcC, *]; done)) rfl ?_
  exact ⟨rfl, (by repeat (first | exact Ext.refl _ | refine Ext.setCell ?_ (by first | exact Nat.le_refl _ | (simp; done) | (simp; omega)) _ | refine Ext.drew ?_ | refine Ext.drewN ?_ _ | refine Ext.alloc ?_ _))⟩
theorem rnew_bad (n : Int) (w : World) (h : n < 0 ∨ 20 < n) : Calls Tryd.prog 10 #[.int .i64 n] w fun e w' => e = .returned (.tuple #[.agg (rcC (zerR 0)), .int .i64 2]) ∧ Ext w w' := by
  by_cases h0 : n < 0
  · clear h
    go_enter Tryd.func10, Tryd.ntmps10
    go_wp2
    refine bodyPost_ret (v := .tuple #[.agg (rcC (zerR 0)), .int .i64 2]) (by (simp [results, Tryd.results10, go_sem, *]); first | done | rfl | (simp [rcC, *]; done)) rfl ?_
    exact ⟨rfl, (by repeat (first | exact Ext.refl _ | refine Ext.setCell ?_ (by first | exact Nat.le_refl _ | (simp; done) | (simp; omega)) _ | refine Ext.drew ?_ | refine Ext.drewN ?_ _ | refine Ext.alloc ?_ _))⟩
  · have h1 : 20 < n := by omega
    clear h
    go_enter Tryd.func10, Tryd.ntmps10
    go_wp2
    refine bodyPost_ret (v := .tuple #[.agg (rcC (zerR 0)), .int .i64 2]) (by (simp [results, Tryd.results10, go_sem, *]); first | done | rfl | (simp [rcC, *]; done)) rfl ?_
    exact ⟨rfl, (by repeat (first | exact Ext.refl _ | refine Ext.setCell ?_ (by first | exact Nat.le_refl _ | (simp; done) | (simp; omega)) _ | refine Ext.drew ?_ | refine Ext.drewN ?_ _ | refine Ext.alloc ?_ _))⟩
def RAskOK (R : Rm) (n c : Int) (w : World) (e : Ending) (w' : World) : Prop := e = .returned (.tuple #[.agg (rcC (askR R n c)), .int .i64 (askE R n c)]) ∧ Ext w w'
set_option maxHeartbeats 8000000 in
theorem rask_any (R : Rm) (n c : Int) (w : World) : Calls Tryd.prog 15 #[.agg #[.int .i64 R.m, .int .i64 R.l0, .int .i64 R.l1, .int .i64 R.w0, .int .i64 R.w1, .int .i64 R.x0, .int .i64 R.x1, .int .i64 R.o0, .int .i64 R.o1, .int .i64 R.a, .int .u8 R.c], .int .i64 n, .int .u8 c] w (RAskOK R n c w) := by
  rcases and1 (sideB n) with hs | hs
  · have HV := Lib.hid (ask_vals (R := R) (n := n) (c := c) (e := 2) (by simp [askE, hs]) rfl)
    have HS := Lib.hid hs
    clear hs
    go_enter Tryd.func15, Tryd.ntmps15
    go_wp2_with (go_at_call 24; refine (known_any _ _).mono ?_; rintro e w' ⟨rfl, rfl⟩; rw [HS.out])
    refine bodyPost_ret (v := .tuple #[.agg (rcC R), .int .i64 2]) (by (simp [results, Tryd.results15, go_sem, *]); first | done | rfl | (simp [rcC, *]; done)) rfl ?_
    exact ⟨by rw [HV.out.1, HV.out.2], (by repeat (first | exact Ext.refl _ | refine Ext.setCell ?_ (by first | exact Nat.le_refl _ | (simp; done) | (simp; omega)) _ | refine Ext.drew ?_ | refine Ext.drewN ?_ _ | refine Ext.alloc ?_ _))⟩
  rcases and1 (givB c) with hg | hg
  · have HV := Lib.hid (ask_vals (R := R) (n := n) (c := c) (e := 3) (by simp [askE, hs, hg]) rfl)
    have HS := Lib.hid hs
    have hn1 : (c == 1) = false := by cases h : (c == 1) <;> simp_all [givB]
    have hn2 : (c == 2) = false := by cases h : (c == 2) <;> simp_all [givB]
    have hm1 : (c != 1) = true := by simp only [bne, hn1, Bool.not_false]
    have hm2 : (c != 2) = true := by simp only [bne, hn2, Bool.not_false]
    clear hs hg
    go_enter Tryd.func15, Tryd.ntmps15
    go_wp2_with (go_at_call 24; refine (known_any _ _).mono ?_; rintro e w' ⟨rfl, rfl⟩; rw [HS.out])
    refine bodyPost_ret (v := .tuple #[.agg (rcC R), .int .i64 3]) (by (simp [results, Tryd.results15, go_sem, *]); first | done | rfl | (simp [rcC, *]; done)) rfl ?_
    exact ⟨by rw [HV.out.1, HV.out.2], (by repeat (first | exact Ext.refl _ | refine Ext.setCell ?_ (by first | exact Nat.le_refl _ | (simp; done) | (simp; omega)) _ | refine Ext.drew ?_ | refine Ext.drewN ?_ _ | refine Ext.alloc ?_ _))⟩
  have hgc := giv_cases hg
  rcases and1 (R.a == 0) with ha | ha
  · have HV := Lib.hid (ask_vals (R := R) (n := n) (c := c) (e := 11) (by simp only [askE, hs, hg, ha]; rfl) rfl)
    have HS := Lib.hid hs
    have hm : (R.a != 0) = true := by simp only [bne, ha, Bool.not_false]
    clear hs hg
    rcases hgc with rfl | rfl
    all_goals
      go_enter Tryd.func15, Tryd.ntmps15
      go_wp2_with (go_at_call 24; refine (known_any _ _).mono ?_; rintro e w' ⟨rfl, rfl⟩; rw [HS.out])
      refine bodyPost_ret (v := .tuple #[.agg (rcC R), .int .i64 11]) (by (simp [results, Tryd.results15, go_sem, *]); first | done | rfl | (simp [rcC, *]; done)) rfl ?_
      exact ⟨by rw [HV.out.1, HV.out.2], (by repeat (first | exact Ext.refl _ | refine Ext.setCell ?_ (by first | exact Nat.le_refl _ | (simp; done) | (simp; omega)) _ | refine Ext.drew ?_ | refine Ext.drewN ?_ _ | refine Ext.alloc ?_ _))⟩
  have ha' : R.a = 0 := by simpa using ha
  rcases and1 (lfN R n == 0) with hl | hl
  · have HV := Lib.hid (ask_ok (R := R) (n := n) (c := c) (by simp only [askE, hs, hg, ha, hl]; rfl))
    have HS := Lib.hid hs
    rcases side_cases hs with rfl | rfl
    · have hl' : (R.l0 == 0) = false := hl
      clear hs hg ha hl
      rcases hgc with rfl | rfl
      · go_enter Tryd.func15, Tryd.ntmps15
        go_wp2_with (go_at_call 24; refine (known_any _ _).mono ?_; rintro e w' ⟨rfl, rfl⟩; rw [HS.out])
        refine bodyPost_ret (v := .tuple #[.agg (rcC { R with a := 1, c := 1 }), .int .i64 0]) (by (simp [results, Tryd.results15, go_sem, *]); first | done | rfl | (simp [rcC, *]; done)) rfl ?_
        exact ⟨by rw [HV.out.1, HV.out.2], (by repeat (first | exact Ext.refl _ | refine Ext.setCell ?_ (by first | exact Nat.le_refl _ | (simp; done) | (simp; omega)) _ | refine Ext.drew ?_ | refine Ext.drewN ?_ _ | refine Ext.alloc ?_ _))⟩
      · go_enter Tryd.func15, Tryd.ntmps15
        go_wp2_with (go_at_call 24; refine (known_any _ _).mono ?_; rintro e w' ⟨rfl, rfl⟩; rw [HS.out])
        refine bodyPost_ret (v := .tuple #[.agg (rcC { R with a := 1, c := 2 }), .int .i64 0]) (by (simp [results, Tryd.results15, go_sem, *]); first | done | rfl | (simp [rcC, *]; done)) rfl ?_
        exact ⟨by rw [HV.out.1, HV.out.2], (by repeat (first | exact Ext.refl _ | refine Ext.setCell ?_ (by first | exact Nat.le_refl _ | (simp; done) | (simp; omega)) _ | refine Ext.drew ?_ | refine Ext.drewN ?_ _ | refine Ext.alloc ?_ _))⟩
    · have hl' : (R.l1 == 0) = false := hl
      clear hs hg ha hl
      rcases hgc with rfl | rfl
      · go_enter Tryd.func15, Tryd.ntmps15
        go_wp2_with (go_at_call 24; refine (known_any _ _).mono ?_; rintro e w' ⟨rfl, rfl⟩; rw [HS.out])
        refine bodyPost_ret (v := .tuple #[.agg (rcC { R with a := 2, c := 1 }), .int .i64 0]) (by (simp [results, Tryd.results15, go_sem, *]); first | done | rfl | (simp [rcC, *]; done)) rfl ?_
        exact ⟨by rw [HV.out.1, HV.out.2], (by repeat (first | exact Ext.refl _ | refine Ext.setCell ?_ (by first | exact Nat.le_refl _ | (simp; done) | (simp; omega)) _ | refine Ext.drew ?_ | refine Ext.drewN ?_ _ | refine Ext.alloc ?_ _))⟩
      · go_enter Tryd.func15, Tryd.ntmps15
        go_wp2_with (go_at_call 24; refine (known_any _ _).mono ?_; rintro e w' ⟨rfl, rfl⟩; rw [HS.out])
        refine bodyPost_ret (v := .tuple #[.agg (rcC { R with a := 2, c := 2 }), .int .i64 0]) (by (simp [results, Tryd.results15, go_sem, *]); first | done | rfl | (simp [rcC, *]; done)) rfl ?_
        exact ⟨by rw [HV.out.1, HV.out.2], (by repeat (first | exact Ext.refl _ | refine Ext.setCell ?_ (by first | exact Nat.le_refl _ | (simp; done) | (simp; omega)) _ | refine Ext.drew ?_ | refine Ext.drewN ?_ _ | refine Ext.alloc ?_ _))⟩
  · have HV := Lib.hid (ask_vals (R := R) (n := n) (c := c) (e := 9) (by simp only [askE, hs, hg, ha, hl]; rfl) rfl)
    have HS := Lib.hid hs
    rcases side_cases hs with rfl | rfl
    · have hl' : R.l0 = 0 := by simpa [lfN] using hl
      clear hs hg ha hl
      rcases hgc with rfl | rfl
      all_goals
        go_enter Tryd.func15, Tryd.ntmps15
        go_wp2_with (go_at_call 24; refine (known_any _ _).mono ?_; rintro e w' ⟨rfl, rfl⟩; rw [HS.out])
        refine bodyPost_ret (v := .tuple #[.agg (rcC R), .int .i64 9]) (by (simp [results, Tryd.results15, go_sem, *]); first | done | rfl | (simp [rcC, *]; done)) rfl ?_
        exact ⟨by rw [HV.out.1, HV.out.2], (by repeat (first | exact Ext.refl _ | refine Ext.setCell ?_ (by first | exact Nat.le_refl _ | (simp; done) | (simp; omega)) _ | refine Ext.drew ?_ | refine Ext.drewN ?_ _ | refine Ext.alloc ?_ _))⟩
    · have hl' : R.l1 = 0 := by simpa [lfN] using hl
      clear hs hg ha hl
      rcases hgc with rfl | rfl
      all_goals
        go_enter Tryd.func15, Tryd.ntmps15
        go_wp2_with (go_at_call 24; refine (known_any _ _).mono ?_; rintro e w' ⟨rfl, rfl⟩; rw [HS.out])
        refine bodyPost_ret (v := .tuple #[.agg (rcC R), .int .i64 9]) (by (simp [results, Tryd.results15, go_sem, *]); first | done | rfl | (simp [rcC, *]; done)) rfl ?_
        exact ⟨by rw [HV.out.1, HV.out.2], (by repeat (first | exact Ext.refl _ | refine Ext.setCell ?_ (by first | exact Nat.le_refl _ | (simp; done) | (simp; omega)) _ | refine Ext.drew ?_ | refine Ext.drewN ?_ _ | refine Ext.alloc ?_ _))⟩


end Go.Proofs.YtppoejhfemolfaaDoor

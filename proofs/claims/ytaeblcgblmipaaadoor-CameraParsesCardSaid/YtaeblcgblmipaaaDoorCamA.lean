/-
  Observations in memory; Check of layer 31 (program and reference).
-/
import Derived.Test.YtaeblcgblmipaaaDoorKit
namespace Go.Proofs.YtaeblcgblmipaaaDoor
open Go.RowKit
set_option linter.unusedSimpArgs false

/-- A list of n observations in memory: five numbers each. -/
structure SeenAt (w : World) (A0 : Option Addr) (n : Nat) (f : Nat → Nat → Int) (b off : Nat) : Prop where
  nle : n ≤ 9223372036854775807
  top : 0 < n → A0 = some ⟨b, off, none⟩ ∧ b < w.heap.size
  cell : ∀ i j, i < n → j < 5 → w.cell? ⟨b, off + i * 5 + j, none⟩ = some (.int .i64 (f i j))
  wf : ∀ i j, i < n → j < 5 → -9223372036854775808 ≤ f i j ∧ f i j ≤ 9223372036854775807
theorem SeenAt.ext {w w' : World} {A0 : Option Addr} {n : Nat} {f : Nat → Nat → Int} {b off : Nat} (T : SeenAt w A0 n f b off) (h : Ext w w') : SeenAt w' A0 n f b off where
  nle := T.nle
  top := fun k => ⟨(T.top k).1, Nat.lt_of_lt_of_le (T.top k).2 h.size⟩
  cell := fun i j hi hj => ((Ext.cells h).1 _ _ (T.top (by omega)).2).trans (T.cell i j hi hj)
  wf := T.wf

theorem from_any (n lo hi : Int) (w : World) : Calls Tryd.prog 27 #[.int .i64 n, .int .i64 lo, .int .i64 hi] w fun e w' => e = .returned (.bool (rng n lo hi)) ∧ w = w' := by
  rcases and2 (decide (lo ≤ n)) (decide (n ≤ hi)) with h1 | ⟨h1, h2⟩ | ⟨h1, h2⟩
  all_goals
    first
      | (have HV : Hid (rng n lo hi = false) := (by simp only [decide_eq_true_eq, decide_eq_false_iff_not] at *; simp [Hid, rng]; omega)
         go_enter Tryd.func27, Tryd.ntmps27
         go_wp2
         go_ret
         exact ⟨retb HV.out.symm, rfl⟩)
      | (have HV : Hid (rng n lo hi = true) := (by simp only [decide_eq_true_eq, decide_eq_false_iff_not] at *; simp [Hid, rng]; omega)
         go_enter Tryd.func27, Tryd.ntmps27
         go_wp2
         go_ret
         exact ⟨retb HV.out.symm, rfl⟩)

theorem between_any (n lo hi : Int) (w : World) : Calls Tryd.prog 28 #[.int .i64 n, .int .i64 lo, .int .i64 hi] w fun e w' => e = .returned (.bool (rng n lo hi)) ∧ w = w' := by
  rcases and2 (decide (lo ≤ n)) (decide (n ≤ hi)) with h1 | ⟨h1, h2⟩ | ⟨h1, h2⟩
  all_goals
    first
      | (have HV : Hid (rng n lo hi = false) := (by simp only [decide_eq_true_eq, decide_eq_false_iff_not] at *; simp [Hid, rng]; omega)
         go_enter Tryd.func28, Tryd.ntmps28
         go_wp2
         go_ret
         exact ⟨retb HV.out.symm, rfl⟩)
      | (have HV : Hid (rng n lo hi = true) := (by simp only [decide_eq_true_eq, decide_eq_false_iff_not] at *; simp [Hid, rng]; omega)
         go_enter Tryd.func28, Tryd.ntmps28
         go_wp2
         go_ret
         exact ⟨retb HV.out.symm, rfl⟩)

def seenR (f : Nat → Nat → Int) (i : Nat) : Bool := rng (f i 0) 0 4000 && rng (f i 1) (-300000) 300000 && rng (f i 2) (-50000) 50000 && rng (f i 3) 0 50000 && rng (f i 4) 1 1000
def seenO (f : Nat → Nat → Int) (i : Nat) : Bool := decide (0 < i → f (i - 1) 0 < f i 0)
/-- The first fault of m observations from the k-th on. -/
def ckGo (f : Nat → Nat → Int) : Nat → Nat → Int × Int
  | 0, _ => (-1, 0)
  | m + 1, k => if seenR f k then (if seenO f k then ckGo f m (k + 1) else ((k : Int), 8)) else ((k : Int), 2)
def ckV (n : Nat) (f : Nat → Nat → Int) : Int × Int := if 64 < n then (-1, 9) else ckGo f n 0
def ckI (n : Nat) (f : Nat → Nat → Int) : Int := (ckV n f).1
def ckE (n : Nat) (f : Nat → Nat → Int) : Int := (ckV n f).2
theorem ck_big {n : Nat} {f : Nat → Nat → Int} (h : 64 < n) : ckI n f = -1 ∧ ckE n f = 9 := by simp [ckI, ckE, ckV, h]
theorem ck_small {n : Nat} {f : Nat → Nat → Int} (h : ¬ 64 < n) : ckI n f = (ckGo f n 0).1 ∧ ckE n f = (ckGo f n 0).2 := by simp [ckI, ckE, ckV, h]
theorem ckGo_step {n k : Nat} (f : Nat → Nat → Int) (h : k < n) : ckGo f (n - k) k = if seenR f k then (if seenO f k then ckGo f (n - (k + 1)) (k + 1) else ((k : Int), 8)) else ((k : Int), 2) := by
  rw [show n - k = (n - (k + 1)) + 1 by omega]; rfl
theorem or6 (a b c d e : Bool) : a = false ∨ (a = true ∧ b = false) ∨ (a = true ∧ b = true ∧ c = false) ∨ (a = true ∧ b = true ∧ c = true ∧ d = false) ∨ (a = true ∧ b = true ∧ c = true ∧ d = true ∧ e = false) ∨ (a = true ∧ b = true ∧ c = true ∧ d = true ∧ e = true) := by
  cases a <;> cases b <;> cases c <;> cases d <;> cases e <;> simp

set_option maxHeartbeats 16000000 in
theorem check_any (A0 : Option Addr) (n C : Nat) (f : Nat → Nat → Int) (b off : Nat) (w : World) (T : SeenAt w A0 n f b off) :
    Calls Tryd.prog 11 #[.slice A0 n C] w fun e w' => e = .returned (.tuple #[.int .i64 (ckI n f), .int .i64 (ckE n f)]) ∧ Ext w w' := by
  have hn := T.nle
  by_cases hbig : 64 < n
  · have HV := Lib.hid (@ck_big n f hbig)
    have hbig' : (64 : Int) < (n : Int) := by omega
    go_enter Tryd.func11, Tryd.ntmps11
    go_wp2
    go_ret2
    exact ⟨by rw [HV.out.1, HV.out.2]; rfl, Ext.refl _⟩
  · have hbig' : ¬ ((64 : Int) < (n : Int)) := by omega
    have HS := Lib.hid (@ck_small n f hbig)
    go_enter Tryd.func11, Tryd.ntmps11
    go_wp2
    go_loopw [11] (fun i wr => ∃ k : Nat, k ≤ n ∧ i = .int .i64 k ∧ Ext w wr ∧ ckGo f n 0 = ckGo f (n - k) k) (fun i _ => n - (intOf i).toNat)
    case atStart => exact ⟨0, by omega, rfl, Ext.refl _, rfl⟩
    case round =>
      obtain ⟨k, hk, rfl, hE, hG⟩ := hrel
      have HG := Lib.hid hG
      clear hG
      by_cases hlt : k < n
      · have T2 := T.ext hE
        obtain ⟨hA, hb⟩ := T2.top (by omega)
        subst hA
        have c0 : wr.cell? ⟨b, off + k * 5, none⟩ = some (.int .i64 (f k 0)) := T2.cell k 0 hlt (by omega)
        have c1 := T2.cell k 1 hlt (by omega)
        have c2 := T2.cell k 2 hlt (by omega)
        have c3 := T2.cell k 3 hlt (by omega)
        have c4 := T2.cell k 4 hlt (by omega)
        have HStep := Lib.hid (ckGo_step f hlt)
        rcases or6 (rng (f k 0) 0 4000) (rng (f k 1) (-300000) 300000) (rng (f k 2) (-50000) 50000) (rng (f k 3) 0 50000) (rng (f k 4) 1 1000) with h0 | ⟨h0, h1⟩ | ⟨h0, h1, h2⟩ | ⟨h0, h1, h2, h3⟩ | ⟨h0, h1, h2, h3, h4⟩ | ⟨h0, h1, h2, h3, h4⟩
        iterate 5
          · have HR : Hid (seenR f k = false) := by simp only [Hid, seenR, h0, *, Bool.and_false, Bool.false_and]
            have HV : Hid (ckI n f = (k : Int) ∧ ckE n f = 2) := by
              rw [Hid, HS.out.1, HS.out.2, HG.out, HStep.out, HR.out]; exact ⟨rfl, rfl⟩
            have X0 := Lib.hid h0
            try have X1 := Lib.hid h1
            try have X2 := Lib.hid h2
            try have X3 := Lib.hid h3
            try have X4 := Lib.hid h4
            clear h0 T2
            try clear h1
            try clear h2
            try clear h3
            try clear h4
            go_wp2_with (first | (go_at_call 27; refine (from_any _ _ _ _).mono ?_; rintro e w' ⟨rfl, rfl⟩; (first | rw [X0.out] | rw [X1.out] | rw [X2.out] | rw [X3.out] | rw [X4.out])))
            go_ret2
            exact ⟨by rw [HV.out.1, HV.out.2]; rfl, (by repeat (first | exact hE | refine Ext.setCell ?_ (by first | exact Nat.le_refl _ | (simp; done) | (simp; omega)) _ | refine Ext.drew ?_ | refine Ext.drewN ?_ _ | refine Ext.alloc ?_ _))⟩
        · have HR : Hid (seenR f k = true) := by simp only [Hid, seenR, h0, h1, h2, h3, h4, Bool.and_self]
          have X0 := Lib.hid h0
          have X1 := Lib.hid h1
          have X2 := Lib.hid h2
          have X3 := Lib.hid h3
          have X4 := Lib.hid h4
          clear h0 h1 h2 h3 h4
          by_cases hk0 : k = 0
          · have HO : Hid (seenO f k = true) := by simp [Hid, seenO, hk0]
            have HG2 : Hid (ckGo f n 0 = ckGo f (n - (k + 1)) (k + 1)) := by rw [Hid, HG.out, HStep.out, HR.out, HO.out]; rfl
            clear T2
            subst hk0
            simp only [Nat.zero_mul, Nat.add_zero] at c0 c1 c2 c3 c4
            go_wp2_with (first | (go_at_call 27; refine (from_any _ _ _ _).mono ?_; rintro e w' ⟨rfl, rfl⟩; (first | rw [X0.out] | rw [X1.out] | rw [X2.out] | rw [X3.out] | rw [X4.out])))
            go_quiet (fail)
            go_wp2
            go_roundw
            case rel => exact ⟨0 + 1, by omega, by go_num, (by repeat (first | exact hE | refine Ext.setCell ?_ (by first | exact Nat.le_refl _ | (simp; done) | (simp; omega)) _ | refine Ext.drew ?_ | refine Ext.drewN ?_ _ | refine Ext.alloc ?_ _)), HG2.out⟩
            case measure => simp [intOf]; omega
          · have hk1 : (0 : Int) < (k : Int) := by omega
            obtain ⟨j, rfl⟩ : ∃ j, k = j + 1 := ⟨k - 1, by omega⟩
            have cp : wr.cell? ⟨b, off + j * 5, none⟩ = some (.int .i64 (f j 0)) := T2.cell j 0 (by omega) (by omega)
            clear T2
            by_cases ho : f j 0 < f (j + 1) 0
            · have HO : Hid (seenO f (j + 1) = true) := by simp [Hid, seenO, ho]
              have HG2 : Hid (ckGo f n 0 = ckGo f (n - (j + 1 + 1)) (j + 1 + 1)) := by rw [Hid, HG.out, HStep.out, HR.out, HO.out]; rfl
              have ho' : ¬ (f (j + 1) 0 ≤ f j 0) := by omega
              have ej : (((j + 1 : Nat) : Int) - 1) = (j : Int) := by omega
              have ej2 : ((j : Int) + 1 - 1) = (j : Int) := by omega
              go_wp2_with (first | (go_at_call 27; refine (from_any _ _ _ _).mono ?_; rintro e w' ⟨rfl, rfl⟩; (first | rw [X0.out] | rw [X1.out] | rw [X2.out] | rw [X3.out] | rw [X4.out])))
              go_quiet (fail)
              go_wp2
              go_roundw
              case rel => exact ⟨j + 1 + 1, by omega, by go_num, (by repeat (first | exact hE | refine Ext.setCell ?_ (by first | exact Nat.le_refl _ | (simp; done) | (simp; omega)) _ | refine Ext.drew ?_ | refine Ext.drewN ?_ _ | refine Ext.alloc ?_ _)), HG2.out⟩
              case measure => simp [intOf]; omega
            · have HO : Hid (seenO f (j + 1) = false) := by simp [Hid, seenO]; omega
              have HV : Hid (ckI n f = ((j + 1 : Nat) : Int) ∧ ckE n f = 8) := by
                rw [Hid, HS.out.1, HS.out.2, HG.out, HStep.out, HR.out, HO.out]; exact ⟨rfl, rfl⟩
              have ho' : f (j + 1) 0 ≤ f j 0 := by omega
              have ej : (((j + 1 : Nat) : Int) - 1) = (j : Int) := by omega
              have ej2 : ((j : Int) + 1 - 1) = (j : Int) := by omega
              go_wp2_with (first | (go_at_call 27; refine (from_any _ _ _ _).mono ?_; rintro e w' ⟨rfl, rfl⟩; (first | rw [X0.out] | rw [X1.out] | rw [X2.out] | rw [X3.out] | rw [X4.out])))
              go_quiet (fail)
              go_wp2
              go_ret2
              exact ⟨by rw [HV.out.1, HV.out.2]; rfl, (by repeat (first | exact hE | refine Ext.setCell ?_ (by first | exact Nat.le_refl _ | (simp; done) | (simp; omega)) _ | refine Ext.drew ?_ | refine Ext.drewN ?_ _ | refine Ext.alloc ?_ _))⟩
      · obtain rfl : k = n := by omega
        have HV : Hid (ckI k f = -1 ∧ ckE k f = 0) := by
          rw [Hid, HS.out.1, HS.out.2, HG.out, Nat.sub_self]; exact ⟨rfl, rfl⟩
        go_wp2
        go_ret2
        exact ⟨by rw [HV.out.1, HV.out.2]; rfl, hE⟩

set_option maxHeartbeats 16000000 in
theorem rcheck_any (A0 : Option Addr) (n C : Nat) (f : Nat → Nat → Int) (b off : Nat) (w : World) (T : SeenAt w A0 n f b off) :
    Calls Tryd.prog 12 #[.slice A0 n C] w fun e w' => e = .returned (.tuple #[.int .i64 (ckI n f), .int .i64 (ckE n f)]) ∧ Ext w w' := by
  have hn := T.nle
  by_cases hbig : 64 < n
  · have HV := Lib.hid (@ck_big n f hbig)
    have hbig' : (64 : Int) < (n : Int) := by omega
    go_enter Tryd.func12, Tryd.ntmps12
    go_wp2
    go_ret2
    exact ⟨by rw [HV.out.1, HV.out.2]; rfl, Ext.refl _⟩
  · have hbig' : ¬ ((64 : Int) < (n : Int)) := by omega
    have HS := Lib.hid (@ck_small n f hbig)
    go_enter Tryd.func12, Tryd.ntmps12
    go_wp2
    go_loopw [11] (fun i wr => ∃ k : Nat, k ≤ n ∧ i = .int .i64 k ∧ Ext w wr ∧ ckGo f n 0 = ckGo f (n - k) k) (fun i _ => n - (intOf i).toNat)
    case atStart => exact ⟨0, by omega, rfl, Ext.refl _, rfl⟩
    case round =>
      obtain ⟨k, hk, rfl, hE, hG⟩ := hrel
      have HG := Lib.hid hG
      clear hG
      by_cases hlt : k < n
      · have T2 := T.ext hE
        obtain ⟨hA, hb⟩ := T2.top (by omega)
        subst hA
        have c0 : wr.cell? ⟨b, off + k * 5, none⟩ = some (.int .i64 (f k 0)) := T2.cell k 0 hlt (by omega)
        have c1 := T2.cell k 1 hlt (by omega)
        have c2 := T2.cell k 2 hlt (by omega)
        have c3 := T2.cell k 3 hlt (by omega)
        have c4 := T2.cell k 4 hlt (by omega)
        have HStep := Lib.hid (ckGo_step f hlt)
        rcases or6 (rng (f k 0) 0 4000) (rng (f k 1) (-300000) 300000) (rng (f k 2) (-50000) 50000) (rng (f k 3) 0 50000) (rng (f k 4) 1 1000) with h0 | ⟨h0, h1⟩ | ⟨h0, h1, h2⟩ | ⟨h0, h1, h2, h3⟩ | ⟨h0, h1, h2, h3, h4⟩ | ⟨h0, h1, h2, h3, h4⟩
        iterate 5
          · have HR : Hid (seenR f k = false) := by simp only [Hid, seenR, h0, *, Bool.and_false, Bool.false_and]
            have HV : Hid (ckI n f = (k : Int) ∧ ckE n f = 2) := by
              rw [Hid, HS.out.1, HS.out.2, HG.out, HStep.out, HR.out]; exact ⟨rfl, rfl⟩
            have X0 := Lib.hid h0
            try have X1 := Lib.hid h1
            try have X2 := Lib.hid h2
            try have X3 := Lib.hid h3
            try have X4 := Lib.hid h4
            clear h0 T2
            try clear h1
            try clear h2
            try clear h3
            try clear h4
            go_wp2_with (first | (go_at_call 28; refine (between_any _ _ _ _).mono ?_; rintro e w' ⟨rfl, rfl⟩; (first | rw [X0.out] | rw [X1.out] | rw [X2.out] | rw [X3.out] | rw [X4.out])))
            go_ret2
            exact ⟨by rw [HV.out.1, HV.out.2]; rfl, (by repeat (first | exact hE | refine Ext.setCell ?_ (by first | exact Nat.le_refl _ | (simp; done) | (simp; omega)) _ | refine Ext.drew ?_ | refine Ext.drewN ?_ _ | refine Ext.alloc ?_ _))⟩
        · have HR : Hid (seenR f k = true) := by simp only [Hid, seenR, h0, h1, h2, h3, h4, Bool.and_self]
          have X0 := Lib.hid h0
          have X1 := Lib.hid h1
          have X2 := Lib.hid h2
          have X3 := Lib.hid h3
          have X4 := Lib.hid h4
          clear h0 h1 h2 h3 h4
          by_cases hk0 : k = 0
          · have HO : Hid (seenO f k = true) := by simp [Hid, seenO, hk0]
            have HG2 : Hid (ckGo f n 0 = ckGo f (n - (k + 1)) (k + 1)) := by rw [Hid, HG.out, HStep.out, HR.out, HO.out]; rfl
            clear T2
            subst hk0
            simp only [Nat.zero_mul, Nat.add_zero] at c0 c1 c2 c3 c4
            go_wp2_with (first | (go_at_call 28; refine (between_any _ _ _ _).mono ?_; rintro e w' ⟨rfl, rfl⟩; (first | rw [X0.out] | rw [X1.out] | rw [X2.out] | rw [X3.out] | rw [X4.out])))
            go_quiet (fail)
            go_wp2
            go_roundw
            case rel => exact ⟨0 + 1, by omega, by go_num, (by repeat (first | exact hE | refine Ext.setCell ?_ (by first | exact Nat.le_refl _ | (simp; done) | (simp; omega)) _ | refine Ext.drew ?_ | refine Ext.drewN ?_ _ | refine Ext.alloc ?_ _)), HG2.out⟩
            case measure => simp [intOf]; omega
          · have hk1 : (0 : Int) < (k : Int) := by omega
            obtain ⟨j, rfl⟩ : ∃ j, k = j + 1 := ⟨k - 1, by omega⟩
            have cp : wr.cell? ⟨b, off + j * 5, none⟩ = some (.int .i64 (f j 0)) := T2.cell j 0 (by omega) (by omega)
            clear T2
            by_cases ho : f j 0 < f (j + 1) 0
            · have HO : Hid (seenO f (j + 1) = true) := by simp [Hid, seenO, ho]
              have HG2 : Hid (ckGo f n 0 = ckGo f (n - (j + 1 + 1)) (j + 1 + 1)) := by rw [Hid, HG.out, HStep.out, HR.out, HO.out]; rfl
              have ho' : ¬ (f (j + 1) 0 ≤ f j 0) := by omega
              have ej : (((j + 1 : Nat) : Int) - 1) = (j : Int) := by omega
              have ej2 : ((j : Int) + 1 - 1) = (j : Int) := by omega
              go_wp2_with (first | (go_at_call 28; refine (between_any _ _ _ _).mono ?_; rintro e w' ⟨rfl, rfl⟩; (first | rw [X0.out] | rw [X1.out] | rw [X2.out] | rw [X3.out] | rw [X4.out])))
              go_quiet (fail)
              go_wp2
              go_roundw
              case rel => exact ⟨j + 1 + 1, by omega, by go_num, (by repeat (first | exact hE | refine Ext.setCell ?_ (by first | exact Nat.le_refl _ | (simp; done) | (simp; omega)) _ | refine Ext.drew ?_ | refine Ext.drewN ?_ _ | refine Ext.alloc ?_ _)), HG2.out⟩
              case measure => simp [intOf]; omega
            · have HO : Hid (seenO f (j + 1) = false) := by simp [Hid, seenO]; omega
              have HV : Hid (ckI n f = ((j + 1 : Nat) : Int) ∧ ckE n f = 8) := by
                rw [Hid, HS.out.1, HS.out.2, HG.out, HStep.out, HR.out, HO.out]; exact ⟨rfl, rfl⟩
              have ho' : f (j + 1) 0 ≤ f j 0 := by omega
              have ej : (((j + 1 : Nat) : Int) - 1) = (j : Int) := by omega
              have ej2 : ((j : Int) + 1 - 1) = (j : Int) := by omega
              go_wp2_with (first | (go_at_call 28; refine (between_any _ _ _ _).mono ?_; rintro e w' ⟨rfl, rfl⟩; (first | rw [X0.out] | rw [X1.out] | rw [X2.out] | rw [X3.out] | rw [X4.out])))
              go_quiet (fail)
              go_wp2
              go_ret2
              exact ⟨by rw [HV.out.1, HV.out.2]; rfl, (by repeat (first | exact hE | refine Ext.setCell ?_ (by first | exact Nat.le_refl _ | (simp; done) | (simp; omega)) _ | refine Ext.drew ?_ | refine Ext.drewN ?_ _ | refine Ext.alloc ?_ _))⟩
      · obtain rfl : k = n := by omega
        have HV : Hid (ckI k f = -1 ∧ ckE k f = 0) := by
          rw [Hid, HS.out.1, HS.out.2, HG.out, Nat.sub_self]; exact ⟨rfl, rfl⟩
        go_wp2
        go_ret2
        exact ⟨by rw [HV.out.1, HV.out.2]; rfl, hE⟩

end Go.Proofs.YtaeblcgblmipaaaDoor

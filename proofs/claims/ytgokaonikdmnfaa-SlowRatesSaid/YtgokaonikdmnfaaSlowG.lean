/-
  Contracts of Cut and Rate (program and reference); the laws SlowParts, SlowCuts, SlowRates, SlowEases, walked.
-/
import Derived.Test.YtgokaonikdmnfaaSlowD
import Derived.Test.YtgokaonikdmnfaaExactC
namespace Go.Proofs.Ytgokaonikdmnfaa
open Go.RowKit

theorem and4 (x y z u : Bool) : x = false ∨ (x = true ∧ y = false) ∨ (x = true ∧ y = true ∧ z = false) ∨ (x = true ∧ y = true ∧ z = true ∧ u = false) ∨ (x = true ∧ y = true ∧ z = true ∧ u = true) := by cases x <;> cases y <;> cases z <;> cases u <;> simp
def okC (o p l m : Int) : Bool := rng o 1 90 && rng p 60 1000 && rng l 0 600 && rng m 1 o
def away (p l : Int) : Int := ceiV (60 * l) p
def cutV (o p l m : Int) : Int := if okC o p l m && decide (m ≤ o - away p l) then o - away p l else 0
def cutE (o p l m : Int) : Int := if okC o p l m then (if decide (m ≤ o - away p l) then 0 else 6) else 2
theorem cut_no {o p l m : Int} (h : okC o p l m = false) : cutV o p l m = 0 ∧ cutE o p l m = 2 := by simp [cutV, cutE, h]
theorem cut_none {o p l m : Int} (h : okC o p l m = true) (h' : ¬ m ≤ o - away p l) : cutV o p l m = 0 ∧ cutE o p l m = 6 := by simp [cutV, cutE, h, h']
theorem cut_yes {o p l m : Int} (h : okC o p l m = true) (h' : m ≤ o - away p l) : cutV o p l m = o - away p l ∧ cutE o p l m = 0 := by simp [cutV, cutE, h, h']
theorem away_eq {p l : Int} (hp : 60 ≤ p) (_h0 : 0 ≤ l) : away p l = -((-(60 * l)) / p) := by
  have h : (p == 0) = false := by simp; omega
  have h1 : ((60 * l) == least && p == -1) = false := by simp; omega
  unfold away
  rw [(dvE_ok h h1).2.2, Int.fdiv_eq_ediv_of_nonneg _ (by omega)]
theorem away_spec {p l : Int} (hp : 60 ≤ p) (h0 : 0 ≤ l) : 60 * l ≤ away p l * p ∧ (away p l - 1) * p < 60 * l := by
  rw [away_eq hp h0]
  have e := Int.mul_ediv_add_emod (-(60 * l)) p
  have r := Int.emod_nonneg (-(60 * l)) (b := p) (by omega)
  have s := Int.emod_lt_of_pos (-(60 * l)) (b := p) (by omega)
  generalize (-(60 * l)) / p = Q at *
  have e1 : -Q * p = -(p * Q) := by rw [Int.neg_mul, Int.mul_comm]
  have e2 : (-Q - 1) * p = -(p * Q) - p := by rw [Int.sub_mul, e1, Int.one_mul]
  omega
theorem away_bd {p l : Int} (hp : 60 ≤ p) (h0 : 0 ≤ l) (h1 : l ≤ 600) : 0 ≤ away p l ∧ away p l ≤ 600 := by
  obtain ⟨h2, h3⟩ := away_spec hp h0
  constructor
  · rcases Int.lt_or_le (away p l) 0 with h | h
    · have : away p l * p ≤ -1 * p := Int.mul_le_mul_of_nonneg_right (by omega) (by omega)
      omega
    · exact h
  · rcases Int.lt_or_le 600 (away p l) with h | h
    · have : 600 * p ≤ (away p l - 1) * p := Int.mul_le_mul_of_nonneg_right (by omega) (by omega)
      omega
    · exact h

set_option maxHeartbeats 2000000 in
theorem cut_any (o p l m : Int) (w : World) :
    Calls Try.prog 20 #[.int .i64 o, .int .i64 p, .int .i64 l, .int .i64 m] w fun e w' => e = .returned (.tuple #[.int .i64 (cutV o p l m), .int .i64 (cutE o p l m)]) ∧ Ext w w' := by
  rcases and4 (rng o 1 90) (rng p 60 1000) (rng l 0 600) (rng m 1 o) with h1 | ⟨h1, h2⟩ | ⟨h1, h2, h3⟩ | ⟨h1, h2, h3, h4⟩ | ⟨h1, h2, h3, h4⟩
  · have HM := Lib.hid (@cut_no o p l m (by simp [okC, *]))
    have k1 := rng_no h1
    go_enter Try.func20, Try.ntmps20
    go_wp2_with (go_at_call 25; refine (from_any _ _ _ _).mono ?_; rintro e w' ⟨rfl, rfl⟩)
    all_goals
      go_ret2
      exact ⟨ret2 HM.out.1.symm HM.out.2.symm, Ext.refl _⟩
  · have HM := Lib.hid (@cut_no o p l m (by simp [okC, *]))
    obtain ⟨k1, k2⟩ := rng_yes h1
    go_enter Try.func20, Try.ntmps20
    go_wp2_with (go_at_call 25; refine (from_any _ _ _ _).mono ?_; rintro e w' ⟨rfl, rfl⟩)
    go_ret2
    exact ⟨ret2 HM.out.1.symm HM.out.2.symm, Ext.refl _⟩
  · have HM := Lib.hid (@cut_no o p l m (by simp [okC, *]))
    obtain ⟨k1, k2⟩ := rng_yes h1
    go_enter Try.func20, Try.ntmps20
    go_wp2_with (go_at_call 25; refine (from_any _ _ _ _).mono ?_; rintro e w' ⟨rfl, rfl⟩)
    go_ret2
    exact ⟨ret2 HM.out.1.symm HM.out.2.symm, Ext.refl _⟩
  · have HM := Lib.hid (@cut_no o p l m (by simp [okC, *]))
    obtain ⟨k1, k2⟩ := rng_yes h1
    have k3 := rng_no h4
    go_enter Try.func20, Try.ntmps20
    go_wp2_with (go_at_call 25; refine (from_any _ _ _ _).mono ?_; rintro e w' ⟨rfl, rfl⟩)
    all_goals
      go_ret2
      exact ⟨ret2 HM.out.1.symm HM.out.2.symm, Ext.refl _⟩
  · obtain ⟨k1, k2⟩ := rng_yes h1
    obtain ⟨k3, k4⟩ := rng_yes h2
    obtain ⟨k5, k6⟩ := rng_yes h3
    obtain ⟨k7, k8⟩ := rng_yes h4
    have hok : okC o p l m = true := by simp [okC, *]
    obtain ⟨g1, g2⟩ := away_bd k3 k5 k6
    have HA : Hid (ceiV (60 * l) p = away p l ∧ dvE (60 * l) p = 0) := ⟨rfl, (dvE_ok (by simp; omega) (by simp; omega)).1⟩
    by_cases hk : m ≤ o - away p l
    · have HM := Lib.hid (cut_yes hok hk)
      clear hok
      go_enter Try.func20, Try.ntmps20
      go_wp2_with (first | (go_at_call 25; refine (from_any _ _ _ _).mono ?_; rintro e w' ⟨rfl, rfl⟩) | (go_at_call 27; refine (ceil_any _ _ (by omega) (by omega) _).mono ?_; rintro e w1 ⟨rfl, rfl⟩; rw [HA.out.1, HA.out.2]))
      go_ret2
      exact ⟨ret2 HM.out.1.symm HM.out.2.symm, Ext.refl _⟩
    · have HM := Lib.hid (cut_none hok hk)
      clear hok
      go_enter Try.func20, Try.ntmps20
      go_wp2_with (first | (go_at_call 25; refine (from_any _ _ _ _).mono ?_; rintro e w' ⟨rfl, rfl⟩) | (go_at_call 27; refine (ceil_any _ _ (by omega) (by omega) _).mono ?_; rintro e w1 ⟨rfl, rfl⟩; rw [HA.out.1, HA.out.2]))
      go_ret2
      exact ⟨ret2 HM.out.1.symm HM.out.2.symm, Ext.refl _⟩

set_option maxHeartbeats 2000000 in
theorem rcut_any (o p l m : Int) (w : World) :
    Calls Try.prog 21 #[.int .i64 o, .int .i64 p, .int .i64 l, .int .i64 m] w fun e w' => e = .returned (.tuple #[.int .i64 (cutV o p l m), .int .i64 (cutE o p l m)]) ∧ Ext w w' := by
  rcases and4 (rng o 1 90) (rng p 60 1000) (rng l 0 600) (rng m 1 o) with h1 | ⟨h1, h2⟩ | ⟨h1, h2, h3⟩ | ⟨h1, h2, h3, h4⟩ | ⟨h1, h2, h3, h4⟩
  · have HM := Lib.hid (@cut_no o p l m (by simp [okC, *]))
    have k1 := rng_no h1
    go_enter Try.func21, Try.ntmps21
    go_wp2_with (go_at_call 26; refine (between_any _ _ _ _).mono ?_; rintro e w' ⟨rfl, rfl⟩)
    all_goals
      go_ret2
      exact ⟨ret2 HM.out.1.symm HM.out.2.symm, Ext.refl _⟩
  · have HM := Lib.hid (@cut_no o p l m (by simp [okC, *]))
    obtain ⟨k1, k2⟩ := rng_yes h1
    go_enter Try.func21, Try.ntmps21
    go_wp2_with (go_at_call 26; refine (between_any _ _ _ _).mono ?_; rintro e w' ⟨rfl, rfl⟩)
    go_ret2
    exact ⟨ret2 HM.out.1.symm HM.out.2.symm, Ext.refl _⟩
  · have HM := Lib.hid (@cut_no o p l m (by simp [okC, *]))
    obtain ⟨k1, k2⟩ := rng_yes h1
    go_enter Try.func21, Try.ntmps21
    go_wp2_with (go_at_call 26; refine (between_any _ _ _ _).mono ?_; rintro e w' ⟨rfl, rfl⟩)
    go_ret2
    exact ⟨ret2 HM.out.1.symm HM.out.2.symm, Ext.refl _⟩
  · have HM := Lib.hid (@cut_no o p l m (by simp [okC, *]))
    obtain ⟨k1, k2⟩ := rng_yes h1
    have k3 := rng_no h4
    go_enter Try.func21, Try.ntmps21
    go_wp2_with (go_at_call 26; refine (between_any _ _ _ _).mono ?_; rintro e w' ⟨rfl, rfl⟩)
    all_goals
      go_ret2
      exact ⟨ret2 HM.out.1.symm HM.out.2.symm, Ext.refl _⟩
  · obtain ⟨k1, k2⟩ := rng_yes h1
    obtain ⟨k3, k4⟩ := rng_yes h2
    obtain ⟨k5, k6⟩ := rng_yes h3
    obtain ⟨k7, k8⟩ := rng_yes h4
    have hok : okC o p l m = true := by simp [okC, *]
    obtain ⟨g1, g2⟩ := away_bd k3 k5 k6
    have HA : Hid (ceiV (60 * l) p = away p l ∧ dvE (60 * l) p = 0) := ⟨rfl, (dvE_ok (by simp; omega) (by simp; omega)).1⟩
    by_cases hk : m ≤ o - away p l
    · have HM := Lib.hid (cut_yes hok hk)
      clear hok
      go_enter Try.func21, Try.ntmps21
      go_wp2_with (first | (go_at_call 26; refine (between_any _ _ _ _).mono ?_; rintro e w' ⟨rfl, rfl⟩) | (go_at_call 28; refine (rceil_any _ _ (by omega) (by omega) _).mono ?_; rintro e w1 ⟨rfl, hb1⟩; rw [HA.out.1, HA.out.2]))
      go_ret2
      exact ⟨ret2 HM.out.1.symm HM.out.2.symm, hb1⟩
    · have HM := Lib.hid (cut_none hok hk)
      clear hok
      go_enter Try.func21, Try.ntmps21
      go_wp2_with (first | (go_at_call 26; refine (between_any _ _ _ _).mono ?_; rintro e w' ⟨rfl, rfl⟩) | (go_at_call 28; refine (rceil_any _ _ (by omega) (by omega) _).mono ?_; rintro e w1 ⟨rfl, hb1⟩; rw [HA.out.1, HA.out.2]))
      go_ret2
      exact ⟨ret2 HM.out.1.symm HM.out.2.symm, hb1⟩

def ratOk (o s : Int) : Bool := rng o 0 1000 && rng s 1 100000
def ratA (o s : Int) : Int := if ratOk o s then mkV1 (3600 * o) s else 0
def ratB (o s : Int) : Int := if ratOk o s then mkV2 (3600 * o) s else 0
def ratE (o s : Int) : Int := if ratOk o s then mkE (3600 * o) s else 2

set_option maxHeartbeats 2000000 in
theorem rate_any (o s : Int) (w : World) :
    Calls Try.prog 22 #[.int .i64 o, .int .i64 s] w fun e w' => e = .returned (.tuple #[.agg #[.int .i64 (ratA o s), .int .i64 (ratB o s)], .int .i64 (ratE o s)]) ∧ Ext w w' := by
  rcases and2 (rng o 0 1000) (rng s 1 100000) with h1 | ⟨h1, h2⟩ | ⟨h1, h2⟩
  · have HM : Hid (ratA o s = 0 ∧ ratB o s = 0 ∧ ratE o s = 2) := by simp [Hid, ratA, ratB, ratE, ratOk, *]
    have k1 := rng_no h1
    go_enter Try.func22, Try.ntmps22
    go_wp2_with (go_at_call 29; refine (make_any _ _ (by omega) (by omega) (by omega) (by omega) _).mono ?_; rintro e w1 ⟨rfl, hb1⟩; obtain ⟨hcell1, hf1⟩ := hb1.cells; have l1 : w.heap.size < w1.heap.size := hb1.lt (by simp))
    all_goals
      refine bodyPost_ret (v := .tuple #[.agg #[.int .i64 0, .int .i64 0], .int .i64 2]) (by simp [results, Try.results22, go_sem, *]) rfl ?_
      exact ⟨retr HM.out.1.symm HM.out.2.1.symm HM.out.2.2.symm, (by repeat (first | exact Ext.refl _ | refine Ext.setCell ?_ (Nat.le_refl _) _ | refine Ext.alloc ?_ _ | refine Ext.drew ?_))⟩
  · have HM : Hid (ratA o s = 0 ∧ ratB o s = 0 ∧ ratE o s = 2) := by simp [Hid, ratA, ratB, ratE, ratOk, *]
    obtain ⟨k1, k2⟩ := rng_yes h1
    have k3 := rng_no h2
    go_enter Try.func22, Try.ntmps22
    go_wp2_with (go_at_call 29; refine (make_any _ _ (by omega) (by omega) (by omega) (by omega) _).mono ?_; rintro e w1 ⟨rfl, hb1⟩; obtain ⟨hcell1, hf1⟩ := hb1.cells; have l1 : w.heap.size < w1.heap.size := hb1.lt (by simp))
    all_goals
      refine bodyPost_ret (v := .tuple #[.agg #[.int .i64 0, .int .i64 0], .int .i64 2]) (by simp [results, Try.results22, go_sem, *]) rfl ?_
      exact ⟨retr HM.out.1.symm HM.out.2.1.symm HM.out.2.2.symm, (by repeat (first | exact Ext.refl _ | refine Ext.setCell ?_ (Nat.le_refl _) _ | refine Ext.alloc ?_ _ | refine Ext.drew ?_))⟩
  · obtain ⟨k1, k2⟩ := rng_yes h1
    obtain ⟨k3, k4⟩ := rng_yes h2
    have HM : Hid (ratA o s = mkV1 (3600 * o) s ∧ ratB o s = mkV2 (3600 * o) s ∧ ratE o s = mkE (3600 * o) s) := by simp [Hid, ratA, ratB, ratE, ratOk, *]
    go_enter Try.func22, Try.ntmps22
    go_wp2_with (go_at_call 29; refine (make_any _ _ (by omega) (by omega) (by omega) (by omega) _).mono ?_; rintro e w1 ⟨rfl, hb1⟩; obtain ⟨hcell1, hf1⟩ := hb1.cells; have l1 : w.heap.size < w1.heap.size := hb1.lt (by simp))
    all_goals
      refine bodyPost_ret (v := .tuple #[.agg #[.int .i64 (mkV1 (3600 * o) s), .int .i64 (mkV2 (3600 * o) s)], .int .i64 (mkE (3600 * o) s)]) (by simp [results, Try.results22, go_sem, *]) rfl ?_
      exact ⟨retr HM.out.1.symm HM.out.2.1.symm HM.out.2.2.symm, (by repeat (first | exact ((Ext.refl _).alloc _).trans hb1 | refine Ext.setCell ?_ (Nat.le_refl _) _ | refine Ext.alloc ?_ _ | refine Ext.drew ?_))⟩

set_option maxHeartbeats 2000000 in
theorem rrate_any (o s : Int) (w : World) :
    Calls Try.prog 23 #[.int .i64 o, .int .i64 s] w fun e w' => e = .returned (.tuple #[.agg #[.int .i64 (ratA o s), .int .i64 (ratB o s)], .int .i64 (ratE o s)]) ∧ Ext w w' := by
  rcases and2 (rng o 0 1000) (rng s 1 100000) with h1 | ⟨h1, h2⟩ | ⟨h1, h2⟩
  · have HM : Hid (ratA o s = 0 ∧ ratB o s = 0 ∧ ratE o s = 2) := by simp [Hid, ratA, ratB, ratE, ratOk, *]
    have k1 := rng_no h1
    go_enter Try.func23, Try.ntmps23
    go_wp2_with (first | (go_at_call 26; refine (between_any _ _ _ _).mono ?_; rintro e w' ⟨rfl, rfl⟩) | (go_at_call 30; refine (rmake_any _ _ (by omega) (by omega) (by omega) (by omega) _).mono ?_; rintro e w1 ⟨rfl, hb1⟩; obtain ⟨hcell1, hf1⟩ := hb1.cells; have l1 : w.heap.size < w1.heap.size := hb1.lt (by simp)))
    all_goals
      refine bodyPost_ret (v := .tuple #[.agg #[.int .i64 0, .int .i64 0], .int .i64 2]) (by simp [results, Try.results23, go_sem, *]) rfl ?_
      exact ⟨retr HM.out.1.symm HM.out.2.1.symm HM.out.2.2.symm, (by repeat (first | exact Ext.refl _ | refine Ext.setCell ?_ (Nat.le_refl _) _ | refine Ext.alloc ?_ _ | refine Ext.drew ?_))⟩
  · have HM : Hid (ratA o s = 0 ∧ ratB o s = 0 ∧ ratE o s = 2) := by simp [Hid, ratA, ratB, ratE, ratOk, *]
    obtain ⟨k1, k2⟩ := rng_yes h1
    have k3 := rng_no h2
    go_enter Try.func23, Try.ntmps23
    go_wp2_with (first | (go_at_call 26; refine (between_any _ _ _ _).mono ?_; rintro e w' ⟨rfl, rfl⟩) | (go_at_call 30; refine (rmake_any _ _ (by omega) (by omega) (by omega) (by omega) _).mono ?_; rintro e w1 ⟨rfl, hb1⟩; obtain ⟨hcell1, hf1⟩ := hb1.cells; have l1 : w.heap.size < w1.heap.size := hb1.lt (by simp)))
    all_goals
      refine bodyPost_ret (v := .tuple #[.agg #[.int .i64 0, .int .i64 0], .int .i64 2]) (by simp [results, Try.results23, go_sem, *]) rfl ?_
      exact ⟨retr HM.out.1.symm HM.out.2.1.symm HM.out.2.2.symm, (by repeat (first | exact Ext.refl _ | refine Ext.setCell ?_ (Nat.le_refl _) _ | refine Ext.alloc ?_ _ | refine Ext.drew ?_))⟩
  · obtain ⟨k1, k2⟩ := rng_yes h1
    obtain ⟨k3, k4⟩ := rng_yes h2
    have HM : Hid (ratA o s = mkV1 (3600 * o) s ∧ ratB o s = mkV2 (3600 * o) s ∧ ratE o s = mkE (3600 * o) s) := by simp [Hid, ratA, ratB, ratE, ratOk, *]
    go_enter Try.func23, Try.ntmps23
    go_wp2_with (first | (go_at_call 26; refine (between_any _ _ _ _).mono ?_; rintro e w' ⟨rfl, rfl⟩) | (go_at_call 30; refine (rmake_any _ _ (by omega) (by omega) (by omega) (by omega) _).mono ?_; rintro e w1 ⟨rfl, hb1⟩; obtain ⟨hcell1, hf1⟩ := hb1.cells; have l1 : w.heap.size < w1.heap.size := hb1.lt (by simp)))
    all_goals
      refine bodyPost_ret (v := .tuple #[.agg #[.int .i64 (mkV1 (3600 * o) s), .int .i64 (mkV2 (3600 * o) s)], .int .i64 (mkE (3600 * o) s)]) (by simp [results, Try.results23, go_sem, *]) rfl ?_
      exact ⟨retr HM.out.1.symm HM.out.2.1.symm HM.out.2.2.symm, (by repeat (first | exact ((Ext.refl _).alloc _).trans hb1 | refine Ext.setCell ?_ (Nat.le_refl _) _ | refine Ext.alloc ?_ _ | refine Ext.drew ?_))⟩

end Go.Proofs.Ytgokaonikdmnfaa

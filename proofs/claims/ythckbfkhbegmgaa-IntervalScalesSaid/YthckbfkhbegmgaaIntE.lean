/-
  Contracts of layer 29 (interval): Over, Hull, Meet, Has, Within, Apart of the program.
-/
import Derived.Test.YthckbfkhbegmgaaIntD
import Derived.Test.YthckbfkhbegmgaaIntX
namespace Go.Proofs.Ythckbfkhbegmgaa
open Go.RowKit
set_option linter.unusedSimpArgs false

def ovLo (a b d : Int) : Int := if vR a b && !(d == 0) then floV (if d < 0 then b else a) d else 0
def ovHi (a b d : Int) : Int := if vR a b && !(d == 0) then ceiV (if d < 0 then a else b) d else 0
def ovEr (a b d : Int) : Int := if vR a b && !(d == 0) then 0 else 1
def huLo (a b c d : Int) : Int := if vv a b c d then min a c else 0
def huHi (a b c d : Int) : Int := if vv a b c d then max b d else 0
def huEr (a b c d : Int) : Int := if vv a b c d then 0 else 1
def apB (a b c d : Int) : Bool := vv a b c d && (decide (b < c) || decide (d < a))
def meLo (a b c d : Int) : Int := if vv a b c d then (if apB a b c d then 0 else max a c) else 0
def meHi (a b c d : Int) : Int := if vv a b c d then (if apB a b c d then 0 else min b d) else 0
def meEr (a b c d : Int) : Int := if vv a b c d then (if apB a b c d then 6 else 0) else 1
def haB (a b n : Int) : Bool := vR a b && (decide (a ≤ n) && decide (n ≤ b))
def wiB (a b c d : Int) : Bool := vv a b c d && (decide (c ≤ a) && decide (b ≤ d))

set_option maxHeartbeats 2000000 in
theorem over_any (a b d : Int) (a1 : -9223372036854775808 ≤ a) (a2 : a ≤ 9223372036854775807) (b1 : -9223372036854775808 ≤ b) (b2 : b ≤ 9223372036854775807) (d1 : -9223372036854775808 ≤ d) (d2 : d ≤ 9223372036854775807) (w : World) : Calls Try.prog 11 #[.agg #[.int .i64 a, .int .i64 b], .int .i64 d] w fun e w' => e = .returned (.tuple #[.agg #[.int .i64 (ovLo a b d), .int .i64 (ovHi a b d)], .int .i64 (ovEr a b d)]) ∧ Ext w w' := by
  rcases and2 (vR a b) (d == 0) with h1 | ⟨h1, h2⟩ | ⟨h1, h2⟩
  · have HV : Hid (ovLo a b d = 0 ∧ ovHi a b d = 0 ∧ ovEr a b d = 1) := by simp [Hid, ovLo, ovHi, ovEr, h1]
    have X1 := Lib.hid h1
    clear h1
    go_enter Try.func11, Try.ntmps11
    go_wp2_with (first | ((fail_if_success (have hzz := hb1)); go_at_call 16; refine (valid_any _ _  _).mono ?_; rintro e w1 ⟨rfl, hb1⟩; obtain ⟨hc1, hf1⟩ := hb1.cells; (try (have l1_0 : w.heap.size < w1.heap.size := hb1.lt (by first | (simp; done) | (simp; omega) | (simp [go_sem]; done) | (simp [go_sem]; omega) | omega))); (try (have m1_0 : w.heap.size ≤ w1.heap.size := Nat.le_of_lt l1_0)); (try (have l1_1 : w.heap.size + 1 < w1.heap.size := hb1.lt (by first | (simp; done) | (simp; omega) | (simp [go_sem]; done) | (simp [go_sem]; omega) | omega))); (try (have m1_1 : w.heap.size + 1 ≤ w1.heap.size := Nat.le_of_lt l1_1)); (have q1_0_0 : w1.cell? ⟨w.heap.size, 0, none⟩ = some (.int .i64 a) := hb1.keep (by first | assumption | (simp [go_sem, *]; done))); (have q1_0_1 : w1.cell? ⟨w.heap.size, 1, none⟩ = some (.int .i64 b) := hb1.keep (by first | assumption | (simp [go_sem, *]; done))); (have q1_1_0 : w1.cell? ⟨w.heap.size + 1, 0, none⟩ = some (.int .i64 0) := hb1.keep (by first | assumption | (simp [go_sem, *]; done))); (have q1_1_1 : w1.cell? ⟨w.heap.size + 1, 1, none⟩ = some (.int .i64 0) := hb1.keep (by first | assumption | (simp [go_sem, *]; done))); (have r1_0_0 : w1.frozen? ⟨w.heap.size, 0, none⟩ = false := (hf1 _ _ (by first | (simp; done) | (simp; omega) | (simp [go_sem]; done) | (simp [go_sem]; omega) | omega)).trans (by first | assumption | (simp [go_sem, *]; done))); (have r1_0_1 : w1.frozen? ⟨w.heap.size, 1, none⟩ = false := (hf1 _ _ (by first | (simp; done) | (simp; omega) | (simp [go_sem]; done) | (simp [go_sem]; omega) | omega)).trans (by first | assumption | (simp [go_sem, *]; done))); (have r1_1_0 : w1.frozen? ⟨w.heap.size + 1, 0, none⟩ = false := (hf1 _ _ (by first | (simp; done) | (simp; omega) | (simp [go_sem]; done) | (simp [go_sem]; omega) | omega)).trans (by first | assumption | (simp [go_sem, *]; done))); (have r1_1_1 : w1.frozen? ⟨w.heap.size + 1, 1, none⟩ = false := (hf1 _ _ (by first | (simp; done) | (simp; omega) | (simp [go_sem]; done) | (simp [go_sem]; omega) | omega)).trans (by first | assumption | (simp [go_sem, *]; done))); clear hc1 hf1; rw [X1.out]) | (go_at_call 35; refine (floor_any _ _ (by omega) (by omega) _).mono ?_; rintro e w' ⟨rfl, rfl⟩) | (go_at_call 36; refine (ceil_any _ _ (by omega) (by omega) _).mono ?_; rintro e w' ⟨rfl, rfl⟩))
    refine bodyPost_ret (v := .tuple #[.agg #[.int .i64 0, .int .i64 0], .int .i64 1]) (by simp [results, Try.results11, go_sem, *]) rfl ?_
    exact ⟨retR HV.out.1.symm HV.out.2.1.symm HV.out.2.2.symm, (by repeat (first | exact Ext.refl _ | refine Ext.setCell ?_ (by first | exact Nat.le_refl _ | (simp; done) | (simp; omega)) _ | refine Ext.drew ?_ | refine Ext.drewN ?_ _ | refine Ext.alloc ?_ _ | refine Ext.trans ?_ hb1))⟩
  · by_cases hd : d < 0
    · have HV : Hid (ovLo a b d = floV b d ∧ ovHi a b d = ceiV a d ∧ ovEr a b d = 0) := by simp [Hid, ovLo, ovHi, ovEr, h1, h2, hd]
      have X1 := Lib.hid h1
      clear h1
      go_enter Try.func11, Try.ntmps11
      go_wp2_with (first | ((fail_if_success (have hzz := hb1)); go_at_call 16; refine (valid_any _ _  _).mono ?_; rintro e w1 ⟨rfl, hb1⟩; obtain ⟨hc1, hf1⟩ := hb1.cells; (try (have l1_0 : w.heap.size < w1.heap.size := hb1.lt (by first | (simp; done) | (simp; omega) | (simp [go_sem]; done) | (simp [go_sem]; omega) | omega))); (try (have m1_0 : w.heap.size ≤ w1.heap.size := Nat.le_of_lt l1_0)); (try (have l1_1 : w.heap.size + 1 < w1.heap.size := hb1.lt (by first | (simp; done) | (simp; omega) | (simp [go_sem]; done) | (simp [go_sem]; omega) | omega))); (try (have m1_1 : w.heap.size + 1 ≤ w1.heap.size := Nat.le_of_lt l1_1)); (have q1_0_0 : w1.cell? ⟨w.heap.size, 0, none⟩ = some (.int .i64 a) := hb1.keep (by first | assumption | (simp [go_sem, *]; done))); (have q1_0_1 : w1.cell? ⟨w.heap.size, 1, none⟩ = some (.int .i64 b) := hb1.keep (by first | assumption | (simp [go_sem, *]; done))); (have q1_1_0 : w1.cell? ⟨w.heap.size + 1, 0, none⟩ = some (.int .i64 0) := hb1.keep (by first | assumption | (simp [go_sem, *]; done))); (have q1_1_1 : w1.cell? ⟨w.heap.size + 1, 1, none⟩ = some (.int .i64 0) := hb1.keep (by first | assumption | (simp [go_sem, *]; done))); (have r1_0_0 : w1.frozen? ⟨w.heap.size, 0, none⟩ = false := (hf1 _ _ (by first | (simp; done) | (simp; omega) | (simp [go_sem]; done) | (simp [go_sem]; omega) | omega)).trans (by first | assumption | (simp [go_sem, *]; done))); (have r1_0_1 : w1.frozen? ⟨w.heap.size, 1, none⟩ = false := (hf1 _ _ (by first | (simp; done) | (simp; omega) | (simp [go_sem]; done) | (simp [go_sem]; omega) | omega)).trans (by first | assumption | (simp [go_sem, *]; done))); (have r1_1_0 : w1.frozen? ⟨w.heap.size + 1, 0, none⟩ = false := (hf1 _ _ (by first | (simp; done) | (simp; omega) | (simp [go_sem]; done) | (simp [go_sem]; omega) | omega)).trans (by first | assumption | (simp [go_sem, *]; done))); (have r1_1_1 : w1.frozen? ⟨w.heap.size + 1, 1, none⟩ = false := (hf1 _ _ (by first | (simp; done) | (simp; omega) | (simp [go_sem]; done) | (simp [go_sem]; omega) | omega)).trans (by first | assumption | (simp [go_sem, *]; done))); clear hc1 hf1; rw [X1.out]) | (go_at_call 35; refine (floor_any _ _ (by omega) (by omega) _).mono ?_; rintro e w' ⟨rfl, rfl⟩) | (go_at_call 36; refine (ceil_any _ _ (by omega) (by omega) _).mono ?_; rintro e w' ⟨rfl, rfl⟩))
      
      refine bodyPost_ret (v := .tuple #[.agg #[.int .i64 (floV b d), .int .i64 (ceiV a d)], .int .i64 0]) (by simp [results, Try.results11, go_sem, *]) rfl ?_
      exact ⟨retR HV.out.1.symm HV.out.2.1.symm HV.out.2.2.symm, (by repeat (first | exact Ext.refl _ | refine Ext.setCell ?_ (by first | exact Nat.le_refl _ | (simp; done) | (simp; omega)) _ | refine Ext.drew ?_ | refine Ext.drewN ?_ _ | refine Ext.alloc ?_ _ | refine Ext.trans ?_ hb1))⟩
    · have HV : Hid (ovLo a b d = floV a d ∧ ovHi a b d = ceiV b d ∧ ovEr a b d = 0) := by simp [Hid, ovLo, ovHi, ovEr, h1, h2, hd]
      have X1 := Lib.hid h1
      clear h1
      go_enter Try.func11, Try.ntmps11
      go_wp2_with (first | ((fail_if_success (have hzz := hb1)); go_at_call 16; refine (valid_any _ _  _).mono ?_; rintro e w1 ⟨rfl, hb1⟩; obtain ⟨hc1, hf1⟩ := hb1.cells; (try (have l1_0 : w.heap.size < w1.heap.size := hb1.lt (by first | (simp; done) | (simp; omega) | (simp [go_sem]; done) | (simp [go_sem]; omega) | omega))); (try (have m1_0 : w.heap.size ≤ w1.heap.size := Nat.le_of_lt l1_0)); (try (have l1_1 : w.heap.size + 1 < w1.heap.size := hb1.lt (by first | (simp; done) | (simp; omega) | (simp [go_sem]; done) | (simp [go_sem]; omega) | omega))); (try (have m1_1 : w.heap.size + 1 ≤ w1.heap.size := Nat.le_of_lt l1_1)); (have q1_0_0 : w1.cell? ⟨w.heap.size, 0, none⟩ = some (.int .i64 a) := hb1.keep (by first | assumption | (simp [go_sem, *]; done))); (have q1_0_1 : w1.cell? ⟨w.heap.size, 1, none⟩ = some (.int .i64 b) := hb1.keep (by first | assumption | (simp [go_sem, *]; done))); (have q1_1_0 : w1.cell? ⟨w.heap.size + 1, 0, none⟩ = some (.int .i64 0) := hb1.keep (by first | assumption | (simp [go_sem, *]; done))); (have q1_1_1 : w1.cell? ⟨w.heap.size + 1, 1, none⟩ = some (.int .i64 0) := hb1.keep (by first | assumption | (simp [go_sem, *]; done))); (have r1_0_0 : w1.frozen? ⟨w.heap.size, 0, none⟩ = false := (hf1 _ _ (by first | (simp; done) | (simp; omega) | (simp [go_sem]; done) | (simp [go_sem]; omega) | omega)).trans (by first | assumption | (simp [go_sem, *]; done))); (have r1_0_1 : w1.frozen? ⟨w.heap.size, 1, none⟩ = false := (hf1 _ _ (by first | (simp; done) | (simp; omega) | (simp [go_sem]; done) | (simp [go_sem]; omega) | omega)).trans (by first | assumption | (simp [go_sem, *]; done))); (have r1_1_0 : w1.frozen? ⟨w.heap.size + 1, 0, none⟩ = false := (hf1 _ _ (by first | (simp; done) | (simp; omega) | (simp [go_sem]; done) | (simp [go_sem]; omega) | omega)).trans (by first | assumption | (simp [go_sem, *]; done))); (have r1_1_1 : w1.frozen? ⟨w.heap.size + 1, 1, none⟩ = false := (hf1 _ _ (by first | (simp; done) | (simp; omega) | (simp [go_sem]; done) | (simp [go_sem]; omega) | omega)).trans (by first | assumption | (simp [go_sem, *]; done))); clear hc1 hf1; rw [X1.out]) | (go_at_call 35; refine (floor_any _ _ (by omega) (by omega) _).mono ?_; rintro e w' ⟨rfl, rfl⟩) | (go_at_call 36; refine (ceil_any _ _ (by omega) (by omega) _).mono ?_; rintro e w' ⟨rfl, rfl⟩))
      
      refine bodyPost_ret (v := .tuple #[.agg #[.int .i64 (floV a d), .int .i64 (ceiV b d)], .int .i64 0]) (by simp [results, Try.results11, go_sem, *]) rfl ?_
      exact ⟨retR HV.out.1.symm HV.out.2.1.symm HV.out.2.2.symm, (by repeat (first | exact Ext.refl _ | refine Ext.setCell ?_ (by first | exact Nat.le_refl _ | (simp; done) | (simp; omega)) _ | refine Ext.drew ?_ | refine Ext.drewN ?_ _ | refine Ext.alloc ?_ _ | refine Ext.trans ?_ hb1))⟩
  · have HV : Hid (ovLo a b d = 0 ∧ ovHi a b d = 0 ∧ ovEr a b d = 1) := by simp [Hid, ovLo, ovHi, ovEr, h1, h2]
    have X1 := Lib.hid h1
    clear h1
    go_enter Try.func11, Try.ntmps11
    go_wp2_with (first | ((fail_if_success (have hzz := hb1)); go_at_call 16; refine (valid_any _ _  _).mono ?_; rintro e w1 ⟨rfl, hb1⟩; obtain ⟨hc1, hf1⟩ := hb1.cells; (try (have l1_0 : w.heap.size < w1.heap.size := hb1.lt (by first | (simp; done) | (simp; omega) | (simp [go_sem]; done) | (simp [go_sem]; omega) | omega))); (try (have m1_0 : w.heap.size ≤ w1.heap.size := Nat.le_of_lt l1_0)); (try (have l1_1 : w.heap.size + 1 < w1.heap.size := hb1.lt (by first | (simp; done) | (simp; omega) | (simp [go_sem]; done) | (simp [go_sem]; omega) | omega))); (try (have m1_1 : w.heap.size + 1 ≤ w1.heap.size := Nat.le_of_lt l1_1)); (have q1_0_0 : w1.cell? ⟨w.heap.size, 0, none⟩ = some (.int .i64 a) := hb1.keep (by first | assumption | (simp [go_sem, *]; done))); (have q1_0_1 : w1.cell? ⟨w.heap.size, 1, none⟩ = some (.int .i64 b) := hb1.keep (by first | assumption | (simp [go_sem, *]; done))); (have q1_1_0 : w1.cell? ⟨w.heap.size + 1, 0, none⟩ = some (.int .i64 0) := hb1.keep (by first | assumption | (simp [go_sem, *]; done))); (have q1_1_1 : w1.cell? ⟨w.heap.size + 1, 1, none⟩ = some (.int .i64 0) := hb1.keep (by first | assumption | (simp [go_sem, *]; done))); (have r1_0_0 : w1.frozen? ⟨w.heap.size, 0, none⟩ = false := (hf1 _ _ (by first | (simp; done) | (simp; omega) | (simp [go_sem]; done) | (simp [go_sem]; omega) | omega)).trans (by first | assumption | (simp [go_sem, *]; done))); (have r1_0_1 : w1.frozen? ⟨w.heap.size, 1, none⟩ = false := (hf1 _ _ (by first | (simp; done) | (simp; omega) | (simp [go_sem]; done) | (simp [go_sem]; omega) | omega)).trans (by first | assumption | (simp [go_sem, *]; done))); (have r1_1_0 : w1.frozen? ⟨w.heap.size + 1, 0, none⟩ = false := (hf1 _ _ (by first | (simp; done) | (simp; omega) | (simp [go_sem]; done) | (simp [go_sem]; omega) | omega)).trans (by first | assumption | (simp [go_sem, *]; done))); (have r1_1_1 : w1.frozen? ⟨w.heap.size + 1, 1, none⟩ = false := (hf1 _ _ (by first | (simp; done) | (simp; omega) | (simp [go_sem]; done) | (simp [go_sem]; omega) | omega)).trans (by first | assumption | (simp [go_sem, *]; done))); clear hc1 hf1; rw [X1.out]) | (go_at_call 35; refine (floor_any _ _ (by omega) (by omega) _).mono ?_; rintro e w' ⟨rfl, rfl⟩) | (go_at_call 36; refine (ceil_any _ _ (by omega) (by omega) _).mono ?_; rintro e w' ⟨rfl, rfl⟩))
    refine bodyPost_ret (v := .tuple #[.agg #[.int .i64 0, .int .i64 0], .int .i64 1]) (by simp [results, Try.results11, go_sem, *]) rfl ?_
    exact ⟨retR HV.out.1.symm HV.out.2.1.symm HV.out.2.2.symm, (by repeat (first | exact Ext.refl _ | refine Ext.setCell ?_ (by first | exact Nat.le_refl _ | (simp; done) | (simp; omega)) _ | refine Ext.drew ?_ | refine Ext.drewN ?_ _ | refine Ext.alloc ?_ _ | refine Ext.trans ?_ hb1))⟩

set_option maxHeartbeats 1000000 in
theorem has_any (a b n : Int) (w : World) : Calls Try.prog 26 #[.agg #[.int .i64 a, .int .i64 b], .int .i64 n] w fun e w' => e = .returned (.bool (haB a b n)) ∧ Ext w w' := by
  rcases and3 (vR a b) (decide (a ≤ n)) (decide (n ≤ b)) with h1 | ⟨h1, h2⟩ | ⟨h1, h2, h3⟩ | ⟨h1, h2, h3⟩
  all_goals
    first
      | (have HV : Hid (haB a b n = false) := by ( simp only [Hid, haB]; simp only [*]; rfl )
         have X1 := Lib.hid h1
         clear h1
         go_enter Try.func26, Try.ntmps26
         go_wp2_with (first | ((fail_if_success (have hzz := hb1)); go_at_call 16; refine (valid_any _ _  _).mono ?_; rintro e w1 ⟨rfl, hb1⟩; obtain ⟨hc1, hf1⟩ := hb1.cells; (try (have l1_0 : w.heap.size < w1.heap.size := hb1.lt (by first | (simp; done) | (simp; omega) | (simp [go_sem]; done) | (simp [go_sem]; omega) | omega))); (try (have m1_0 : w.heap.size ≤ w1.heap.size := Nat.le_of_lt l1_0)); rw [X1.out]))
         go_ret
         exact ⟨retb HV.out.symm, (by repeat (first | exact Ext.refl _ | refine Ext.setCell ?_ (by first | exact Nat.le_refl _ | (simp; done) | (simp; omega)) _ | refine Ext.drew ?_ | refine Ext.drewN ?_ _ | refine Ext.alloc ?_ _ | refine Ext.trans ?_ hb1))⟩)
      | (have HV : Hid (haB a b n = true) := by ( simp only [Hid, haB]; simp only [*]; rfl )
         have X1 := Lib.hid h1
         clear h1
         go_enter Try.func26, Try.ntmps26
         go_wp2_with (first | ((fail_if_success (have hzz := hb1)); go_at_call 16; refine (valid_any _ _  _).mono ?_; rintro e w1 ⟨rfl, hb1⟩; obtain ⟨hc1, hf1⟩ := hb1.cells; (try (have l1_0 : w.heap.size < w1.heap.size := hb1.lt (by first | (simp; done) | (simp; omega) | (simp [go_sem]; done) | (simp [go_sem]; omega) | omega))); (try (have m1_0 : w.heap.size ≤ w1.heap.size := Nat.le_of_lt l1_0)); rw [X1.out]))
         go_ret
         exact ⟨retb HV.out.symm, (by repeat (first | exact Ext.refl _ | refine Ext.setCell ?_ (by first | exact Nat.le_refl _ | (simp; done) | (simp; omega)) _ | refine Ext.drew ?_ | refine Ext.drewN ?_ _ | refine Ext.alloc ?_ _ | refine Ext.trans ?_ hb1))⟩)

set_option maxHeartbeats 1000000 in
theorem iwithin_any (a b c d : Int) (w : World) : Calls Try.prog 28 #[.agg #[.int .i64 a, .int .i64 b], .agg #[.int .i64 c, .int .i64 d]] w fun e w' => e = .returned (.bool (wiB a b c d)) ∧ Ext w w' := by
  rcases and3 (vv a b c d) (decide (c ≤ a)) (decide (b ≤ d)) with h1 | ⟨h1, h2⟩ | ⟨h1, h2, h3⟩ | ⟨h1, h2, h3⟩
  all_goals
    first
      | (have HV : Hid (wiB a b c d = false) := by ( simp only [Hid, wiB]; simp only [*]; rfl )
         have X1 := Lib.hid h1
         clear h1
         go_enter Try.func28, Try.ntmps28
         go_wp2_with (first | ((fail_if_success (have hzz := hb1)); go_at_call 44; refine (both_any _ _ _ _  _).mono ?_; rintro e w1 ⟨rfl, hb1⟩; obtain ⟨hc1, hf1⟩ := hb1.cells; (try (have l1_0 : w.heap.size < w1.heap.size := hb1.lt (by first | (simp; done) | (simp; omega) | (simp [go_sem]; done) | (simp [go_sem]; omega) | omega))); (try (have m1_0 : w.heap.size ≤ w1.heap.size := Nat.le_of_lt l1_0)); (try (have l1_1 : w.heap.size + 1 < w1.heap.size := hb1.lt (by first | (simp; done) | (simp; omega) | (simp [go_sem]; done) | (simp [go_sem]; omega) | omega))); (try (have m1_1 : w.heap.size + 1 ≤ w1.heap.size := Nat.le_of_lt l1_1)); rw [X1.out]))
         go_ret
         exact ⟨retb HV.out.symm, (by repeat (first | exact Ext.refl _ | refine Ext.setCell ?_ (by first | exact Nat.le_refl _ | (simp; done) | (simp; omega)) _ | refine Ext.drew ?_ | refine Ext.drewN ?_ _ | refine Ext.alloc ?_ _ | refine Ext.trans ?_ hb1))⟩)
      | (have HV : Hid (wiB a b c d = true) := by ( simp only [Hid, wiB]; simp only [*]; rfl )
         have X1 := Lib.hid h1
         clear h1
         go_enter Try.func28, Try.ntmps28
         go_wp2_with (first | ((fail_if_success (have hzz := hb1)); go_at_call 44; refine (both_any _ _ _ _  _).mono ?_; rintro e w1 ⟨rfl, hb1⟩; obtain ⟨hc1, hf1⟩ := hb1.cells; (try (have l1_0 : w.heap.size < w1.heap.size := hb1.lt (by first | (simp; done) | (simp; omega) | (simp [go_sem]; done) | (simp [go_sem]; omega) | omega))); (try (have m1_0 : w.heap.size ≤ w1.heap.size := Nat.le_of_lt l1_0)); (try (have l1_1 : w.heap.size + 1 < w1.heap.size := hb1.lt (by first | (simp; done) | (simp; omega) | (simp [go_sem]; done) | (simp [go_sem]; omega) | omega))); (try (have m1_1 : w.heap.size + 1 ≤ w1.heap.size := Nat.le_of_lt l1_1)); rw [X1.out]))
         go_ret
         exact ⟨retb HV.out.symm, (by repeat (first | exact Ext.refl _ | refine Ext.setCell ?_ (by first | exact Nat.le_refl _ | (simp; done) | (simp; omega)) _ | refine Ext.drew ?_ | refine Ext.drewN ?_ _ | refine Ext.alloc ?_ _ | refine Ext.trans ?_ hb1))⟩)

theorem or3 (x y z : Bool) : x = false ∨ (x = true ∧ y = true) ∨ (x = true ∧ y = false ∧ z = false) ∨ (x = true ∧ y = false ∧ z = true) := by cases x <;> cases y <;> cases z <;> simp
set_option maxHeartbeats 1000000 in
theorem apart_any (a b c d : Int) (w : World) : Calls Try.prog 30 #[.agg #[.int .i64 a, .int .i64 b], .agg #[.int .i64 c, .int .i64 d]] w fun e w' => e = .returned (.bool (apB a b c d)) ∧ Ext w w' := by
  rcases or3 (vv a b c d) (decide (b < c)) (decide (d < a)) with h1 | ⟨h1, h2⟩ | ⟨h1, h2, h3⟩ | ⟨h1, h2, h3⟩
  all_goals
    first
      | (have HV : Hid (apB a b c d = false) := by ( simp only [Hid, apB]; simp only [*]; rfl )
         have X1 := Lib.hid h1
         clear h1
         go_enter Try.func30, Try.ntmps30
         go_wp2_with (first | ((fail_if_success (have hzz := hb1)); go_at_call 44; refine (both_any _ _ _ _  _).mono ?_; rintro e w1 ⟨rfl, hb1⟩; obtain ⟨hc1, hf1⟩ := hb1.cells; (try (have l1_0 : w.heap.size < w1.heap.size := hb1.lt (by first | (simp; done) | (simp; omega) | (simp [go_sem]; done) | (simp [go_sem]; omega) | omega))); (try (have m1_0 : w.heap.size ≤ w1.heap.size := Nat.le_of_lt l1_0)); (try (have l1_1 : w.heap.size + 1 < w1.heap.size := hb1.lt (by first | (simp; done) | (simp; omega) | (simp [go_sem]; done) | (simp [go_sem]; omega) | omega))); (try (have m1_1 : w.heap.size + 1 ≤ w1.heap.size := Nat.le_of_lt l1_1)); rw [X1.out]))
         go_ret
         exact ⟨retb HV.out.symm, (by repeat (first | exact Ext.refl _ | refine Ext.setCell ?_ (by first | exact Nat.le_refl _ | (simp; done) | (simp; omega)) _ | refine Ext.drew ?_ | refine Ext.drewN ?_ _ | refine Ext.alloc ?_ _ | refine Ext.trans ?_ hb1))⟩)
      | (have HV : Hid (apB a b c d = true) := by ( simp only [Hid, apB]; simp only [*]; rfl )
         have X1 := Lib.hid h1
         clear h1
         go_enter Try.func30, Try.ntmps30
         go_wp2_with (first | ((fail_if_success (have hzz := hb1)); go_at_call 44; refine (both_any _ _ _ _  _).mono ?_; rintro e w1 ⟨rfl, hb1⟩; obtain ⟨hc1, hf1⟩ := hb1.cells; (try (have l1_0 : w.heap.size < w1.heap.size := hb1.lt (by first | (simp; done) | (simp; omega) | (simp [go_sem]; done) | (simp [go_sem]; omega) | omega))); (try (have m1_0 : w.heap.size ≤ w1.heap.size := Nat.le_of_lt l1_0)); (try (have l1_1 : w.heap.size + 1 < w1.heap.size := hb1.lt (by first | (simp; done) | (simp; omega) | (simp [go_sem]; done) | (simp [go_sem]; omega) | omega))); (try (have m1_1 : w.heap.size + 1 ≤ w1.heap.size := Nat.le_of_lt l1_1)); rw [X1.out]))
         go_ret
         exact ⟨retb HV.out.symm, (by repeat (first | exact Ext.refl _ | refine Ext.setCell ?_ (by first | exact Nat.le_refl _ | (simp; done) | (simp; omega)) _ | refine Ext.drew ?_ | refine Ext.drewN ?_ _ | refine Ext.alloc ?_ _ | refine Ext.trans ?_ hb1))⟩)

set_option maxHeartbeats 1000000 in
theorem hull_any (a b c d : Int) (w : World) : Calls Try.prog 22 #[.agg #[.int .i64 a, .int .i64 b], .agg #[.int .i64 c, .int .i64 d]] w fun e w' => e = .returned (.tuple #[.agg #[.int .i64 (huLo a b c d), .int .i64 (huHi a b c d)], .int .i64 (huEr a b c d)]) ∧ Ext w w' := by
  rcases and1 (vv a b c d) with h1 | h1
  · have HV : Hid (huLo a b c d = 0 ∧ huHi a b c d = 0 ∧ huEr a b c d = 1) := by simp [Hid, huLo, huHi, huEr, h1]
    have X1 := Lib.hid h1
    clear h1
    go_enter Try.func22, Try.ntmps22
    go_wp2_with (first | ((fail_if_success (have hzz := hb1)); go_at_call 44; refine (both_any _ _ _ _  _).mono ?_; rintro e w1 ⟨rfl, hb1⟩; obtain ⟨hc1, hf1⟩ := hb1.cells; (try (have l1_0 : w.heap.size < w1.heap.size := hb1.lt (by first | (simp; done) | (simp; omega) | (simp [go_sem]; done) | (simp [go_sem]; omega) | omega))); (try (have m1_0 : w.heap.size ≤ w1.heap.size := Nat.le_of_lt l1_0)); (try (have l1_1 : w.heap.size + 1 < w1.heap.size := hb1.lt (by first | (simp; done) | (simp; omega) | (simp [go_sem]; done) | (simp [go_sem]; omega) | omega))); (try (have m1_1 : w.heap.size + 1 ≤ w1.heap.size := Nat.le_of_lt l1_1)); (try (have l1_2 : w.heap.size + 2 < w1.heap.size := hb1.lt (by first | (simp; done) | (simp; omega) | (simp [go_sem]; done) | (simp [go_sem]; omega) | omega))); (try (have m1_2 : w.heap.size + 2 ≤ w1.heap.size := Nat.le_of_lt l1_2)); rw [X1.out]))
    refine bodyPost_ret (v := .tuple #[.agg #[.int .i64 0, .int .i64 0], .int .i64 1]) (by simp [results, Try.results22, go_sem, *]) rfl ?_
    exact ⟨retR HV.out.1.symm HV.out.2.1.symm HV.out.2.2.symm, (by repeat (first | exact Ext.refl _ | refine Ext.setCell ?_ (by first | exact Nat.le_refl _ | (simp; done) | (simp; omega)) _ | refine Ext.drew ?_ | refine Ext.drewN ?_ _ | refine Ext.alloc ?_ _ | refine Ext.trans ?_ hb1))⟩
  · have HV : Hid (huLo a b c d = min a c ∧ huHi a b c d = max b d ∧ huEr a b c d = 0) := by simp [Hid, huLo, huHi, huEr, h1]
    have X1 := Lib.hid h1
    clear h1
    go_enter Try.func22, Try.ntmps22
    go_wp2_with (first | ((fail_if_success (have hzz := hb1)); go_at_call 44; refine (both_any _ _ _ _  _).mono ?_; rintro e w1 ⟨rfl, hb1⟩; obtain ⟨hc1, hf1⟩ := hb1.cells; (try (have l1_0 : w.heap.size < w1.heap.size := hb1.lt (by first | (simp; done) | (simp; omega) | (simp [go_sem]; done) | (simp [go_sem]; omega) | omega))); (try (have m1_0 : w.heap.size ≤ w1.heap.size := Nat.le_of_lt l1_0)); (try (have l1_1 : w.heap.size + 1 < w1.heap.size := hb1.lt (by first | (simp; done) | (simp; omega) | (simp [go_sem]; done) | (simp [go_sem]; omega) | omega))); (try (have m1_1 : w.heap.size + 1 ≤ w1.heap.size := Nat.le_of_lt l1_1)); (try (have l1_2 : w.heap.size + 2 < w1.heap.size := hb1.lt (by first | (simp; done) | (simp; omega) | (simp [go_sem]; done) | (simp [go_sem]; omega) | omega))); (try (have m1_2 : w.heap.size + 2 ≤ w1.heap.size := Nat.le_of_lt l1_2)); rw [X1.out]))
    all_goals
      first
        | (refine bodyPost_ret (v := .tuple #[.agg #[.int .i64 a, .int .i64 b], .int .i64 0]) (by simp [results, Try.results22, go_sem, *]) rfl ?_
           exact ⟨retR (by rw [HV.out.1]; omega) (by rw [HV.out.2.1]; omega) HV.out.2.2.symm, (by repeat (first | exact Ext.refl _ | refine Ext.setCell ?_ (by first | exact Nat.le_refl _ | (simp; done) | (simp; omega)) _ | refine Ext.drew ?_ | refine Ext.drewN ?_ _ | refine Ext.alloc ?_ _ | refine Ext.trans ?_ hb1))⟩)
        | (refine bodyPost_ret (v := .tuple #[.agg #[.int .i64 a, .int .i64 d], .int .i64 0]) (by simp [results, Try.results22, go_sem, *]) rfl ?_
           exact ⟨retR (by rw [HV.out.1]; omega) (by rw [HV.out.2.1]; omega) HV.out.2.2.symm, (by repeat (first | exact Ext.refl _ | refine Ext.setCell ?_ (by first | exact Nat.le_refl _ | (simp; done) | (simp; omega)) _ | refine Ext.drew ?_ | refine Ext.drewN ?_ _ | refine Ext.alloc ?_ _ | refine Ext.trans ?_ hb1))⟩)
        | (refine bodyPost_ret (v := .tuple #[.agg #[.int .i64 c, .int .i64 b], .int .i64 0]) (by simp [results, Try.results22, go_sem, *]) rfl ?_
           exact ⟨retR (by rw [HV.out.1]; omega) (by rw [HV.out.2.1]; omega) HV.out.2.2.symm, (by repeat (first | exact Ext.refl _ | refine Ext.setCell ?_ (by first | exact Nat.le_refl _ | (simp; done) | (simp; omega)) _ | refine Ext.drew ?_ | refine Ext.drewN ?_ _ | refine Ext.alloc ?_ _ | refine Ext.trans ?_ hb1))⟩)
        | (refine bodyPost_ret (v := .tuple #[.agg #[.int .i64 c, .int .i64 d], .int .i64 0]) (by simp [results, Try.results22, go_sem, *]) rfl ?_
           exact ⟨retR (by rw [HV.out.1]; omega) (by rw [HV.out.2.1]; omega) HV.out.2.2.symm, (by repeat (first | exact Ext.refl _ | refine Ext.setCell ?_ (by first | exact Nat.le_refl _ | (simp; done) | (simp; omega)) _ | refine Ext.drew ?_ | refine Ext.drewN ?_ _ | refine Ext.alloc ?_ _ | refine Ext.trans ?_ hb1))⟩)

set_option maxHeartbeats 1000000 in
theorem meet_any (a b c d : Int) (w : World) : Calls Try.prog 24 #[.agg #[.int .i64 a, .int .i64 b], .agg #[.int .i64 c, .int .i64 d]] w fun e w' => e = .returned (.tuple #[.agg #[.int .i64 (meLo a b c d), .int .i64 (meHi a b c d)], .int .i64 (meEr a b c d)]) ∧ Ext w w' := by
  rcases and2 (vv a b c d) (apB a b c d) with h1 | ⟨h1, h2⟩ | ⟨h1, h2⟩
  · have HV : Hid (meLo a b c d = 0 ∧ meHi a b c d = 0 ∧ meEr a b c d = 1) := by simp [Hid, meLo, meHi, meEr, h1]
    have X1 := Lib.hid h1
    clear h1
    go_enter Try.func24, Try.ntmps24
    go_wp2_with (first | ((fail_if_success (have hzz := hb1)); go_at_call 44; refine (both_any _ _ _ _  _).mono ?_; rintro e w1 ⟨rfl, hb1⟩; obtain ⟨hc1, hf1⟩ := hb1.cells; (try (have l1_0 : w.heap.size < w1.heap.size := hb1.lt (by first | (simp; done) | (simp; omega) | (simp [go_sem]; done) | (simp [go_sem]; omega) | omega))); (try (have m1_0 : w.heap.size ≤ w1.heap.size := Nat.le_of_lt l1_0)); (try (have l1_1 : w.heap.size + 1 < w1.heap.size := hb1.lt (by first | (simp; done) | (simp; omega) | (simp [go_sem]; done) | (simp [go_sem]; omega) | omega))); (try (have m1_1 : w.heap.size + 1 ≤ w1.heap.size := Nat.le_of_lt l1_1)); (try (have l1_2 : w.heap.size + 2 < w1.heap.size := hb1.lt (by first | (simp; done) | (simp; omega) | (simp [go_sem]; done) | (simp [go_sem]; omega) | omega))); (try (have m1_2 : w.heap.size + 2 ≤ w1.heap.size := Nat.le_of_lt l1_2)); rw [X1.out]) | ((fail_if_success (have hzz := hb2)); go_at_call 30; refine (apart_any _ _ _ _  _).mono ?_; rintro e w2 ⟨rfl, hb2⟩; obtain ⟨hc2, hf2⟩ := hb2.cells; (try (have l2_0 : w.heap.size < w2.heap.size := hb2.lt (by first | (simp; done) | (simp; omega) | (simp [go_sem]; done) | (simp [go_sem]; omega) | omega))); (try (have m2_0 : w.heap.size ≤ w2.heap.size := Nat.le_of_lt l2_0)); (try (have l2_1 : w.heap.size + 1 < w2.heap.size := hb2.lt (by first | (simp; done) | (simp; omega) | (simp [go_sem]; done) | (simp [go_sem]; omega) | omega))); (try (have m2_1 : w.heap.size + 1 ≤ w2.heap.size := Nat.le_of_lt l2_1)); (try (have l2_2 : w.heap.size + 2 < w2.heap.size := hb2.lt (by first | (simp; done) | (simp; omega) | (simp [go_sem]; done) | (simp [go_sem]; omega) | omega))); (try (have m2_2 : w.heap.size + 2 ≤ w2.heap.size := Nat.le_of_lt l2_2)); rw [X2.out]))
    refine bodyPost_ret (v := .tuple #[.agg #[.int .i64 0, .int .i64 0], .int .i64 1]) (by simp [results, Try.results24, go_sem, *]) rfl ?_
    exact ⟨retR HV.out.1.symm HV.out.2.1.symm HV.out.2.2.symm, (by repeat (first | exact Ext.refl _ | refine Ext.setCell ?_ (by first | exact Nat.le_refl _ | (simp; done) | (simp; omega)) _ | refine Ext.drew ?_ | refine Ext.drewN ?_ _ | refine Ext.alloc ?_ _ | refine Ext.trans ?_ hb2 | refine Ext.trans ?_ hb1))⟩
  · have HV : Hid (meLo a b c d = max a c ∧ meHi a b c d = min b d ∧ meEr a b c d = 0) := by simp [Hid, meLo, meHi, meEr, h1, h2]
    have X1 := Lib.hid h1
    have X2 := Lib.hid h2
    clear h1 h2
    go_enter Try.func24, Try.ntmps24
    go_wp2_with (first | ((fail_if_success (have hzz := hb1)); go_at_call 44; refine (both_any _ _ _ _  _).mono ?_; rintro e w1 ⟨rfl, hb1⟩; obtain ⟨hc1, hf1⟩ := hb1.cells; (try (have l1_0 : w.heap.size < w1.heap.size := hb1.lt (by first | (simp; done) | (simp; omega) | (simp [go_sem]; done) | (simp [go_sem]; omega) | omega))); (try (have m1_0 : w.heap.size ≤ w1.heap.size := Nat.le_of_lt l1_0)); (try (have l1_1 : w.heap.size + 1 < w1.heap.size := hb1.lt (by first | (simp; done) | (simp; omega) | (simp [go_sem]; done) | (simp [go_sem]; omega) | omega))); (try (have m1_1 : w.heap.size + 1 ≤ w1.heap.size := Nat.le_of_lt l1_1)); (try (have l1_2 : w.heap.size + 2 < w1.heap.size := hb1.lt (by first | (simp; done) | (simp; omega) | (simp [go_sem]; done) | (simp [go_sem]; omega) | omega))); (try (have m1_2 : w.heap.size + 2 ≤ w1.heap.size := Nat.le_of_lt l1_2)); rw [X1.out]) | ((fail_if_success (have hzz := hb2)); go_at_call 30; refine (apart_any _ _ _ _  _).mono ?_; rintro e w2 ⟨rfl, hb2⟩; obtain ⟨hc2, hf2⟩ := hb2.cells; (try (have l2_0 : w.heap.size < w2.heap.size := hb2.lt (by first | (simp; done) | (simp; omega) | (simp [go_sem]; done) | (simp [go_sem]; omega) | omega))); (try (have m2_0 : w.heap.size ≤ w2.heap.size := Nat.le_of_lt l2_0)); (try (have l2_1 : w.heap.size + 1 < w2.heap.size := hb2.lt (by first | (simp; done) | (simp; omega) | (simp [go_sem]; done) | (simp [go_sem]; omega) | omega))); (try (have m2_1 : w.heap.size + 1 ≤ w2.heap.size := Nat.le_of_lt l2_1)); (try (have l2_2 : w.heap.size + 2 < w2.heap.size := hb2.lt (by first | (simp; done) | (simp; omega) | (simp [go_sem]; done) | (simp [go_sem]; omega) | omega))); (try (have m2_2 : w.heap.size + 2 ≤ w2.heap.size := Nat.le_of_lt l2_2)); rw [X2.out]))
    all_goals
      first
        | (refine bodyPost_ret (v := .tuple #[.agg #[.int .i64 a, .int .i64 b], .int .i64 0]) (by simp [results, Try.results24, go_sem, *]) rfl ?_
           exact ⟨retR (by rw [HV.out.1]; omega) (by rw [HV.out.2.1]; omega) HV.out.2.2.symm, (by repeat (first | exact Ext.refl _ | refine Ext.setCell ?_ (by first | exact Nat.le_refl _ | (simp; done) | (simp; omega)) _ | refine Ext.drew ?_ | refine Ext.drewN ?_ _ | refine Ext.alloc ?_ _ | refine Ext.trans ?_ hb2 | refine Ext.trans ?_ hb1))⟩)
        | (refine bodyPost_ret (v := .tuple #[.agg #[.int .i64 a, .int .i64 d], .int .i64 0]) (by simp [results, Try.results24, go_sem, *]) rfl ?_
           exact ⟨retR (by rw [HV.out.1]; omega) (by rw [HV.out.2.1]; omega) HV.out.2.2.symm, (by repeat (first | exact Ext.refl _ | refine Ext.setCell ?_ (by first | exact Nat.le_refl _ | (simp; done) | (simp; omega)) _ | refine Ext.drew ?_ | refine Ext.drewN ?_ _ | refine Ext.alloc ?_ _ | refine Ext.trans ?_ hb2 | refine Ext.trans ?_ hb1))⟩)
        | (refine bodyPost_ret (v := .tuple #[.agg #[.int .i64 c, .int .i64 b], .int .i64 0]) (by simp [results, Try.results24, go_sem, *]) rfl ?_
           exact ⟨retR (by rw [HV.out.1]; omega) (by rw [HV.out.2.1]; omega) HV.out.2.2.symm, (by repeat (first | exact Ext.refl _ | refine Ext.setCell ?_ (by first | exact Nat.le_refl _ | (simp; done) | (simp; omega)) _ | refine Ext.drew ?_ | refine Ext.drewN ?_ _ | refine Ext.alloc ?_ _ | refine Ext.trans ?_ hb2 | refine Ext.trans ?_ hb1))⟩)
        | (refine bodyPost_ret (v := .tuple #[.agg #[.int .i64 c, .int .i64 d], .int .i64 0]) (by simp [results, Try.results24, go_sem, *]) rfl ?_
           exact ⟨retR (by rw [HV.out.1]; omega) (by rw [HV.out.2.1]; omega) HV.out.2.2.symm, (by repeat (first | exact Ext.refl _ | refine Ext.setCell ?_ (by first | exact Nat.le_refl _ | (simp; done) | (simp; omega)) _ | refine Ext.drew ?_ | refine Ext.drewN ?_ _ | refine Ext.alloc ?_ _ | refine Ext.trans ?_ hb2 | refine Ext.trans ?_ hb1))⟩)
  · have HV : Hid (meLo a b c d = 0 ∧ meHi a b c d = 0 ∧ meEr a b c d = 6) := by simp [Hid, meLo, meHi, meEr, h1, h2]
    have X1 := Lib.hid h1
    have X2 := Lib.hid h2
    clear h1 h2
    go_enter Try.func24, Try.ntmps24
    go_wp2_with (first | ((fail_if_success (have hzz := hb1)); go_at_call 44; refine (both_any _ _ _ _  _).mono ?_; rintro e w1 ⟨rfl, hb1⟩; obtain ⟨hc1, hf1⟩ := hb1.cells; (try (have l1_0 : w.heap.size < w1.heap.size := hb1.lt (by first | (simp; done) | (simp; omega) | (simp [go_sem]; done) | (simp [go_sem]; omega) | omega))); (try (have m1_0 : w.heap.size ≤ w1.heap.size := Nat.le_of_lt l1_0)); (try (have l1_1 : w.heap.size + 1 < w1.heap.size := hb1.lt (by first | (simp; done) | (simp; omega) | (simp [go_sem]; done) | (simp [go_sem]; omega) | omega))); (try (have m1_1 : w.heap.size + 1 ≤ w1.heap.size := Nat.le_of_lt l1_1)); (try (have l1_2 : w.heap.size + 2 < w1.heap.size := hb1.lt (by first | (simp; done) | (simp; omega) | (simp [go_sem]; done) | (simp [go_sem]; omega) | omega))); (try (have m1_2 : w.heap.size + 2 ≤ w1.heap.size := Nat.le_of_lt l1_2)); rw [X1.out]) | ((fail_if_success (have hzz := hb2)); go_at_call 30; refine (apart_any _ _ _ _  _).mono ?_; rintro e w2 ⟨rfl, hb2⟩; obtain ⟨hc2, hf2⟩ := hb2.cells; (try (have l2_0 : w.heap.size < w2.heap.size := hb2.lt (by first | (simp; done) | (simp; omega) | (simp [go_sem]; done) | (simp [go_sem]; omega) | omega))); (try (have m2_0 : w.heap.size ≤ w2.heap.size := Nat.le_of_lt l2_0)); (try (have l2_1 : w.heap.size + 1 < w2.heap.size := hb2.lt (by first | (simp; done) | (simp; omega) | (simp [go_sem]; done) | (simp [go_sem]; omega) | omega))); (try (have m2_1 : w.heap.size + 1 ≤ w2.heap.size := Nat.le_of_lt l2_1)); (try (have l2_2 : w.heap.size + 2 < w2.heap.size := hb2.lt (by first | (simp; done) | (simp; omega) | (simp [go_sem]; done) | (simp [go_sem]; omega) | omega))); (try (have m2_2 : w.heap.size + 2 ≤ w2.heap.size := Nat.le_of_lt l2_2)); rw [X2.out]))
    refine bodyPost_ret (v := .tuple #[.agg #[.int .i64 0, .int .i64 0], .int .i64 6]) (by simp [results, Try.results24, go_sem, *]) rfl ?_
    exact ⟨retR HV.out.1.symm HV.out.2.1.symm HV.out.2.2.symm, (by repeat (first | exact Ext.refl _ | refine Ext.setCell ?_ (by first | exact Nat.le_refl _ | (simp; done) | (simp; omega)) _ | refine Ext.drew ?_ | refine Ext.drewN ?_ _ | refine Ext.alloc ?_ _ | refine Ext.trans ?_ hb2 | refine Ext.trans ?_ hb1))⟩

end Go.Proofs.Ythckbfkhbegmgaa

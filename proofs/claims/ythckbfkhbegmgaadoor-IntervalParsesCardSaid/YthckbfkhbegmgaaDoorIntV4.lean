/-
  Scale by 10 of any wide number (reference of layer 2), weak.
-/
import Derived.Test.YthckbfkhbegmgaaDoorIntV3
namespace Go.Proofs.YthckbfkhbegmgaaDoor
open Go.RowKit
set_option linter.unusedSimpArgs false

theorem lb_val {M : Nat} (h : M < 2 ^ 128) : val (fun j => ((lb M j : Nat) : Int)) 4 = M := by
  have e0 : lb M 0 = M % 4294967296 := by simp [lb]
  have e1 : lb M 1 = M / 4294967296 % 4294967296 := rfl
  have e2 : lb M 2 = M / 18446744073709551616 % 4294967296 := rfl
  have e3 : lb M 3 = M / 79228162514264337593543950336 % 4294967296 := rfl
  simp only [val]
  simp only [show (4294967296 : Int) ^ 0 = 1 from rfl, show (4294967296 : Int) ^ 1 = 4294967296 from rfl, show (4294967296 : Int) ^ 2 = 18446744073709551616 from rfl, show (4294967296 : Int) ^ 3 = 79228162514264337593543950336 from rfl]
  rw [e0, e1, e2, e3]
  omega
theorem r2times10_any (M : Nat) (hM : M < 2 ^ 128) (w : World) :
    Calls Tryd.prog 54 #[.agg #[.int .u64 (lb M 0 : Nat), .int .u64 (lb M 1 : Nat), .int .u64 (lb M 2 : Nat), .int .u64 (lb M 3 : Nat)], .agg #[.int .u64 10, .int .u64 0, .int .u64 0, .int .u64 0]] w fun e w' =>
      ∃ (o0 o1 o2 o3 : Int) (k : Bool), e = .returned (.tuple #[.agg #[.int .u64 o0, .int .u64 o1, .int .u64 o2, .int .u64 o3], .bool k]) ∧ (0 ≤ o0 ∧ o0 < 4294967296) ∧ (0 ≤ o1 ∧ o1 < 4294967296) ∧ (0 ≤ o2 ∧ o2 < 4294967296) ∧ (0 ≤ o3 ∧ o3 < 4294967296) ∧
        ((M : Int) * 10 < 340282366920938463463374607431768211456 → k = true ∧ (o0 + o1 * 4294967296 + (o2 + o3 * 4294967296) * 18446744073709551616) = (M : Int) * 10) ∧ Ext w w' := by
  have hv : val (parts 10) 4 = 10 := parts_val
  have hc := r2timesw_any (fun j => ((lb M j : Nat) : Int)) (parts 10) (fun j _ => by have := lb_lt M j; omega) (parts_bd (by omega) (by omega)) (by rw [hv]; omega) w
  refine hc.mono ?_
  rintro e w' ⟨o, k, rfl, h5, h6, h7⟩
  rw [lb_val hM, hv] at h6
  exact ⟨o 0, o 1, o 2, o 3, k, rfl, h5 0 (by omega), h5 1 (by omega), h5 2 (by omega), h5 3 (by omega), h6, h7⟩
theorem r2sizev_any (v : Int) (h : B128 v) (w : World) :
    Calls Tryd.prog 31 #[.agg #[.int .i64 (whi v), .int .u64 (wlo v)]] w fun e w' => e = .returned (.agg #[.int .u64 (lb v.natAbs 0 : Nat), .int .u64 (lb v.natAbs 1 : Nat), .int .u64 (lb v.natAbs 2 : Nat), .int .u64 (lb v.natAbs 3 : Nat)]) ∧ Ext w w' := by
  have g := ww_of h
  have := size128_any (whi v) (wlo v) g.a1 g.a2 g.b1 g.b2 w
  rwa [vI_of] at this
theorem r2size10_any (n : Int) (h : n = 10) (w : World) :
    Calls Tryd.prog 31 #[.agg #[.int .i64 (whi n), .int .u64 (wlo n)]] w fun e w' => e = .returned (.agg #[.int .u64 10, .int .u64 0, .int .u64 0, .int .u64 0]) ∧ Ext w w' := by
  subst h
  exact r2sizev_any 10 (by unfold B128; omega) w
def ScQ (v x : Int) (k : Bool) : Prop := -9223372036854775808 ≤ v → v ≤ 9223372036854775808 → k = true ∧ x = v * 10
theorem whi_negw (a : Int) : (whi a < 0) = (a < 0) := by unfold whi; apply propext; omega
theorem r2ofn_any (n : Int) (h : n = 10) (w : World) : Calls Tryd.prog 17 #[.int .i64 n] w fun e w' => e = .returned (.agg #[.int .i64 (whi n), .int .u64 (wlo n)]) ∧ Ext w w' := rof_any n (by omega) (by omega) w

set_option maxHeartbeats 4000000 in
theorem r2scalew_any (v n : Int) (hv : B128 v) (hn : n = 10) (w : World) :
    Calls Tryd.prog 36 #[.agg #[.int .i64 (whi v), .int .u64 (wlo v)], .int .i64 n] w (WPost (ScQ v) w) := by
  have HB := Lib.hid hv
  have H10 := Lib.hid hn
  have HM : Hid (v.natAbs < 2 ^ 128) := by unfold B128 at hv; unfold Hid; omega
  have hn0 : ¬ (n < 0) := by omega
  have H0 : Hid (whi 0 = 0 ∧ wlo 0 = 0) := by unfold Hid whi wlo; omega
  have hwn := whi_negw v
  clear hv hn
  by_cases ha : v < 0
  · have n1 : (whi v < 0) = True := hwn.trans (eq_true ha)
    have HA := Lib.hid ha
    clear hwn ha
    go_enter Tryd.func36, Tryd.ntmps36
    go_wp2_with (first | ((fail_if_success (have hzz := hb1)); go_at_call 31; refine (r2sizev_any v HB.out _).mono ?_; rintro e w1 ⟨rfl, hb1⟩; obtain ⟨hc1, hf1⟩ := hb1.cells; (try (have l1_0 : w.heap.size < w1.heap.size := hb1.lt (by first | (simp; done) | (simp; omega) | (simp [go_sem]; done) | (simp [go_sem]; omega) | omega))); (try (have m1_0 : w.heap.size ≤ w1.heap.size := Nat.le_of_lt l1_0)); (try (have l1_1 : w.heap.size + 1 < w1.heap.size := hb1.lt (by first | (simp; done) | (simp; omega) | (simp [go_sem]; done) | (simp [go_sem]; omega) | omega))); (try (have m1_1 : w.heap.size + 1 ≤ w1.heap.size := Nat.le_of_lt l1_1))) | ((fail_if_success (have hzz := hb2)); go_at_call 17; refine (r2ofn_any _ H10.out _).mono ?_; rintro e w2 ⟨rfl, hb2⟩; obtain ⟨hc2, hf2⟩ := hb2.cells; (try (have l2_0 : w.heap.size < w2.heap.size := hb2.lt (by first | (simp; done) | (simp; omega) | (simp [go_sem]; done) | (simp [go_sem]; omega) | omega))); (try (have m2_0 : w.heap.size ≤ w2.heap.size := Nat.le_of_lt l2_0)); (try (have l2_1 : w.heap.size + 1 < w2.heap.size := hb2.lt (by first | (simp; done) | (simp; omega) | (simp [go_sem]; done) | (simp [go_sem]; omega) | omega))); (try (have m2_1 : w.heap.size + 1 ≤ w2.heap.size := Nat.le_of_lt l2_1))) | ((fail_if_success (have hzz := hb3)); go_at_call 31; refine (r2size10_any _ H10.out _).mono ?_; rintro e w3 ⟨rfl, hb3⟩; obtain ⟨hc3, hf3⟩ := hb3.cells; (try (have l3_0 : w.heap.size < w3.heap.size := hb3.lt (by first | (simp; done) | (simp; omega) | (simp [go_sem]; done) | (simp [go_sem]; omega) | omega))); (try (have m3_0 : w.heap.size ≤ w3.heap.size := Nat.le_of_lt l3_0)); (try (have l3_1 : w.heap.size + 1 < w3.heap.size := hb3.lt (by first | (simp; done) | (simp; omega) | (simp [go_sem]; done) | (simp [go_sem]; omega) | omega))); (try (have m3_1 : w.heap.size + 1 ≤ w3.heap.size := Nat.le_of_lt l3_1))) | ((fail_if_success (have hzz := hb4)); go_at_call 54; refine (r2times10_any v.natAbs HM.out _).mono ?_; rintro e w4 ⟨o0, o1, o2, o3, kt, rfl, q0, q1, q2, q3, hQ, hb4⟩; replace hQ := Lib.hid hQ; replace q0 := Lib.hid q0; replace q1 := Lib.hid q1; replace q2 := Lib.hid q2; replace q3 := Lib.hid q3; obtain ⟨hc4, hf4⟩ := hb4.cells; (try (have l4_0 : w.heap.size < w4.heap.size := hb4.lt (by first | (simp; done) | (simp; omega) | (simp [go_sem]; done) | (simp [go_sem]; omega) | omega))); (try (have m4_0 : w.heap.size ≤ w4.heap.size := Nat.le_of_lt l4_0)); (try (have l4_1 : w.heap.size + 1 < w4.heap.size := hb4.lt (by first | (simp; done) | (simp; omega) | (simp [go_sem]; done) | (simp [go_sem]; omega) | omega))); (try (have m4_1 : w.heap.size + 1 ≤ w4.heap.size := Nat.le_of_lt l4_1)); rcases kt with _ | _) | ((fail_if_success (have hzz := hb5)); go_at_call 55; refine (r2ofw_any _ _ _ _ _ q0.out q1.out q2.out q3.out _).mono ?_; rintro e w5 ⟨x, kx, rfl, hx, hX, hb5⟩; replace hX := Lib.hid hX; replace hx := Lib.hid hx; obtain ⟨hc5, hf5⟩ := hb5.cells; (try (have l5_0 : w.heap.size < w5.heap.size := hb5.lt (by first | (simp; done) | (simp; omega) | (simp [go_sem]; done) | (simp [go_sem]; omega) | omega))); (try (have m5_0 : w.heap.size ≤ w5.heap.size := Nat.le_of_lt l5_0)); (try (have l5_1 : w.heap.size + 1 < w5.heap.size := hb5.lt (by first | (simp; done) | (simp; omega) | (simp [go_sem]; done) | (simp [go_sem]; omega) | omega))); (try (have m5_1 : w.heap.size + 1 ≤ w5.heap.size := Nat.le_of_lt l5_1)); (try (have l5_2 : w4.heap.size < w5.heap.size := hb5.lt (by first | (simp; done) | (simp; omega) | (simp [go_sem]; done) | (simp [go_sem]; omega) | omega))); (try (have m5_2 : w4.heap.size ≤ w5.heap.size := Nat.le_of_lt l5_2))))
    · refine bodyPost_ret (v := .tuple #[.agg #[.int .i64 0, .int .u64 0], .bool false]) (by simp [results, Tryd.results36, go_sem, *]) rfl ?_
      exact ⟨0, false, by rw [H0.out.1, H0.out.2], b128_0, fun r1 r2 => absurd (hQ.out (by have := HA.out; omega)).1 (by simp), (by repeat (first | exact Ext.refl _ | refine Ext.setCell ?_ (by first | exact Nat.le_refl _ | (simp; done) | (simp; omega)) _ | refine Ext.drew ?_ | refine Ext.drewN ?_ _ | refine Ext.alloc ?_ _ | refine Ext.trans ?_ hb5 | refine Ext.trans ?_ hb4 | refine Ext.trans ?_ hb3 | refine Ext.trans ?_ hb2 | refine Ext.trans ?_ hb1))⟩
    · refine bodyPost_ret (v := .tuple #[.agg #[.int .i64 (whi x), .int .u64 (wlo x)], .bool kx]) (by simp [results, Tryd.results36, go_sem, *]) rfl ?_
      exact ⟨x, kx, rfl, hx.out, fun r1 r2 => by
           have g0 := HA.out; have g1 := (hQ.out (by omega)).2; have g2 := q0.out; have g3 := q1.out; have g4 := q2.out; have g5 := q3.out
           obtain ⟨g6, g7⟩ := hX.out (by omega)
           refine ⟨g6, g7.trans ?_⟩
           rw [if_pos (by simp; omega)]
           omega, (by repeat (first | exact Ext.refl _ | refine Ext.setCell ?_ (by first | exact Nat.le_refl _ | (simp; done) | (simp; omega)) _ | refine Ext.drew ?_ | refine Ext.drewN ?_ _ | refine Ext.alloc ?_ _ | refine Ext.trans ?_ hb5 | refine Ext.trans ?_ hb4 | refine Ext.trans ?_ hb3 | refine Ext.trans ?_ hb2 | refine Ext.trans ?_ hb1))⟩
  · have n1 : (whi v < 0) = False := hwn.trans (eq_false ha)
    have HA := Lib.hid ha
    clear hwn ha
    go_enter Tryd.func36, Tryd.ntmps36
    go_wp2_with (first | ((fail_if_success (have hzz := hb1)); go_at_call 31; refine (r2sizev_any v HB.out _).mono ?_; rintro e w1 ⟨rfl, hb1⟩; obtain ⟨hc1, hf1⟩ := hb1.cells; (try (have l1_0 : w.heap.size < w1.heap.size := hb1.lt (by first | (simp; done) | (simp; omega) | (simp [go_sem]; done) | (simp [go_sem]; omega) | omega))); (try (have m1_0 : w.heap.size ≤ w1.heap.size := Nat.le_of_lt l1_0)); (try (have l1_1 : w.heap.size + 1 < w1.heap.size := hb1.lt (by first | (simp; done) | (simp; omega) | (simp [go_sem]; done) | (simp [go_sem]; omega) | omega))); (try (have m1_1 : w.heap.size + 1 ≤ w1.heap.size := Nat.le_of_lt l1_1))) | ((fail_if_success (have hzz := hb2)); go_at_call 17; refine (r2ofn_any _ H10.out _).mono ?_; rintro e w2 ⟨rfl, hb2⟩; obtain ⟨hc2, hf2⟩ := hb2.cells; (try (have l2_0 : w.heap.size < w2.heap.size := hb2.lt (by first | (simp; done) | (simp; omega) | (simp [go_sem]; done) | (simp [go_sem]; omega) | omega))); (try (have m2_0 : w.heap.size ≤ w2.heap.size := Nat.le_of_lt l2_0)); (try (have l2_1 : w.heap.size + 1 < w2.heap.size := hb2.lt (by first | (simp; done) | (simp; omega) | (simp [go_sem]; done) | (simp [go_sem]; omega) | omega))); (try (have m2_1 : w.heap.size + 1 ≤ w2.heap.size := Nat.le_of_lt l2_1))) | ((fail_if_success (have hzz := hb3)); go_at_call 31; refine (r2size10_any _ H10.out _).mono ?_; rintro e w3 ⟨rfl, hb3⟩; obtain ⟨hc3, hf3⟩ := hb3.cells; (try (have l3_0 : w.heap.size < w3.heap.size := hb3.lt (by first | (simp; done) | (simp; omega) | (simp [go_sem]; done) | (simp [go_sem]; omega) | omega))); (try (have m3_0 : w.heap.size ≤ w3.heap.size := Nat.le_of_lt l3_0)); (try (have l3_1 : w.heap.size + 1 < w3.heap.size := hb3.lt (by first | (simp; done) | (simp; omega) | (simp [go_sem]; done) | (simp [go_sem]; omega) | omega))); (try (have m3_1 : w.heap.size + 1 ≤ w3.heap.size := Nat.le_of_lt l3_1))) | ((fail_if_success (have hzz := hb4)); go_at_call 54; refine (r2times10_any v.natAbs HM.out _).mono ?_; rintro e w4 ⟨o0, o1, o2, o3, kt, rfl, q0, q1, q2, q3, hQ, hb4⟩; replace hQ := Lib.hid hQ; replace q0 := Lib.hid q0; replace q1 := Lib.hid q1; replace q2 := Lib.hid q2; replace q3 := Lib.hid q3; obtain ⟨hc4, hf4⟩ := hb4.cells; (try (have l4_0 : w.heap.size < w4.heap.size := hb4.lt (by first | (simp; done) | (simp; omega) | (simp [go_sem]; done) | (simp [go_sem]; omega) | omega))); (try (have m4_0 : w.heap.size ≤ w4.heap.size := Nat.le_of_lt l4_0)); (try (have l4_1 : w.heap.size + 1 < w4.heap.size := hb4.lt (by first | (simp; done) | (simp; omega) | (simp [go_sem]; done) | (simp [go_sem]; omega) | omega))); (try (have m4_1 : w.heap.size + 1 ≤ w4.heap.size := Nat.le_of_lt l4_1)); rcases kt with _ | _) | ((fail_if_success (have hzz := hb5)); go_at_call 55; refine (r2ofw_any _ _ _ _ _ q0.out q1.out q2.out q3.out _).mono ?_; rintro e w5 ⟨x, kx, rfl, hx, hX, hb5⟩; replace hX := Lib.hid hX; replace hx := Lib.hid hx; obtain ⟨hc5, hf5⟩ := hb5.cells; (try (have l5_0 : w.heap.size < w5.heap.size := hb5.lt (by first | (simp; done) | (simp; omega) | (simp [go_sem]; done) | (simp [go_sem]; omega) | omega))); (try (have m5_0 : w.heap.size ≤ w5.heap.size := Nat.le_of_lt l5_0)); (try (have l5_1 : w.heap.size + 1 < w5.heap.size := hb5.lt (by first | (simp; done) | (simp; omega) | (simp [go_sem]; done) | (simp [go_sem]; omega) | omega))); (try (have m5_1 : w.heap.size + 1 ≤ w5.heap.size := Nat.le_of_lt l5_1)); (try (have l5_2 : w4.heap.size < w5.heap.size := hb5.lt (by first | (simp; done) | (simp; omega) | (simp [go_sem]; done) | (simp [go_sem]; omega) | omega))); (try (have m5_2 : w4.heap.size ≤ w5.heap.size := Nat.le_of_lt l5_2))))
    · refine bodyPost_ret (v := .tuple #[.agg #[.int .i64 0, .int .u64 0], .bool false]) (by simp [results, Tryd.results36, go_sem, *]) rfl ?_
      exact ⟨0, false, by rw [H0.out.1, H0.out.2], b128_0, fun r1 r2 => absurd (hQ.out (by have := HA.out; omega)).1 (by simp), (by repeat (first | exact Ext.refl _ | refine Ext.setCell ?_ (by first | exact Nat.le_refl _ | (simp; done) | (simp; omega)) _ | refine Ext.drew ?_ | refine Ext.drewN ?_ _ | refine Ext.alloc ?_ _ | refine Ext.trans ?_ hb5 | refine Ext.trans ?_ hb4 | refine Ext.trans ?_ hb3 | refine Ext.trans ?_ hb2 | refine Ext.trans ?_ hb1))⟩
    · refine bodyPost_ret (v := .tuple #[.agg #[.int .i64 (whi x), .int .u64 (wlo x)], .bool kx]) (by simp [results, Tryd.results36, go_sem, *]) rfl ?_
      exact ⟨x, kx, rfl, hx.out, fun r1 r2 => by
           have g0 := HA.out; have g1 := (hQ.out (by omega)).2; have g2 := q0.out; have g3 := q1.out; have g4 := q2.out; have g5 := q3.out
           obtain ⟨g6, g7⟩ := hX.out (by omega)
           refine ⟨g6, g7.trans ?_⟩
           rw [if_neg (by simp; omega)]
           omega, (by repeat (first | exact Ext.refl _ | refine Ext.setCell ?_ (by first | exact Nat.le_refl _ | (simp; done) | (simp; omega)) _ | refine Ext.drew ?_ | refine Ext.drewN ?_ _ | refine Ext.alloc ?_ _ | refine Ext.trans ?_ hb5 | refine Ext.trans ?_ hb4 | refine Ext.trans ?_ hb3 | refine Ext.trans ?_ hb2 | refine Ext.trans ?_ hb1))⟩

end Go.Proofs.YthckbfkhbegmgaaDoor

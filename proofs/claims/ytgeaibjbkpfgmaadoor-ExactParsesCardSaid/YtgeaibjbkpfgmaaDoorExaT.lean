/-
  The law ExactTexts, walked.
-/
import Derived.Test.YtgeaibjbkpfgmaaDoorExaS
import Derived.Test.YtgeaibjbkpfgmaaDoorExaN
namespace Go.Proofs.YtgeaibjbkpfgmaaDoor
open Go.RowKit
set_option linter.unusedSimpArgs false

theorem tx_cut {x y : Int} (h : validB x y = true) : cutA (txL x y) = Lib.itoa x ∧ cutB (txL x y) = Lib.itoa y := by
  have e : txL x y = Lib.itoa x ++ 47 :: Lib.itoa y := by simp [txL, h]
  have hc := cut_at (Lib.itoa x) (Lib.itoa y) 47 (fun c hc => by
    rcases itoa_bytes x c hc with rfl | h1
    · decide
    · rintro rfl
      exact absurd h1 (by decide))
  unfold cutA cutB
  rw [e, hc]
  exact ⟨rfl, rfl⟩
theorem pr_tx {x y : Int} (h : validB x y = true) : prN (txL x y) = x ∧ prD (txL x y) = y ∧ prE (txL x y) = 0 := by
  obtain ⟨p1, p2, p3, p4, p5⟩ := valid_parts h
  obtain ⟨c1, c2⟩ := tx_cut h
  obtain ⟨n1, n2⟩ := num_itoa (n := x) (by omega) (by omega)
  obtain ⟨m1, m2⟩ := num_itoa (n := y) (by omega) (by omega)
  have hk : prOk (txL x y) = true := by
    simp only [prOk, c1, c2, n1, n2, m1, m2, h, Bool.and_self, decide_true]
  unfold prN prD prE
  rw [hk, c1, c2, n1, m1]
  exact ⟨rfl, rfl, rfl⟩
theorem pr_nil : prN [] = 0 ∧ prD [] = 0 ∧ prE [] = 4 := by
  have hk : prOk [] = false := by
    have : numOk (cutA []) = false := by decide +kernel
    simp only [prOk, this]; rfl
  unfold prN prD prE
  rw [hk]
  exact ⟨rfl, rfl, rfl⟩
theorem tx_len {x y : Int} (h : validB x y = true) : (Lib.itoa x ++ 47 :: Lib.itoa y).length ≤ 1000000 := by
  obtain ⟨p1, p2, p3, p4, p5⟩ := valid_parts h
  have lA := Lib.itoa_length_le x (by omega) (by omega)
  have lB := Lib.itoa_length_le y (by omega) (by omega)
  simp; omega

set_option maxHeartbeats 8000000 in
theorem exactTexts_any (x y : Int) (w : World) (hX : DX w) : Calls Tryd.prog 10 #[.agg #[.int .i64 x, .int .i64 y]] w fun e w' => e = .returned (.bool true) ∧ Ext w w' := by
  have HX := Lib.hid hX
  clear hX
  rcases and1 (validB x y) with h1 | h1
  · have HV : Hid (txL x y = []) := by simp [Hid, txL, h1]
    have HP := Lib.hid pr_nil
    clear h1
    go_enter Tryd.func10, Tryd.ntmps10
    go_wp2_with (first | ((fail_if_success (have hzz := hb1)); go_at_call 12; refine (awake_any _ (HX.out.ext (by repeat (first | exact Ext.refl _ | refine Ext.alloc ?_ _ | refine Ext.trans ?_ hb4 | refine Ext.trans ?_ hb3 | refine Ext.trans ?_ hb2 | refine Ext.trans ?_ hb1))).tab).mono ?_; rintro e w1 ⟨rfl, hb1⟩; obtain ⟨hc1, hf1⟩ := hb1.cells; (try (have l1_0 : w.heap.size < w1.heap.size := hb1.lt (by first | (simp; done) | (simp; omega) | (simp [go_sem]; done) | (simp [go_sem]; omega) | omega))); (try (have m1_0 : w.heap.size ≤ w1.heap.size := Nat.le_of_lt l1_0))) | ((fail_if_success (have hzz := hb2)); go_at_call 43; refine (text_any _ _ _ (HX.out.ext (by repeat (first | exact Ext.refl _ | refine Ext.alloc ?_ _ | refine Ext.trans ?_ hb4 | refine Ext.trans ?_ hb3 | refine Ext.trans ?_ hb2 | refine Ext.trans ?_ hb1))).tab).mono ?_; rintro e w2 ⟨rfl, hb2⟩; obtain ⟨hc2, hf2⟩ := hb2.cells; (try (have l2_0 : w.heap.size < w2.heap.size := hb2.lt (by first | (simp; done) | (simp; omega) | (simp [go_sem]; done) | (simp [go_sem]; omega) | omega))); (try (have m2_0 : w.heap.size ≤ w2.heap.size := Nat.le_of_lt l2_0)); rw [HV.out]) | ((fail_if_success (have hzz := hb3)); go_at_call 44; refine (rtext_any _ _  _).mono ?_; rintro e w3 ⟨rfl, hb3⟩; obtain ⟨hc3, hf3⟩ := hb3.cells; (try (have l3_0 : w.heap.size < w3.heap.size := hb3.lt (by first | (simp; done) | (simp; omega) | (simp [go_sem]; done) | (simp [go_sem]; omega) | omega))); (try (have m3_0 : w.heap.size ≤ w3.heap.size := Nat.le_of_lt l3_0)); rw [HV.out]) | ((fail_if_success (have hzz := hb4)); go_at_call 45; refine (parse_any _ (by simp) _ (HX.out.ext (by repeat (first | exact Ext.refl _ | refine Ext.alloc ?_ _ | refine Ext.trans ?_ hb4 | refine Ext.trans ?_ hb3 | refine Ext.trans ?_ hb2 | refine Ext.trans ?_ hb1)))).mono ?_; rintro e w4 ⟨rfl, hb4⟩; obtain ⟨hc4, hf4⟩ := hb4.cells; (try (have l4_0 : w.heap.size < w4.heap.size := hb4.lt (by first | (simp; done) | (simp; omega) | (simp [go_sem]; done) | (simp [go_sem]; omega) | omega))); (try (have m4_0 : w.heap.size ≤ w4.heap.size := Nat.le_of_lt l4_0)); rw [HP.out.1, HP.out.2.1, HP.out.2.2]))
    go_ret
    exact ⟨retb (by first | rfl | simp), (by repeat (first | exact Ext.refl _ | refine Ext.setCell ?_ (by first | exact Nat.le_refl _ | (simp; done) | (simp; omega)) _ | refine Ext.drew ?_ | refine Ext.drewN ?_ _ | refine Ext.alloc ?_ _ | refine Ext.trans ?_ hb4 | refine Ext.trans ?_ hb3 | refine Ext.trans ?_ hb2 | refine Ext.trans ?_ hb1))⟩
  · have HV : Hid (txL x y = Lib.itoa x ++ 47 :: Lib.itoa y) := by simp [Hid, txL, h1]
    have hp := pr_tx h1
    rw [HV.out] at hp
    have HP := Lib.hid hp
    have hlen := Lib.hid (tx_len h1)
    clear h1 hp
    obtain ⟨A, hA⟩ : ∃ A : List UInt8, Lib.itoa x = A := ⟨_, rfl⟩
    obtain ⟨B, hB⟩ : ∃ B : List UInt8, Lib.itoa y = B := ⟨_, rfl⟩
    rw [hA, hB] at HV HP hlen
    clear hA hB
    go_enter Tryd.func10, Tryd.ntmps10
    go_wp2_with (first | ((fail_if_success (have hzz := hb1)); go_at_call 12; refine (awake_any _ (HX.out.ext (by repeat (first | exact Ext.refl _ | refine Ext.alloc ?_ _ | refine Ext.trans ?_ hb4 | refine Ext.trans ?_ hb3 | refine Ext.trans ?_ hb2 | refine Ext.trans ?_ hb1))).tab).mono ?_; rintro e w1 ⟨rfl, hb1⟩; obtain ⟨hc1, hf1⟩ := hb1.cells; (try (have l1_0 : w.heap.size < w1.heap.size := hb1.lt (by first | (simp; done) | (simp; omega) | (simp [go_sem]; done) | (simp [go_sem]; omega) | omega))); (try (have m1_0 : w.heap.size ≤ w1.heap.size := Nat.le_of_lt l1_0))) | ((fail_if_success (have hzz := hb2)); go_at_call 43; refine (text_any _ _ _ (HX.out.ext (by repeat (first | exact Ext.refl _ | refine Ext.alloc ?_ _ | refine Ext.trans ?_ hb4 | refine Ext.trans ?_ hb3 | refine Ext.trans ?_ hb2 | refine Ext.trans ?_ hb1))).tab).mono ?_; rintro e w2 ⟨rfl, hb2⟩; obtain ⟨hc2, hf2⟩ := hb2.cells; (try (have l2_0 : w.heap.size < w2.heap.size := hb2.lt (by first | (simp; done) | (simp; omega) | (simp [go_sem]; done) | (simp [go_sem]; omega) | omega))); (try (have m2_0 : w.heap.size ≤ w2.heap.size := Nat.le_of_lt l2_0)); rw [HV.out]) | ((fail_if_success (have hzz := hb3)); go_at_call 44; refine (rtext_any _ _  _).mono ?_; rintro e w3 ⟨rfl, hb3⟩; obtain ⟨hc3, hf3⟩ := hb3.cells; (try (have l3_0 : w.heap.size < w3.heap.size := hb3.lt (by first | (simp; done) | (simp; omega) | (simp [go_sem]; done) | (simp [go_sem]; omega) | omega))); (try (have m3_0 : w.heap.size ≤ w3.heap.size := Nat.le_of_lt l3_0)); rw [HV.out]) | ((fail_if_success (have hzz := hb4)); go_at_call 45; refine (parse_any _ hlen.out _ (HX.out.ext (by repeat (first | exact Ext.refl _ | refine Ext.alloc ?_ _ | refine Ext.trans ?_ hb4 | refine Ext.trans ?_ hb3 | refine Ext.trans ?_ hb2 | refine Ext.trans ?_ hb1)))).mono ?_; rintro e w4 ⟨rfl, hb4⟩; obtain ⟨hc4, hf4⟩ := hb4.cells; (try (have l4_0 : w.heap.size < w4.heap.size := hb4.lt (by first | (simp; done) | (simp; omega) | (simp [go_sem]; done) | (simp [go_sem]; omega) | omega))); (try (have m4_0 : w.heap.size ≤ w4.heap.size := Nat.le_of_lt l4_0)); rw [HP.out.1, HP.out.2.1, HP.out.2.2]))
    go_ret
    exact ⟨retb (by first | rfl | simp), (by repeat (first | exact Ext.refl _ | refine Ext.setCell ?_ (by first | exact Nat.le_refl _ | (simp; done) | (simp; omega)) _ | refine Ext.drew ?_ | refine Ext.drewN ?_ _ | refine Ext.alloc ?_ _ | refine Ext.trans ?_ hb4 | refine Ext.trans ?_ hb3 | refine Ext.trans ?_ hb2 | refine Ext.trans ?_ hb1))⟩

end Go.Proofs.YtgeaibjbkpfgmaaDoor

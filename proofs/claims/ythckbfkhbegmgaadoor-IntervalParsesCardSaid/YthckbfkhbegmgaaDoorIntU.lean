/-
  The law IntervalTexts, walked.
-/
import Derived.Test.YthckbfkhbegmgaaDoorIntF
import Derived.Test.YthckbfkhbegmgaaDoorIntT
namespace Go.Proofs.YthckbfkhbegmgaaDoor
open Go.RowKit
set_option linter.unusedSimpArgs false

theorem cut_dd (A B : List UInt8) (h : ∀ c ∈ A, c ≠ 46) : Lib.cut (A ++ 46 :: 46 :: B) [46, 46] = (A, B, true) := by
  have hi : Lib.index (A ++ 46 :: 46 :: B) [46, 46] = (A.length : Int) := by
    refine Lib.index_first (by simp) (by simp [Lib.occAt]) (fun j hj => ?_)
    have e : (A ++ 46 :: 46 :: B).drop j = A[j] :: (A ++ 46 :: 46 :: B).drop (j + 1) := by
      rw [List.drop_eq_getElem_cons (by simp; omega)]
      simp [List.getElem_append_left hj]
    unfold Lib.occAt
    rw [e]
    simp only [List.isPrefixOf]
    have := h _ (List.getElem_mem hj)
    simp [Ne.symm this]
  unfold Lib.cut
  rw [hi, if_pos (by omega)]
  simp
theorem ix_cut {x y : Int} (h : vR x y = true) : cutA (ixL x y) = Lib.itoa x ∧ cutB (ixL x y) = Lib.itoa y := by
  have e : ixL x y = Lib.itoa x ++ 46 :: 46 :: Lib.itoa y := by simp [ixL, h]
  have hc := cut_dd (Lib.itoa x) (Lib.itoa y) (fun c hc => by
    rcases itoa_bytes x c hc with rfl | h1
    · decide
    · rintro rfl
      exact absurd h1 (by decide))
  unfold cutA cutB
  rw [e, hc]
  exact ⟨rfl, rfl⟩
theorem ip_ix {x y : Int} (h : vR x y = true) : ipA (ixL x y) = x ∧ ipB (ixL x y) = y ∧ ipE (ixL x y) = 0 := by
  obtain ⟨p1, p2, p3⟩ := vR_parts h
  obtain ⟨c1, c2⟩ := ix_cut h
  obtain ⟨n1, n2⟩ := num_itoa (n := x) (by omega) (by omega)
  obtain ⟨m1, m2⟩ := num_itoa (n := y) (by omega) (by omega)
  have hk : ipOk (ixL x y) = true := by
    simp only [ipOk, c1, c2, n1, n2, m1, m2, h, Bool.and_self, decide_true]
  unfold ipA ipB ipE
  rw [hk, c1, c2, n1, m1]
  exact ⟨rfl, rfl, rfl⟩
theorem ip_nil : ipA [] = 0 ∧ ipB [] = 0 ∧ ipE [] = 4 := by
  have hk : ipOk [] = false := by
    have : numOk (cutA []) = false := by decide +kernel
    simp only [ipOk, this]; rfl
  unfold ipA ipB ipE
  rw [hk]
  exact ⟨rfl, rfl, rfl⟩
theorem ix_len {x y : Int} (h : vR x y = true) : (Lib.itoa x ++ 46 :: 46 :: Lib.itoa y).length ≤ 1000000 := by
  obtain ⟨p1, p2, p3⟩ := vR_parts h
  have lA := Lib.itoa_length_le x (by omega) (by omega)
  have lB := Lib.itoa_length_le y (by omega) (by omega)
  simp; omega

theorem and1u (x : Bool) : x = false ∨ x = true := by cases x <;> simp
set_option maxHeartbeats 8000000 in
theorem intervalTexts_any (x y : Int) (w : World) (hX : DX w) : Calls Tryd.prog 3 #[.agg #[.int .i64 x, .int .i64 y]] w fun e w' => e = .returned (.bool true) ∧ Ext w w' := by
  have HX := Lib.hid hX
  clear hX
  rcases and1u (vR x y) with h1 | h1
  · have HV : Hid (ixL x y = [] ∧ ixE x y = 1) := by simp [Hid, ixL, ixE, h1]
    have HP := Lib.hid ip_nil
    clear h1
    go_enter Tryd.func3, Tryd.ntmps3
    go_wp2_with (first | ((fail_if_success (have hzz := hb1)); go_at_call 5; refine (awake_any   _).mono ?_; rintro e w1 ⟨rfl, hb1⟩; obtain ⟨hc1, hf1⟩ := hb1.cells; (try (have l1_0 : w.heap.size < w1.heap.size := hb1.lt (by first | (simp; done) | (simp; omega) | (simp [go_sem]; done) | (simp [go_sem]; omega) | omega))); (try (have m1_0 : w.heap.size ≤ w1.heap.size := Nat.le_of_lt l1_0))) | ((fail_if_success (have hzz := hb2)); go_at_call 6; refine (itext_any _ _ _ (HX.out.ext (by repeat (first | exact Ext.refl _ | refine Ext.alloc ?_ _ | refine Ext.trans ?_ hb4 | refine Ext.trans ?_ hb3 | refine Ext.trans ?_ hb2 | refine Ext.trans ?_ hb1))).tab).mono ?_; rintro e w2 ⟨rfl, hb2⟩; obtain ⟨hc2, hf2⟩ := hb2.cells; (try (have l2_0 : w.heap.size < w2.heap.size := hb2.lt (by first | (simp; done) | (simp; omega) | (simp [go_sem]; done) | (simp [go_sem]; omega) | omega))); (try (have m2_0 : w.heap.size ≤ w2.heap.size := Nat.le_of_lt l2_0)); rw [HV.out.1, HV.out.2]) | ((fail_if_success (have hzz := hb3)); go_at_call 7; refine (ritext_any _ _  _).mono ?_; rintro e w3 ⟨rfl, hb3⟩; obtain ⟨hc3, hf3⟩ := hb3.cells; (try (have l3_0 : w.heap.size < w3.heap.size := hb3.lt (by first | (simp; done) | (simp; omega) | (simp [go_sem]; done) | (simp [go_sem]; omega) | omega))); (try (have m3_0 : w.heap.size ≤ w3.heap.size := Nat.le_of_lt l3_0)); rw [HV.out.1, HV.out.2]) | ((fail_if_success (have hzz := hb4)); go_at_call 8; refine (iparse_any _ (by simp) _ (HX.out.ext (by repeat (first | exact Ext.refl _ | refine Ext.alloc ?_ _ | refine Ext.trans ?_ hb4 | refine Ext.trans ?_ hb3 | refine Ext.trans ?_ hb2 | refine Ext.trans ?_ hb1)))).mono ?_; rintro e w4 ⟨rfl, hb4⟩; obtain ⟨hc4, hf4⟩ := hb4.cells; (try (have l4_0 : w.heap.size < w4.heap.size := hb4.lt (by first | (simp; done) | (simp; omega) | (simp [go_sem]; done) | (simp [go_sem]; omega) | omega))); (try (have m4_0 : w.heap.size ≤ w4.heap.size := Nat.le_of_lt l4_0)); rw [HP.out.1, HP.out.2.1, HP.out.2.2]))
    go_ret
    exact ⟨by first | rfl | simp, (by repeat (first | exact Ext.refl _ | refine Ext.setCell ?_ (by first | exact Nat.le_refl _ | (simp; done) | (simp; omega)) _ | refine Ext.drew ?_ | refine Ext.drewN ?_ _ | refine Ext.alloc ?_ _ | refine Ext.trans ?_ hb4 | refine Ext.trans ?_ hb3 | refine Ext.trans ?_ hb2 | refine Ext.trans ?_ hb1))⟩
  · have HV : Hid (ixL x y = Lib.itoa x ++ 46 :: 46 :: Lib.itoa y ∧ ixE x y = 0) := by simp [Hid, ixL, ixE, h1]
    have hp := ip_ix h1
    rw [HV.out.1] at hp
    have HP := Lib.hid hp
    have hlen := Lib.hid (ix_len h1)
    clear h1 hp
    obtain ⟨A, hA⟩ : ∃ A : List UInt8, Lib.itoa x = A := ⟨_, rfl⟩
    obtain ⟨B, hB⟩ : ∃ B : List UInt8, Lib.itoa y = B := ⟨_, rfl⟩
    rw [hA, hB] at HV HP hlen
    clear hA hB
    go_enter Tryd.func3, Tryd.ntmps3
    go_wp2_with (first | ((fail_if_success (have hzz := hb1)); go_at_call 5; refine (awake_any   _).mono ?_; rintro e w1 ⟨rfl, hb1⟩; obtain ⟨hc1, hf1⟩ := hb1.cells; (try (have l1_0 : w.heap.size < w1.heap.size := hb1.lt (by first | (simp; done) | (simp; omega) | (simp [go_sem]; done) | (simp [go_sem]; omega) | omega))); (try (have m1_0 : w.heap.size ≤ w1.heap.size := Nat.le_of_lt l1_0))) | ((fail_if_success (have hzz := hb2)); go_at_call 6; refine (itext_any _ _ _ (HX.out.ext (by repeat (first | exact Ext.refl _ | refine Ext.alloc ?_ _ | refine Ext.trans ?_ hb4 | refine Ext.trans ?_ hb3 | refine Ext.trans ?_ hb2 | refine Ext.trans ?_ hb1))).tab).mono ?_; rintro e w2 ⟨rfl, hb2⟩; obtain ⟨hc2, hf2⟩ := hb2.cells; (try (have l2_0 : w.heap.size < w2.heap.size := hb2.lt (by first | (simp; done) | (simp; omega) | (simp [go_sem]; done) | (simp [go_sem]; omega) | omega))); (try (have m2_0 : w.heap.size ≤ w2.heap.size := Nat.le_of_lt l2_0)); rw [HV.out.1, HV.out.2]) | ((fail_if_success (have hzz := hb3)); go_at_call 7; refine (ritext_any _ _  _).mono ?_; rintro e w3 ⟨rfl, hb3⟩; obtain ⟨hc3, hf3⟩ := hb3.cells; (try (have l3_0 : w.heap.size < w3.heap.size := hb3.lt (by first | (simp; done) | (simp; omega) | (simp [go_sem]; done) | (simp [go_sem]; omega) | omega))); (try (have m3_0 : w.heap.size ≤ w3.heap.size := Nat.le_of_lt l3_0)); rw [HV.out.1, HV.out.2]) | ((fail_if_success (have hzz := hb4)); go_at_call 8; refine (iparse_any _ hlen.out _ (HX.out.ext (by repeat (first | exact Ext.refl _ | refine Ext.alloc ?_ _ | refine Ext.trans ?_ hb4 | refine Ext.trans ?_ hb3 | refine Ext.trans ?_ hb2 | refine Ext.trans ?_ hb1)))).mono ?_; rintro e w4 ⟨rfl, hb4⟩; obtain ⟨hc4, hf4⟩ := hb4.cells; (try (have l4_0 : w.heap.size < w4.heap.size := hb4.lt (by first | (simp; done) | (simp; omega) | (simp [go_sem]; done) | (simp [go_sem]; omega) | omega))); (try (have m4_0 : w.heap.size ≤ w4.heap.size := Nat.le_of_lt l4_0)); rw [HP.out.1, HP.out.2.1, HP.out.2.2]))
    go_ret
    exact ⟨by first | rfl | simp, (by repeat (first | exact Ext.refl _ | refine Ext.setCell ?_ (by first | exact Nat.le_refl _ | (simp; done) | (simp; omega)) _ | refine Ext.drew ?_ | refine Ext.drewN ?_ _ | refine Ext.alloc ?_ _ | refine Ext.trans ?_ hb4 | refine Ext.trans ?_ hb3 | refine Ext.trans ?_ hb2 | refine Ext.trans ?_ hb1))⟩

end Go.Proofs.YthckbfkhbegmgaaDoor

/-
  The text of a range (layer 29): program and reference.
-/
import Derived.Test.YthckbfkhbegmgaaDoorTabF
import Derived.Test.YthckbfkhbegmgaaDoorIntR
namespace Go.Proofs.YthckbfkhbegmgaaDoor
open Go.RowKit
set_option linter.unusedSimpArgs false

def ixL (x y : Int) : List UInt8 := if vR x y then Lib.itoa x ++ 46 :: 46 :: Lib.itoa y else []
def ixE (x y : Int) : Int := if vR x y then 0 else 1
theorem cat_eq (a b : List UInt8) : (⟨a.toArray⟩ : ByteArray) ++ ⟨b.toArray⟩ = ⟨(a ++ b).toArray⟩ := by apply ByteArray.ext; simp

set_option maxHeartbeats 4000000 in
theorem itext_any (x y : Int) (w : World) (hT : TX w) : Calls Tryd.prog 6 #[.agg #[.int .i64 x, .int .i64 y]] w fun e w' => e = .returned (.tuple #[.string ⟨(ixL x y).toArray⟩, .int .i64 (ixE x y)]) ∧ Ext w w' := by
  have HT := Lib.hid hT
  clear hT
  rcases and1 (vR x y) with h1 | h1
  · have HV : Hid (ixL x y = [] ∧ ixE x y = 1) := by simp [Hid, ixL, ixE, h1]
    have X1 := Lib.hid h1
    clear h1
    go_enter Tryd.func6, Tryd.ntmps6
    go_wp2_with ((fail_if_success (have hzz := hb1)); go_at_call 13; refine (valid_any _ _ _).mono ?_; rintro e w1 ⟨rfl, hb1⟩; rw [X1.out]; have s1_0 : w1.cell? ⟨w.heap.size, 0, none⟩ = some (.int .i64 x) := hb1.keep (by first | assumption | (simp [go_sem, *]; done)); have s1_1 : w1.cell? ⟨w.heap.size, 1, none⟩ = some (.int .i64 y) := hb1.keep (by first | assumption | (simp [go_sem, *]; done)))
    go_ret2
    exact ⟨by rw [HV.out.1, HV.out.2]; rfl, (by repeat (first | exact Ext.refl _ | refine Ext.setCell ?_ (by first | exact Nat.le_refl _ | (simp; done) | (simp; omega)) _ | refine Ext.drew ?_ | refine Ext.drewN ?_ _ | refine Ext.alloc ?_ _ | refine Ext.trans ?_ hb1))⟩
  · have HV : Hid (ixL x y = Lib.itoa x ++ 46 :: 46 :: Lib.itoa y ∧ ixE x y = 0) := by simp [Hid, ixL, ixE, h1]
    obtain ⟨p1, p2, p3⟩ := vR_parts h1
    have X1 := Lib.hid h1
    have lA := Lib.itoa_length_le x (by omega) (by omega)
    have lB := Lib.itoa_length_le y (by omega) (by omega)
    obtain ⟨A, hA⟩ : ∃ A : List UInt8, Lib.itoa x = A := ⟨_, rfl⟩
    obtain ⟨B, hB⟩ : ∃ B : List UInt8, Lib.itoa y = B := ⟨_, rfl⟩
    rw [hA] at lA
    rw [hB] at lB
    rw [hA, hB] at HV
    have HFA : Hid (∀ W, TX W → Calls Tryd.prog 14 #[.int .i64 x, .int .i64 10] W fun e w' => e = .returned (.string ⟨A.toArray⟩) ∧ Ext W w') := fun W h => by rw [← hA]; exact fmt_any x (by omega) (by omega) W h
    have HFB : Hid (∀ W, TX W → Calls Tryd.prog 14 #[.int .i64 y, .int .i64 10] W fun e w' => e = .returned (.string ⟨B.toArray⟩) ∧ Ext W w') := fun W h => by rw [← hB]; exact fmt_any y (by omega) (by omega) W h
    have hcat : ∀ a b : List UInt8, (⟨a.toArray⟩ : ByteArray) ++ ⟨b.toArray⟩ = ⟨(a ++ b).toArray⟩ := cat_eq
    have hs1 : ¬ (9223372036854775807 < A.length + 2) := by omega
    have hs2 : ¬ (9223372036854775807 < A.length + 2 + B.length) := by omega
    clear h1 hA hB
    go_enter Tryd.func6, Tryd.ntmps6
    go_wp2_with ((fail_if_success (have hzz := hb1)); go_at_call 13; refine (valid_any _ _ _).mono ?_; rintro e w1 ⟨rfl, hb1⟩; rw [X1.out]; have s1_0 : w1.cell? ⟨w.heap.size, 0, none⟩ = some (.int .i64 x) := hb1.keep (by first | assumption | (simp [go_sem, *]; done)); have s1_1 : w1.cell? ⟨w.heap.size, 1, none⟩ = some (.int .i64 y) := hb1.keep (by first | assumption | (simp [go_sem, *]; done)))
    go_region_held3 (fun w' => w'.cell? ⟨w.heap.size, 0, none⟩ = some (.int .i64 x) ∧ w'.cell? ⟨w.heap.size, 1, none⟩ = some (.int .i64 y)) (simp [go_sem, *]) (first | ((fail_if_success (have hzz := hb2)); go_at_call 14; refine ((show Calls Tryd.prog 14 #[.int .i64 x, .int .i64 10] _ _ from HFA.out _ (HT.out.ext (by repeat (first | exact Ext.refl _ | refine Ext.setCell ?_ (by first | exact Nat.le_refl _ | (simp; done) | (simp; omega)) _ | refine Ext.drew ?_ | refine Ext.drewN ?_ _ | refine Ext.alloc ?_ _ | refine Ext.trans ?_ hb1))))).mono ?_; rintro e w2 ⟨rfl, hb2⟩; have s2_0 : w2.cell? ⟨w.heap.size, 0, none⟩ = some (.int .i64 x) := hb2.keep (by first | assumption | (simp [go_sem, *]; done)); have s2_1 : w2.cell? ⟨w.heap.size, 1, none⟩ = some (.int .i64 y) := hb2.keep (by first | assumption | (simp [go_sem, *]; done))) | ((fail_if_success (have hzz := hb3)); go_at_call 14; refine (HFB.out _ (HT.out.ext (by repeat (first | exact Ext.refl _ | refine Ext.setCell ?_ (by first | exact Nat.le_refl _ | (simp; done) | (simp; omega)) _ | refine Ext.drew ?_ | refine Ext.drewN ?_ _ | refine Ext.alloc ?_ _ | refine Ext.trans ?_ hb2 | refine Ext.trans ?_ hb1)))).mono ?_; rintro e w3 ⟨rfl, hb3⟩; have s3_0 : w3.cell? ⟨w.heap.size, 0, none⟩ = some (.int .i64 x) := hb3.keep (by first | assumption | (simp [go_sem, *]; done)); have s3_1 : w3.cell? ⟨w.heap.size, 1, none⟩ = some (.int .i64 y) := hb3.keep (by first | assumption | (simp [go_sem, *]; done))))
    go_wp2
    go_ret2
    exact ⟨by rw [HV.out.1, HV.out.2]; first | rfl | (simp [hcat]; done), (by repeat (first | exact Ext.refl _ | refine Ext.setCell ?_ (by first | exact Nat.le_refl _ | (simp; done) | (simp; omega)) _ | refine Ext.drew ?_ | refine Ext.drewN ?_ _ | refine Ext.alloc ?_ _ | refine Ext.trans ?_ hb3 | refine Ext.trans ?_ hb2 | refine Ext.trans ?_ hb1))⟩

set_option maxHeartbeats 4000000 in
theorem ritext_any (x y : Int) (w : World) : Calls Tryd.prog 7 #[.agg #[.int .i64 x, .int .i64 y]] w fun e w' => e = .returned (.tuple #[.string ⟨(ixL x y).toArray⟩, .int .i64 (ixE x y)]) ∧ Ext w w' := by
  skip
  skip
  rcases and1 (vR x y) with h1 | h1
  · have HV : Hid (ixL x y = [] ∧ ixE x y = 1) := by simp [Hid, ixL, ixE, h1]
    have X1 := Lib.hid h1
    clear h1
    go_enter Tryd.func7, Tryd.ntmps7
    go_wp2_with ((fail_if_success (have hzz := hb1)); go_at_call 15; refine (rvalid29_any _ _ _).mono ?_; rintro e w1 ⟨rfl, hb1⟩; rw [X1.out]; have s1_0 : w1.cell? ⟨w.heap.size, 0, none⟩ = some (.int .i64 x) := hb1.keep (by first | assumption | (simp [go_sem, *]; done)); have s1_1 : w1.cell? ⟨w.heap.size, 1, none⟩ = some (.int .i64 y) := hb1.keep (by first | assumption | (simp [go_sem, *]; done)))
    go_ret2
    exact ⟨by rw [HV.out.1, HV.out.2]; rfl, (by repeat (first | exact Ext.refl _ | refine Ext.setCell ?_ (by first | exact Nat.le_refl _ | (simp; done) | (simp; omega)) _ | refine Ext.drew ?_ | refine Ext.drewN ?_ _ | refine Ext.alloc ?_ _ | refine Ext.trans ?_ hb1))⟩
  · have HV : Hid (ixL x y = Lib.itoa x ++ 46 :: 46 :: Lib.itoa y ∧ ixE x y = 0) := by simp [Hid, ixL, ixE, h1]
    obtain ⟨p1, p2, p3⟩ := vR_parts h1
    have X1 := Lib.hid h1
    have lA := Lib.itoa_length_le x (by omega) (by omega)
    have lB := Lib.itoa_length_le y (by omega) (by omega)
    obtain ⟨A, hA⟩ : ∃ A : List UInt8, Lib.itoa x = A := ⟨_, rfl⟩
    obtain ⟨B, hB⟩ : ∃ B : List UInt8, Lib.itoa y = B := ⟨_, rfl⟩
    rw [hA] at lA
    rw [hB] at lB
    rw [hA, hB] at HV
    have HFA : Hid (∀ W, Calls Tryd.prog 16 #[.agg #[.int .i64 (whi x), .int .u64 (wlo x)]] W fun e w' => e = .returned (.string ⟨A.toArray⟩) ∧ Ext W w') := fun W => by
      have := text128_any (whi x) (wlo x) (by unfold whi; omega) (by unfold whi; omega) (by unfold wlo; omega) (by unfold wlo; omega) W
      rwa [show vI (whi x) (wlo x) = x by unfold vI whi wlo; omega, hA] at this
    have HFB : Hid (∀ W, Calls Tryd.prog 16 #[.agg #[.int .i64 (whi y), .int .u64 (wlo y)]] W fun e w' => e = .returned (.string ⟨B.toArray⟩) ∧ Ext W w') := fun W => by
      have := text128_any (whi y) (wlo y) (by unfold whi; omega) (by unfold whi; omega) (by unfold wlo; omega) (by unfold wlo; omega) W
      rwa [show vI (whi y) (wlo y) = y by unfold vI whi wlo; omega, hB] at this
    have hcat : ∀ a b : List UInt8, (⟨a.toArray⟩ : ByteArray) ++ ⟨b.toArray⟩ = ⟨(a ++ b).toArray⟩ := cat_eq
    have hs1 : ¬ (9223372036854775807 < A.length + 2) := by omega
    have hs2 : ¬ (9223372036854775807 < A.length + 2 + B.length) := by omega
    clear h1 hA hB
    go_enter Tryd.func7, Tryd.ntmps7
    go_wp2_with ((fail_if_success (have hzz := hb1)); go_at_call 15; refine (rvalid29_any _ _ _).mono ?_; rintro e w1 ⟨rfl, hb1⟩; rw [X1.out]; have s1_0 : w1.cell? ⟨w.heap.size, 0, none⟩ = some (.int .i64 x) := hb1.keep (by first | assumption | (simp [go_sem, *]; done)); have s1_1 : w1.cell? ⟨w.heap.size, 1, none⟩ = some (.int .i64 y) := hb1.keep (by first | assumption | (simp [go_sem, *]; done)))
    go_region_held3 (fun w' => w'.cell? ⟨w.heap.size, 0, none⟩ = some (.int .i64 x) ∧ w'.cell? ⟨w.heap.size, 1, none⟩ = some (.int .i64 y)) (simp [go_sem, *]) (first | ((fail_if_success (have hzz := hb2)); go_at_call 17; refine (rof_any x (by omega) (by omega) _).mono ?_; rintro e w2 ⟨rfl, hb2⟩; have s2_0 : w2.cell? ⟨w.heap.size, 0, none⟩ = some (.int .i64 x) := hb2.keep (by first | assumption | (simp [go_sem, *]; done)); have s2_1 : w2.cell? ⟨w.heap.size, 1, none⟩ = some (.int .i64 y) := hb2.keep (by first | assumption | (simp [go_sem, *]; done))) | ((fail_if_success (have hzz := hb3)); go_at_call 16; refine (HFA.out _).mono ?_; rintro e w3 ⟨rfl, hb3⟩; have s3_0 : w3.cell? ⟨w.heap.size, 0, none⟩ = some (.int .i64 x) := hb3.keep (by first | assumption | (simp [go_sem, *]; done)); have s3_1 : w3.cell? ⟨w.heap.size, 1, none⟩ = some (.int .i64 y) := hb3.keep (by first | assumption | (simp [go_sem, *]; done))) | ((fail_if_success (have hzz := hb4)); go_at_call 17; refine (rof_any y (by omega) (by omega) _).mono ?_; rintro e w4 ⟨rfl, hb4⟩; have s4_0 : w4.cell? ⟨w.heap.size, 0, none⟩ = some (.int .i64 x) := hb4.keep (by first | assumption | (simp [go_sem, *]; done)); have s4_1 : w4.cell? ⟨w.heap.size, 1, none⟩ = some (.int .i64 y) := hb4.keep (by first | assumption | (simp [go_sem, *]; done))) | ((fail_if_success (have hzz := hb5)); go_at_call 16; refine (HFB.out _).mono ?_; rintro e w5 ⟨rfl, hb5⟩; have s5_0 : w5.cell? ⟨w.heap.size, 0, none⟩ = some (.int .i64 x) := hb5.keep (by first | assumption | (simp [go_sem, *]; done)); have s5_1 : w5.cell? ⟨w.heap.size, 1, none⟩ = some (.int .i64 y) := hb5.keep (by first | assumption | (simp [go_sem, *]; done))))
    go_wp2
    go_ret2
    exact ⟨by rw [HV.out.1, HV.out.2]; first | rfl | (simp [hcat]; done), (by repeat (first | exact Ext.refl _ | refine Ext.setCell ?_ (by first | exact Nat.le_refl _ | (simp; done) | (simp; omega)) _ | refine Ext.drew ?_ | refine Ext.drewN ?_ _ | refine Ext.alloc ?_ _ | refine Ext.trans ?_ hb5 | refine Ext.trans ?_ hb4 | refine Ext.trans ?_ hb3 | refine Ext.trans ?_ hb2 | refine Ext.trans ?_ hb1))⟩

end Go.Proofs.YthckbfkhbegmgaaDoor

/-
  The symbol of an entry (layer 21).
-/
import Derived.Test.YtohoehfebphgeaaDoorSymD
namespace Go.Proofs.YtohoehfebphgeaaDoor
open Go.RowKit
set_option linter.unusedSimpArgs false

set_option maxHeartbeats 8000000 in
theorem symbol_any (k c b l m : Int) (hk : k = 0 ∨ k = 119 ∨ k = 110) (hm : m = 0 ∨ m = 87 ∨ m = 82) (hc : 0 ≤ c ∧ c ≤ 1000) (hb : 0 ≤ b ∧ b ≤ 1000) (hl : 0 ≤ l ∧ l ≤ 1000) (hbl : b = 0 ∨ l = 0) (w : World) (hX : TX w) :
    Calls Tryd.prog 16 #[.agg #[.int .u8 k, .int .i64 c, .int .i64 b, .int .i64 l, .int .u8 m]] w fun e w' => e = .returned (.string ⟨(symS k c b l m).toArray⟩) ∧ Ext w w' := by
  have HX := Lib.hid hX
  have HC := Lib.hid hc
  have HB := Lib.hid hb
  have HLL := Lib.hid hl
  have hcat : ∀ a b : List UInt8, (⟨a.toArray⟩ : ByteArray) ++ ⟨b.toArray⟩ = ⟨(a ++ b).toArray⟩ := fun a b => by apply ByteArray.ext; simp
  have la := numL_len (n := c) (by omega) (by omega)
  have lb := numL_len (n := b) (by omega) (by omega)
  have lc := numL_len (n := l) (by omega) (by omega)
  have hS : Hid (symS k c b l m = (let s := if k = 0 then numL c else UInt8.ofNat k.toNat :: numL c
                             let s := if 0 < b then s ++ 98 :: numL b else s
                             let s := if 0 < l then s ++ 108 :: numL l else s
                             if m = 0 then s else s ++ [UInt8.ofNat m.toNat])) := rfl
  obtain ⟨A, hA⟩ : ∃ A, numL c = A := ⟨_, rfl⟩
  obtain ⟨B, hB⟩ : ∃ B, numL b = B := ⟨_, rfl⟩
  obtain ⟨C, hC⟩ : ∃ C, numL l = C := ⟨_, rfl⟩
  rw [hA, hB, hC] at hS
  rw [hA] at la
  rw [hB] at lb
  rw [hC] at lc
  have H1 := Lib.hid hA
  have H2 := Lib.hid hB
  have H3 := Lib.hid hC
  have ew := enc_w
  have en := enc_n
  have eW := enc_W
  have eR := enc_R
  have z1 : ¬ (9223372036854775807 < 1 + A.length) := by omega
  have z2 : ¬ (9223372036854775807 < 1 + B.length) := by omega
  have z3 : ¬ (9223372036854775807 < 1 + C.length) := by omega
  clear hX hc hl hA hB hC
  rcases hk with rfl | rfl | rfl <;> rcases hm with rfl | rfl | rfl
  all_goals
    by_cases hbp : 0 < b
    · obtain rfl : l = 0 := by omega
      clear hbl hb
      go_enter Tryd.func16, Tryd.ntmps16
      go_wp2_with (first | ((fail_if_success (have hzz := hb1)); go_at_call 28; refine (number_any c (by have := HC.out; omega) (by have := HC.out; omega) _ (HX.out.ext (by repeat (first | exact Ext.refl _ | refine Ext.setCell ?_ (by first | exact Nat.le_refl _ | (simp; done) | (simp; omega)) _ | refine Ext.drew ?_ | refine Ext.drewN ?_ _ | refine Ext.alloc ?_ _)))).mono ?_; rintro e w1 ⟨rfl, hb1⟩; rw [H1.out]; obtain ⟨hc1, hf1⟩ := hb1.cells; (have l1_0 : w.heap.size < w1.heap.size := hb1.lt (by first | (simp; done) | (simp; omega) | (simp [go_sem]; done) | (simp [go_sem]; omega) | omega))) | ((fail_if_success (have hzz := hb2)); go_at_call 28; refine (number_any b (by have := HB.out; omega) (by have := HB.out; omega) _ (HX.out.ext (by repeat (first | exact Ext.refl _ | refine Ext.setCell ?_ (by first | exact Nat.le_refl _ | (simp; done) | (simp; omega)) _ | refine Ext.drew ?_ | refine Ext.drewN ?_ _ | refine Ext.alloc ?_ _ | refine Ext.trans ?_ hb1)))).mono ?_; rintro e w2 ⟨rfl, hb2⟩; rw [H2.out]; obtain ⟨hc2, hf2⟩ := hb2.cells; (have l2_0 : w.heap.size < w2.heap.size := hb2.lt (by first | (simp; done) | (simp; omega) | (simp [go_sem]; done) | (simp [go_sem]; omega) | omega))))
      go_ret
      refine ⟨?_, (by repeat (first | exact Ext.refl _ | refine Ext.setCell ?_ (by first | exact Nat.le_refl _ | (simp; done) | (simp; omega)) _ | refine Ext.drew ?_ | refine Ext.drewN ?_ _ | refine Ext.alloc ?_ _ | refine Ext.trans ?_ hb2 | refine Ext.trans ?_ hb1))⟩
      rw [hS.out]
      first | rfl | (simp [hbp]; done) | (simp [hbp]; rfl)
    · obtain rfl : b = 0 := by omega
      clear hbl hb hbp
      by_cases hlp : 0 < l
      · go_enter Tryd.func16, Tryd.ntmps16
        go_wp2_with (first | ((fail_if_success (have hzz := hb1)); go_at_call 28; refine (number_any c (by have := HC.out; omega) (by have := HC.out; omega) _ (HX.out.ext (by repeat (first | exact Ext.refl _ | refine Ext.setCell ?_ (by first | exact Nat.le_refl _ | (simp; done) | (simp; omega)) _ | refine Ext.drew ?_ | refine Ext.drewN ?_ _ | refine Ext.alloc ?_ _)))).mono ?_; rintro e w1 ⟨rfl, hb1⟩; rw [H1.out]; obtain ⟨hc1, hf1⟩ := hb1.cells; (have l1_0 : w.heap.size < w1.heap.size := hb1.lt (by first | (simp; done) | (simp; omega) | (simp [go_sem]; done) | (simp [go_sem]; omega) | omega))) | ((fail_if_success (have hzz := hb2)); go_at_call 28; refine (number_any l (by have := HLL.out; omega) (by have := HLL.out; omega) _ (HX.out.ext (by repeat (first | exact Ext.refl _ | refine Ext.setCell ?_ (by first | exact Nat.le_refl _ | (simp; done) | (simp; omega)) _ | refine Ext.drew ?_ | refine Ext.drewN ?_ _ | refine Ext.alloc ?_ _ | refine Ext.trans ?_ hb1)))).mono ?_; rintro e w2 ⟨rfl, hb2⟩; rw [H3.out]; obtain ⟨hc2, hf2⟩ := hb2.cells; (have l2_0 : w.heap.size < w2.heap.size := hb2.lt (by first | (simp; done) | (simp; omega) | (simp [go_sem]; done) | (simp [go_sem]; omega) | omega))))
        go_ret
        refine ⟨?_, (by repeat (first | exact Ext.refl _ | refine Ext.setCell ?_ (by first | exact Nat.le_refl _ | (simp; done) | (simp; omega)) _ | refine Ext.drew ?_ | refine Ext.drewN ?_ _ | refine Ext.alloc ?_ _ | refine Ext.trans ?_ hb2 | refine Ext.trans ?_ hb1))⟩
        rw [hS.out]
        first | rfl | (simp [hlp]; done) | (simp [hlp]; rfl)
      · obtain rfl : l = 0 := by have := HLL.out; omega
        clear hlp
        go_enter Tryd.func16, Tryd.ntmps16
        go_wp2_with ((fail_if_success (have hzz := hb1)); go_at_call 28; refine (number_any c (by have := HC.out; omega) (by have := HC.out; omega) _ (HX.out.ext (by repeat (first | exact Ext.refl _ | refine Ext.setCell ?_ (by first | exact Nat.le_refl _ | (simp; done) | (simp; omega)) _ | refine Ext.drew ?_ | refine Ext.drewN ?_ _ | refine Ext.alloc ?_ _)))).mono ?_; rintro e w1 ⟨rfl, hb1⟩; rw [H1.out]; obtain ⟨hc1, hf1⟩ := hb1.cells; (have l1_0 : w.heap.size < w1.heap.size := hb1.lt (by first | (simp; done) | (simp; omega) | (simp [go_sem]; done) | (simp [go_sem]; omega) | omega)))
        go_ret
        refine ⟨?_, (by repeat (first | exact Ext.refl _ | refine Ext.setCell ?_ (by first | exact Nat.le_refl _ | (simp; done) | (simp; omega)) _ | refine Ext.drew ?_ | refine Ext.drewN ?_ _ | refine Ext.alloc ?_ _ | refine Ext.trans ?_ hb1))⟩
        rw [hS.out]
        first | rfl | (simp; done) | (simp; rfl)

end Go.Proofs.YtohoehfebphgeaaDoor

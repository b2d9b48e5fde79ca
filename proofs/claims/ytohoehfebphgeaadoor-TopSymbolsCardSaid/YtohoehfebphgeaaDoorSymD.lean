/-
  Numbers and symbols of the box book (layer 21).
-/
import Derived.Test.YtohoehfebphgeaaDoorSymB
namespace Go.Proofs.YtohoehfebphgeaaDoor
open Go.RowKit
set_option linter.unusedSimpArgs false

def numL (n : Int) : List UInt8 := if n = 0 then [46] else Lib.itoa n
theorem numL_len {n : Int} (h0 : -9223372036854775808 ≤ n) (h1 : n ≤ 9223372036854775807) : (numL n).length ≤ 21 := by
  unfold numL
  split
  · simp
  · exact Lib.itoa_length_le n h0 h1
theorem numL_ne (n : Int) : numL n ≠ [] := by
  unfold numL
  split
  · simp
  · unfold Lib.itoa
    split
    · simp
    · intro h
      have := Lib.nDigits_pos n.toNat
      rw [← Lib.decDigits_length, h] at this
      exact absurd this (by simp)
theorem number_any (n : Int) (h0 : -9223372036854775808 ≤ n) (h1 : n ≤ 9223372036854775807) (w : World) (hX : TX w) : Calls Tryd.prog 28 #[.int .i64 n] w fun e w' => e = .returned (.string ⟨(numL n).toArray⟩) ∧ Ext w w' := by
  have HX := Lib.hid hX
  clear hX
  by_cases hn : n = 0
  · have HV : Hid (numL n = [46]) := if_pos hn
    go_enter Tryd.func28, Tryd.ntmps28
    go_wp2
    go_ret
    exact ⟨by rw [HV.out]; rfl, Ext.refl _⟩
  · have HV : Hid (numL n = Lib.itoa n) := if_neg hn
    go_enter Tryd.func28, Tryd.ntmps28
    go_wp2_with (go_at_call 25; refine (dec_any _ h0 h1 _ HX.out).mono ?_; rintro e w1 ⟨rfl, hb1⟩)
    go_ret
    exact ⟨by rw [HV.out]; rfl, hb1⟩
theorem total_any (a0 a1 a2 a3 a4 a5 : Int) (b6 b7 b8 b9 : Bool) (h0 : 0 ≤ a0 ∧ a0 ≤ 1000) (h1 : 0 ≤ a1 ∧ a1 ≤ 1000) (h2 : 0 ≤ a2 ∧ a2 ≤ 1000) (h3 : 0 ≤ a3 ∧ a3 ≤ 1000) (h4 : 0 ≤ a4 ∧ a4 ≤ 1000) (w : World) :
    Calls Tryd.prog 9 #[.agg #[.int .i64 a0, .int .i64 a1, .int .i64 a2, .int .i64 a3, .int .i64 a4, .int .i64 a5, .bool b6, .bool b7, .bool b8, .bool b9]] w fun e w' => e = .returned (.int .i64 (a0 + a1 + a2 + a3 + a4)) ∧ Ext w w' := by
  have e1 : IntKind.i64.wrap (a0 + a1) = a0 + a1 := IntWalk.i64_in _ (by omega)
  have e2 : IntKind.i64.wrap (a0 + a1 + a2) = a0 + a1 + a2 := IntWalk.i64_in _ (by omega)
  have e3 : IntKind.i64.wrap (a0 + a1 + a2 + a3) = a0 + a1 + a2 + a3 := IntWalk.i64_in _ (by omega)
  have e4 : IntKind.i64.wrap (a0 + a1 + a2 + a3 + a4) = a0 + a1 + a2 + a3 + a4 := IntWalk.i64_in _ (by omega)
  clear h0 h1 h2 h3 h4
  go_enter Tryd.func9, Tryd.ntmps9
  go_wp2
  go_ret
  exact ⟨rfl, (by repeat (first | exact Ext.refl _ | refine Ext.setCell ?_ (by first | exact Nat.le_refl _ | (simp; done) | (simp; omega)) _ | refine Ext.drew ?_ | refine Ext.drewN ?_ _ | refine Ext.alloc ?_ _))⟩
def symS (k c b l m : Int) : List UInt8 :=
  let s := if k = 0 then numL c else UInt8.ofNat k.toNat :: numL c
  let s := if 0 < b then s ++ 98 :: numL b else s
  let s := if 0 < l then s ++ 108 :: numL l else s
  if m = 0 then s else s ++ [UInt8.ofNat m.toNat]
theorem enc_w : Utf8.encode 119 = ⟨#[119]⟩ := by decide
theorem enc_n : Utf8.encode 110 = ⟨#[110]⟩ := by decide
theorem enc_W : Utf8.encode 87 = ⟨#[87]⟩ := by decide
theorem enc_R : Utf8.encode 82 = ⟨#[82]⟩ := by decide

end Go.Proofs.YtohoehfebphgeaaDoor

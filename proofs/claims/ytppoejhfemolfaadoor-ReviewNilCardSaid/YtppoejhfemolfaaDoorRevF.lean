/-
  The calls on no room; the law ReviewNil, walked.
-/
import Derived.Test.YtppoejhfemolfaaDoorRevE
namespace Go.Proofs.YtppoejhfemolfaaDoor
open Go.RowKit
set_option linter.unusedSimpArgs false
theorem renew_nil (w : World) : Calls Tryd.prog 13 #[.pointer none] w fun e w' => e = .returned (.tuple #[]) ∧ Ext w w' := by
  go_enter Tryd.func13, Tryd.ntmps13
  go_wp2
  go_end0
  exact ⟨rfl, (by repeat (first | exact Ext.refl _ | refine Ext.setCell ?_ (by first | exact Nat.le_refl _ | (simp; done) | (simp; omega)) _ | refine Ext.drew ?_ | refine Ext.drewN ?_ _ | refine Ext.alloc ?_ _))⟩
theorem decide_nil (v : Int) (w : World) : Calls Tryd.prog 11 #[.pointer none, .agg #[.int .u8 v, .int .u8 0, .int .u8 0, .int .u8 0]] w fun e w' => e = .returned (.tuple #[.int .u8 0, .int .i64 1]) ∧ Ext w w' := by
  go_enter Tryd.func11, Tryd.ntmps11
  go_wp2
  go_ret2
  exact ⟨rfl, (by repeat (first | exact Ext.refl _ | refine Ext.setCell ?_ (by first | exact Nat.le_refl _ | (simp; done) | (simp; omega)) _ | refine Ext.drew ?_ | refine Ext.drewN ?_ _ | refine Ext.alloc ?_ _))⟩
theorem count_nil (n : Int) (w : World) : Calls Tryd.prog 18 #[.pointer none, .int .i64 n] w fun e w' => e = .returned (.tuple #[.int .i64 0, .int .i64 0, .int .i64 0, .int .i64 0]) ∧ Ext w w' := by
  go_enter Tryd.func18, Tryd.ntmps18
  go_wp2
  refine bodyPost_ret (v := .tuple #[.int .i64 0, .int .i64 0, .int .i64 0, .int .i64 0]) (by simp [results, Tryd.results18, go_sem, *]) rfl ?_
  exact ⟨rfl, (by repeat (first | exact Ext.refl _ | refine Ext.setCell ?_ (by first | exact Nat.le_refl _ | (simp; done) | (simp; omega)) _ | refine Ext.drew ?_ | refine Ext.drewN ?_ _ | refine Ext.alloc ?_ _))⟩
theorem ask_nil (n c : Int) (w : World) : Calls Tryd.prog 16 #[.pointer none, .int .i64 n, .int .u8 c] w fun e w' => e = .returned (.int .i64 1) ∧ Ext w w' := by
  go_enter Tryd.func16, Tryd.ntmps16
  go_wp2
  go_ret
  exact ⟨rfl, (by repeat (first | exact Ext.refl _ | refine Ext.setCell ?_ (by first | exact Nat.le_refl _ | (simp; done) | (simp; omega)) _ | refine Ext.drew ?_ | refine Ext.drewN ?_ _ | refine Ext.alloc ?_ _))⟩
theorem left_nil (n : Int) (w : World) : Calls Tryd.prog 19 #[.pointer none, .int .i64 n] w fun e w' => e = .returned (.int .i64 0) ∧ Ext w w' := by
  go_enter Tryd.func19, Tryd.ntmps19
  go_wp2
  go_ret
  exact ⟨rfl, (by repeat (first | exact Ext.refl _ | refine Ext.setCell ?_ (by first | exact Nat.le_refl _ | (simp; done) | (simp; omega)) _ | refine Ext.drew ?_ | refine Ext.drewN ?_ _ | refine Ext.alloc ?_ _))⟩
theorem waits_nil (w : World) : Calls Tryd.prog 20 #[.pointer none] w fun e w' => e = .returned (.bool false) ∧ Ext w w' := by
  go_enter Tryd.func20, Tryd.ntmps20
  go_wp2
  go_ret
  exact ⟨rfl, (by repeat (first | exact Ext.refl _ | refine Ext.setCell ?_ (by first | exact Nat.le_refl _ | (simp; done) | (simp; omega)) _ | refine Ext.drew ?_ | refine Ext.drewN ?_ _ | refine Ext.alloc ?_ _))⟩
theorem clone_nil (w : World) : Calls Tryd.prog 21 #[.pointer none] w fun e w' => e = .returned (.pointer none) ∧ Ext w w' := by
  go_enter Tryd.func21, Tryd.ntmps21
  go_wp2
  go_ret
  exact ⟨rfl, (by repeat (first | exact Ext.refl _ | refine Ext.setCell ?_ (by first | exact Nat.le_refl _ | (simp; done) | (simp; omega)) _ | refine Ext.drew ?_ | refine Ext.drewN ?_ _ | refine Ext.alloc ?_ _))⟩
theorem text_nil (w : World) : Calls Tryd.prog 22 #[.pointer none] w fun e w' => e = .returned (.string ⟨#[]⟩) ∧ Ext w w' := by
  go_enter Tryd.func22, Tryd.ntmps22
  go_wp2
  go_ret
  exact ⟨rfl, (by repeat (first | exact Ext.refl _ | refine Ext.setCell ?_ (by first | exact Nat.le_refl _ | (simp; done) | (simp; omega)) _ | refine Ext.drew ?_ | refine Ext.drewN ?_ _ | refine Ext.alloc ?_ _))⟩

set_option maxHeartbeats 16000000 in
theorem reviewNil_any (n c : Int) (w : World) (hX : TX w) : Calls Tryd.prog 7 #[.int .i64 n, .int .u8 c] w fun e w' => e = .returned (.bool true) ∧ Ext w w' := by
  have HX := Lib.hid hX
  clear hX
  go_enter Tryd.func7, Tryd.ntmps7
  go_wp2_with (first | ((fail_if_success (have hzz := hb1)); go_at_call 8; refine (awake_any _ (HX.out.ext (by repeat (first | exact Ext.refl _ | refine Ext.setCell ?_ (by first | exact Nat.le_refl _ | (simp; done) | (simp; omega)) _ | refine Ext.drew ?_ | refine Ext.drewN ?_ _ | refine Ext.alloc ?_ _)))).mono ?_; rintro e w1 ⟨rfl, hb1⟩) | ((fail_if_success (have hzz := hb2)); go_at_call 13; refine (renew_nil _).mono ?_; rintro e w2 ⟨rfl, hb2⟩) | ((fail_if_success (have hzz := hb3)); go_at_call 11; refine (decide_nil _ _).mono ?_; rintro e w3 ⟨rfl, hb3⟩) | ((fail_if_success (have hzz := hb4)); go_at_call 18; refine (count_nil _ _).mono ?_; rintro e w4 ⟨rfl, hb4⟩) | ((fail_if_success (have hzz := hb5)); go_at_call 16; refine (ask_nil _ _ _).mono ?_; rintro e w5 ⟨rfl, hb5⟩) | ((fail_if_success (have hzz := hb6)); go_at_call 19; refine (left_nil _ _).mono ?_; rintro e w6 ⟨rfl, hb6⟩) | ((fail_if_success (have hzz := hb7)); go_at_call 20; refine (waits_nil _).mono ?_; rintro e w7 ⟨rfl, hb7⟩) | ((fail_if_success (have hzz := hb8)); go_at_call 21; refine (clone_nil _).mono ?_; rintro e w8 ⟨rfl, hb8⟩) | ((fail_if_success (have hzz := hb9)); go_at_call 22; refine (text_nil _).mono ?_; rintro e w9 ⟨rfl, hb9⟩))
  go_ret
  exact ⟨retb (by first | rfl | simp), (by repeat (first | exact Ext.refl _ | refine Ext.setCell ?_ (by first | exact Nat.le_refl _ | (simp; done) | (simp; omega)) _ | refine Ext.drew ?_ | refine Ext.drewN ?_ _ | refine Ext.alloc ?_ _ | refine Ext.trans ?_ hb9 | refine Ext.trans ?_ hb8 | refine Ext.trans ?_ hb7 | refine Ext.trans ?_ hb6 | refine Ext.trans ?_ hb5 | refine Ext.trans ?_ hb4 | refine Ext.trans ?_ hb3 | refine Ext.trans ?_ hb2 | refine Ext.trans ?_ hb1))⟩

end Go.Proofs.YtppoejhfemolfaaDoor

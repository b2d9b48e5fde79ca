/-
  The events of the law are well-formed.
-/
import Derived.Test.YtpeabgfolpgfjaaRvD
import Derived.Test.YtpeabgfolpgfjaaNotA
import Derived.Laws.Externs
import Derived.Lib.Bytealg
import Derived.StillTailTactics
import Derived.Deep.QuietTactic
namespace Go.Proofs.Ytpeabgfolpgfjaa
open Go.RowKit Go.Lib
set_option linter.unusedSimpArgs false

set_option maxHeartbeats 1000000 in
set_option maxRecDepth 100000 in
theorem slite_ix (s : ByteArray) (c : Int) (w : World) : Calls Try.prog 82 #[.string s, .int .u8 c] w fun e w' => e = .returned (.int .i64 (Lib.indexByte s.data.toList c.toNat.toUInt8)) ∧ w' = w := by
  go_enter Try.func82, Try.ntmps82
  go_wp2
  rw [run_callFunc_extern Try.func91 (by kernel_rfl) (by kernel_rfl) (by kernel_rfl) (e := Extern.BytealgIndexByte.indexByte) (by kernel_rfl), Lib.run_indexByteString]
  simp only [Result.andThen]
  rw [Oper.upon_value]
  go_wp2
  go_ret
  exact ⟨rfl, rfl⟩
theorem strs_ix (s : ByteArray) (c : Int) (w : World) : Calls Try.prog 57 #[.string s, .int .u8 c] w fun e w' => e = .returned (.int .i64 (Lib.indexByte s.data.toList c.toNat.toUInt8)) ∧ w' = w := by
  go_enter Try.func57, Try.ntmps57
  go_wp2_with (go_at_call 82; refine (slite_ix _ _ _).mono ?_; rintro e w' ⟨rfl, rfl⟩)
  go_ret
  exact ⟨rfl, rfl⟩
/-- The fields of the forms that the law's events use. -/
structure FmAt (w : World) (b : Nat) : Prop where
  f2 : w.cell? ⟨b, 5, none⟩ = some (.string ⟨#[112, 111]⟩)
  f3 : w.cell? ⟨b, 9, none⟩ = some (.string ⟨#[112]⟩)
  f4 : w.cell? ⟨b, 13, none⟩ = some (.string ⟨#[98]⟩)
  f8 : w.cell? ⟨b, 29, none⟩ = some (.string ⟨#[112]⟩)
  f14 : w.cell? ⟨b, 53, none⟩ = some (.string ⟨#[115, 121]⟩)
set_option maxRecDepth 20000 in
set_option maxHeartbeats 4000000 in
theorem forms_any (w : World) : Calls Try.prog 58 #[] w fun e w' => e = .returned (.slice (some ⟨w.heap.size, 0, none⟩) 16 16) ∧ FmAt w' w.heap.size ∧ Ext w w' := by
  go_enter Try.func58, Try.ntmps58
  go_wp2
  go_ret
  refine ⟨rfl, ⟨?_, ?_, ?_, ?_, ?_⟩, (by repeat (first | exact Ext.refl _ | refine Ext.drew ?_ | refine Ext.drewN ?_ _ | refine Ext.alloc ?_ _))⟩ <;> simp [go_sem]

set_option maxHeartbeats 4000000 in
theorem uses_2 (c : Int) (V : Bool) (h : decide (0 ≤ Lib.indexByte (⟨#[112, 111]⟩ : ByteArray).data.toList c.toNat.toUInt8) = V) (w : World) : Calls Try.prog 28 #[.int .u8 2, .int .u8 c] w fun e w' => e = .returned (.bool V) ∧ Ext w w' := by
  obtain ⟨X, hX⟩ : ∃ X, Lib.indexByte (⟨#[112, 111]⟩ : ByteArray).data.toList c.toNat.toUInt8 = X := ⟨_, rfl⟩
  have HX := Lib.hid hX
  rw [hX] at h
  clear hX
  have HIX : Hid (∀ W, Calls Try.prog 57 #[.string ⟨#[112, 111]⟩, .int .u8 c] W fun e w' => e = .returned (.int .i64 X) ∧ w' = W) := fun W => by
    have := strs_ix ⟨#[112, 111]⟩ c W
    rw [HX.out] at this
    exact this
  go_enter Try.func28, Try.ntmps28
  go_wp2_with (first | (go_at_call 58; refine (forms_any _).mono ?_; rintro e w1 ⟨rfl, hF, hb⟩; have c1 := hF.f2) | (go_at_call 57; refine (HIX.out _).mono ?_; rintro e w' ⟨rfl, rfl⟩))
  all_goals
    refine bodyPost_ret (v := .bool V) ?_ rfl ⟨rfl, hb.trans (by repeat (first | exact Ext.refl _ | refine Ext.drew ?_ | refine Ext.drewN ?_ _ | refine Ext.alloc ?_ _))⟩
    rw [← h]
    simp [results, Try.results28, go_sem, *]

set_option maxHeartbeats 4000000 in
theorem uses_3 (c : Int) (V : Bool) (h : decide (0 ≤ Lib.indexByte (⟨#[112]⟩ : ByteArray).data.toList c.toNat.toUInt8) = V) (w : World) : Calls Try.prog 28 #[.int .u8 3, .int .u8 c] w fun e w' => e = .returned (.bool V) ∧ Ext w w' := by
  obtain ⟨X, hX⟩ : ∃ X, Lib.indexByte (⟨#[112]⟩ : ByteArray).data.toList c.toNat.toUInt8 = X := ⟨_, rfl⟩
  have HX := Lib.hid hX
  rw [hX] at h
  clear hX
  have HIX : Hid (∀ W, Calls Try.prog 57 #[.string ⟨#[112]⟩, .int .u8 c] W fun e w' => e = .returned (.int .i64 X) ∧ w' = W) := fun W => by
    have := strs_ix ⟨#[112]⟩ c W
    rw [HX.out] at this
    exact this
  go_enter Try.func28, Try.ntmps28
  go_wp2_with (first | (go_at_call 58; refine (forms_any _).mono ?_; rintro e w1 ⟨rfl, hF, hb⟩; have c1 := hF.f3) | (go_at_call 57; refine (HIX.out _).mono ?_; rintro e w' ⟨rfl, rfl⟩))
  all_goals
    refine bodyPost_ret (v := .bool V) ?_ rfl ⟨rfl, hb.trans (by repeat (first | exact Ext.refl _ | refine Ext.drew ?_ | refine Ext.drewN ?_ _ | refine Ext.alloc ?_ _))⟩
    rw [← h]
    simp [results, Try.results28, go_sem, *]

set_option maxHeartbeats 4000000 in
theorem uses_4 (c : Int) (V : Bool) (h : decide (0 ≤ Lib.indexByte (⟨#[98]⟩ : ByteArray).data.toList c.toNat.toUInt8) = V) (w : World) : Calls Try.prog 28 #[.int .u8 4, .int .u8 c] w fun e w' => e = .returned (.bool V) ∧ Ext w w' := by
  obtain ⟨X, hX⟩ : ∃ X, Lib.indexByte (⟨#[98]⟩ : ByteArray).data.toList c.toNat.toUInt8 = X := ⟨_, rfl⟩
  have HX := Lib.hid hX
  rw [hX] at h
  clear hX
  have HIX : Hid (∀ W, Calls Try.prog 57 #[.string ⟨#[98]⟩, .int .u8 c] W fun e w' => e = .returned (.int .i64 X) ∧ w' = W) := fun W => by
    have := strs_ix ⟨#[98]⟩ c W
    rw [HX.out] at this
    exact this
  go_enter Try.func28, Try.ntmps28
  go_wp2_with (first | (go_at_call 58; refine (forms_any _).mono ?_; rintro e w1 ⟨rfl, hF, hb⟩; have c1 := hF.f4) | (go_at_call 57; refine (HIX.out _).mono ?_; rintro e w' ⟨rfl, rfl⟩))
  all_goals
    refine bodyPost_ret (v := .bool V) ?_ rfl ⟨rfl, hb.trans (by repeat (first | exact Ext.refl _ | refine Ext.drew ?_ | refine Ext.drewN ?_ _ | refine Ext.alloc ?_ _))⟩
    rw [← h]
    simp [results, Try.results28, go_sem, *]

set_option maxHeartbeats 4000000 in
theorem uses_8 (c : Int) (V : Bool) (h : decide (0 ≤ Lib.indexByte (⟨#[112]⟩ : ByteArray).data.toList c.toNat.toUInt8) = V) (w : World) : Calls Try.prog 28 #[.int .u8 8, .int .u8 c] w fun e w' => e = .returned (.bool V) ∧ Ext w w' := by
  obtain ⟨X, hX⟩ : ∃ X, Lib.indexByte (⟨#[112]⟩ : ByteArray).data.toList c.toNat.toUInt8 = X := ⟨_, rfl⟩
  have HX := Lib.hid hX
  rw [hX] at h
  clear hX
  have HIX : Hid (∀ W, Calls Try.prog 57 #[.string ⟨#[112]⟩, .int .u8 c] W fun e w' => e = .returned (.int .i64 X) ∧ w' = W) := fun W => by
    have := strs_ix ⟨#[112]⟩ c W
    rw [HX.out] at this
    exact this
  go_enter Try.func28, Try.ntmps28
  go_wp2_with (first | (go_at_call 58; refine (forms_any _).mono ?_; rintro e w1 ⟨rfl, hF, hb⟩; have c1 := hF.f8) | (go_at_call 57; refine (HIX.out _).mono ?_; rintro e w' ⟨rfl, rfl⟩))
  all_goals
    refine bodyPost_ret (v := .bool V) ?_ rfl ⟨rfl, hb.trans (by repeat (first | exact Ext.refl _ | refine Ext.drew ?_ | refine Ext.drewN ?_ _ | refine Ext.alloc ?_ _))⟩
    rw [← h]
    simp [results, Try.results28, go_sem, *]

set_option maxHeartbeats 4000000 in
theorem uses_14 (c : Int) (V : Bool) (h : decide (0 ≤ Lib.indexByte (⟨#[115, 121]⟩ : ByteArray).data.toList c.toNat.toUInt8) = V) (w : World) : Calls Try.prog 28 #[.int .u8 14, .int .u8 c] w fun e w' => e = .returned (.bool V) ∧ Ext w w' := by
  obtain ⟨X, hX⟩ : ∃ X, Lib.indexByte (⟨#[115, 121]⟩ : ByteArray).data.toList c.toNat.toUInt8 = X := ⟨_, rfl⟩
  have HX := Lib.hid hX
  rw [hX] at h
  clear hX
  have HIX : Hid (∀ W, Calls Try.prog 57 #[.string ⟨#[115, 121]⟩, .int .u8 c] W fun e w' => e = .returned (.int .i64 X) ∧ w' = W) := fun W => by
    have := strs_ix ⟨#[115, 121]⟩ c W
    rw [HX.out] at this
    exact this
  go_enter Try.func28, Try.ntmps28
  go_wp2_with (first | (go_at_call 58; refine (forms_any _).mono ?_; rintro e w1 ⟨rfl, hF, hb⟩; have c1 := hF.f14) | (go_at_call 57; refine (HIX.out _).mono ?_; rintro e w' ⟨rfl, rfl⟩))
  all_goals
    refine bodyPost_ret (v := .bool V) ?_ rfl ⟨rfl, hb.trans (by repeat (first | exact Ext.refl _ | refine Ext.drew ?_ | refine Ext.drewN ?_ _ | refine Ext.alloc ?_ _))⟩
    rw [← h]
    simp [results, Try.results28, go_sem, *]

end Go.Proofs.Ytpeabgfolpgfjaa

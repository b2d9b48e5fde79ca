/-
  Contracts of layer 2 (wide) as far as the ranges of layer 29 use it: Of, Add, Sub, Fits.
-/
import Derived.Test.YthckbfkhbegmgaaDoorKit
import Derived.Shelf.Spec.BitsCarry
namespace Go.Proofs.YthckbfkhbegmgaaDoor
open Go.RowKit
set_option linter.unusedSimpArgs false

/-- The two words of a number. -/
def whi (v : Int) : Int := v / 18446744073709551616
def wlo (v : Int) : Int := v % 18446744073709551616
theorem add64_run (x y c : Int) (hx : 0 ≤ x) (hy : 0 ≤ y) (hc0 : 0 ≤ c) (hc : c ≤ 1) (w : World) :
    (callFunc 58 #[.int .u64 x, .int .u64 y, .int .u64 c]).run Tryd.prog w =
      .ok (.value (.tuple #[.int .u64 ((x + y + c) % 18446744073709551616), .int .u64 ((x + y + c) / 18446744073709551616)])) w := by
  rw [run_callFunc_extern Tryd.func58 (by kernel_rfl) (by kernel_rfl) (by kernel_rfl) (e := add64Entry) (by kernel_rfl), run_add64 x y c hx hy hc0 hc]
  rfl
theorem whi_small {n : Int} (h : -9223372036854775808 ≤ n) (h' : n ≤ 9223372036854775807) : n / 9223372036854775808 = whi n := by unfold whi; omega
theorem wlo_wrap (n : Int) : IntKind.u64.wrap n = wlo n := IntKind.wrap_u64 n
theorem whi_cases {n : Int} (h : -9223372036854775808 ≤ n) (h' : n ≤ 9223372036854775807) : whi n = 0 ∨ whi n = -1 := by unfold whi; omega
theorem wlo_bd (n : Int) : 0 ≤ wlo n ∧ wlo n < 18446744073709551616 := by unfold wlo; omega
theorem retw {a b c d : Int} (h : a = c) (h' : b = d) : Ending.returned (.agg #[.int .i64 a, .int .u64 b]) = .returned (.agg #[.int .i64 c, .int .u64 d]) := by rw [h, h']

set_option maxHeartbeats 400000 in
theorem of_any (n : Int) (h : -9223372036854775808 ≤ n) (h' : n ≤ 9223372036854775807) (w : World) :
    Calls Tryd.prog 41 #[.int .i64 n] w fun e w' => e = .returned (.agg #[.int .i64 (whi n), .int .u64 (wlo n)]) ∧ Ext w w' := by
  go_enter Tryd.func41, Tryd.ntmps41
  go_wp2
  refine bodyPost_ret (v := .agg #[.int .i64 (n / 9223372036854775808), .int .u64 (IntKind.u64.wrap n)]) (by simp [results, Tryd.results41, go_sem, *]) rfl ?_
  exact ⟨retw (whi_small h h') (wlo_wrap n), (Ext.refl _).alloc _⟩

theorem sub64_run (x y b : Nat) (hb : b ≤ 1) (w : World) :
    (callFunc 57 #[.int .u64 x, .int .u64 y, .int .u64 b]).run Tryd.prog w =
      .ok (.value (.tuple #[.int .u64 (((x + 18446744073709551616 - y - b) % 18446744073709551616 : Nat) : Int), .int .u64 ((if x < y + b then 1 else 0 : Nat) : Int)])) w := by
  rw [run_callFunc_extern Tryd.func57 (by kernel_rfl) (by kernel_rfl) (by kernel_rfl) (e := sub64Entry) (by kernel_rfl), Go.Proofs.run_sub64 x y b hb]
  rfl
theorem sub64_int (x y b : Int) (hx : 0 ≤ x) (hx' : x < 18446744073709551616) (hy : 0 ≤ y) (hy' : y < 18446744073709551616) (hb : 0 ≤ b) (hb' : b ≤ 1) (w : World) :
    (callFunc 57 #[.int .u64 x, .int .u64 y, .int .u64 b]).run Tryd.prog w =
      .ok (.value (.tuple #[.int .u64 ((x - y - b) % 18446744073709551616), .int .u64 (if x < y + b then 1 else 0)])) w := by
  obtain ⟨x, rfl⟩ := Int.eq_ofNat_of_zero_le hx
  obtain ⟨y, rfl⟩ := Int.eq_ofNat_of_zero_le hy
  obtain ⟨b, rfl⟩ := Int.eq_ofNat_of_zero_le hb
  rw [sub64_run x y b (by omega)]
  have e1 : (((x + 18446744073709551616 - y - b) % 18446744073709551616 : Nat) : Int) = ((x : Int) - y - b) % 18446744073709551616 := by omega
  have e2 : ((if x < y + b then 1 else 0 : Nat) : Int) = if (x : Int) < (y : Int) + b then 1 else 0 := by split <;> split <;> omega
  rw [e1, e2]

set_option maxHeartbeats 2000000 in
theorem wadd_any (x y : Int) (hx : -9223372036854775808 ≤ x) (hx' : x ≤ 9223372036854775807) (hy : -9223372036854775808 ≤ y) (hy' : y ≤ 9223372036854775807) (w : World) :
    Calls Tryd.prog 42 #[.agg #[.int .i64 (whi x), .int .u64 (wlo x)], .agg #[.int .i64 (whi y), .int .u64 (wlo y)]] w fun e w' => e = .returned (.tuple #[.agg #[.int .i64 (whi (x + y)), .int .u64 (wlo (x + y))], .bool true]) ∧ Ext w w' := by
  obtain ⟨a1, a2⟩ := wlo_bd x
  obtain ⟨b1, b2⟩ := wlo_bd y
  rcases whi_cases hx hx' with h1 | h1 <;> rcases whi_cases hy hy' with h2 | h2
  · rw [h1, h2]
    by_cases hc : wlo x + wlo y < 18446744073709551616
    · have hA1 : ∀ W, (callFunc 58 #[.int .u64 (wlo x), .int .u64 (wlo y), .int .u64 0]).run Tryd.prog W = .ok (.value (.tuple #[.int .u64 (wlo (x + y)), .int .u64 0])) W := fun W => by
        rw [add64_run _ _ _ a1 b1 (by omega) (by omega), show (wlo x + wlo y + 0) % 18446744073709551616 = wlo (x + y) by unfold wlo; omega, show (wlo x + wlo y + 0) / 18446744073709551616 = 0 from by omega]
      have hA2 : ∀ W, (callFunc 58 #[.int .u64 0, .int .u64 0, .int .u64 0]).run Tryd.prog W = .ok (.value (.tuple #[.int .u64 0, .int .u64 0])) W := fun W => by
        rw [add64_run _ _ _ (by omega) (by omega) (by omega) (by omega)]; rfl
      have hW : IntKind.i64.wrap 0 = 0 := by decide
      have HV : Hid (whi (x + y) = 0) := by unfold Hid; unfold wlo at hc; unfold whi at h1 h2 ⊢; omega
      clear h1 h2 hc a1 a2 b1 b2 hx hx' hy hy'
      go_enter Tryd.func42, Tryd.ntmps42
      go_wp2
      refine bodyPost_ret (v := .tuple #[.agg #[.int .i64 (0), .int .u64 (wlo (x + y))], .bool true]) (by simp [results, Tryd.results42, go_sem, *]) rfl ?_
      exact ⟨by rw [HV.out], (by repeat (first | exact Ext.refl _ | refine Ext.setCell ?_ (by simp) _ | refine Ext.alloc ?_ _))⟩
    · have hA1 : ∀ W, (callFunc 58 #[.int .u64 (wlo x), .int .u64 (wlo y), .int .u64 0]).run Tryd.prog W = .ok (.value (.tuple #[.int .u64 (wlo (x + y)), .int .u64 1])) W := fun W => by
        rw [add64_run _ _ _ a1 b1 (by omega) (by omega), show (wlo x + wlo y + 0) % 18446744073709551616 = wlo (x + y) by unfold wlo; omega, show (wlo x + wlo y + 0) / 18446744073709551616 = 1 from by omega]
      have hA2 : ∀ W, (callFunc 58 #[.int .u64 0, .int .u64 0, .int .u64 1]).run Tryd.prog W = .ok (.value (.tuple #[.int .u64 1, .int .u64 0])) W := fun W => by
        rw [add64_run _ _ _ (by omega) (by omega) (by omega) (by omega)]; rfl
      have hW : IntKind.i64.wrap 1 = 1 := by decide
      have HV : Hid (whi (x + y) = 1) := by unfold Hid; unfold wlo at hc; unfold whi at h1 h2 ⊢; omega
      clear h1 h2 hc a1 a2 b1 b2 hx hx' hy hy'
      go_enter Tryd.func42, Tryd.ntmps42
      go_wp2
      refine bodyPost_ret (v := .tuple #[.agg #[.int .i64 (1), .int .u64 (wlo (x + y))], .bool true]) (by simp [results, Tryd.results42, go_sem, *]) rfl ?_
      exact ⟨by rw [HV.out], (by repeat (first | exact Ext.refl _ | refine Ext.setCell ?_ (by simp) _ | refine Ext.alloc ?_ _))⟩
  · rw [h1, h2]
    by_cases hc : wlo x + wlo y < 18446744073709551616
    · have hA1 : ∀ W, (callFunc 58 #[.int .u64 (wlo x), .int .u64 (wlo y), .int .u64 0]).run Tryd.prog W = .ok (.value (.tuple #[.int .u64 (wlo (x + y)), .int .u64 0])) W := fun W => by
        rw [add64_run _ _ _ a1 b1 (by omega) (by omega), show (wlo x + wlo y + 0) % 18446744073709551616 = wlo (x + y) by unfold wlo; omega, show (wlo x + wlo y + 0) / 18446744073709551616 = 0 from by omega]
      have hA2 : ∀ W, (callFunc 58 #[.int .u64 0, .int .u64 (IntKind.u64.wrap (-1)), .int .u64 0]).run Tryd.prog W = .ok (.value (.tuple #[.int .u64 18446744073709551615, .int .u64 0])) W := fun W => by
        rw [show IntKind.u64.wrap (-1) = 18446744073709551615 from rfl, add64_run _ _ _ (by omega) (by omega) (by omega) (by omega)]; rfl
      have hW : IntKind.i64.wrap 18446744073709551615 = -1 := by decide
      have HV : Hid (whi (x + y) = -1) := by unfold Hid; unfold wlo at hc; unfold whi at h1 h2 ⊢; omega
      clear h1 h2 hc a1 a2 b1 b2 hx hx' hy hy'
      go_enter Tryd.func42, Tryd.ntmps42
      go_wp2
      refine bodyPost_ret (v := .tuple #[.agg #[.int .i64 (-1), .int .u64 (wlo (x + y))], .bool true]) (by simp [results, Tryd.results42, go_sem, *]) rfl ?_
      exact ⟨by rw [HV.out], (by repeat (first | exact Ext.refl _ | refine Ext.setCell ?_ (by simp) _ | refine Ext.alloc ?_ _))⟩
    · have hA1 : ∀ W, (callFunc 58 #[.int .u64 (wlo x), .int .u64 (wlo y), .int .u64 0]).run Tryd.prog W = .ok (.value (.tuple #[.int .u64 (wlo (x + y)), .int .u64 1])) W := fun W => by
        rw [add64_run _ _ _ a1 b1 (by omega) (by omega), show (wlo x + wlo y + 0) % 18446744073709551616 = wlo (x + y) by unfold wlo; omega, show (wlo x + wlo y + 0) / 18446744073709551616 = 1 from by omega]
      have hA2 : ∀ W, (callFunc 58 #[.int .u64 0, .int .u64 (IntKind.u64.wrap (-1)), .int .u64 1]).run Tryd.prog W = .ok (.value (.tuple #[.int .u64 0, .int .u64 1])) W := fun W => by
        rw [show IntKind.u64.wrap (-1) = 18446744073709551615 from rfl, add64_run _ _ _ (by omega) (by omega) (by omega) (by omega)]; rfl
      have hW : IntKind.i64.wrap 0 = 0 := by decide
      have HV : Hid (whi (x + y) = 0) := by unfold Hid; unfold wlo at hc; unfold whi at h1 h2 ⊢; omega
      clear h1 h2 hc a1 a2 b1 b2 hx hx' hy hy'
      go_enter Tryd.func42, Tryd.ntmps42
      go_wp2
      refine bodyPost_ret (v := .tuple #[.agg #[.int .i64 (0), .int .u64 (wlo (x + y))], .bool true]) (by simp [results, Tryd.results42, go_sem, *]) rfl ?_
      exact ⟨by rw [HV.out], (by repeat (first | exact Ext.refl _ | refine Ext.setCell ?_ (by simp) _ | refine Ext.alloc ?_ _))⟩
  · rw [h1, h2]
    by_cases hc : wlo x + wlo y < 18446744073709551616
    · have hA1 : ∀ W, (callFunc 58 #[.int .u64 (wlo x), .int .u64 (wlo y), .int .u64 0]).run Tryd.prog W = .ok (.value (.tuple #[.int .u64 (wlo (x + y)), .int .u64 0])) W := fun W => by
        rw [add64_run _ _ _ a1 b1 (by omega) (by omega), show (wlo x + wlo y + 0) % 18446744073709551616 = wlo (x + y) by unfold wlo; omega, show (wlo x + wlo y + 0) / 18446744073709551616 = 0 from by omega]
      have hA2 : ∀ W, (callFunc 58 #[.int .u64 (IntKind.u64.wrap (-1)), .int .u64 0, .int .u64 0]).run Tryd.prog W = .ok (.value (.tuple #[.int .u64 18446744073709551615, .int .u64 0])) W := fun W => by
        rw [show IntKind.u64.wrap (-1) = 18446744073709551615 from rfl, add64_run _ _ _ (by omega) (by omega) (by omega) (by omega)]; rfl
      have hW : IntKind.i64.wrap 18446744073709551615 = -1 := by decide
      have HV : Hid (whi (x + y) = -1) := by unfold Hid; unfold wlo at hc; unfold whi at h1 h2 ⊢; omega
      clear h1 h2 hc a1 a2 b1 b2 hx hx' hy hy'
      go_enter Tryd.func42, Tryd.ntmps42
      go_wp2
      refine bodyPost_ret (v := .tuple #[.agg #[.int .i64 (-1), .int .u64 (wlo (x + y))], .bool true]) (by simp [results, Tryd.results42, go_sem, *]) rfl ?_
      exact ⟨by rw [HV.out], (by repeat (first | exact Ext.refl _ | refine Ext.setCell ?_ (by simp) _ | refine Ext.alloc ?_ _))⟩
    · have hA1 : ∀ W, (callFunc 58 #[.int .u64 (wlo x), .int .u64 (wlo y), .int .u64 0]).run Tryd.prog W = .ok (.value (.tuple #[.int .u64 (wlo (x + y)), .int .u64 1])) W := fun W => by
        rw [add64_run _ _ _ a1 b1 (by omega) (by omega), show (wlo x + wlo y + 0) % 18446744073709551616 = wlo (x + y) by unfold wlo; omega, show (wlo x + wlo y + 0) / 18446744073709551616 = 1 from by omega]
      have hA2 : ∀ W, (callFunc 58 #[.int .u64 (IntKind.u64.wrap (-1)), .int .u64 0, .int .u64 1]).run Tryd.prog W = .ok (.value (.tuple #[.int .u64 0, .int .u64 1])) W := fun W => by
        rw [show IntKind.u64.wrap (-1) = 18446744073709551615 from rfl, add64_run _ _ _ (by omega) (by omega) (by omega) (by omega)]; rfl
      have hW : IntKind.i64.wrap 0 = 0 := by decide
      have HV : Hid (whi (x + y) = 0) := by unfold Hid; unfold wlo at hc; unfold whi at h1 h2 ⊢; omega
      clear h1 h2 hc a1 a2 b1 b2 hx hx' hy hy'
      go_enter Tryd.func42, Tryd.ntmps42
      go_wp2
      refine bodyPost_ret (v := .tuple #[.agg #[.int .i64 (0), .int .u64 (wlo (x + y))], .bool true]) (by simp [results, Tryd.results42, go_sem, *]) rfl ?_
      exact ⟨by rw [HV.out], (by repeat (first | exact Ext.refl _ | refine Ext.setCell ?_ (by simp) _ | refine Ext.alloc ?_ _))⟩
  · rw [h1, h2]
    by_cases hc : wlo x + wlo y < 18446744073709551616
    · have hA1 : ∀ W, (callFunc 58 #[.int .u64 (wlo x), .int .u64 (wlo y), .int .u64 0]).run Tryd.prog W = .ok (.value (.tuple #[.int .u64 (wlo (x + y)), .int .u64 0])) W := fun W => by
        rw [add64_run _ _ _ a1 b1 (by omega) (by omega), show (wlo x + wlo y + 0) % 18446744073709551616 = wlo (x + y) by unfold wlo; omega, show (wlo x + wlo y + 0) / 18446744073709551616 = 0 from by omega]
      have hA2 : ∀ W, (callFunc 58 #[.int .u64 (IntKind.u64.wrap (-1)), .int .u64 (IntKind.u64.wrap (-1)), .int .u64 0]).run Tryd.prog W = .ok (.value (.tuple #[.int .u64 18446744073709551614, .int .u64 1])) W := fun W => by
        rw [show IntKind.u64.wrap (-1) = 18446744073709551615 from rfl, add64_run _ _ _ (by omega) (by omega) (by omega) (by omega)]; rfl
      have hW : IntKind.i64.wrap 18446744073709551614 = -2 := by decide
      have HV : Hid (whi (x + y) = -2) := by unfold Hid; unfold wlo at hc; unfold whi at h1 h2 ⊢; omega
      clear h1 h2 hc a1 a2 b1 b2 hx hx' hy hy'
      go_enter Tryd.func42, Tryd.ntmps42
      go_wp2
      refine bodyPost_ret (v := .tuple #[.agg #[.int .i64 (-2), .int .u64 (wlo (x + y))], .bool true]) (by simp [results, Tryd.results42, go_sem, *]) rfl ?_
      exact ⟨by rw [HV.out], (by repeat (first | exact Ext.refl _ | refine Ext.setCell ?_ (by simp) _ | refine Ext.alloc ?_ _))⟩
    · have hA1 : ∀ W, (callFunc 58 #[.int .u64 (wlo x), .int .u64 (wlo y), .int .u64 0]).run Tryd.prog W = .ok (.value (.tuple #[.int .u64 (wlo (x + y)), .int .u64 1])) W := fun W => by
        rw [add64_run _ _ _ a1 b1 (by omega) (by omega), show (wlo x + wlo y + 0) % 18446744073709551616 = wlo (x + y) by unfold wlo; omega, show (wlo x + wlo y + 0) / 18446744073709551616 = 1 from by omega]
      have hA2 : ∀ W, (callFunc 58 #[.int .u64 (IntKind.u64.wrap (-1)), .int .u64 (IntKind.u64.wrap (-1)), .int .u64 1]).run Tryd.prog W = .ok (.value (.tuple #[.int .u64 18446744073709551615, .int .u64 1])) W := fun W => by
        rw [show IntKind.u64.wrap (-1) = 18446744073709551615 from rfl, add64_run _ _ _ (by omega) (by omega) (by omega) (by omega)]; rfl
      have hW : IntKind.i64.wrap 18446744073709551615 = -1 := by decide
      have HV : Hid (whi (x + y) = -1) := by unfold Hid; unfold wlo at hc; unfold whi at h1 h2 ⊢; omega
      clear h1 h2 hc a1 a2 b1 b2 hx hx' hy hy'
      go_enter Tryd.func42, Tryd.ntmps42
      go_wp2
      refine bodyPost_ret (v := .tuple #[.agg #[.int .i64 (-1), .int .u64 (wlo (x + y))], .bool true]) (by simp [results, Tryd.results42, go_sem, *]) rfl ?_
      exact ⟨by rw [HV.out], (by repeat (first | exact Ext.refl _ | refine Ext.setCell ?_ (by simp) _ | refine Ext.alloc ?_ _))⟩

set_option maxHeartbeats 2000000 in
theorem wsub_any (x y : Int) (hx : -9223372036854775808 ≤ x) (hx' : x ≤ 9223372036854775807) (hy : -9223372036854775808 ≤ y) (hy' : y ≤ 9223372036854775807) (w : World) :
    Calls Tryd.prog 40 #[.agg #[.int .i64 (whi x), .int .u64 (wlo x)], .agg #[.int .i64 (whi y), .int .u64 (wlo y)]] w fun e w' => e = .returned (.tuple #[.agg #[.int .i64 (whi (x - y)), .int .u64 (wlo (x - y))], .bool true]) ∧ Ext w w' := by
  obtain ⟨a1, a2⟩ := wlo_bd x
  obtain ⟨b1, b2⟩ := wlo_bd y
  rcases whi_cases hx hx' with h1 | h1 <;> rcases whi_cases hy hy' with h2 | h2
  · rw [h1, h2]
    by_cases hc : wlo y ≤ wlo x
    · have hA1 : ∀ W, (callFunc 57 #[.int .u64 (wlo x), .int .u64 (wlo y), .int .u64 0]).run Tryd.prog W = .ok (.value (.tuple #[.int .u64 (wlo (x - y)), .int .u64 0])) W := fun W => by
        rw [sub64_int _ _ _ a1 a2 b1 b2 (by omega) (by omega), show (wlo x - wlo y - 0) % 18446744073709551616 = wlo (x - y) by unfold wlo; omega, show (if wlo x < wlo y + 0 then (1 : Int) else 0) = 0 from by first | rw [if_pos (by omega)] | rw [if_neg (by omega)]]
      have hA2 : ∀ W, (callFunc 57 #[.int .u64 0, .int .u64 0, .int .u64 0]).run Tryd.prog W = .ok (.value (.tuple #[.int .u64 0, .int .u64 0])) W := fun W => by
        rw [sub64_int _ _ _ (by omega) (by omega) (by omega) (by omega) (by omega) (by omega)]; rfl
      have hW : IntKind.i64.wrap 0 = 0 := by decide
      have HV : Hid (whi (x - y) = 0) := by unfold Hid; unfold wlo at hc; unfold whi at h1 h2 ⊢; omega
      clear h1 h2 hc a1 a2 b1 b2 hx hx' hy hy'
      go_enter Tryd.func40, Tryd.ntmps40
      go_wp2
      refine bodyPost_ret (v := .tuple #[.agg #[.int .i64 (0), .int .u64 (wlo (x - y))], .bool true]) (by simp [results, Tryd.results40, go_sem, *]) rfl ?_
      exact ⟨by rw [HV.out], (by repeat (first | exact Ext.refl _ | refine Ext.setCell ?_ (by simp) _ | refine Ext.alloc ?_ _))⟩
    · have hA1 : ∀ W, (callFunc 57 #[.int .u64 (wlo x), .int .u64 (wlo y), .int .u64 0]).run Tryd.prog W = .ok (.value (.tuple #[.int .u64 (wlo (x - y)), .int .u64 1])) W := fun W => by
        rw [sub64_int _ _ _ a1 a2 b1 b2 (by omega) (by omega), show (wlo x - wlo y - 0) % 18446744073709551616 = wlo (x - y) by unfold wlo; omega, show (if wlo x < wlo y + 0 then (1 : Int) else 0) = 1 from by first | rw [if_pos (by omega)] | rw [if_neg (by omega)]]
      have hA2 : ∀ W, (callFunc 57 #[.int .u64 0, .int .u64 0, .int .u64 1]).run Tryd.prog W = .ok (.value (.tuple #[.int .u64 18446744073709551615, .int .u64 1])) W := fun W => by
        rw [sub64_int _ _ _ (by omega) (by omega) (by omega) (by omega) (by omega) (by omega)]; rfl
      have hW : IntKind.i64.wrap 18446744073709551615 = -1 := by decide
      have HV : Hid (whi (x - y) = -1) := by unfold Hid; unfold wlo at hc; unfold whi at h1 h2 ⊢; omega
      clear h1 h2 hc a1 a2 b1 b2 hx hx' hy hy'
      go_enter Tryd.func40, Tryd.ntmps40
      go_wp2
      refine bodyPost_ret (v := .tuple #[.agg #[.int .i64 (-1), .int .u64 (wlo (x - y))], .bool true]) (by simp [results, Tryd.results40, go_sem, *]) rfl ?_
      exact ⟨by rw [HV.out], (by repeat (first | exact Ext.refl _ | refine Ext.setCell ?_ (by simp) _ | refine Ext.alloc ?_ _))⟩
  · rw [h1, h2]
    by_cases hc : wlo y ≤ wlo x
    · have hA1 : ∀ W, (callFunc 57 #[.int .u64 (wlo x), .int .u64 (wlo y), .int .u64 0]).run Tryd.prog W = .ok (.value (.tuple #[.int .u64 (wlo (x - y)), .int .u64 0])) W := fun W => by
        rw [sub64_int _ _ _ a1 a2 b1 b2 (by omega) (by omega), show (wlo x - wlo y - 0) % 18446744073709551616 = wlo (x - y) by unfold wlo; omega, show (if wlo x < wlo y + 0 then (1 : Int) else 0) = 0 from by first | rw [if_pos (by omega)] | rw [if_neg (by omega)]]
      have hA2 : ∀ W, (callFunc 57 #[.int .u64 0, .int .u64 (IntKind.u64.wrap (-1)), .int .u64 0]).run Tryd.prog W = .ok (.value (.tuple #[.int .u64 1, .int .u64 1])) W := fun W => by
        rw [show IntKind.u64.wrap (-1) = 18446744073709551615 from rfl, sub64_int _ _ _ (by omega) (by omega) (by omega) (by omega) (by omega) (by omega)]; rfl
      have hW : IntKind.i64.wrap 1 = 1 := by decide
      have HV : Hid (whi (x - y) = 1) := by unfold Hid; unfold wlo at hc; unfold whi at h1 h2 ⊢; omega
      clear h1 h2 hc a1 a2 b1 b2 hx hx' hy hy'
      go_enter Tryd.func40, Tryd.ntmps40
      go_wp2
      refine bodyPost_ret (v := .tuple #[.agg #[.int .i64 (1), .int .u64 (wlo (x - y))], .bool true]) (by simp [results, Tryd.results40, go_sem, *]) rfl ?_
      exact ⟨by rw [HV.out], (by repeat (first | exact Ext.refl _ | refine Ext.setCell ?_ (by simp) _ | refine Ext.alloc ?_ _))⟩
    · have hA1 : ∀ W, (callFunc 57 #[.int .u64 (wlo x), .int .u64 (wlo y), .int .u64 0]).run Tryd.prog W = .ok (.value (.tuple #[.int .u64 (wlo (x - y)), .int .u64 1])) W := fun W => by
        rw [sub64_int _ _ _ a1 a2 b1 b2 (by omega) (by omega), show (wlo x - wlo y - 0) % 18446744073709551616 = wlo (x - y) by unfold wlo; omega, show (if wlo x < wlo y + 0 then (1 : Int) else 0) = 1 from by first | rw [if_pos (by omega)] | rw [if_neg (by omega)]]
      have hA2 : ∀ W, (callFunc 57 #[.int .u64 0, .int .u64 (IntKind.u64.wrap (-1)), .int .u64 1]).run Tryd.prog W = .ok (.value (.tuple #[.int .u64 0, .int .u64 1])) W := fun W => by
        rw [show IntKind.u64.wrap (-1) = 18446744073709551615 from rfl, sub64_int _ _ _ (by omega) (by omega) (by omega) (by omega) (by omega) (by omega)]; rfl
      have hW : IntKind.i64.wrap 0 = 0 := by decide
      have HV : Hid (whi (x - y) = 0) := by unfold Hid; unfold wlo at hc; unfold whi at h1 h2 ⊢; omega
      clear h1 h2 hc a1 a2 b1 b2 hx hx' hy hy'
      go_enter Tryd.func40, Tryd.ntmps40
      go_wp2
      refine bodyPost_ret (v := .tuple #[.agg #[.int .i64 (0), .int .u64 (wlo (x - y))], .bool true]) (by simp [results, Tryd.results40, go_sem, *]) rfl ?_
      exact ⟨by rw [HV.out], (by repeat (first | exact Ext.refl _ | refine Ext.setCell ?_ (by simp) _ | refine Ext.alloc ?_ _))⟩
  · rw [h1, h2]
    by_cases hc : wlo y ≤ wlo x
    · have hA1 : ∀ W, (callFunc 57 #[.int .u64 (wlo x), .int .u64 (wlo y), .int .u64 0]).run Tryd.prog W = .ok (.value (.tuple #[.int .u64 (wlo (x - y)), .int .u64 0])) W := fun W => by
        rw [sub64_int _ _ _ a1 a2 b1 b2 (by omega) (by omega), show (wlo x - wlo y - 0) % 18446744073709551616 = wlo (x - y) by unfold wlo; omega, show (if wlo x < wlo y + 0 then (1 : Int) else 0) = 0 from by first | rw [if_pos (by omega)] | rw [if_neg (by omega)]]
      have hA2 : ∀ W, (callFunc 57 #[.int .u64 (IntKind.u64.wrap (-1)), .int .u64 0, .int .u64 0]).run Tryd.prog W = .ok (.value (.tuple #[.int .u64 18446744073709551615, .int .u64 0])) W := fun W => by
        rw [show IntKind.u64.wrap (-1) = 18446744073709551615 from rfl, sub64_int _ _ _ (by omega) (by omega) (by omega) (by omega) (by omega) (by omega)]; rfl
      have hW : IntKind.i64.wrap 18446744073709551615 = -1 := by decide
      have HV : Hid (whi (x - y) = -1) := by unfold Hid; unfold wlo at hc; unfold whi at h1 h2 ⊢; omega
      clear h1 h2 hc a1 a2 b1 b2 hx hx' hy hy'
      go_enter Tryd.func40, Tryd.ntmps40
      go_wp2
      refine bodyPost_ret (v := .tuple #[.agg #[.int .i64 (-1), .int .u64 (wlo (x - y))], .bool true]) (by simp [results, Tryd.results40, go_sem, *]) rfl ?_
      exact ⟨by rw [HV.out], (by repeat (first | exact Ext.refl _ | refine Ext.setCell ?_ (by simp) _ | refine Ext.alloc ?_ _))⟩
    · have hA1 : ∀ W, (callFunc 57 #[.int .u64 (wlo x), .int .u64 (wlo y), .int .u64 0]).run Tryd.prog W = .ok (.value (.tuple #[.int .u64 (wlo (x - y)), .int .u64 1])) W := fun W => by
        rw [sub64_int _ _ _ a1 a2 b1 b2 (by omega) (by omega), show (wlo x - wlo y - 0) % 18446744073709551616 = wlo (x - y) by unfold wlo; omega, show (if wlo x < wlo y + 0 then (1 : Int) else 0) = 1 from by first | rw [if_pos (by omega)] | rw [if_neg (by omega)]]
      have hA2 : ∀ W, (callFunc 57 #[.int .u64 (IntKind.u64.wrap (-1)), .int .u64 0, .int .u64 1]).run Tryd.prog W = .ok (.value (.tuple #[.int .u64 18446744073709551614, .int .u64 0])) W := fun W => by
        rw [show IntKind.u64.wrap (-1) = 18446744073709551615 from rfl, sub64_int _ _ _ (by omega) (by omega) (by omega) (by omega) (by omega) (by omega)]; rfl
      have hW : IntKind.i64.wrap 18446744073709551614 = -2 := by decide
      have HV : Hid (whi (x - y) = -2) := by unfold Hid; unfold wlo at hc; unfold whi at h1 h2 ⊢; omega
      clear h1 h2 hc a1 a2 b1 b2 hx hx' hy hy'
      go_enter Tryd.func40, Tryd.ntmps40
      go_wp2
      refine bodyPost_ret (v := .tuple #[.agg #[.int .i64 (-2), .int .u64 (wlo (x - y))], .bool true]) (by simp [results, Tryd.results40, go_sem, *]) rfl ?_
      exact ⟨by rw [HV.out], (by repeat (first | exact Ext.refl _ | refine Ext.setCell ?_ (by simp) _ | refine Ext.alloc ?_ _))⟩
  · rw [h1, h2]
    by_cases hc : wlo y ≤ wlo x
    · have hA1 : ∀ W, (callFunc 57 #[.int .u64 (wlo x), .int .u64 (wlo y), .int .u64 0]).run Tryd.prog W = .ok (.value (.tuple #[.int .u64 (wlo (x - y)), .int .u64 0])) W := fun W => by
        rw [sub64_int _ _ _ a1 a2 b1 b2 (by omega) (by omega), show (wlo x - wlo y - 0) % 18446744073709551616 = wlo (x - y) by unfold wlo; omega, show (if wlo x < wlo y + 0 then (1 : Int) else 0) = 0 from by first | rw [if_pos (by omega)] | rw [if_neg (by omega)]]
      have hA2 : ∀ W, (callFunc 57 #[.int .u64 (IntKind.u64.wrap (-1)), .int .u64 (IntKind.u64.wrap (-1)), .int .u64 0]).run Tryd.prog W = .ok (.value (.tuple #[.int .u64 0, .int .u64 0])) W := fun W => by
        rw [show IntKind.u64.wrap (-1) = 18446744073709551615 from rfl, sub64_int _ _ _ (by omega) (by omega) (by omega) (by omega) (by omega) (by omega)]; rfl
      have hW : IntKind.i64.wrap 0 = 0 := by decide
      have HV : Hid (whi (x - y) = 0) := by unfold Hid; unfold wlo at hc; unfold whi at h1 h2 ⊢; omega
      clear h1 h2 hc a1 a2 b1 b2 hx hx' hy hy'
      go_enter Tryd.func40, Tryd.ntmps40
      go_wp2
      refine bodyPost_ret (v := .tuple #[.agg #[.int .i64 (0), .int .u64 (wlo (x - y))], .bool true]) (by simp [results, Tryd.results40, go_sem, *]) rfl ?_
      exact ⟨by rw [HV.out], (by repeat (first | exact Ext.refl _ | refine Ext.setCell ?_ (by simp) _ | refine Ext.alloc ?_ _))⟩
    · have hA1 : ∀ W, (callFunc 57 #[.int .u64 (wlo x), .int .u64 (wlo y), .int .u64 0]).run Tryd.prog W = .ok (.value (.tuple #[.int .u64 (wlo (x - y)), .int .u64 1])) W := fun W => by
        rw [sub64_int _ _ _ a1 a2 b1 b2 (by omega) (by omega), show (wlo x - wlo y - 0) % 18446744073709551616 = wlo (x - y) by unfold wlo; omega, show (if wlo x < wlo y + 0 then (1 : Int) else 0) = 1 from by first | rw [if_pos (by omega)] | rw [if_neg (by omega)]]
      have hA2 : ∀ W, (callFunc 57 #[.int .u64 (IntKind.u64.wrap (-1)), .int .u64 (IntKind.u64.wrap (-1)), .int .u64 1]).run Tryd.prog W = .ok (.value (.tuple #[.int .u64 18446744073709551615, .int .u64 1])) W := fun W => by
        rw [show IntKind.u64.wrap (-1) = 18446744073709551615 from rfl, sub64_int _ _ _ (by omega) (by omega) (by omega) (by omega) (by omega) (by omega)]; rfl
      have hW : IntKind.i64.wrap 18446744073709551615 = -1 := by decide
      have HV : Hid (whi (x - y) = -1) := by unfold Hid; unfold wlo at hc; unfold whi at h1 h2 ⊢; omega
      clear h1 h2 hc a1 a2 b1 b2 hx hx' hy hy'
      go_enter Tryd.func40, Tryd.ntmps40
      go_wp2
      refine bodyPost_ret (v := .tuple #[.agg #[.int .i64 (-1), .int .u64 (wlo (x - y))], .bool true]) (by simp [results, Tryd.results40, go_sem, *]) rfl ?_
      exact ⟨by rw [HV.out], (by repeat (first | exact Ext.refl _ | refine Ext.setCell ?_ (by simp) _ | refine Ext.alloc ?_ _))⟩

end Go.Proofs.YthckbfkhbegmgaaDoor

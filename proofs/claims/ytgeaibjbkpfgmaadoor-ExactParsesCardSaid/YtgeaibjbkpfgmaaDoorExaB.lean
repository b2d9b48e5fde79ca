/-
  Contracts of the functions of layer 1 on numbers (program and reference), over the seat's own dump.
-/
import Derived.Test.YtgeaibjbkpfgmaaDoorExaA
namespace Go.Proofs.YtgeaibjbkpfgmaaDoor
open Go.RowKit
set_option linter.unusedSimpArgs false

set_option maxHeartbeats 400000 in
theorem size_any (n : Int) (hn : -9223372036854775807 ≤ n) (hn' : n ≤ 9223372036854775807) (w : World) : Calls Tryd.prog 47 #[.int .i64 n] w fun e w' => e = .returned (.int .i64 (n.natAbs : Int)) ∧ w = w' := by
  have HV : Hid (((n.natAbs : Nat) : Int) = if n < 0 then -n else n) := by unfold Hid; omega
  by_cases h : n < 0
  all_goals
    go_enter Tryd.func47, Tryd.ntmps47
    go_wp2
    all_goals
      go_ret
      exact ⟨ret1 (by rw [HV.out]; split <;> omega), rfl⟩

set_option maxHeartbeats 1000000 in
theorem gcd_any (a b : Int) (ha : -9223372036854775808 ≤ a) (ha' : a ≤ 9223372036854775807) (hb : -9223372036854775808 ≤ b) (hb' : b ≤ 9223372036854775807) (w : World) :
    Calls Tryd.prog 15 #[.int .i64 a, .int .i64 b] w fun e w' => e = .returned (.int .i64 (gcdv a b)) ∧ Ext w w' := by
  rcases and1 (a == least || b == least) with h | h
  · have HV := Lib.hid (gcdv_gcd h)
    simp only [Bool.or_eq_false_iff] at h
    obtain ⟨h1, h2⟩ := h
    rw [eq_least] at h1 h2
    have a1 : -9223372036854775807 ≤ a := by simp at h1; omega
    have b1 : -9223372036854775807 ≤ b := by simp at h2; omega
    have hab : a.natAbs ≤ 9223372036854775807 := by omega
    have hbb : b.natAbs ≤ 9223372036854775807 := by omega
    go_enter Tryd.func15, Tryd.ntmps15
    go_wp2_with (go_at_call 47; refine (size_any _ (by omega) (by omega) _).mono ?_; rintro e w1 ⟨rfl, rfl⟩)
    generalize a.natAbs = p at *
    generalize b.natAbs = q at *
    clear h1 h2 a1 b1 ha ha' hb hb'
    go_loopw [0, 1] (fun u v wr => ∃ x y : Nat, x ≤ 9223372036854775807 ∧ y ≤ 9223372036854775807 ∧ Nat.gcd x y = Nat.gcd p q ∧ u = .int .i64 x ∧ v = .int .i64 y ∧ Ext w wr) (fun _ v _ => (intOf v).toNat)
    case atStart => exact ⟨p, q, hab, hbb, rfl, rfl, rfl, Ext.refl _⟩
    case round =>
      obtain ⟨x, y, hx, hy, hg, rfl, rfl, hE⟩ := hrel
      have HG := Lib.hid hg
      clear hg
      rcases Nat.eq_zero_or_pos y with rfl | hy0
      · go_wp2
        go_ret
        exact ⟨ret1 (by rw [HV.out, ← HG.out, Nat.gcd_zero_right]), hE⟩
      · have hy1 : (1 : Int) ≤ (y : Int) := by omega
        have hyn : ((y : Int) != 0) = true := by simp; omega
        have hyz : ((y : Int) == 0) = false := by simp; omega
        have hlt := Nat.mod_lt x hy0
        go_wp2
        go_region
        go_roundw
        case rel => (repeat apply Exists.intro); exact ⟨⟨y, x % y, hy, by omega, by rw [← HG.out, Nat.gcd_comm x y, Nat.gcd_rec y x, Nat.gcd_comm], rfl, by go_num, hE.drew⟩, rfl⟩
        case measure => simp [intOf]; omega
  · have HV := Lib.hid (gcdv_min h)
    rcases and1 (a == -9223372036854775808) with h1 | h1
    · have h2 : (b == -9223372036854775808) = true := by rw [eq_least, eq_least, h1] at h; simpa using h
      clear h
      go_enter Tryd.func15, Tryd.ntmps15
      go_wp2
      go_ret
      exact ⟨ret1 HV.out.symm, Ext.refl _⟩
    · clear h
      go_enter Tryd.func15, Tryd.ntmps15
      go_wp2
      go_ret
      exact ⟨ret1 HV.out.symm, Ext.refl _⟩

set_option maxHeartbeats 400000 in
theorem rsize_any (n : Int) (hn : -9223372036854775807 ≤ n) (hn' : n ≤ 9223372036854775807) (w : World) : Calls Tryd.prog 48 #[.int .i64 n] w fun e w' => e = .returned (.int .i64 (n.natAbs : Int)) ∧ w = w' := by
  have HV : Hid (((n.natAbs : Nat) : Int) = if n < 0 then -n else n) := by unfold Hid; omega
  by_cases h : n < 0
  all_goals
    go_enter Tryd.func48, Tryd.ntmps48
    go_wp2
    all_goals
      go_ret
      exact ⟨ret1 (by rw [HV.out]; split <;> omega), rfl⟩

set_option maxHeartbeats 1000000 in
theorem rgcd_any (a b : Int) (ha : -9223372036854775808 ≤ a) (ha' : a ≤ 9223372036854775807) (hb : -9223372036854775808 ≤ b) (hb' : b ≤ 9223372036854775807) (w : World) :
    Calls Tryd.prog 16 #[.int .i64 a, .int .i64 b] w fun e w' => e = .returned (.int .i64 (gcdv a b)) ∧ Ext w w' := by
  rcases and1 (a == least || b == least) with h | h
  · have HV := Lib.hid (gcdv_gcd h)
    simp only [Bool.or_eq_false_iff] at h
    obtain ⟨h1, h2⟩ := h
    rw [eq_least] at h1 h2
    have a1 : -9223372036854775807 ≤ a := by simp at h1; omega
    have b1 : -9223372036854775807 ≤ b := by simp at h2; omega
    have hab : a.natAbs ≤ 9223372036854775807 := by omega
    have hbb : b.natAbs ≤ 9223372036854775807 := by omega
    go_enter Tryd.func16, Tryd.ntmps16
    go_wp2_with (go_at_call 48; refine (rsize_any _ (by omega) (by omega) _).mono ?_; rintro e w1 ⟨rfl, rfl⟩)
    generalize a.natAbs = p at *
    generalize b.natAbs = q at *
    clear h1 h2 a1 b1 ha ha' hb hb'
    go_loopw [0, 1] (fun u v wr => ∃ x y : Nat, x ≤ 9223372036854775807 ∧ y ≤ 9223372036854775807 ∧ Nat.gcd x y = Nat.gcd p q ∧ u = .int .i64 x ∧ v = .int .i64 y ∧ Ext w wr) (fun _ v _ => (intOf v).toNat)
    case atStart => exact ⟨p, q, hab, hbb, rfl, rfl, rfl, Ext.refl _⟩
    case round =>
      obtain ⟨x, y, hx, hy, hg, rfl, rfl, hE⟩ := hrel
      have HG := Lib.hid hg
      clear hg
      rcases Nat.eq_zero_or_pos y with rfl | hy0
      · go_wp2
        go_ret
        exact ⟨ret1 (by rw [HV.out, ← HG.out, Nat.gcd_zero_right]), hE⟩
      · have hy1 : (1 : Int) ≤ (y : Int) := by omega
        have hyn : ((y : Int) != 0) = true := by simp; omega
        have hyz : ((y : Int) == 0) = false := by simp; omega
        have hlt := Nat.mod_lt x hy0
        go_wp2
        go_region
        go_roundw
        case rel => (repeat apply Exists.intro); exact ⟨⟨y, x % y, hy, by omega, by rw [← HG.out, Nat.gcd_comm x y, Nat.gcd_rec y x, Nat.gcd_comm], rfl, by go_num, hE.drew⟩, rfl⟩
        case measure => simp [intOf]; omega
  · have HV := Lib.hid (gcdv_min h)
    rcases and1 (a == -9223372036854775808) with h1 | h1
    · have h2 : (b == -9223372036854775808) = true := by rw [eq_least, eq_least, h1] at h; simpa using h
      clear h
      go_enter Tryd.func16, Tryd.ntmps16
      go_wp2
      go_ret
      exact ⟨ret1 HV.out.symm, Ext.refl _⟩
    · clear h
      go_enter Tryd.func16, Tryd.ntmps16
      go_wp2
      go_ret
      exact ⟨ret1 HV.out.symm, Ext.refl _⟩

set_option maxHeartbeats 1000000 in
theorem valid_any (n d : Int) (w : World) :
    Calls Tryd.prog 17 #[.agg #[.int .i64 n, .int .i64 d]] w fun e w' => e = .returned (.bool (validB n d)) ∧ Ext w w' := by
  have HV : Hid (validB n d = (decide (1 ≤ d) && decide (d ≤ 2147483648) && decide (-2147483648 ≤ n) && decide (n ≤ 2147483648) && (gcdv n d == 1))) := by
    simp [Hid, validB, rB, Bool.and_assoc, Bool.decide_and]
  by_cases h1 : 1 ≤ d
  · by_cases h2 : d ≤ 2147483648
    · by_cases h3 : -2147483648 ≤ n
      · by_cases h4 : n ≤ 2147483648
        · go_enter Tryd.func17, Tryd.ntmps17
          go_wp2_with (go_at_call 15; refine (gcd_any _ _ (by omega) (by omega) (by omega) (by omega) _).mono ?_; rintro e w1 ⟨rfl, hb1⟩)
          go_ret
          exact ⟨retb (by rw [HV.out]; simp [h1, h2, h3, h4]), ((Ext.refl _).alloc _).trans hb1⟩
        all_goals
          go_enter Tryd.func17, Tryd.ntmps17
          go_wp2
          go_ret
          exact ⟨retb (by rw [HV.out]; simp; omega), (Ext.refl _).alloc _⟩
      all_goals
        go_enter Tryd.func17, Tryd.ntmps17
        go_wp2
        go_ret
        exact ⟨retb (by rw [HV.out]; simp; omega), (Ext.refl _).alloc _⟩
    all_goals
      go_enter Tryd.func17, Tryd.ntmps17
      go_wp2
      go_ret
      exact ⟨retb (by rw [HV.out]; simp; omega), (Ext.refl _).alloc _⟩
  all_goals
    go_enter Tryd.func17, Tryd.ntmps17
    go_wp2
    go_ret
    exact ⟨retb (by rw [HV.out]; simp; omega), (Ext.refl _).alloc _⟩

set_option maxHeartbeats 1000000 in
theorem rvalid_any (n d : Int) (w : World) :
    Calls Tryd.prog 18 #[.agg #[.int .i64 n, .int .i64 d]] w fun e w' => e = .returned (.bool (validB n d)) ∧ Ext w w' := by
  have HV : Hid (validB n d = (decide (1 ≤ d) && decide (d ≤ 2147483648) && decide (-2147483648 ≤ n) && decide (n ≤ 2147483648) && (gcdv n d == 1))) := by
    simp [Hid, validB, rB, Bool.and_assoc, Bool.decide_and]
  by_cases h1 : 1 ≤ d
  · by_cases h2 : d ≤ 2147483648
    · by_cases h3 : -2147483648 ≤ n
      · by_cases h4 : n ≤ 2147483648
        · go_enter Tryd.func18, Tryd.ntmps18
          go_wp2_with (go_at_call 16; refine (rgcd_any _ _ (by omega) (by omega) (by omega) (by omega) _).mono ?_; rintro e w1 ⟨rfl, hb1⟩)
          go_ret
          exact ⟨retb (by rw [HV.out]; simp [h1, h2, h3, h4]), ((Ext.refl _).alloc _).trans hb1⟩
        all_goals
          go_enter Tryd.func18, Tryd.ntmps18
          go_wp2
          go_ret
          exact ⟨retb (by rw [HV.out]; simp; omega), (Ext.refl _).alloc _⟩
      all_goals
        go_enter Tryd.func18, Tryd.ntmps18
        go_wp2
        go_ret
        exact ⟨retb (by rw [HV.out]; simp; omega), (Ext.refl _).alloc _⟩
    all_goals
      go_enter Tryd.func18, Tryd.ntmps18
      go_wp2
      go_ret
      exact ⟨retb (by rw [HV.out]; simp; omega), (Ext.refl _).alloc _⟩
  all_goals
    go_enter Tryd.func18, Tryd.ntmps18
    go_wp2
    go_ret
    exact ⟨retb (by rw [HV.out]; simp; omega), (Ext.refl _).alloc _⟩

end Go.Proofs.YtgeaibjbkpfgmaaDoor

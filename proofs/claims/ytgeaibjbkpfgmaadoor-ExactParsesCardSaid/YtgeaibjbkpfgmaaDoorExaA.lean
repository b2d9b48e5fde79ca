/-
  Contracts of the functions of layer 1 on numbers (program and reference), over the seat's own dump.
-/
import Derived.Test.YtgeaibjbkpfgmaaDoorExactP
namespace Go.Proofs.YtgeaibjbkpfgmaaDoor
open Go.RowKit
set_option linter.unusedSimpArgs false

set_option maxHeartbeats 400000 in
theorem divided_any (n d : Int) (w : World) : Calls Tryd.prog 52 #[.int .i64 n, .int .i64 d] w fun e w' => e = .returned (.int .i64 (dvE n d)) ∧ w = w' := by
  rcases and1 (d == 0) with h1 | h1
  · rcases and2 (n == -9223372036854775808) (d == -1) with h2 | ⟨h2, h3⟩ | ⟨h2, h3⟩
    all_goals
      first
        | (have HV : Hid (dvE n d = 0) := (by simp [Hid, dvE, h1, eq_least, *]; done)
           go_enter Tryd.func52, Tryd.ntmps52
           go_wp2
           go_ret
           exact ⟨ret1 HV.out.symm, rfl⟩)
        | (have HV : Hid (dvE n d = 2) := (by simp [Hid, dvE, h1, eq_least, *]; done)
           go_enter Tryd.func52, Tryd.ntmps52
           go_wp2
           go_ret
           exact ⟨ret1 HV.out.symm, rfl⟩)
  · have HV : Hid (dvE n d = 1) := by simp [Hid, dvE, h1]
    go_enter Tryd.func52, Tryd.ntmps52
    go_wp2
    go_ret
    exact ⟨ret1 HV.out.symm, rfl⟩

set_option maxHeartbeats 1000000 in
theorem ceil_any (n d : Int) (hn : -9223372036854775808 ≤ n) (hn' : n ≤ 9223372036854775807) (w : World) :
    Calls Tryd.prog 23 #[.int .i64 n, .int .i64 d] w fun e w' => e = .returned (.tuple #[.int .i64 (ceiV n d), .int .i64 (dvE n d)]) ∧ w = w' := by
  rcases and1 (d == 0) with h1 | h1
  · rcases and1 (n == least && d == -1) with h2 | h2
    · obtain ⟨hb1, hb2⟩ := tdiv_bd hn hn' h1 h2
      have HD : Hid (d ≠ 0) := by simpa [Hid] using h1
      have HE := Lib.hid (dvE_ok h1 h2).1
      have HV : Hid (ceiV n d = -(Int.fdiv (-n) d)) := (dvE_ok h1 h2).2.2
      clear h2
      by_cases hr : n.tmod d = 0
      · go_enter Tryd.func23, Tryd.ntmps23
        go_wp2_with (go_at_call 52; refine (divided_any _ _ _).mono ?_; rintro e w1 ⟨rfl, rfl⟩; rw [HE.out])
        all_goals
          go_ret2
          exact ⟨ret2 (by rw [HV.out, cdiv_t HD.out]; simp_all) HE.out.symm, rfl⟩
      · obtain ⟨hb3, hb4⟩ := tdiv_bd2 hn hn' h1 hr
        go_enter Tryd.func23, Tryd.ntmps23
        go_wp2_with (go_at_call 52; refine (divided_any _ _ _).mono ?_; rintro e w1 ⟨rfl, rfl⟩; rw [HE.out])
        all_goals
          go_ret2
          exact ⟨ret2 (by rw [HV.out, cdiv_t HD.out]; simp_all) HE.out.symm, rfl⟩
    · have HV := Lib.hid (dvE_least h1 h2)
      clear h1 h2
      go_enter Tryd.func23, Tryd.ntmps23
      go_wp2_with (go_at_call 52; refine (divided_any _ _ _).mono ?_; rintro e w1 ⟨rfl, rfl⟩; rw [HV.out.1])
      go_ret2
      exact ⟨ret2 HV.out.2.2.symm HV.out.1.symm, rfl⟩
  · have HV := Lib.hid (dvE_zero (n := n) h1)
    clear h1
    go_enter Tryd.func23, Tryd.ntmps23
    go_wp2_with (go_at_call 52; refine (divided_any _ _ _).mono ?_; rintro e w1 ⟨rfl, rfl⟩; rw [HV.out.1])
    go_ret2
    exact ⟨ret2 HV.out.2.2.symm HV.out.1.symm, rfl⟩

set_option maxHeartbeats 1000000 in
theorem floor_any (n d : Int) (hn : -9223372036854775808 ≤ n) (hn' : n ≤ 9223372036854775807) (w : World) :
    Calls Tryd.prog 21 #[.int .i64 n, .int .i64 d] w fun e w' => e = .returned (.tuple #[.int .i64 (floV n d), .int .i64 (dvE n d)]) ∧ w = w' := by
  rcases and1 (d == 0) with h1 | h1
  · rcases and1 (n == least && d == -1) with h2 | h2
    · obtain ⟨hb1, hb2⟩ := tdiv_bd hn hn' h1 h2
      have HD : Hid (d ≠ 0) := by simpa [Hid] using h1
      have HE := Lib.hid (dvE_ok h1 h2).1
      have HV : Hid (floV n d = Int.fdiv n d) := (dvE_ok h1 h2).2.1
      clear h2
      by_cases hr : n.tmod d = 0
      · go_enter Tryd.func21, Tryd.ntmps21
        go_wp2_with (go_at_call 52; refine (divided_any _ _ _).mono ?_; rintro e w1 ⟨rfl, rfl⟩; rw [HE.out])
        all_goals
          go_ret2
          exact ⟨ret2 (by rw [HV.out, fdiv_t HD.out]; simp_all) HE.out.symm, rfl⟩
      · obtain ⟨hb3, hb4⟩ := tdiv_bd2 hn hn' h1 hr
        go_enter Tryd.func21, Tryd.ntmps21
        go_wp2_with (go_at_call 52; refine (divided_any _ _ _).mono ?_; rintro e w1 ⟨rfl, rfl⟩; rw [HE.out])
        all_goals
          go_ret2
          exact ⟨ret2 (by rw [HV.out, fdiv_t HD.out]; simp_all) HE.out.symm, rfl⟩
    · have HV := Lib.hid (dvE_least h1 h2)
      clear h1 h2
      go_enter Tryd.func21, Tryd.ntmps21
      go_wp2_with (go_at_call 52; refine (divided_any _ _ _).mono ?_; rintro e w1 ⟨rfl, rfl⟩; rw [HV.out.1])
      go_ret2
      exact ⟨ret2 HV.out.2.1.symm HV.out.1.symm, rfl⟩
  · have HV := Lib.hid (dvE_zero (n := n) h1)
    clear h1
    go_enter Tryd.func21, Tryd.ntmps21
    go_wp2_with (go_at_call 52; refine (divided_any _ _ _).mono ?_; rintro e w1 ⟨rfl, rfl⟩; rw [HV.out.1])
    go_ret2
    exact ⟨ret2 HV.out.2.1.symm HV.out.1.symm, rfl⟩

set_option maxHeartbeats 1000000 in
theorem rfloor_any (n d : Int) (hn : -9223372036854775808 ≤ n) (hn' : n ≤ 9223372036854775807) (w : World) :
    Calls Tryd.prog 22 #[.int .i64 n, .int .i64 d] w fun e w' => e = .returned (.tuple #[.int .i64 (floV n d), .int .i64 (dvE n d)]) ∧ Ext w w' := by
  rcases and1 (d == 0) with h1 | h1
  · rcases and1 (n == least && d == -1) with h2 | h2
    · obtain ⟨hb1, hb2⟩ := tdiv_bd hn hn' h1 h2
      have HD : Hid (d ≠ 0) := by simpa [Hid] using h1
      have HE := Lib.hid (dvE_ok h1 h2).1
      have HV : Hid (floV n d = Int.fdiv n d) := (dvE_ok h1 h2).2.1
      have h3 : (n == -9223372036854775808 && d == -1) = false := h2
      have hc : (n == -9223372036854775808) = false ∨ ((n == -9223372036854775808) = true ∧ (d == -1) = false) := by
        cases h4 : (n == -9223372036854775808) <;> simp_all
      clear h2 h3
      have hd0 : d ≠ 0 := HD.out
      by_cases hr : n.tmod d = 0
      · rcases hc with h2 | ⟨h2, h3⟩
        all_goals
          go_enter Tryd.func22, Tryd.ntmps22
          go_wp2
          go_region
          all_goals
            go_wp2
            all_goals
              go_ret2
              exact ⟨ret2 (by rw [HV.out, fdiv_t HD.out]; simp_all) HE.out.symm, (Ext.refl _).drew⟩
      · obtain ⟨hb3, hb4⟩ := tdiv_bd2 hn hn' h1 hr
        rcases hc with h2 | ⟨h2, h3⟩
        all_goals
          have hs : decide (n.tmod d < 0) = decide (n < 0) := tmod_sign hr
          have HS := Lib.hid hs
          clear hs
          go_enter Tryd.func22, Tryd.ntmps22
          go_wp2
          go_region
          all_goals
            go_wp2
            all_goals
              have hs := HS.out
              go_ret2
              exact ⟨ret2 (by rw [HV.out, fdiv_t HD.out]; simp_all) HE.out.symm, (Ext.refl _).drew⟩
    · have HV := Lib.hid (dvE_least h1 h2)
      simp only [Bool.and_eq_true] at h2
      obtain ⟨h3, h4⟩ := h2
      rw [eq_least] at h3
      go_enter Tryd.func22, Tryd.ntmps22
      go_wp2
      go_ret2
      exact ⟨ret2 HV.out.2.1.symm HV.out.1.symm, Ext.refl _⟩
  · have HV := Lib.hid (dvE_zero (n := n) h1)
    go_enter Tryd.func22, Tryd.ntmps22
    go_wp2
    go_ret2
    exact ⟨ret2 HV.out.2.1.symm HV.out.1.symm, Ext.refl _⟩

set_option maxHeartbeats 1000000 in
theorem rceil_any (n d : Int) (hn : -9223372036854775808 ≤ n) (hn' : n ≤ 9223372036854775807) (w : World) :
    Calls Tryd.prog 24 #[.int .i64 n, .int .i64 d] w fun e w' => e = .returned (.tuple #[.int .i64 (ceiV n d), .int .i64 (dvE n d)]) ∧ Ext w w' := by
  rcases and1 (d == 0) with h1 | h1
  · rcases and1 (n == least && d == -1) with h2 | h2
    · obtain ⟨hb1, hb2⟩ := tdiv_bd hn hn' h1 h2
      have HD : Hid (d ≠ 0) := by simpa [Hid] using h1
      have HE := Lib.hid (dvE_ok h1 h2)
      have HV : Hid (ceiV n d = Int.fdiv n d + (if n.tmod d = 0 then 0 else 1)) := (dvE_ok h1 h2).2.2.trans (cdiv_f HD.out)
      have hd0 : d ≠ 0 := HD.out
      clear h2
      by_cases hr : n.tmod d = 0
      · go_enter Tryd.func24, Tryd.ntmps24
        go_wp2_with (go_at_call 22; refine (rfloor_any _ _ hn hn' _).mono ?_; rintro e w1 ⟨rfl, hb1⟩; rw [HE.out.1, HE.out.2.1])
        all_goals
          go_ret2
          exact ⟨ret2 (by rw [HV.out]; simp_all) HE.out.1.symm, hb1⟩
      · obtain ⟨hb3, hb4⟩ := tdiv_bd2 hn hn' h1 hr
        have HF := Lib.hid (fdiv_t (n := n) hd0)
        have hf : -4611686018427387905 ≤ Int.fdiv n d ∧ Int.fdiv n d ≤ 4611686018427387904 := by rw [HF.out]; split <;> (try split) <;> omega
        obtain ⟨hf1, hf2⟩ := hf
        go_enter Tryd.func24, Tryd.ntmps24
        go_wp2_with (go_at_call 22; refine (rfloor_any _ _ hn hn' _).mono ?_; rintro e w1 ⟨rfl, hb1⟩; rw [HE.out.1, HE.out.2.1])
        all_goals
          go_ret2
          exact ⟨ret2 (by rw [HV.out]; simp_all) HE.out.1.symm, hb1⟩
    · have HV := Lib.hid (dvE_least h1 h2)
      clear h1 h2
      go_enter Tryd.func24, Tryd.ntmps24
      go_wp2_with (go_at_call 22; refine (rfloor_any _ _ hn hn' _).mono ?_; rintro e w1 ⟨rfl, hb1⟩; rw [HV.out.1, HV.out.2.1])
      go_ret2
      exact ⟨ret2 HV.out.2.2.symm HV.out.1.symm, hb1⟩
  · have HV := Lib.hid (dvE_zero (n := n) h1)
    clear h1
    go_enter Tryd.func24, Tryd.ntmps24
    go_wp2_with (go_at_call 22; refine (rfloor_any _ _ hn hn' _).mono ?_; rintro e w1 ⟨rfl, hb1⟩; rw [HV.out.1, HV.out.2.1])
    go_ret2
    exact ⟨ret2 HV.out.2.2.symm HV.out.1.symm, hb1⟩

end Go.Proofs.YtgeaibjbkpfgmaaDoor

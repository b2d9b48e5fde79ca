/-
  Contracts of the functions of layer 1 on numbers (program and reference), over the seat's own dump.
-/
import Derived.Test.YthckbfkhbegmgaaDoorExactP
namespace Go.Proofs.YthckbfkhbegmgaaDoor
open Go.RowKit
set_option linter.unusedSimpArgs false

set_option maxHeartbeats 400000 in
theorem divided_any (n d : Int) (w : World) : Calls Tryd.prog 43 #[.int .i64 n, .int .i64 d] w fun e w' => e = .returned (.int .i64 (dvE n d)) ∧ w = w' := by
  rcases and1 (d == 0) with h1 | h1
  · rcases and2 (n == -9223372036854775808) (d == -1) with h2 | ⟨h2, h3⟩ | ⟨h2, h3⟩
    all_goals
      first
        | (have HV : Hid (dvE n d = 0) := (by simp [Hid, dvE, h1, eq_least, *]; done)
           go_enter Tryd.func43, Tryd.ntmps43
           go_wp2
           go_ret
           exact ⟨ret1 HV.out.symm, rfl⟩)
        | (have HV : Hid (dvE n d = 2) := (by simp [Hid, dvE, h1, eq_least, *]; done)
           go_enter Tryd.func43, Tryd.ntmps43
           go_wp2
           go_ret
           exact ⟨ret1 HV.out.symm, rfl⟩)
  · have HV : Hid (dvE n d = 1) := by simp [Hid, dvE, h1]
    go_enter Tryd.func43, Tryd.ntmps43
    go_wp2
    go_ret
    exact ⟨ret1 HV.out.symm, rfl⟩

set_option maxHeartbeats 1000000 in
theorem ceil_any (n d : Int) (hn : -9223372036854775808 ≤ n) (hn' : n ≤ 9223372036854775807) (w : World) :
    Calls Tryd.prog 27 #[.int .i64 n, .int .i64 d] w fun e w' => e = .returned (.tuple #[.int .i64 (ceiV n d), .int .i64 (dvE n d)]) ∧ w = w' := by
  rcases and1 (d == 0) with h1 | h1
  · rcases and1 (n == least && d == -1) with h2 | h2
    · obtain ⟨hb1, hb2⟩ := tdiv_bd hn hn' h1 h2
      have HD : Hid (d ≠ 0) := by simpa [Hid] using h1
      have HE := Lib.hid (dvE_ok h1 h2).1
      have HV : Hid (ceiV n d = -(Int.fdiv (-n) d)) := (dvE_ok h1 h2).2.2
      clear h2
      by_cases hr : n.tmod d = 0
      · go_enter Tryd.func27, Tryd.ntmps27
        go_wp2_with (go_at_call 43; refine (divided_any _ _ _).mono ?_; rintro e w1 ⟨rfl, rfl⟩; rw [HE.out])
        all_goals
          go_ret2
          exact ⟨ret2 (by rw [HV.out, cdiv_t HD.out]; simp_all) HE.out.symm, rfl⟩
      · obtain ⟨hb3, hb4⟩ := tdiv_bd2 hn hn' h1 hr
        go_enter Tryd.func27, Tryd.ntmps27
        go_wp2_with (go_at_call 43; refine (divided_any _ _ _).mono ?_; rintro e w1 ⟨rfl, rfl⟩; rw [HE.out])
        all_goals
          go_ret2
          exact ⟨ret2 (by rw [HV.out, cdiv_t HD.out]; simp_all) HE.out.symm, rfl⟩
    · have HV := Lib.hid (dvE_least h1 h2)
      clear h1 h2
      go_enter Tryd.func27, Tryd.ntmps27
      go_wp2_with (go_at_call 43; refine (divided_any _ _ _).mono ?_; rintro e w1 ⟨rfl, rfl⟩; rw [HV.out.1])
      go_ret2
      exact ⟨ret2 HV.out.2.2.symm HV.out.1.symm, rfl⟩
  · have HV := Lib.hid (dvE_zero (n := n) h1)
    clear h1
    go_enter Tryd.func27, Tryd.ntmps27
    go_wp2_with (go_at_call 43; refine (divided_any _ _ _).mono ?_; rintro e w1 ⟨rfl, rfl⟩; rw [HV.out.1])
    go_ret2
    exact ⟨ret2 HV.out.2.2.symm HV.out.1.symm, rfl⟩

set_option maxHeartbeats 1000000 in
theorem floor_any (n d : Int) (hn : -9223372036854775808 ≤ n) (hn' : n ≤ 9223372036854775807) (w : World) :
    Calls Tryd.prog 26 #[.int .i64 n, .int .i64 d] w fun e w' => e = .returned (.tuple #[.int .i64 (floV n d), .int .i64 (dvE n d)]) ∧ w = w' := by
  rcases and1 (d == 0) with h1 | h1
  · rcases and1 (n == least && d == -1) with h2 | h2
    · obtain ⟨hb1, hb2⟩ := tdiv_bd hn hn' h1 h2
      have HD : Hid (d ≠ 0) := by simpa [Hid] using h1
      have HE := Lib.hid (dvE_ok h1 h2).1
      have HV : Hid (floV n d = Int.fdiv n d) := (dvE_ok h1 h2).2.1
      clear h2
      by_cases hr : n.tmod d = 0
      · go_enter Tryd.func26, Tryd.ntmps26
        go_wp2_with (go_at_call 43; refine (divided_any _ _ _).mono ?_; rintro e w1 ⟨rfl, rfl⟩; rw [HE.out])
        all_goals
          go_ret2
          exact ⟨ret2 (by rw [HV.out, fdiv_t HD.out]; simp_all) HE.out.symm, rfl⟩
      · obtain ⟨hb3, hb4⟩ := tdiv_bd2 hn hn' h1 hr
        go_enter Tryd.func26, Tryd.ntmps26
        go_wp2_with (go_at_call 43; refine (divided_any _ _ _).mono ?_; rintro e w1 ⟨rfl, rfl⟩; rw [HE.out])
        all_goals
          go_ret2
          exact ⟨ret2 (by rw [HV.out, fdiv_t HD.out]; simp_all) HE.out.symm, rfl⟩
    · have HV := Lib.hid (dvE_least h1 h2)
      clear h1 h2
      go_enter Tryd.func26, Tryd.ntmps26
      go_wp2_with (go_at_call 43; refine (divided_any _ _ _).mono ?_; rintro e w1 ⟨rfl, rfl⟩; rw [HV.out.1])
      go_ret2
      exact ⟨ret2 HV.out.2.1.symm HV.out.1.symm, rfl⟩
  · have HV := Lib.hid (dvE_zero (n := n) h1)
    clear h1
    go_enter Tryd.func26, Tryd.ntmps26
    go_wp2_with (go_at_call 43; refine (divided_any _ _ _).mono ?_; rintro e w1 ⟨rfl, rfl⟩; rw [HV.out.1])
    go_ret2
    exact ⟨ret2 HV.out.2.1.symm HV.out.1.symm, rfl⟩

end Go.Proofs.YthckbfkhbegmgaaDoor

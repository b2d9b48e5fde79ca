/-
  The reader's source and wicket (layer 7, program).
-/
import Derived.Test.YtohoehfebphgeaaDoorNotE
namespace Go.Proofs.YtohoehfebphgeaaDoor
open Go.RowKit
set_option linter.unusedSimpArgs false

set_option maxHeartbeats 4000000 in
theorem rsource_any (ty : Int) (hty : 1 ≤ ty ∧ ty ≤ 3) {w0 w : World} {p q : Nat} {R : List UInt8} {d : Dl} (h : St w0 p q R d w) (hl : R.length ≤ 9223372036854775807) : Calls Tryd.prog 19 #[.pointer (some ⟨p, 0, none⟩), .int .u8 ty] w fun e w' => e = .returned (.int .u8 (soN ty R)) ∧ St w0 p q (soT ty R) d w' := by
  have HH := Lib.hid h
  clear h
  rcases and1 (hdB R 98) with b98 | b98
  rotate_left
  · have HV : Hid (soN ty R = 2 ∧ soT ty R = R.tail) := by simp [Hid, soN, soT, b98]
    have X98 : Hid (hdB R 98 = true ∧ tkL R 98 = R.tail) := by refine ⟨b98, ?_⟩; unfold tkL; rw [b98]; rfl
    clear b98
    go_enter Tryd.func19, Tryd.ntmps19
    go_wp2_with (first | ((fail_if_success (have hzz := hS1)); go_at_call 18; refine (take_any 98 HH.out hl).mono ?_; rintro e w1 ⟨rfl, hS1⟩; rw [X98.out.1]; rw [X98.out.2] at hS1))
    go_ret
    exact ⟨by rw [HV.out.1]; rfl, by rw [HV.out.2]; exact hS1⟩
  rcases and1 (hdB R 108) with b108 | b108
  rotate_left
  · have HV : Hid (soN ty R = 3 ∧ soT ty R = R.tail) := by simp [Hid, soN, soT, b98, b108]
    have X98 : Hid (hdB R 98 = false ∧ tkL R 98 = R) := by refine ⟨b98, ?_⟩; unfold tkL; rw [b98]; rfl
    have X108 : Hid (hdB R 108 = true ∧ tkL R 108 = R.tail) := by refine ⟨b108, ?_⟩; unfold tkL; rw [b108]; rfl
    clear b98 b108
    go_enter Tryd.func19, Tryd.ntmps19
    go_wp2_with (first | ((fail_if_success (have hzz := hS1)); go_at_call 18; refine (take_any 98 HH.out hl).mono ?_; rintro e w1 ⟨rfl, hS1⟩; rw [X98.out.1]; rw [X98.out.2] at hS1) | ((fail_if_success (have hzz := hS2)); go_at_call 18; refine (take_any 108 hS1 hl).mono ?_; rintro e w2 ⟨rfl, hS2⟩; rw [X108.out.1]; rw [X108.out.2] at hS2))
    go_ret
    exact ⟨by rw [HV.out.1]; rfl, by rw [HV.out.2]; exact hS2⟩
  by_cases h2 : ty = 2
  · subst h2
    rcases and1 (hdB R 111) with b111 | b111
    · have HV : Hid (soN 2 R = 0 ∧ soT 2 R = R) := by simp [Hid, soN, soT, tkL, b98, b108, b111]
      have X98 : Hid (hdB R 98 = false ∧ tkL R 98 = R) := by refine ⟨b98, ?_⟩; unfold tkL; rw [b98]; rfl
      have X108 : Hid (hdB R 108 = false ∧ tkL R 108 = R) := by refine ⟨b108, ?_⟩; unfold tkL; rw [b108]; rfl
      have X111 : Hid (hdB R 111 = false ∧ tkL R 111 = R) := by refine ⟨b111, ?_⟩; unfold tkL; rw [b111]; rfl
      clear b98 b108 b111
      go_enter Tryd.func19, Tryd.ntmps19
      go_wp2_with (first | ((fail_if_success (have hzz := hS1)); go_at_call 18; refine (take_any 98 HH.out hl).mono ?_; rintro e w1 ⟨rfl, hS1⟩; rw [X98.out.1]; rw [X98.out.2] at hS1) | ((fail_if_success (have hzz := hS2)); go_at_call 18; refine (take_any 108 hS1 hl).mono ?_; rintro e w2 ⟨rfl, hS2⟩; rw [X108.out.1]; rw [X108.out.2] at hS2) | ((fail_if_success (have hzz := hS3)); go_at_call 18; refine (take_any 111 hS2 hl).mono ?_; rintro e w3 ⟨rfl, hS3⟩; rw [X111.out.1]; rw [X111.out.2] at hS3))
      go_ret
      exact ⟨by rw [HV.out.1]; rfl, by rw [HV.out.2]; exact hS3⟩
    · have HV : Hid (soN 2 R = 1 ∧ soT 2 R = R.tail) := by simp [Hid, soN, soT, tkL, b98, b108, b111]
      have X98 : Hid (hdB R 98 = false ∧ tkL R 98 = R) := by refine ⟨b98, ?_⟩; unfold tkL; rw [b98]; rfl
      have X108 : Hid (hdB R 108 = false ∧ tkL R 108 = R) := by refine ⟨b108, ?_⟩; unfold tkL; rw [b108]; rfl
      have X111 : Hid (hdB R 111 = true ∧ tkL R 111 = R.tail) := by refine ⟨b111, ?_⟩; unfold tkL; rw [b111]; rfl
      clear b98 b108 b111
      go_enter Tryd.func19, Tryd.ntmps19
      go_wp2_with (first | ((fail_if_success (have hzz := hS1)); go_at_call 18; refine (take_any 98 HH.out hl).mono ?_; rintro e w1 ⟨rfl, hS1⟩; rw [X98.out.1]; rw [X98.out.2] at hS1) | ((fail_if_success (have hzz := hS2)); go_at_call 18; refine (take_any 108 hS1 hl).mono ?_; rintro e w2 ⟨rfl, hS2⟩; rw [X108.out.1]; rw [X108.out.2] at hS2) | ((fail_if_success (have hzz := hS3)); go_at_call 18; refine (take_any 111 hS2 hl).mono ?_; rintro e w3 ⟨rfl, hS3⟩; rw [X111.out.1]; rw [X111.out.2] at hS3))
      go_ret
      exact ⟨by rw [HV.out.1]; rfl, by rw [HV.out.2]; exact hS3⟩
  · have h2' : (ty == 2) = false := by simpa using h2
    rcases and1 (hdB R 46) with b46 | b46
    · have HV : Hid (soN ty R = 1 ∧ soT ty R = R) := by simp [Hid, soN, soT, tkL, b98, b108, b46, h2]
      have X98 : Hid (hdB R 98 = false ∧ tkL R 98 = R) := by refine ⟨b98, ?_⟩; unfold tkL; rw [b98]; rfl
      have X108 : Hid (hdB R 108 = false ∧ tkL R 108 = R) := by refine ⟨b108, ?_⟩; unfold tkL; rw [b108]; rfl
      have X46 : Hid (hdB R 46 = false ∧ tkL R 46 = R) := by refine ⟨b46, ?_⟩; unfold tkL; rw [b46]; rfl
      clear b98 b108 b46 h2
      go_enter Tryd.func19, Tryd.ntmps19
      go_wp2_with (first | ((fail_if_success (have hzz := hS1)); go_at_call 18; refine (take_any 98 HH.out hl).mono ?_; rintro e w1 ⟨rfl, hS1⟩; rw [X98.out.1]; rw [X98.out.2] at hS1) | ((fail_if_success (have hzz := hS2)); go_at_call 18; refine (take_any 108 hS1 hl).mono ?_; rintro e w2 ⟨rfl, hS2⟩; rw [X108.out.1]; rw [X108.out.2] at hS2) | ((fail_if_success (have hzz := hS3)); go_at_call 18; refine (take_any 46 hS2 hl).mono ?_; rintro e w3 ⟨rfl, hS3⟩; rw [X46.out.1]; rw [X46.out.2] at hS3))
      go_ret
      exact ⟨by rw [HV.out.1]; rfl, by rw [HV.out.2]; exact hS3⟩
    · have HV : Hid (soN ty R = 0 ∧ soT ty R = R.tail) := by simp [Hid, soN, soT, tkL, b98, b108, b46, h2]
      have X98 : Hid (hdB R 98 = false ∧ tkL R 98 = R) := by refine ⟨b98, ?_⟩; unfold tkL; rw [b98]; rfl
      have X108 : Hid (hdB R 108 = false ∧ tkL R 108 = R) := by refine ⟨b108, ?_⟩; unfold tkL; rw [b108]; rfl
      have X46 : Hid (hdB R 46 = true ∧ tkL R 46 = R.tail) := by refine ⟨b46, ?_⟩; unfold tkL; rw [b46]; rfl
      clear b98 b108 b46 h2
      go_enter Tryd.func19, Tryd.ntmps19
      go_wp2_with (first | ((fail_if_success (have hzz := hS1)); go_at_call 18; refine (take_any 98 HH.out hl).mono ?_; rintro e w1 ⟨rfl, hS1⟩; rw [X98.out.1]; rw [X98.out.2] at hS1) | ((fail_if_success (have hzz := hS2)); go_at_call 18; refine (take_any 108 hS1 hl).mono ?_; rintro e w2 ⟨rfl, hS2⟩; rw [X108.out.1]; rw [X108.out.2] at hS2) | ((fail_if_success (have hzz := hS3)); go_at_call 18; refine (take_any 46 hS2 hl).mono ?_; rintro e w3 ⟨rfl, hS3⟩; rw [X46.out.1]; rw [X46.out.2] at hS3))
      go_ret
      exact ⟨by rw [HV.out.1]; rfl, by rw [HV.out.2]; exact hS3⟩

end Go.Proofs.YtohoehfebphgeaaDoor

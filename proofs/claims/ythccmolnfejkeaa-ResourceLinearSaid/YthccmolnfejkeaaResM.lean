/-
  The law ResourceLinear, walked.
-/
import Derived.Test.YthccmolnfejkeaaResL
namespace Go.Proofs.Ythccmolnfejkeaa
open Go.RowKit
set_option linter.unusedSimpArgs false

theorem tab_nil (w : World) (f : Nat → Nat → Int) : TabAt w none 0 (fun _ => none) (fun _ => 0) (fun _ => 0) f 0 0 (fun _ => 0) (fun _ => 0) :=
  ⟨by omega, fun _ h => absurd h (by omega), fun h => absurd h (by omega), fun _ h => absurd h (by omega), fun _ h => absurd h (by omega), fun _ _ h => absurd h (by omega), fun _ _ h => absurd h (by omega)⟩
theorem lin_parts {o k : Int} (h : linE o k = 0) : ∃ a b p : Nat, o = (a : Int) ∧ k = (b : Int) ∧ 1 ≤ a ∧ a ≤ 90 ∧ 1 ≤ b ∧ b ≤ 10 ∧ p * (a * b) = 10000 := by
  have hr : linR o k = true := by
    cases hr : linR o k
    · rw [linE_range hr] at h; omega
    · rfl
  have hm : 10000 % (o * k) = 0 := by
    by_cases hm : 10000 % (o * k) = 0
    · exact hm
    · rw [linE_arg hr hm] at h; omega
  simp only [linR, Bool.and_eq_true] at hr
  obtain ⟨h1, h2⟩ := rng_yes hr.1
  obtain ⟨h3, h4⟩ := rng_yes hr.2
  obtain ⟨a, rfl⟩ := Int.eq_ofNat_of_zero_le (show 0 ≤ o by omega)
  obtain ⟨b, rfl⟩ := Int.eq_ofNat_of_zero_le (show 0 ≤ k by omega)
  have hq : 0 ≤ 10000 / ((a : Int) * (b : Int)) := Int.ediv_nonneg (by omega) (Int.mul_nonneg (by omega) (by omega))
  obtain ⟨p, hp⟩ := Int.eq_ofNat_of_zero_le hq
  refine ⟨a, b, p, rfl, rfl, by omega, by omega, by omega, by omega, ?_⟩
  have e := Int.mul_ediv_add_emod 10000 ((a : Int) * (b : Int))
  rw [hm, hp] at e
  have : ((p * (a * b) : Nat) : Int) = 10000 := by
    rw [Int.natCast_mul, Int.natCast_mul, Int.mul_comm]; omega
  omega

set_option maxHeartbeats 4000000 in
theorem resourceLinear_any (w : World) (o k : Int) :
    Calls Try.prog 7 #[.int .i64 o, .int .i64 k] w fun e w' => e = .returned (.bool true) ∧ Ext w w' := by
  by_cases h : linE o k = 0
  · obtain ⟨a, b, p, rfl, rfl, h1, h2, h3, h4, hp⟩ := lin_parts h
    have HC := Lib.hid (lin_check h1 h2 h3 h4 hp)
    have HO := Lib.hid (show ovV (a + 1) = (a : Int) by rw [ovV_pos (by omega)]; omega)
    have HW := Lib.hid (show wkV (a + 1) (fun _ => b) = (b : Int) from wkV_pos (by omega))
    have H1 := Lib.hid (fun W => lin_ok W a b p h1 h2 h3 h4 hp)
    have H2 := Lib.hid (fun W => rlin_ok W a b p h1 h2 h3 h4 hp)
    clear h hp
    go_enter Try.func7, Try.ntmps7
    go_wp2_with (go_at_call 8; refine (awake_any _).mono ?_; rintro e w1 ⟨rfl, hE1⟩)
    refine (H1.out _).mono ?_
    rintro e w2 ⟨g, c, A, C, G, O, rfl, hE2, hT⟩
    go_wp2_with fail
    refine (H2.out _).mono ?_
    rintro e w3 ⟨g', c', A', C', G', O', rfl, hE3, hT'⟩
    have lb := hE3.lt (n := w2.heap.size) (by simp)
    have q1 := hE3.keep (b := w2.heap.size) (o := 0) (v := .slice (some ⟨g, 0, none⟩) (a + 1) c) (by simp)
    have e3 : Ext w3 (w3.alloc (.cells #[.slice (some ⟨g', 0, none⟩) (a + 1) c'] 24)) := (Ext.refl _).alloc _
    have T1 := ((hT.ext ((Ext.refl _).alloc (.cells #[.slice (some ⟨g, 0, none⟩) (a + 1) c] 24))).ext hE3).ext e3
    have T2 := hT'.ext e3
    go_wp2_with fail
    refine (same_any _ c T1 c' T2 (fun _ _ => rfl) (fun _ _ _ _ => rfl)).mono ?_
    rintro e w4 ⟨rfl, hE4⟩
    have T3 := T1.ext hE4
    have q2 := hE4.keep (e3.keep q1)
    go_wp2_with (first
      | (go_at_call 12; refine (check_any _ c T3).mono ?_; rintro e w5 ⟨rfl, hE5⟩; rw [HC.out]; have T4 := T3.ext hE5; have q3 := hE5.keep q2)
      | (go_at_call 14; refine (overs_any _ _ (a + 1) c (by omega)).mono ?_; rintro e w6 ⟨rfl, hE6⟩; rw [HO.out]; have T5 := T4.ext hE6; have q4 := hE6.keep q3)
      | (go_at_call 16; refine (wkts_any _ c T5).mono ?_; rintro e w7 ⟨rfl, hE7⟩; rw [HW.out]))
    go_ret
    exact ⟨rfl, ((((((hE1.trans hE2).alloc _).trans hE3).alloc _).trans hE4).trans hE5).trans (hE6.trans hE7)⟩
  · have H1 := Lib.hid (fun W => lin_no W o k h)
    have H2 := Lib.hid (fun W => rlin_no W o k h)
    have hb : (linE o k != 0) = true := by simpa using h
    have hb2 : (linE o k == 0) = false := by simpa using h
    clear h
    go_enter Try.func7, Try.ntmps7
    go_wp2_with (go_at_call 8; refine (awake_any _).mono ?_; rintro e w1 ⟨rfl, hE1⟩)
    refine (H1.out _).mono ?_
    rintro e w2 ⟨rfl, hE2⟩
    go_wp2_with fail
    refine (H2.out _).mono ?_
    rintro e w3 ⟨rfl, hE3⟩
    have lb := hE3.lt (n := w2.heap.size) (by simp)
    have q1 := hE3.keep (b := w2.heap.size) (o := 0) (v := .slice none 0 0) (by simp)
    go_wp2_with fail
    refine (same_any _ 0 (tab_nil _ (fun _ _ => 0)) 0 (tab_nil _ (fun _ _ => 0)) (fun _ _ => rfl) (fun _ _ _ _ => rfl)).mono ?_
    rintro e w4 ⟨rfl, hE4⟩
    go_wp2
    go_ret
    exact ⟨rfl, ((((hE1.trans hE2).alloc _).trans hE3).alloc _).trans hE4⟩

end Go.Proofs.Ythccmolnfejkeaa

/-
  The laws ResourceTexts and ResourceParses, walked.
-/
import Derived.Test.YthccmolnfejkeaaDoorResW
import Derived.Test.YthccmolnfejkeaaDoorResX
import Derived.Test.YthccmolnfejkeaaDoorResG
import Derived.Test.YthccmolnfejkeaaDoorResL
namespace Go.Proofs.YthccmolnfejkeaaDoor
open Go.RowKit
set_option linter.unusedSimpArgs false

set_option maxHeartbeats 16000000 in
theorem resourceTexts_any (w : World) {A0 : Option Addr} {n : Nat} {A : Nat → Option Addr} {L C : Nat → Nat} {Z : Nat → Nat → Int} {b off : Nat} {G O : Nat → Nat} (c0 : Nat) (T : TabAt w A0 n A L C Z b off G O) (hX : DX w) :
    Calls Tryd.prog 3 #[.agg #[.slice A0 n c0]] w fun e w' => e = .returned (.bool true) ∧ Ext w w' := by
  have hn := T.nle
  have HX := Lib.hid hX
  clear hX
  by_cases he : shapeV n L Z = 0
  rotate_left
  · have HT := Lib.hid (txR_no he)
    obtain ⟨E, hEq⟩ : ∃ E : Int, shapeV n L Z = E := ⟨_, rfl⟩
    rw [hEq] at he
    have HE := Lib.hid hEq
    have hE1 : (E != 0) = true := by simpa using he
    clear hEq
    go_enter Tryd.func3, Tryd.ntmps3
    go_wp2_with (first | ((fail_if_success (have hzz := hb1)); go_at_call 5; refine (awake_any _).mono ?_; rintro e w1 ⟨rfl, hb1⟩; have q1 : w1.cell? ⟨w.heap.size, 0, none⟩ = some (.slice A0 n c0) := hb1.keep (by first | assumption | (simp [go_sem, *]; done)); have l1 : w.heap.size < w1.heap.size := hb1.lt (by first | assumption | (simp; done) | (simp; omega))))
    refine (small_any _ c0 (T.ext (by repeat (first | exact Ext.refl _ | refine Ext.setCell ?_ (by first | exact Nat.le_refl _ | (simp; done) | (simp; omega)) _ | refine Ext.drew ?_ | refine Ext.drewN ?_ _ | refine Ext.alloc ?_ _ | refine Ext.trans ?_ hb1)))).mono ?_
    rintro e w2 ⟨q, rfl, hb2⟩
    have q2 : w2.cell? ⟨w.heap.size, 0, none⟩ = some (.slice A0 n c0) := hb2.keep q1
    have l2 : w.heap.size < w2.heap.size := hb2.lt l1
    cases q
    · go_wp2
      go_ret
      exact ⟨rfl, (by repeat (first | exact Ext.refl _ | refine Ext.setCell ?_ (by first | exact Nat.le_refl _ | (simp; done) | (simp; omega)) _ | refine Ext.drew ?_ | refine Ext.drewN ?_ _ | refine Ext.alloc ?_ _ | refine Ext.trans ?_ hb2 | refine Ext.trans ?_ hb1))⟩
    · go_wp2_with (first | ((fail_if_success (have hzz := hb3)); go_at_call 7; refine (text_any _ _ (T.ext (by repeat (first | exact Ext.refl _ | refine Ext.setCell ?_ (by first | exact Nat.le_refl _ | (simp; done) | (simp; omega)) _ | refine Ext.drew ?_ | refine Ext.drewN ?_ _ | refine Ext.alloc ?_ _ | refine Ext.trans ?_ hb2 | refine Ext.trans ?_ hb1))) (HX.out.tab.ext (by repeat (first | exact Ext.refl _ | refine Ext.setCell ?_ (by first | exact Nat.le_refl _ | (simp; done) | (simp; omega)) _ | refine Ext.drew ?_ | refine Ext.drewN ?_ _ | refine Ext.alloc ?_ _ | refine Ext.trans ?_ hb2 | refine Ext.trans ?_ hb1)))).mono ?_; rintro e w3 ⟨rfl, hb3⟩; rw [HT.out, HE.out]; have q3 : w3.cell? ⟨w.heap.size, 0, none⟩ = some (.slice A0 n c0) := hb3.keep (by first | assumption | (simp [go_sem, *]; done)); have l3 : w.heap.size < w3.heap.size := hb3.lt (by first | assumption | (simp; done) | (simp; omega))) | ((fail_if_success (have hzz := hb4)); go_at_call 8; refine (rtext_any _ _ (T.ext (by repeat (first | exact Ext.refl _ | refine Ext.setCell ?_ (by first | exact Nat.le_refl _ | (simp; done) | (simp; omega)) _ | refine Ext.drew ?_ | refine Ext.drewN ?_ _ | refine Ext.alloc ?_ _ | refine Ext.trans ?_ hb3 | refine Ext.trans ?_ hb2 | refine Ext.trans ?_ hb1)))).mono ?_; rintro e w4 ⟨rfl, hb4⟩; rw [HT.out, HE.out]; have q4 : w4.cell? ⟨w.heap.size, 0, none⟩ = some (.slice A0 n c0) := hb4.keep (by first | assumption | (simp [go_sem, *]; done)); have l4 : w.heap.size < w4.heap.size := hb4.lt (by first | assumption | (simp; done) | (simp; omega))) | ((fail_if_success (have hzz := hb5)); go_at_call 9; refine (parse_any [] (by simp) _ (HX.out.ext (by repeat (first | exact Ext.refl _ | refine Ext.setCell ?_ (by first | exact Nat.le_refl _ | (simp; done) | (simp; omega)) _ | refine Ext.drew ?_ | refine Ext.drewN ?_ _ | refine Ext.alloc ?_ _ | refine Ext.trans ?_ hb4 | refine Ext.trans ?_ hb3 | refine Ext.trans ?_ hb2 | refine Ext.trans ?_ hb1)))).mono ?_; rintro e w5 ⟨hb5, hr5⟩; rcases hr5 with ⟨rfl, _⟩ | ⟨A5, u5, c5, B5, L5, C5, Z5, b5, o5, G5, O5, rfl, T5, _⟩))
      all_goals
        go_ret
        exact ⟨retb (by first | rfl | simp), (by repeat (first | exact Ext.refl _ | refine Ext.setCell ?_ (by first | exact Nat.le_refl _ | (simp; done) | (simp; omega)) _ | refine Ext.drew ?_ | refine Ext.drewN ?_ _ | refine Ext.alloc ?_ _ | refine Ext.trans ?_ hb5 | refine Ext.trans ?_ hb4 | refine Ext.trans ?_ hb3 | refine Ext.trans ?_ hb2 | refine Ext.trans ?_ hb1))⟩
  · have HE := Lib.hid he
    have HT0 := txR_yes he
    obtain ⟨S, hS⟩ : ∃ S : List UInt8, hdrT (ovV n) (wkV n L) ++ tabTo L Z n = S := ⟨_, rfl⟩
    have HIS : Hid (IsR S n L Z) := ⟨he, hS⟩
    have hSl : S.length ≤ 100000 := by
      obtain ⟨h1, h2, h3, h4, h5, h6⟩ := shape_zero he
      have g1 := tabTo_len L Z (n := n) (fun i hi => by have := h5 i hi; omega) (fun i j hi hj => T.wf i j hi hj) n (Nat.le_refl _)
      have g2 := hdr_len (o := ovV n) (k := wkV n L) (by rw [ovV_pos (by omega)]; omega) (by rw [wkV_pos (by omega)]; omega)
      rw [← hS, List.length_append]; omega
    rw [hS] at HT0
    have HT := Lib.hid HT0
    clear HT0 hS he
    go_enter Tryd.func3, Tryd.ntmps3
    go_wp2_with (first | ((fail_if_success (have hzz := hb1)); go_at_call 5; refine (awake_any _).mono ?_; rintro e w1 ⟨rfl, hb1⟩; have q1 : w1.cell? ⟨w.heap.size, 0, none⟩ = some (.slice A0 n c0) := hb1.keep (by first | assumption | (simp [go_sem, *]; done)); have l1 : w.heap.size < w1.heap.size := hb1.lt (by first | assumption | (simp; done) | (simp; omega))))
    refine (small_any _ c0 (T.ext (by repeat (first | exact Ext.refl _ | refine Ext.setCell ?_ (by first | exact Nat.le_refl _ | (simp; done) | (simp; omega)) _ | refine Ext.drew ?_ | refine Ext.drewN ?_ _ | refine Ext.alloc ?_ _ | refine Ext.trans ?_ hb1)))).mono ?_
    rintro e w2 ⟨q, rfl, hb2⟩
    have q2 : w2.cell? ⟨w.heap.size, 0, none⟩ = some (.slice A0 n c0) := hb2.keep q1
    have l2 : w.heap.size < w2.heap.size := hb2.lt l1
    cases q
    · go_wp2
      go_ret
      exact ⟨rfl, (by repeat (first | exact Ext.refl _ | refine Ext.setCell ?_ (by first | exact Nat.le_refl _ | (simp; done) | (simp; omega)) _ | refine Ext.drew ?_ | refine Ext.drewN ?_ _ | refine Ext.alloc ?_ _ | refine Ext.trans ?_ hb2 | refine Ext.trans ?_ hb1))⟩
    · go_wp2_with (first | ((fail_if_success (have hzz := hb3)); go_at_call 7; refine (text_any _ _ (T.ext (by repeat (first | exact Ext.refl _ | refine Ext.setCell ?_ (by first | exact Nat.le_refl _ | (simp; done) | (simp; omega)) _ | refine Ext.drew ?_ | refine Ext.drewN ?_ _ | refine Ext.alloc ?_ _ | refine Ext.trans ?_ hb2 | refine Ext.trans ?_ hb1))) (HX.out.tab.ext (by repeat (first | exact Ext.refl _ | refine Ext.setCell ?_ (by first | exact Nat.le_refl _ | (simp; done) | (simp; omega)) _ | refine Ext.drew ?_ | refine Ext.drewN ?_ _ | refine Ext.alloc ?_ _ | refine Ext.trans ?_ hb2 | refine Ext.trans ?_ hb1)))).mono ?_; rintro e w3 ⟨rfl, hb3⟩; rw [HT.out, HE.out]; have q3 : w3.cell? ⟨w.heap.size, 0, none⟩ = some (.slice A0 n c0) := hb3.keep (by first | assumption | (simp [go_sem, *]; done)); have l3 : w.heap.size < w3.heap.size := hb3.lt (by first | assumption | (simp; done) | (simp; omega))) | ((fail_if_success (have hzz := hb4)); go_at_call 8; refine (rtext_any _ _ (T.ext (by repeat (first | exact Ext.refl _ | refine Ext.setCell ?_ (by first | exact Nat.le_refl _ | (simp; done) | (simp; omega)) _ | refine Ext.drew ?_ | refine Ext.drewN ?_ _ | refine Ext.alloc ?_ _ | refine Ext.trans ?_ hb3 | refine Ext.trans ?_ hb2 | refine Ext.trans ?_ hb1)))).mono ?_; rintro e w4 ⟨rfl, hb4⟩; rw [HT.out, HE.out]; have q4 : w4.cell? ⟨w.heap.size, 0, none⟩ = some (.slice A0 n c0) := hb4.keep (by first | assumption | (simp [go_sem, *]; done)); have l4 : w.heap.size < w4.heap.size := hb4.lt (by first | assumption | (simp; done) | (simp; omega))) | ((fail_if_success (have hzz := hb5)); go_at_call 9; refine (parse_any S hSl _ (HX.out.ext (by repeat (first | exact Ext.refl _ | refine Ext.setCell ?_ (by first | exact Nat.le_refl _ | (simp; done) | (simp; omega)) _ | refine Ext.drew ?_ | refine Ext.drewN ?_ _ | refine Ext.alloc ?_ _ | refine Ext.trans ?_ hb4 | refine Ext.trans ?_ hb3 | refine Ext.trans ?_ hb2 | refine Ext.trans ?_ hb1)))).mono ?_; rintro e w5 ⟨hb5, hr5⟩; rcases hr5 with ⟨rfl, hbad⟩ | ⟨A5, u5, c5, B5, L5, C5, Z5, b5, o5, G5, O5, rfl, T5, hI5, hr5⟩; (exact absurd HIS.out (hbad n L Z)); obtain ⟨rfl, hag⟩ := hr5 _ _ _ HIS.out; have q5 : w5.cell? ⟨w.heap.size, 0, none⟩ = some (.slice A0 _ c0) := hb5.keep q4; have l5 : w.heap.size < w5.heap.size := hb5.lt l4) | ((fail_if_success (have hzz := hb6)); go_at_call 10; refine (same_any _ _ (T5.ext (by repeat (first | exact Ext.refl _ | refine Ext.setCell ?_ (by first | exact Nat.le_refl _ | (simp; done) | (simp; omega)) _ | refine Ext.drew ?_ | refine Ext.drewN ?_ _ | refine Ext.alloc ?_ _))) _ (T.ext (by repeat (first | exact Ext.refl _ | refine Ext.setCell ?_ (by first | exact Nat.le_refl _ | (simp; done) | (simp; omega)) _ | refine Ext.drew ?_ | refine Ext.drewN ?_ _ | refine Ext.alloc ?_ _ | refine Ext.trans ?_ hb5 | refine Ext.trans ?_ hb4 | refine Ext.trans ?_ hb3 | refine Ext.trans ?_ hb2 | refine Ext.trans ?_ hb1))) (fun i hi => (hag i hi).1) (fun i j hi hj => (hag i hi).2 j (by rw [← (hag i hi).1]; exact hj))).mono ?_; rintro e w6 ⟨rfl, hb6⟩))
      go_ret
      exact ⟨retb (by first | rfl | simp), (by repeat (first | exact Ext.refl _ | refine Ext.setCell ?_ (by first | exact Nat.le_refl _ | (simp; done) | (simp; omega)) _ | refine Ext.drew ?_ | refine Ext.drewN ?_ _ | refine Ext.alloc ?_ _ | refine Ext.trans ?_ hb6 | refine Ext.trans ?_ hb5 | refine Ext.trans ?_ hb4 | refine Ext.trans ?_ hb3 | refine Ext.trans ?_ hb2 | refine Ext.trans ?_ hb1))⟩

theorem tab_nil (w : World) (f : Nat → Nat → Int) : TabAt w none 0 (fun _ => none) (fun _ => 0) (fun _ => 0) f 0 0 (fun _ => 0) (fun _ => 0) :=
  ⟨by omega, fun _ h => absurd h (by omega), fun h => absurd h (by omega), fun _ h => absurd h (by omega), fun _ h => absurd h (by omega), fun _ _ h => absurd h (by omega), fun _ _ h => absurd h (by omega)⟩
set_option maxHeartbeats 16000000 in
theorem resourceParses_list (s : List UInt8) (w : World) (hX : DX w) :
    Calls Tryd.prog 4 #[.string ⟨s.toArray⟩] w fun e w' => e = .returned (.bool true) ∧ Ext w w' := by
  have HX := Lib.hid hX
  clear hX
  by_cases hbig : 8000 < s.length
  · have hbig' : (8000 : Int) < (s.length : Int) := by omega
    go_enter Tryd.func4, Tryd.ntmps4
    go_wp2_with (first | ((fail_if_success (have hzz := hb1)); go_at_call 5; refine (awake_any _).mono ?_; rintro e w1 ⟨rfl, hb1⟩))
    go_ret
    exact ⟨rfl, hb1⟩
  have hbig' : ¬ ((8000 : Int) < (s.length : Int)) := by omega
  by_cases hT : ∃ n L Z, IsR s n L Z
  · obtain ⟨n, L, Z, hI⟩ := hT
    have HIS := Lib.hid hI
    clear hI
    go_enter Tryd.func4, Tryd.ntmps4
    go_wp2_with (first | ((fail_if_success (have hzz := hb1)); go_at_call 5; refine (awake_any _).mono ?_; rintro e w1 ⟨rfl, hb1⟩) | ((fail_if_success (have hzz := hb2)); go_at_call 9; refine (parse_any s (by omega) _ (HX.out.ext (by repeat (first | exact Ext.refl _ | refine Ext.setCell ?_ (by first | exact Nat.le_refl _ | (simp; done) | (simp; omega)) _ | refine Ext.drew ?_ | refine Ext.drewN ?_ _ | refine Ext.alloc ?_ _ | refine Ext.trans ?_ hb1)))).mono ?_; rintro e w2 ⟨hb2, hr2⟩; rcases hr2 with ⟨rfl, hbad⟩ | ⟨A2, u2, c2, B2, L2, C2, Z2, b2, o2, G2, O2, rfl, T2, hI2, hr2⟩; (exact absurd HIS.out (hbad n L Z)); obtain ⟨rfl, hag⟩ := hr2 _ _ _ HIS.out) | ((fail_if_success (have hzz := hb3)); go_at_call 11; refine (rparse_any s (by omega) _).mono ?_; rintro e w3 ⟨hb3, hr3⟩; rcases hr3 with ⟨rfl, hbad⟩ | ⟨A3, u3, c3, B3, L3, C3, Z3, b3, o3, G3, O3, rfl, T3, hI3, hr3⟩; (exact absurd HIS.out (hbad _ _ _)); obtain ⟨rfl, hag3⟩ := hr3 _ _ _ HIS.out; (first | have q3 : w3.cell? ⟨w2.heap.size, 0, none⟩ = some (.slice A2 u3 c2) := hb3.keep (by simp [go_sem]) | have q3 : w3.cell? ⟨w2.heap.size, 0, none⟩ = some (.slice A2 u2 c2) := hb3.keep (by simp [go_sem]) | have q3 : w3.cell? ⟨w2.heap.size, 0, none⟩ = some (.slice A2 n c2) := hb3.keep (by simp [go_sem])); have l3 : w2.heap.size < w3.heap.size := hb3.lt (by simp); have m3 : w2.heap.size ≠ w3.heap.size := Nat.ne_of_lt l3) | ((fail_if_success (have hzz := hb4)); go_at_call 10; refine (same_any _ _ (T2.ext (by repeat (first | exact Ext.refl _ | refine Ext.setCell ?_ (by first | exact Nat.le_refl _ | (simp; done) | (simp; omega)) _ | refine Ext.drew ?_ | refine Ext.drewN ?_ _ | refine Ext.alloc ?_ _ | refine Ext.trans ?_ hb3))) _ (T3.ext (by repeat (first | exact Ext.refl _ | refine Ext.setCell ?_ (by first | exact Nat.le_refl _ | (simp; done) | (simp; omega)) _ | refine Ext.drew ?_ | refine Ext.drewN ?_ _ | refine Ext.alloc ?_ _))) (fun i hi => (hag i hi).1.trans (hag3 i hi).1.symm) (fun i j hi hj => ((hag i hi).2 j (by rw [← (hag i hi).1]; exact hj)).trans ((hag3 i hi).2 j (by rw [← (hag i hi).1]; exact hj)).symm)).mono ?_; rintro e w4 ⟨rfl, hb4⟩))
    go_ret
    exact ⟨retb (by first | rfl | simp), (by repeat (first | exact Ext.refl _ | refine Ext.setCell ?_ (by first | exact Nat.le_refl _ | (simp; done) | (simp; omega)) _ | refine Ext.drew ?_ | refine Ext.drewN ?_ _ | refine Ext.alloc ?_ _ | refine Ext.trans ?_ hb4 | refine Ext.trans ?_ hb3 | refine Ext.trans ?_ hb2 | refine Ext.trans ?_ hb1))⟩
  · have HNO := Lib.hid hT
    clear hT
    go_enter Tryd.func4, Tryd.ntmps4
    go_wp2_with (first | ((fail_if_success (have hzz := hb1)); go_at_call 5; refine (awake_any _).mono ?_; rintro e w1 ⟨rfl, hb1⟩) | ((fail_if_success (have hzz := hb2)); go_at_call 9; refine (parse_any s (by omega) _ (HX.out.ext (by repeat (first | exact Ext.refl _ | refine Ext.setCell ?_ (by first | exact Nat.le_refl _ | (simp; done) | (simp; omega)) _ | refine Ext.drew ?_ | refine Ext.drewN ?_ _ | refine Ext.alloc ?_ _ | refine Ext.trans ?_ hb1)))).mono ?_; rintro e w2 ⟨hb2, hr2⟩; rcases hr2 with ⟨rfl, _⟩ | ⟨A2, u2, c2, B2, L2, C2, Z2, b2, o2, G2, O2, rfl, T2, hI2, hr2⟩; rotate_left; (exact absurd ⟨_, _, _, hI2⟩ HNO.out)) | ((fail_if_success (have hzz := hb3)); go_at_call 11; refine (rparse_any s (by omega) _).mono ?_; rintro e w3 ⟨hb3, hr3⟩; rcases hr3 with ⟨rfl, _⟩ | ⟨A3, u3, c3, B3, L3, C3, Z3, b3, o3, G3, O3, rfl, T3, hI3, hr3⟩; rotate_left; (exact absurd ⟨_, _, _, hI3⟩ HNO.out); have q3 : w3.cell? ⟨w2.heap.size, 0, none⟩ = some (.slice none 0 0) := hb3.keep (by simp [go_sem]); have l3 : w2.heap.size < w3.heap.size := hb3.lt (by simp); have m3 : w2.heap.size ≠ w3.heap.size := Nat.ne_of_lt l3) | ((fail_if_success (have hzz := hb4)); go_at_call 10; refine (same_any _ _ (tab_nil _ (fun _ _ => 0)) _ (tab_nil _ (fun _ _ => 0)) (fun _ _ => rfl) (fun _ _ _ _ => rfl)).mono ?_; rintro e w4 ⟨rfl, hb4⟩))
    go_ret
    exact ⟨retb (by first | rfl | simp), (by repeat (first | exact Ext.refl _ | refine Ext.setCell ?_ (by first | exact Nat.le_refl _ | (simp; done) | (simp; omega)) _ | refine Ext.drew ?_ | refine Ext.drewN ?_ _ | refine Ext.alloc ?_ _ | refine Ext.trans ?_ hb4 | refine Ext.trans ?_ hb3 | refine Ext.trans ?_ hb2 | refine Ext.trans ?_ hb1))⟩
theorem resourceParses_any (s : ByteArray) (w : World) (hX : DX w) : Calls Tryd.prog 4 #[.string s] w fun e w' => e = .returned (.bool true) ∧ Ext w w' := by
  obtain ⟨⟨L⟩⟩ := s
  exact resourceParses_list L w hX

end Go.Proofs.YthccmolnfejkeaaDoor

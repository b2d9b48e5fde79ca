/-
  Text of layer 37 (program): a strings.Builder, row by row.
-/
import Derived.Test.YthccmolnfejkeaaDoorResS
import Derived.Test.YthccmolnfejkeaaDoorResA
namespace Go.Proofs.YthccmolnfejkeaaDoor
open Go.RowKit
set_option linter.unusedSimpArgs false

set_option maxHeartbeats 16000000 in
theorem text_any (w : World) {A0 : Option Addr} {n : Nat} {A : Nat → Option Addr} {L C : Nat → Nat} {Z : Nat → Nat → Int} {b off : Nat} {G O : Nat → Nat} (c0 : Nat) (T : TabAt w A0 n A L C Z b off G O) (hX : TX w) :
    Calls Tryd.prog 7 #[.agg #[.slice A0 n c0]] w fun e w' => e = .returned (.tuple #[.string ⟨(txR n L Z).toArray⟩, .int .i64 (shapeV n L Z)]) ∧ Ext w w' := by
  have hn := T.nle
  by_cases he : shapeV n L Z = 0
  rotate_left
  · have HB := Lib.hid (txR_no he)
    obtain ⟨E, hEq⟩ : ∃ E : Int, shapeV n L Z = E := ⟨_, rfl⟩
    rw [hEq] at he
    have HE := Lib.hid hEq
    clear hEq
    go_enter Tryd.func7, Tryd.ntmps7
    go_wp2_with (first | (go_at_call 15; refine (shape_any _ _ (T.ext (by repeat (first | exact Ext.refl _ | refine Ext.setCell ?_ (by first | exact Nat.le_refl _ | (simp; done) | (simp; omega)) _ | refine Ext.drew ?_ | refine Ext.drewN ?_ _ | refine Ext.alloc ?_ _)))).mono ?_; rintro e w1 ⟨rfl, hb1⟩; rw [HE.out]))
    go_ret2
    exact ⟨by rw [HB.out, HE.out]; rfl, (by repeat (first | exact Ext.refl _ | refine Ext.setCell ?_ (by first | exact Nat.le_refl _ | (simp; done) | (simp; omega)) _ | refine Ext.drew ?_ | refine Ext.drewN ?_ _ | refine Ext.alloc ?_ _ | refine Ext.trans ?_ hb1))⟩
  · obtain ⟨hn2, hn91, hl1, hl10, hLs, hVs⟩ := shape_zero he
    have HLs := Lib.hid hLs
    have HVs := Lib.hid hVs
    have HE := Lib.hid he
    have HB := Lib.hid (txR_yes he)
    have HX := Lib.hid hX
    have ho := ovV_pos (n := n) (by omega)
    have hk := wkV_pos (n := n) (L := L) (by omega)
    obtain ⟨OV, hO⟩ : ∃ o : Int, ovV n = o := ⟨_, rfl⟩
    obtain ⟨KV, hK⟩ : ∃ o : Int, wkV n L = o := ⟨_, rfl⟩
    rw [hO] at ho HB
    rw [hK] at hk HB
    have HO := Lib.hid hO
    have HK := Lib.hid hK
    have ho1 : 0 ≤ OV ∧ OV ≤ 100 := by omega
    have hk1 : 0 ≤ KV ∧ KV ≤ 100 := by omega
    have lS1 := Lib.itoa_length_le OV (by omega) (by omega)
    have lS2 := Lib.itoa_length_le KV (by omega) (by omega)
    obtain ⟨S1, hS1⟩ : ∃ l : List UInt8, Lib.itoa OV = l := ⟨_, rfl⟩
    obtain ⟨S2, hS2⟩ : ∃ l : List UInt8, Lib.itoa KV = l := ⟨_, rfl⟩
    rw [hS1] at lS1
    rw [hS2] at lS2
    have HS1 := Lib.hid hS1
    have HS2 := Lib.hid hS2
    have HH : Hid ([82, 69, 83, 79, 85, 82, 67, 69, 32] ++ (S1 ++ (32 :: (S2 ++ [10]))) = hdrT OV KV) := by rw [Hid, hdrT, hS1, hS2]
    have HHL := Lib.hid (hdr_len ho1 hk1)
    have hcat : ∀ a b : List UInt8, (⟨a.toArray⟩ : ByteArray) ++ ⟨b.toArray⟩ = ⟨(a ++ b).toArray⟩ := rn_cat
    obtain ⟨rfl, hbl⟩ := T.top (by omega)
    have s1 : ¬ 9223372036854775807 < 9 + S1.length := by omega
    have s2 : ¬ 9223372036854775807 < S1.length + 1 + 1 + 1 + 1 + 1 + 1 + 1 + 1 + 1 + 1 := by omega
    have s3 : ¬ 9223372036854775807 < S1.length + 1 + 1 + 1 + 1 + 1 + 1 + 1 + 1 + 1 + 1 + S2.length := by omega
    have s4 : ¬ 9223372036854775807 < S1.length + (S2.length + 1) + 1 + 1 + 1 + 1 + 1 + 1 + 1 + 1 + 1 + 1 := by omega
    clear he hX hO hK hS1 hS2 hLs hVs ho hk
    go_enter Tryd.func7, Tryd.ntmps7
    go_wp2_with (first | (go_at_call 15; refine (shape_any _ _ (T.ext (by repeat (first | exact Ext.refl _ | refine Ext.setCell ?_ (by first | exact Nat.le_refl _ | (simp; done) | (simp; omega)) _ | refine Ext.drew ?_ | refine Ext.drewN ?_ _ | refine Ext.alloc ?_ _)))).mono ?_; rintro e w1 ⟨rfl, hb1⟩; rw [HE.out]; have q1 : w1.cell? ⟨w.heap.size, 0, none⟩ = some (.slice (some ⟨b, off, none⟩) n c0) := hb1.keep (by simp [go_sem]); have l1 : w.heap.size < w1.heap.size := hb1.lt (by simp); have m1 : w.heap.size ≤ w1.heap.size := Nat.le_of_lt l1))
    go_region_held3 (fun w' => w'.cell? ⟨w.heap.size, 0, none⟩ = some (.slice (some ⟨b, off, none⟩) n c0)) (simp [go_sem, *]) ((first | ((fail_if_success (have hzz := hb2)); go_at_call 18; refine (overs_any _ _ _ _ hn).mono ?_; rintro e w2 ⟨rfl, hb2⟩; rw [HO.out]; have q2 : w2.cell? ⟨w.heap.size, 0, none⟩ = some (.slice (some ⟨b, off, none⟩) n c0) := hb2.keep (by first | assumption | (simp [go_sem, *]; done))) | ((fail_if_success (have hzz := hb3)); go_at_call 17; refine (itoa_any _ (by omega) (by omega) _ (HX.out.ext (by repeat (first | exact Ext.refl _ | refine Ext.setCell ?_ (by first | exact Nat.le_refl _ | (simp; done) | (simp; omega)) _ | refine Ext.drew ?_ | refine Ext.drewN ?_ _ | refine Ext.alloc ?_ _ | refine Ext.trans ?_ hb2 | refine Ext.trans ?_ hb1)))).mono ?_; rintro e w3 ⟨rfl, hb3⟩; rw [HS1.out]; have q3 : w3.cell? ⟨w.heap.size, 0, none⟩ = some (.slice (some ⟨b, off, none⟩) n c0) := hb3.keep (by first | assumption | (simp [go_sem, *]; done))) | ((fail_if_success (have hzz := hb4)); go_at_call 19; refine (wkts_any _ _ (T.ext (by repeat (first | exact Ext.refl _ | refine Ext.setCell ?_ (by first | exact Nat.le_refl _ | (simp; done) | (simp; omega)) _ | refine Ext.drew ?_ | refine Ext.drewN ?_ _ | refine Ext.alloc ?_ _ | refine Ext.trans ?_ hb3 | refine Ext.trans ?_ hb2 | refine Ext.trans ?_ hb1)))).mono ?_; rintro e w4 ⟨rfl, hb4⟩; rw [HK.out]; have q4 : w4.cell? ⟨w.heap.size, 0, none⟩ = some (.slice (some ⟨b, off, none⟩) n c0) := hb4.keep (by first | assumption | (simp [go_sem, *]; done))) | ((fail_if_success (have hzz := hb5)); go_at_call 17; refine (itoa_any _ (by omega) (by omega) _ (HX.out.ext (by repeat (first | exact Ext.refl _ | refine Ext.setCell ?_ (by first | exact Nat.le_refl _ | (simp; done) | (simp; omega)) _ | refine Ext.drew ?_ | refine Ext.drewN ?_ _ | refine Ext.alloc ?_ _ | refine Ext.trans ?_ hb4 | refine Ext.trans ?_ hb3 | refine Ext.trans ?_ hb2 | refine Ext.trans ?_ hb1)))).mono ?_; rintro e w5 ⟨rfl, hb5⟩; rw [HS2.out]; have q5 : w5.cell? ⟨w.heap.size, 0, none⟩ = some (.slice (some ⟨b, off, none⟩) n c0) := hb5.keep (by first | assumption | (simp [go_sem, *]; done))) | ((fail_if_success (have hzz := hI6)); go_at_call 16; refine (wstr_tb _ (TxB.grow (w := w1) (l := []) ⟨(Ext.refl w1).alloc _, BldAt.new w1, Nat.le_refl _, by simp⟩ (by repeat (first | exact Ext.refl _ | refine Ext.setCell ?_ (by first | exact Nat.le_refl _ | (simp; done) | (simp; omega)) _ | refine Ext.drew ?_ | refine Ext.drewN ?_ _ | refine Ext.alloc ?_ _ | refine Ext.trans ?_ hb5 | refine Ext.trans ?_ hb4 | refine Ext.trans ?_ hb3 | refine Ext.trans ?_ hb2))) (by simp; omega)).mono ?_; rintro e w6 ⟨rfl, hI6⟩; have q6 : w6.cell? ⟨w.heap.size, 0, none⟩ = some (.slice (some ⟨b, off, none⟩) n c0) := hI6.ext.keep (hb1.keep (by simp [go_sem])))))
    go_wp2
    go_loopw [29] (fun i wr => ∃ k : Nat, k ≤ n ∧ i = .int .i64 k ∧ TxB w1 w1.heap.size (hdrT OV KV ++ tabTo L Z k) wr) (fun i _ => n - (intOf i).toNat)
    case atStart =>
      refine ⟨0, by omega, rfl, ?_⟩
      rw [tabTo, List.append_nil, ← HH.out]
      simpa using hI6
    case round =>
      obtain ⟨k, hk, rfl, hI⟩ := hrel
      have HI := Lib.hid hI
      have HTL : Hid ((tabTo L Z k).length ≤ 30000) := by
        have := tabTo_len L Z (n := n) (fun i hi => by have := HLs.out i hi; omega) (fun i j hi hj => T.wf i j hi hj) k hk
        rw [Hid]; omega
      by_cases hlt : k < n
      · have T2 := T.ext (w' := wr) (by repeat (first | exact Ext.refl _ | refine Ext.setCell ?_ (by first | exact Nat.le_refl _ | (simp; done) | (simp; omega)) _ | refine Ext.drew ?_ | refine Ext.drewN ?_ _ | refine Ext.alloc ?_ _ | refine Ext.trans ?_ hI.ext | refine Ext.trans ?_ hb1))
        clear hI
        have hLk := HLs.out k hlt
        obtain ⟨hAk, hGk⟩ := T2.got k hlt (by omega)
        have hr := T2.row k hlt
        rw [hAk] at hr
        have hlk := T.lle k hlt
        have HWF : Hid (∀ j, j < L k → -9223372036854775808 ≤ Z k j ∧ Z k j ≤ 9223372036854775807) := fun j hj => T.wf k j hlt hj
        clear T2 hAk
        go_wp2
        go_loopw [35] (fun i wi => ∃ j : Nat, j ≤ L k ∧ i = .int .i64 j ∧ TxB w1 w1.heap.size (hdrT OV KV ++ tabTo L Z k ++ lineTo (Z k) j) wi) (fun i _ => L k - (intOf i).toNat)
        case atStart => exact ⟨0, by omega, rfl, by rw [lineTo, List.append_nil]; exact HI.out⟩
        case round =>
          obtain ⟨j, hj, rfl, hJ⟩ := hrel
          have HJ := Lib.hid hJ
          have hl1 : Hid ((hdrT OV KV ++ tabTo L Z k ++ lineTo (Z k) j).length ≤ 100000) := by
            have h1 := HTL.out
            have h2 := lineTo_len (Z k) (k := L k) HWF.out j hj
            have h3 := HHL.out
            rw [Hid, List.length_append, List.length_append]; omega
          by_cases hjL : j < L k
          · have T3 := T.ext (w' := wr) (by repeat (first | exact Ext.refl _ | refine Ext.setCell ?_ (by first | exact Nat.le_refl _ | (simp; done) | (simp; omega)) _ | refine Ext.drew ?_ | refine Ext.drewN ?_ _ | refine Ext.alloc ?_ _ | refine Ext.trans ?_ hJ.ext | refine Ext.trans ?_ hb1))
            have cj : wr.cell? ⟨G k, O k + j, none⟩ = some (.int .i64 (Z k j)) := T3.cell k j hlt hjL
            clear T3 hJ
            have hl2 : Hid ((Lib.itoa (Z k j)).length ≤ 21) := Lib.itoa_length_le _ (HWF.out j hjL).1 (HWF.out j hjL).2
            by_cases hj0 : j = 0
            · have HS : Hid (hdrT OV KV ++ tabTo L Z k ++ lineTo (Z k) (j + 1) = (hdrT OV KV ++ tabTo L Z k ++ lineTo (Z k) j) ++ Lib.itoa (Z k j)) := by
                rw [Hid, lineTo, if_pos hj0, List.nil_append]; simp only [List.append_assoc]
              have hj1 : ¬ ((0 : Int) < (j : Int)) := by omega
              clear hj0
              go_wp2_with (first | (go_at_call 21; refine (fmt_tb _ (HWF.out j hjL) HJ.out (HX.out.ext (by repeat (first | exact Ext.refl _ | refine Ext.setCell ?_ (by first | exact Nat.le_refl _ | (simp; done) | (simp; omega)) _ | refine Ext.drew ?_ | refine Ext.drewN ?_ _ | refine Ext.alloc ?_ _ | refine Ext.trans ?_ hb1)))).mono ?_; rintro e w7 ⟨rfl, hI7⟩; have HI7 := Lib.hid hI7; clear hI7) | (go_at_call 16; refine (wstr_tb _ HI7.out (by have h1 := hl1.out; have h2 := hl2.out; omega)).mono ?_; rintro e w8 ⟨rfl, hI8⟩; have HI8 := Lib.hid hI8; clear hI8))
              go_roundw
              case rel => exact ⟨j + 1, by omega, by go_num, by rw [HS.out]; exact HI8.out⟩
              case measure => simp [intOf]; omega
            · have HS : Hid (hdrT OV KV ++ tabTo L Z k ++ lineTo (Z k) (j + 1) = ((hdrT OV KV ++ tabTo L Z k ++ lineTo (Z k) j) ++ [32]) ++ Lib.itoa (Z k j)) := by
                rw [Hid, lineTo, if_neg hj0]; simp only [List.append_assoc]
              have hj1 : (0 : Int) < (j : Int) := by omega
              clear hj0
              go_wp2_with (first | (go_at_call 20; refine (wbyte_tb 32 HJ.out (by have h1 := hl1.out; omega)).mono ?_; rintro e w6' ⟨rfl, hI6'⟩; have HI6 := Lib.hid hI6'; clear hI6') | (go_at_call 21; refine (fmt_tb _ (HWF.out j hjL) HI6.out (HX.out.ext (by repeat (first | exact Ext.refl _ | refine Ext.setCell ?_ (by first | exact Nat.le_refl _ | (simp; done) | (simp; omega)) _ | refine Ext.drew ?_ | refine Ext.drewN ?_ _ | refine Ext.alloc ?_ _ | refine Ext.trans ?_ hb1)))).mono ?_; rintro e w7 ⟨rfl, hI7⟩; have HI7 := Lib.hid hI7; clear hI7) | (go_at_call 16; refine (wstr_tb _ HI7.out (by have h1 := hl1.out; have h2 := hl2.out; simp only [List.length_append, List.length_cons, List.length_nil] at h1 ⊢; omega)).mono ?_; rintro e w8 ⟨rfl, hI8⟩; have HI8 := Lib.hid hI8; clear hI8))
              go_roundw
              case rel => exact ⟨j + 1, by omega, by go_num, by rw [HS.out]; exact HI8.out⟩
              case measure => simp [intOf]; omega
          · obtain rfl : j = L k := by omega
            go_wp2_with (first | (go_at_call 20; refine (wbyte_tb 10 HJ.out (by have h1 := hl1.out; omega)).mono ?_; rintro e w9 ⟨rfl, hI9⟩; have HI9 := Lib.hid hI9; clear hI9))
            go_roundw
            case rel => exact ⟨k + 1, by omega, by go_num, by rw [tabTo]; simpa only [List.append_assoc] using HI9.out⟩
            case measure => simp [intOf]; omega
      · obtain rfl : k = n := by omega
        go_wp2_with (first | (go_at_call 22; refine (Tryd.Builder_String_any w1.heap.size w1.heap.size _ _ HI.out.bld (Nat.le_of_lt HI.out.lt)).mono ?_; rintro e w2' ⟨rfl, hb2'⟩))
        go_ret2
        exact ⟨by rw [HB.out, HE.out]; rfl, Ext.trans (by repeat (first | exact Ext.refl _ | refine Ext.setCell ?_ (by first | exact Nat.le_refl _ | (simp; done) | (simp; omega)) _ | refine Ext.drew ?_ | refine Ext.drewN ?_ _ | refine Ext.alloc ?_ _ | refine Ext.trans ?_ hb1)) (Below.trans HI.out.ext (Below.mono hb2' (Nat.le_refl _)))⟩

end Go.Proofs.YthccmolnfejkeaaDoor

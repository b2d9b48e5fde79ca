/-
  The reader's wicket (layer 7, program).
-/
import Derived.Test.YtohoehfebphgeaaDoorNotF
import Derived.Test.YtohoehfebphgeaaDoorShelf
import Derived.Deep.DeepCutAuto
namespace Go.Proofs.YtohoehfebphgeaaDoor
open Go.RowKit
set_option linter.unusedSimpArgs false

theorem nuT_le (R : List UInt8) : (nuT R).length ≤ R.length := Nat.le_trans (dgT_le _) (dgT_le _)
theorem tail_le (R : List UInt8) : R.tail.length ≤ R.length := by simp
theorem toU8 (x : UInt8) : ((x.toNat : Int)).toNat.toUInt8 = x := by simp

set_option maxHeartbeats 16000000 in
theorem rwicket_any {w0 w : World} {p q : Nat} {R : List UInt8} {d : Dl} (h : St w0 p q R d w) (hl : R.length ≤ 9223372036854775807) : Calls Tryd.prog 21 #[.pointer (some ⟨p, 0, none⟩), .pointer (some ⟨q, 0, none⟩)] w fun e w' => e = .returned (.tuple #[]) ∧ St w0 p q (wkR R d).1 (wkR R d).2 w' := by
  have HH := Lib.hid h
  have hpq := h.ne
  have hqp : q ≠ p := fun e => hpq e.symm
  clear h
  rcases and1 (hdB R 47) with b47 | b47
  · have HV : Hid (wkR R d = (R, d)) := by simp [Hid, wkR, b47]
    have X47 : Hid (hdB R 47 = false ∧ tkL R 47 = R) := by refine ⟨b47, ?_⟩; unfold tkL; rw [b47]; rfl
    clear b47
    go_enter Tryd.func21, Tryd.ntmps21
    go_wp2_with (go_at_call 18; refine (take_any 47 HH.out hl).mono ?_; rintro e w1 ⟨rfl, hS1⟩; rw [X47.out.1]; rw [X47.out.2] at hS1)
    first | go_end0 | refine bodyPost_ret (v := .tuple #[]) (by simp [results, Tryd.results21, go_sem, *]) rfl ?_
    exact ⟨rfl, by rw [HV.out]; exact hS1⟩
  have X47 : Hid (hdB R 47 = true ∧ tkL R 47 = R.tail) := by refine ⟨b47, ?_⟩; unfold tkL; rw [b47]; rfl
  have hlt := tail_le R
  cases hT : R.tail with
  | nil =>
    have HV : Hid (wkR R d = ([], d)) := by simp [Hid, wkR, b47, hT]
    rw [hT] at X47
    clear b47 hT hlt
    go_enter Tryd.func21, Tryd.ntmps21
    go_wp2_with (go_at_call 18; refine (take_any 47 HH.out hl).mono ?_; rintro e w1 ⟨rfl, hS1⟩; rw [X47.out.1]; rw [X47.out.2] at hS1; obtain ⟨pc, pf⟩ := hS1.cell)
    first | go_end0 | refine bodyPost_ret (v := .tuple #[]) (by simp [results, Tryd.results21, go_sem, *]) rfl ?_
    exact ⟨rfl, by rw [HV.out]; exact hS1⟩
  | cons x R2 =>
    rw [hT] at X47 hlt
    have hlen : (x :: R2).length = R2.length + 1 := rfl
    have h0 : 0 < (x :: R2).length := by simp
    have hx0 : ∀ h, (⟨(x :: R2).toArray⟩ : ByteArray)[0]'h = x := fun h => rfl
    have hext : (⟨(x :: R2).toArray⟩ : ByteArray).extract 1 (R2.length + 1) = ⟨R2.toArray⟩ := by apply ByteArray.ext; simp
    have hne : (x :: R2).isEmpty = false := rfl
    have hl2 : R2.length ≤ 9223372036854775807 := by omega
    have hsz : R2.length + 1 ≤ 9223372036854775807 := by omega
    have hx256 : x.toNat < 256 := x.toNat_lt
    have hob := hoN_bd x
    obtain ⟨V, hV⟩ : ∃ V, Lib.indexByte ltL x = V := ⟨_, rfl⟩
    have hHO : hoN x = max V 0 := by unfold hoN; rw [hV]
    have HIX : Hid (∀ W, Calls Tryd.prog 29 #[.string ⟨#[78, 66, 67, 76, 83, 72, 82, 84, 79, 77, 81]⟩, .int .u8 (x.toNat : Nat)] W fun e w' => e = .returned (.int .i64 V) ∧ w' = W) := fun W => by
      have := Tryd.strings_IndexByte ⟨#[78, 66, 67, 76, 83, 72, 82, 84, 79, 77, 81]⟩ (x.toNat : Nat) W
      rw [toU8] at this
      rw [← hV]
      exact this
    obtain ⟨HO, hHO2⟩ : ∃ v, hoN x = v := ⟨_, rfl⟩
    rw [hHO2] at hob hHO
    have hmax : max V 0 = HO := hHO.symm
    have hwr : IntKind.u8.wrap HO = HO := by rw [IntKind.wrap_u8]; omega
    have HWK : Hid (wkR R d = (if hdB (dgT R2) 40 then wkF (dgT R2) { d with ho := HO, vi := dgN R2 } else (dgT R2, { d with ho := HO, vi := dgN R2 }))) := by
      simp only [Hid, wkR, b47, hT, hHO2]; rfl
    have hl3 := dgT_le R2
    clear b47 hT hV hHO hHO2 hlt
    obtain ⟨LL, hLL⟩ : ∃ L, x :: R2 = L := ⟨_, rfl⟩
    rw [hLL] at X47 hlen h0 hx0 hext hne
    clear hLL
    obtain ⟨N7, hN7⟩ : ∃ v, dgN R2 = v := ⟨_, rfl⟩
    obtain ⟨R3, hR3⟩ : ∃ v, dgT R2 = v := ⟨_, rfl⟩
    rw [hN7, hR3] at HWK
    rw [hR3] at hl3
    have HDG : Hid (∀ W D, St w0 p q R2 D W → Calls Tryd.prog 20 #[.pointer (some ⟨p, 0, none⟩)] W fun e w' => e = .returned (.int .i64 N7) ∧ St w0 p q R3 D w') := fun W D h => by
      have := rdigit_any h hl2
      rwa [hN7, hR3] at this
    clear hN7 hR3
    have hl3' : R3.length ≤ 9223372036854775807 := by omega
    rcases and1 (hdB R3 40) with b40 | b40
    · have HV : Hid (wkR R d = (R3, { d with ho := HO, vi := N7 })) := by rw [Hid, HWK.out, b40]; rfl
      have X40 : Hid (hdB R3 40 = false ∧ tkL R3 40 = R3) := by refine ⟨b40, ?_⟩; unfold tkL; rw [b40]; rfl
      clear b40
      go_enter Tryd.func21, Tryd.ntmps21
      go_wp2_with (first | ((fail_if_success (have hzz := HS1)); go_at_call 18; refine (take_any 47 HH.out hl).mono ?_; rintro e w1 ⟨rfl, hS1⟩; rw [X47.out.1]; rw [X47.out.2] at hS1; obtain ⟨b0, b1, b2, b3, b4, b5, b6, b7, b8, b9, b10, b11⟩ := hS1.box; have z0 := hS1.fz 0; have z1 := hS1.fz 1; have z2 := hS1.fz 2; have z3 := hS1.fz 3; have z4 := hS1.fz 4; have z5 := hS1.fz 5; have z6 := hS1.fz 6; have z7 := hS1.fz 7; have z8 := hS1.fz 8; have z9 := hS1.fz 9; have z10 := hS1.fz 10; have z11 := hS1.fz 11; obtain ⟨pc, pf⟩ := hS1.cell; have HS1 := Lib.hid hS1; clear hS1; have k1 : (w1.setCell ⟨q, 6, none⟩ (.int .u8 HO)).cell? ⟨p, 0, none⟩ = some (.string ⟨LL.toArray⟩) := (HS1.out.setD (j := 6) (d' := {d with ho := HO}) rfl).cell.1; have k2 : (w1.setCell ⟨q, 6, none⟩ (.int .u8 HO)).frozen? ⟨p, 0, none⟩ = false := (HS1.out.setD (j := 6) (d' := {d with ho := HO}) rfl).cell.2) | (go_at_call 29; refine (HIX.out _).mono ?_; rintro e w' ⟨rfl, rfl⟩) | ((fail_if_success (have hzz := HS2)); go_at_call 20; refine (HDG.out _ _ ((HS1.out.setD (j := 6) (d' := {d with ho := HO}) rfl).setR R2)).mono ?_; rintro e w2 ⟨rfl, hS2⟩; obtain ⟨b0, b1, b2, b3, b4, b5, b6, b7, b8, b9, b10, b11⟩ := hS2.box; have z0 := hS2.fz 0; have z1 := hS2.fz 1; have z2 := hS2.fz 2; have z3 := hS2.fz 3; have z4 := hS2.fz 4; have z5 := hS2.fz 5; have z6 := hS2.fz 6; have z7 := hS2.fz 7; have z8 := hS2.fz 8; have z9 := hS2.fz 9; have z10 := hS2.fz 10; have z11 := hS2.fz 11; obtain ⟨pc, pf⟩ := hS2.cell; have HS2 := Lib.hid hS2; clear hS2) | (go_at_call 18; refine (take_any 40 (HS2.out.setD (j := 7) (d' := {d with ho := HO, vi := N7}) rfl) hl3').mono ?_; rintro e w3 ⟨rfl, hS3⟩; rw [X40.out.1]; rw [X40.out.2] at hS3))
      first | go_end0 | refine bodyPost_ret (v := .tuple #[]) (by simp [results, Tryd.results21, go_sem, *]) rfl ?_
      exact ⟨rfl, by rw [HV.out]; exact hS3⟩
    · have X40 : Hid (hdB R3 40 = true ∧ tkL R3 40 = R3.tail) := by refine ⟨b40, ?_⟩; unfold tkL; rw [b40]; rfl
      have HWK2 : Hid (wkR R d = wkF R3 {d with ho := HO, vi := N7}) := by rw [Hid, HWK.out, b40]; rfl
      have hl4 := tail_le R3
      have hl5 := nuT_le R3.tail
      obtain ⟨R4, hR4⟩ : ∃ v, R3.tail = v := ⟨_, rfl⟩
      obtain ⟨N8, hN8⟩ : ∃ v, nuN R4 = v := ⟨_, rfl⟩
      obtain ⟨R5, hR5⟩ : ∃ v, nuT R4 = v := ⟨_, rfl⟩
      simp only [wkF] at HWK2
      rw [hR4] at X40 hl4 hl5
      rw [hR5] at hl5
      rw [hR4, hN8, hR5] at HWK2
      have hl4' : R4.length ≤ 9223372036854775807 := by omega
      have HNU : Hid (∀ W D, St w0 p q R4 D W → Calls Tryd.prog 30 #[.pointer (some ⟨p, 0, none⟩)] W fun e w' => e = .returned (.int .i64 N8) ∧ St w0 p q R5 D w') := fun W D h => by
        have := nnumber_any h hl4'
        rwa [hN8, hR5] at this
      clear hR4 hN8 hR5 b40
      have hl5' : R5.length ≤ 9223372036854775807 := by omega
      have HD3 : Hid (∀ W, St w0 p q R5 {d with ho := HO, vi := N7} W → St w0 p q R5 { d with ho := HO, vi := N7, fi := N8 } (W.setCell ⟨q, 8, none⟩ (.int .i64 N8))) := fun W h => h.setD (j := 8) rfl
      rcases and1 (hdB R5 44) with b44 | b44
      · have X44 : Hid (hdB R5 44 = false ∧ tkL R5 44 = R5) := by refine ⟨b44, ?_⟩; unfold tkL; rw [b44]; rfl
        rw [b44] at HWK2
        have hl7 := tkL_le R5 115
        obtain ⟨B, hB⟩ : ∃ b, hdB R5 115 = b := ⟨_, rfl⟩
        obtain ⟨R7, hR7⟩ : ∃ b, tkL R5 115 = b := ⟨_, rfl⟩
        have HV : Hid (wkR R d = (tkL R7 41, { d with ho := HO, vi := N7, fi := N8, su := B })) := by rw [Hid, HWK2.out, ← hB, ← hR7]; rfl
        have X115 : Hid (hdB R5 115 = B ∧ tkL R5 115 = R7) := ⟨hB, hR7⟩
        rw [hR7] at hl7
        have hl7' : R7.length ≤ 9223372036854775807 := by omega
        clear b44 HWK HWK2 hB hR7
        go_enter Tryd.func21, Tryd.ntmps21
        go_wp2_with (first | ((fail_if_success (have hzz := HS1)); go_at_call 18; refine (take_any 47 HH.out hl).mono ?_; rintro e w1 ⟨rfl, hS1⟩; rw [X47.out.1]; rw [X47.out.2] at hS1; obtain ⟨b0, b1, b2, b3, b4, b5, b6, b7, b8, b9, b10, b11⟩ := hS1.box; have z0 := hS1.fz 0; have z1 := hS1.fz 1; have z2 := hS1.fz 2; have z3 := hS1.fz 3; have z4 := hS1.fz 4; have z5 := hS1.fz 5; have z6 := hS1.fz 6; have z7 := hS1.fz 7; have z8 := hS1.fz 8; have z9 := hS1.fz 9; have z10 := hS1.fz 10; have z11 := hS1.fz 11; obtain ⟨pc, pf⟩ := hS1.cell; have HS1 := Lib.hid hS1; clear hS1; have k1 : (w1.setCell ⟨q, 6, none⟩ (.int .u8 HO)).cell? ⟨p, 0, none⟩ = some (.string ⟨LL.toArray⟩) := (HS1.out.setD (j := 6) (d' := {d with ho := HO}) rfl).cell.1; have k2 : (w1.setCell ⟨q, 6, none⟩ (.int .u8 HO)).frozen? ⟨p, 0, none⟩ = false := (HS1.out.setD (j := 6) (d' := {d with ho := HO}) rfl).cell.2) | (go_at_call 29; refine (HIX.out _).mono ?_; rintro e w' ⟨rfl, rfl⟩) | ((fail_if_success (have hzz := HS2)); go_at_call 20; refine (HDG.out _ _ ((HS1.out.setD (j := 6) (d' := {d with ho := HO}) rfl).setR R2)).mono ?_; rintro e w2 ⟨rfl, hS2⟩; obtain ⟨b0, b1, b2, b3, b4, b5, b6, b7, b8, b9, b10, b11⟩ := hS2.box; have z0 := hS2.fz 0; have z1 := hS2.fz 1; have z2 := hS2.fz 2; have z3 := hS2.fz 3; have z4 := hS2.fz 4; have z5 := hS2.fz 5; have z6 := hS2.fz 6; have z7 := hS2.fz 7; have z8 := hS2.fz 8; have z9 := hS2.fz 9; have z10 := hS2.fz 10; have z11 := hS2.fz 11; obtain ⟨pc, pf⟩ := hS2.cell; have HS2 := Lib.hid hS2; clear hS2) | ((fail_if_success (have hzz := HS3)); go_at_call 18; refine (take_any 40 (HS2.out.setD (j := 7) (d' := {d with ho := HO, vi := N7}) rfl) hl3').mono ?_; rintro e w3 ⟨rfl, hS3⟩; rw [X40.out.1]; rw [X40.out.2] at hS3; have HS3 := Lib.hid hS3; clear hS3) | ((fail_if_success (have hzz := HS4)); go_at_call 30; refine (HNU.out _ _ HS3.out).mono ?_; rintro e w4 ⟨rfl, hS4⟩; obtain ⟨b0, b1, b2, b3, b4, b5, b6, b7, b8, b9, b10, b11⟩ := hS4.box; have z0 := hS4.fz 0; have z1 := hS4.fz 1; have z2 := hS4.fz 2; have z3 := hS4.fz 3; have z4 := hS4.fz 4; have z5 := hS4.fz 5; have z6 := hS4.fz 6; have z7 := hS4.fz 7; have z8 := hS4.fz 8; have z9 := hS4.fz 9; have z10 := hS4.fz 10; have z11 := hS4.fz 11; obtain ⟨pc, pf⟩ := hS4.cell; have HS4 := Lib.hid hS4; clear hS4) | ((fail_if_success (have hzz := HS5)); go_at_call 18; refine (take_any 44 (HD3.out _ HS4.out) hl5').mono ?_; rintro e w5 ⟨rfl, hS5⟩; rw [X44.out.1]; rw [X44.out.2] at hS5; have HS5 := Lib.hid hS5; clear hS5) | ((fail_if_success (have hzz := HS6)); go_at_call 18; refine (take_any 115 HS5.out hl5').mono ?_; rintro e w6 ⟨rfl, hS6⟩; rw [X115.out.1]; rw [X115.out.2] at hS6; obtain ⟨b0, b1, b2, b3, b4, b5, b6, b7, b8, b9, b10, b11⟩ := hS6.box; have z0 := hS6.fz 0; have z1 := hS6.fz 1; have z2 := hS6.fz 2; have z3 := hS6.fz 3; have z4 := hS6.fz 4; have z5 := hS6.fz 5; have z6 := hS6.fz 6; have z7 := hS6.fz 7; have z8 := hS6.fz 8; have z9 := hS6.fz 9; have z10 := hS6.fz 10; have z11 := hS6.fz 11; obtain ⟨pc, pf⟩ := hS6.cell; have HS6 := Lib.hid hS6; clear hS6) | (go_at_call 18; refine (take_any 41 (HS6.out.setD (j := 10) (d' := {d with ho := HO, vi := N7, fi := N8, su := B}) rfl) hl7').mono ?_; rintro e w7 ⟨rfl, hS7⟩))
        first | go_end0 | refine bodyPost_ret (v := .tuple #[]) (by simp [results, Tryd.results21, go_sem, *]) rfl ?_
        exact ⟨rfl, by rw [HV.out]; exact hS7⟩
      · have X44 : Hid (hdB R5 44 = true ∧ tkL R5 44 = R5.tail) := by refine ⟨b44, ?_⟩; unfold tkL; rw [b44]; rfl
        rw [b44] at HWK2
        have hl6 := tail_le R5
        have hl66 := nuT_le R5.tail
        obtain ⟨R55, hR55⟩ : ∃ b, R5.tail = b := ⟨_, rfl⟩
        rw [hR55] at hl6 hl66 HWK2 X44
        obtain ⟨N9, hN9⟩ : ∃ b, nuN R55 = b := ⟨_, rfl⟩
        obtain ⟨R6, hR6⟩ : ∃ b, nuT R55 = b := ⟨_, rfl⟩
        rw [hR6] at hl66 HWK2
        rw [hN9] at HWK2
        have hl55' : R55.length ≤ 9223372036854775807 := by omega
        have hl6' : R6.length ≤ 9223372036854775807 := by omega
        have HNV : Hid (∀ W D, St w0 p q R55 D W → Calls Tryd.prog 30 #[.pointer (some ⟨p, 0, none⟩)] W fun e w' => e = .returned (.int .i64 N9) ∧ St w0 p q R6 D w') := fun W D h => by
          have := nnumber_any h hl55'
          rwa [hN9, hR6] at this
        have hl7 := tkL_le R6 115
        obtain ⟨B, hB⟩ : ∃ b, hdB R6 115 = b := ⟨_, rfl⟩
        obtain ⟨R7, hR7⟩ : ∃ b, tkL R6 115 = b := ⟨_, rfl⟩
        have HV : Hid (wkR R d = (tkL R7 41, { d with ho := HO, vi := N7, fi := N8, se := N9, su := B })) := by rw [Hid, HWK2.out, ← hB, ← hR7]; rfl
        have X115 : Hid (hdB R6 115 = B ∧ tkL R6 115 = R7) := ⟨hB, hR7⟩
        rw [hR7] at hl7
        have hl7' : R7.length ≤ 9223372036854775807 := by omega
        clear b44 HWK HWK2 hB hR7 hR55 hN9 hR6
        go_enter Tryd.func21, Tryd.ntmps21
        go_wp2_with (first | ((fail_if_success (have hzz := HS1)); go_at_call 18; refine (take_any 47 HH.out hl).mono ?_; rintro e w1 ⟨rfl, hS1⟩; rw [X47.out.1]; rw [X47.out.2] at hS1; obtain ⟨b0, b1, b2, b3, b4, b5, b6, b7, b8, b9, b10, b11⟩ := hS1.box; have z0 := hS1.fz 0; have z1 := hS1.fz 1; have z2 := hS1.fz 2; have z3 := hS1.fz 3; have z4 := hS1.fz 4; have z5 := hS1.fz 5; have z6 := hS1.fz 6; have z7 := hS1.fz 7; have z8 := hS1.fz 8; have z9 := hS1.fz 9; have z10 := hS1.fz 10; have z11 := hS1.fz 11; obtain ⟨pc, pf⟩ := hS1.cell; have HS1 := Lib.hid hS1; clear hS1; have k1 : (w1.setCell ⟨q, 6, none⟩ (.int .u8 HO)).cell? ⟨p, 0, none⟩ = some (.string ⟨LL.toArray⟩) := (HS1.out.setD (j := 6) (d' := {d with ho := HO}) rfl).cell.1; have k2 : (w1.setCell ⟨q, 6, none⟩ (.int .u8 HO)).frozen? ⟨p, 0, none⟩ = false := (HS1.out.setD (j := 6) (d' := {d with ho := HO}) rfl).cell.2) | (go_at_call 29; refine (HIX.out _).mono ?_; rintro e w' ⟨rfl, rfl⟩) | ((fail_if_success (have hzz := HS2)); go_at_call 20; refine (HDG.out _ _ ((HS1.out.setD (j := 6) (d' := {d with ho := HO}) rfl).setR R2)).mono ?_; rintro e w2 ⟨rfl, hS2⟩; obtain ⟨b0, b1, b2, b3, b4, b5, b6, b7, b8, b9, b10, b11⟩ := hS2.box; have z0 := hS2.fz 0; have z1 := hS2.fz 1; have z2 := hS2.fz 2; have z3 := hS2.fz 3; have z4 := hS2.fz 4; have z5 := hS2.fz 5; have z6 := hS2.fz 6; have z7 := hS2.fz 7; have z8 := hS2.fz 8; have z9 := hS2.fz 9; have z10 := hS2.fz 10; have z11 := hS2.fz 11; obtain ⟨pc, pf⟩ := hS2.cell; have HS2 := Lib.hid hS2; clear hS2) | ((fail_if_success (have hzz := HS3)); go_at_call 18; refine (take_any 40 (HS2.out.setD (j := 7) (d' := {d with ho := HO, vi := N7}) rfl) hl3').mono ?_; rintro e w3 ⟨rfl, hS3⟩; rw [X40.out.1]; rw [X40.out.2] at hS3; have HS3 := Lib.hid hS3; clear hS3) | ((fail_if_success (have hzz := HS4)); go_at_call 30; refine (HNU.out _ _ HS3.out).mono ?_; rintro e w4 ⟨rfl, hS4⟩; obtain ⟨b0, b1, b2, b3, b4, b5, b6, b7, b8, b9, b10, b11⟩ := hS4.box; have z0 := hS4.fz 0; have z1 := hS4.fz 1; have z2 := hS4.fz 2; have z3 := hS4.fz 3; have z4 := hS4.fz 4; have z5 := hS4.fz 5; have z6 := hS4.fz 6; have z7 := hS4.fz 7; have z8 := hS4.fz 8; have z9 := hS4.fz 9; have z10 := hS4.fz 10; have z11 := hS4.fz 11; obtain ⟨pc, pf⟩ := hS4.cell; have HS4 := Lib.hid hS4; clear hS4) | ((fail_if_success (have hzz := HS5)); go_at_call 18; refine (take_any 44 (HD3.out _ HS4.out) hl5').mono ?_; rintro e w5 ⟨rfl, hS5⟩; rw [X44.out.1]; rw [X44.out.2] at hS5; have HS5 := Lib.hid hS5; clear hS5) | ((fail_if_success (have hzz := HS6)); go_at_call 30; refine (HNV.out _ _ HS5.out).mono ?_; rintro e w6 ⟨rfl, hS6⟩; obtain ⟨b0, b1, b2, b3, b4, b5, b6, b7, b8, b9, b10, b11⟩ := hS6.box; have z0 := hS6.fz 0; have z1 := hS6.fz 1; have z2 := hS6.fz 2; have z3 := hS6.fz 3; have z4 := hS6.fz 4; have z5 := hS6.fz 5; have z6 := hS6.fz 6; have z7 := hS6.fz 7; have z8 := hS6.fz 8; have z9 := hS6.fz 9; have z10 := hS6.fz 10; have z11 := hS6.fz 11; obtain ⟨pc, pf⟩ := hS6.cell; have HS6 := Lib.hid hS6; clear hS6) | ((fail_if_success (have hzz := HS7)); go_at_call 18; refine (take_any 115 (HS6.out.setD (j := 9) (d' := {d with ho := HO, vi := N7, fi := N8, se := N9}) rfl) hl6').mono ?_; rintro e w7 ⟨rfl, hS7⟩; rw [X115.out.1]; rw [X115.out.2] at hS7; obtain ⟨b0, b1, b2, b3, b4, b5, b6, b7, b8, b9, b10, b11⟩ := hS7.box; have z0 := hS7.fz 0; have z1 := hS7.fz 1; have z2 := hS7.fz 2; have z3 := hS7.fz 3; have z4 := hS7.fz 4; have z5 := hS7.fz 5; have z6 := hS7.fz 6; have z7 := hS7.fz 7; have z8 := hS7.fz 8; have z9 := hS7.fz 9; have z10 := hS7.fz 10; have z11 := hS7.fz 11; obtain ⟨pc, pf⟩ := hS7.cell; have HS7 := Lib.hid hS7; clear hS7) | (go_at_call 18; refine (take_any 41 (HS7.out.setD (j := 10) (d' := {d with ho := HO, vi := N7, fi := N8, se := N9, su := B}) rfl) hl7').mono ?_; rintro e w8 ⟨rfl, hS8⟩))
        first | go_end0 | refine bodyPost_ret (v := .tuple #[]) (by simp [results, Tryd.results21, go_sem, *]) rfl ?_
        exact ⟨rfl, by rw [HV.out]; exact hS8⟩

end Go.Proofs.YtohoehfebphgeaaDoor

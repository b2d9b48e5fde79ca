/-
  Parse of layer 7 (program).
-/
import Derived.Test.YtohoehfebphgeaaDoorNotC
import Derived.Test.YtohoehfebphgeaaDoorNotG
import Derived.Test.YtohoehfebphgeaaDoorNotX
import Derived.Deep.DeepCutAuto
namespace Go.Proofs.YtohoehfebphgeaaDoor
open Go.RowKit
set_option linter.unusedSimpArgs false

theorem st_new (s : List UInt8) (w : World) : St (w.alloc (.cells #[.int .u8 0, .int .u8 0, .int .i64 0, .int .i64 0, .int .i64 0, .bool false, .int .u8 0, .int .i64 0, .int .i64 0, .int .i64 0, .bool false, .int .i64 0] 29)) (w.heap.size + 1) (w.heap.size + 1 + 1) s ⟨1, 0, 0, 0, 0, false, 0, 0, 0, 0, false, 0⟩ (((w.alloc (.cells #[.int .u8 0, .int .u8 0, .int .i64 0, .int .i64 0, .int .i64 0, .bool false, .int .u8 0, .int .i64 0, .int .i64 0, .int .i64 0, .bool false, .int .i64 0] 29)).alloc (.cells #[.string ⟨s.toArray⟩] 53)).alloc (.cells #[.int .u8 1, .int .u8 0, .int .i64 0, .int .i64 0, .int .i64 0, .bool false, .int .u8 0, .int .i64 0, .int .i64 0, .int .i64 0, .bool false, .int .i64 0] 29)) where
  ext := ((Ext.refl _).alloc _).alloc _
  hp := by simp
  hq := by simp
  ne := by omega
  rd := (Below.heap_alloc _ _ _ (by simp)).trans (by have := heap_alloc_new (w.alloc (.cells #[.int .u8 0, .int .u8 0, .int .i64 0, .int .i64 0, .int .i64 0, .bool false, .int .u8 0, .int .i64 0, .int .i64 0, .int .i64 0, .bool false, .int .i64 0] 29)) (.cells #[.string ⟨s.toArray⟩] 53); simpa using this)
  dl := by
    have h1 := heap_alloc_new ((w.alloc (.cells #[.int .u8 0, .int .u8 0, .int .i64 0, .int .i64 0, .int .i64 0, .bool false, .int .u8 0, .int .i64 0, .int .i64 0, .int .i64 0, .bool false, .int .i64 0] 29)).alloc (.cells #[.string ⟨s.toArray⟩] 53)) (.cells #[.int .u8 1, .int .u8 0, .int .i64 0, .int .i64 0, .int .i64 0, .bool false, .int .u8 0, .int .i64 0, .int .i64 0, .int .i64 0, .bool false, .int .i64 0] 29)
    have e : ((w.alloc (.cells #[.int .u8 0, .int .u8 0, .int .i64 0, .int .i64 0, .int .i64 0, .bool false, .int .u8 0, .int .i64 0, .int .i64 0, .int .i64 0, .bool false, .int .i64 0] 29)).alloc (.cells #[.string ⟨s.toArray⟩] 53)).heap.size = w.heap.size + 1 + 1 := by simp
    rw [e] at h1
    exact h1
theorem soT_le (ty : Int) (R : List UInt8) : (soT ty R).length ≤ R.length := by
  unfold soT
  have h1 := tail_le R
  have h2 := tkL_le R 111
  have h3 := tkL_le R 46
  repeat' split
  all_goals omega
theorem pR1_le (s : List UInt8) : (pR1 s).length ≤ s.length := by
  unfold pR1
  split
  · exact tail_le s
  · exact tkL_le s 110
theorem pR4_le (s : List UInt8) : (pR4 s).length ≤ s.length := by
  unfold pR4
  split
  · exact tail_le s
  · exact tkL_le s 83
theorem pR5_le (s : List UInt8) : (pR5 s).length ≤ s.length := by
  unfold pR5
  split
  · exact Nat.le_trans (dgT_le _) (tail_le s)
  · exact Nat.le_refl _
theorem wkF_le (R : List UInt8) (d : Dl) : (wkF R d).1.length ≤ R.length := by
  unfold wkF
  dsimp only
  refine Nat.le_trans (tkL_le _ _) (Nat.le_trans (tkL_le _ _) ?_)
  have h1 := nuT_le R.tail
  have h2 := tail_le R
  split
  · have h3 := nuT_le (nuT R.tail).tail
    have h4 := tail_le (nuT R.tail)
    omega
  · omega
theorem wkR_le (R : List UInt8) (d : Dl) : (wkR R d).1.length ≤ R.length := by
  unfold wkR
  split
  · have h1 := tail_le R
    split
    · simp
    · rename_i x R2 he
      rw [he] at h1
      have h2 := dgT_le R2
      simp only [List.length_cons] at h1
      dsimp only
      split
      · have h3 := wkF_le (dgT R2) { d with ho := hoN x, vi := dgN R2 }
        exact Nat.le_trans h3 (by omega)
      · dsimp only; omega
  · exact Nat.le_refl _
set_option maxHeartbeats 16000000 in
theorem parse_any (s : List UInt8) (hl : s.length ≤ 100000) (w : World) (hX : TX w) :
    Calls Tryd.prog 7 #[.string ⟨s.toArray⟩] w fun e w' => e = .returned (.tuple #[(paD s).v, .int .i64 (paE s)]) ∧ Ext w w' := by
  have HX := Lib.hid hX
  clear hX
  go_enter Tryd.func7, Tryd.ntmps7
  go_upto_region 3 with fail
  have hS0 := st_new s w
  have hE0 : Ext w (w.alloc (.cells #[.int .u8 0, .int .u8 0, .int .i64 0, .int .i64 0, .int .i64 0, .bool false, .int .u8 0, .int .i64 0, .int .i64 0, .int .i64 0, .bool false, .int .i64 0] 29)) := (Ext.refl w).alloc _
  have hRB : (w.alloc (.cells #[.int .u8 0, .int .u8 0, .int .i64 0, .int .i64 0, .int .i64 0, .bool false, .int .u8 0, .int .i64 0, .int .i64 0, .int .i64 0, .bool false, .int .i64 0] 29)).heap[w.heap.size]? = some (.cells zD.arr 29 (0, 0)) := heap_alloc_new w _
  have hrp : w.heap.size ≠ w.heap.size + 1 := by omega
  have hrq : w.heap.size ≠ w.heap.size + 1 + 1 := by omega
  have hrs : w.heap.size < (w.alloc (.cells #[.int .u8 0, .int .u8 0, .int .i64 0, .int .i64 0, .int .i64 0, .bool false, .int .u8 0, .int .i64 0, .int .i64 0, .int .i64 0, .bool false, .int .i64 0] 29)).heap.size := by simp
  obtain ⟨W, hW⟩ : ∃ X, (((w.alloc (.cells #[.int .u8 0, .int .u8 0, .int .i64 0, .int .i64 0, .int .i64 0, .bool false, .int .u8 0, .int .i64 0, .int .i64 0, .int .i64 0, .bool false, .int .i64 0] 29)).alloc (.cells #[.string ⟨s.toArray⟩] 53)).alloc (.cells #[.int .u8 1, .int .u8 0, .int .i64 0, .int .i64 0, .int .i64 0, .bool false, .int .u8 0, .int .i64 0, .int .i64 0, .int .i64 0, .bool false, .int .i64 0] 29)) = X := ⟨_, rfl⟩
  rw [hW] at hS0 ⊢
  clear hW
  obtain ⟨W0, hW0⟩ : ∃ X, (w.alloc (.cells #[.int .u8 0, .int .u8 0, .int .i64 0, .int .i64 0, .int .i64 0, .bool false, .int .u8 0, .int .i64 0, .int .i64 0, .int .i64 0, .bool false, .int .i64 0] 29)) = X := ⟨_, rfl⟩
  rw [hW0] at hS0 hE0 hRB hrs
  clear hW0
  obtain ⟨q, hq⟩ : ∃ q, w.heap.size + 1 + 1 = q := ⟨_, rfl⟩
  rw [hq] at hS0 hrq ⊢
  clear hq
  obtain ⟨p, hp⟩ : ∃ p, w.heap.size + 1 = p := ⟨_, rfl⟩
  rw [hp] at hS0 hrp ⊢
  clear hp
  have HRB := Lib.hid hRB
  clear hRB
  obtain ⟨b0, b1, b2, b3, b4, b5, b6, b7, b8, b9, b10, b11⟩ := hS0.box; have z0 := hS0.fz 0; have z1 := hS0.fz 1; have z2 := hS0.fz 2; have z3 := hS0.fz 3; have z4 := hS0.fz 4; have z5 := hS0.fz 5; have z6 := hS0.fz 6; have z7 := hS0.fz 7; have z8 := hS0.fz 8; have z9 := hS0.fz 9; have z10 := hS0.fz 10; have z11 := hS0.fz 11; obtain ⟨pc, pf⟩ := hS0.cell
  have HS0 := Lib.hid hS0
  clear hS0
  have hl0 : s.length ≤ 9223372036854775807 := by omega
  go_upto_if 13 with ((fail_if_success (have hzz := HS1)); go_at_call 18; refine (take_any 119 HS0.out hl0).mono ?_; rintro e w1 ⟨rfl, hS1⟩; obtain ⟨b0, b1, b2, b3, b4, b5, b6, b7, b8, b9, b10, b11⟩ := hS1.box; have z0 := hS1.fz 0; have z1 := hS1.fz 1; have z2 := hS1.fz 2; have z3 := hS1.fz 3; have z4 := hS1.fz 4; have z5 := hS1.fz 5; have z6 := hS1.fz 6; have z7 := hS1.fz 7; have z8 := hS1.fz 8; have z9 := hS1.fz 9; have z10 := hS1.fz 10; have z11 := hS1.fz 11; obtain ⟨pc, pf⟩ := hS1.cell; have HS1 := Lib.hid hS1; clear hS1)
  go_cut [] (fun wx => St W0 p q (pR1 s) ⟨pTy s, 0, 0, 0, 0, false, 0, 0, 0, 0, false, 0⟩ wx)
  case first =>
    have HB0 := HS1.out.setD (j := 0) (v := .int .u8 2) (d' := ⟨2, 0, 0, 0, 0, false, 0, 0, 0, 0, false, 0⟩) rfl
    rcases and1 (hdB s 119) with b | b
    rotate_left
    · have hV : pR1 s = tkL s 119 ∧ pTy s = 2 := by simp [pR1, pTy, tkL, b]
      have HV := Lib.hid hV
      rw [b]
      clear hV b
      go_wp2_with fail
      go_meet
      rw [HV.out.1, HV.out.2]
      exact HB0
    · have h119 : tkL s 119 = s := by simp [tkL, b]
      have hV1 : hdB s 110 = true → pR1 s = tkL s 110 ∧ pTy s = 3 := fun h => by simp [pR1, pTy, tkL, b, h]
      have hV2 : hdB s 110 = false → pR1 s = tkL s 110 ∧ pTy s = 1 := fun h => by simp [pR1, pTy, tkL, b, h]
      have HV1 := Lib.hid hV1
      have HV2 := Lib.hid hV2
      have HS1' := HS1.out
      rw [h119] at HS1'
      have HS1 := Lib.hid HS1'
      rw [b]
      clear hV1 hV2 b h119 HS1' HB0
      go_upto_if 16 with ((fail_if_success (have hzz := HS2)); go_at_call 18; refine (take_any 110 HS1.out hl0).mono ?_; rintro e w2 ⟨rfl, hS2⟩; obtain ⟨b0, b1, b2, b3, b4, b5, b6, b7, b8, b9, b10, b11⟩ := hS2.box; have z0 := hS2.fz 0; have z1 := hS2.fz 1; have z2 := hS2.fz 2; have z3 := hS2.fz 3; have z4 := hS2.fz 4; have z5 := hS2.fz 5; have z6 := hS2.fz 6; have z7 := hS2.fz 7; have z8 := hS2.fz 8; have z9 := hS2.fz 9; have z10 := hS2.fz 10; have z11 := hS2.fz 11; obtain ⟨pc, pf⟩ := hS2.cell; have HS2 := Lib.hid hS2; clear hS2)
      rcases and1 (hdB s 110) with b | b
      · obtain ⟨e1, e2⟩ := HV2.out b
        have E1 := Lib.hid e1
        have E2 := Lib.hid e2
        rw [b]
        clear e1 e2 b
        go_wp2_with fail
        go_meet
        rw [E1.out, E2.out]
        exact HS2.out
      · obtain ⟨e1, e2⟩ := HV1.out b
        have E1 := Lib.hid e1
        have E2 := Lib.hid e2
        rw [b]
        clear e1 e2 b
        go_wp2_with fail
        go_meet
        rw [E1.out, E2.out]
        exact HS2.out.setD (j := 0) (v := .int .u8 3) rfl
  case rest =>
  have hty := pTy_bd s
  have hl1 := pR1_le s
  have hl2 := soT_le (pTy s) (pR1 s)
  have hl3 := dgT_le (soT (pTy s) (pR1 s))
  have hl4 := pR4_le (dgT (soT (pTy s) (pR1 s)))
  have hl5 := pR5_le (pR4 (dgT (soT (pTy s) (pR1 s))))
  have hl6 := tkL_le (pR5 (pR4 (dgT (soT (pTy s) (pR1 s))))) 120
  have HWFG := Lib.hid (pG_wf s)
  have hpg : pG s = { (wkR (pR6 s) (pD s)).2 with sc := pSc (wkR (pR6 s) (pD s)).1 } := rfl
  unfold pR6 pD at hpg
  dsimp only at hpg
  obtain ⟨TY, hTY⟩ : ∃ X, pTy s = X := ⟨_, rfl⟩
  obtain ⟨R1, hR1⟩ : ∃ X, pR1 s = X := ⟨_, rfl⟩
  rw [hTY, hR1] at hcut hpg hl2 hl3 hl4 hl5 hl6
  rw [hTY] at hty
  rw [hR1] at hl1
  obtain ⟨SO, hSO⟩ : ∃ X, soN TY R1 = X := ⟨_, rfl⟩
  obtain ⟨R2, hR2⟩ : ∃ X, soT TY R1 = X := ⟨_, rfl⟩
  rw [hR2] at hl2 hl3 hl4 hl5 hl6
  rw [hSO, hR2] at hpg
  obtain ⟨RU, hRU⟩ : ∃ X, dgN R2 = X := ⟨_, rfl⟩
  obtain ⟨R3, hR3⟩ : ∃ X, dgT R2 = X := ⟨_, rfl⟩
  rw [hR3] at hl3 hl4 hl5 hl6
  rw [hRU, hR3] at hpg
  obtain ⟨BO, hBO⟩ : ∃ X, pBo R3 = X := ⟨_, rfl⟩
  obtain ⟨R4, hR4⟩ : ∃ X, pR4 R3 = X := ⟨_, rfl⟩
  rw [hR4] at hl4 hl5 hl6
  rw [hBO, hR4] at hpg
  obtain ⟨SH, hSH⟩ : ∃ X, pSh R4 = X := ⟨_, rfl⟩
  obtain ⟨R5, hR5⟩ : ∃ X, pR5 R4 = X := ⟨_, rfl⟩
  rw [hR5] at hl5 hl6
  rw [hSH, hR5] at hpg
  obtain ⟨CR, hCR⟩ : ∃ X, hdB R5 120 = X := ⟨_, rfl⟩
  obtain ⟨R6, hR6⟩ : ∃ X, tkL R5 120 = X := ⟨_, rfl⟩
  rw [hR6] at hl6
  rw [hCR, hR6] at hpg
  have hl7 := wkR_le R6 ⟨TY, SO, RU, SH, BO, CR, 0, 0, 0, 0, false, 0⟩
  obtain ⟨R7, hR7⟩ : ∃ X, (wkR R6 ⟨TY, SO, RU, SH, BO, CR, 0, 0, 0, 0, false, 0⟩).1 = X := ⟨_, rfl⟩
  obtain ⟨D7, hD7⟩ : ∃ X, (wkR R6 ⟨TY, SO, RU, SH, BO, CR, 0, 0, 0, 0, false, 0⟩).2 = X := ⟨_, rfl⟩
  rw [hR7] at hl7
  rw [hR7, hD7] at hpg
  have HPG := Lib.hid hpg
  have g1 : R1.length ≤ 9223372036854775807 := by omega
  have g2 : R2.length ≤ 9223372036854775807 := by omega
  have g3 : R3.length ≤ 9223372036854775807 := by omega
  have g4 : R4.length ≤ 9223372036854775807 := by omega
  have g4' : R4.tail.length ≤ 9223372036854775807 := Nat.le_trans (tail_le R4) g4
  have g5 : R5.length ≤ 9223372036854775807 := by omega
  have g6 : R6.length ≤ 9223372036854775807 := by omega
  have g7 : R7.length ≤ 9223372036854775807 := by omega
  have g7' : R7.tail.length ≤ 9223372036854775807 := Nat.le_trans (tail_le R7) g7
  have HBO : Hid (pBo R3 = BO ∧ pR4 R3 = R4) := ⟨hBO, hR4⟩
  have HSH : Hid (pSh R4 = SH ∧ pR5 R4 = R5) := ⟨hSH, hR5⟩
  have HSO : Hid (soN TY R1 = SO ∧ soT TY R1 = R2) := ⟨hSO, hR2⟩
  have HRU : Hid (dgN R2 = RU ∧ dgT R2 = R3) := ⟨hRU, hR3⟩
  have HCR : Hid (hdB R5 120 = CR ∧ tkL R5 120 = R6) := ⟨hCR, hR6⟩
  have HWK : Hid ((wkR R6 ⟨TY, SO, RU, SH, BO, CR, 0, 0, 0, 0, false, 0⟩).1 = R7 ∧ (wkR R6 ⟨TY, SO, RU, SH, BO, CR, 0, 0, 0, 0, false, 0⟩).2 = D7) := ⟨hR7, hD7⟩
  clear hTY hR1 hSO hR2 hRU hR3 hBO hR4 hSH hR5 hCR hR6 hR7 hD7 hpg hl1 hl2 hl3 hl4 hl5 hl6 hl7 HS0 HS1 hl0
  have HC1 := Lib.hid hcut
  obtain ⟨b0, b1, b2, b3, b4, b5, b6, b7, b8, b9, b10, b11⟩ := hcut.box; have z0 := hcut.fz 0; have z1 := hcut.fz 1; have z2 := hcut.fz 2; have z3 := hcut.fz 3; have z4 := hcut.fz 4; have z5 := hcut.fz 5; have z6 := hcut.fz 6; have z7 := hcut.fz 7; have z8 := hcut.fz 8; have z9 := hcut.fz 9; have z10 := hcut.fz 10; have z11 := hcut.fz 11; obtain ⟨pc, pf⟩ := hcut.cell
  clear hcut
  go_upto_if 27 with (first | ((fail_if_success (have hzz := HS3)); go_at_call 19; refine (rsource_any TY hty HC1.out g1).mono ?_; rintro e w3 ⟨rfl, hS3⟩; rw [HSO.out.1]; rw [HSO.out.2] at hS3; obtain ⟨b0, b1, b2, b3, b4, b5, b6, b7, b8, b9, b10, b11⟩ := hS3.box; have z0 := hS3.fz 0; have z1 := hS3.fz 1; have z2 := hS3.fz 2; have z3 := hS3.fz 3; have z4 := hS3.fz 4; have z5 := hS3.fz 5; have z6 := hS3.fz 6; have z7 := hS3.fz 7; have z8 := hS3.fz 8; have z9 := hS3.fz 9; have z10 := hS3.fz 10; have z11 := hS3.fz 11; obtain ⟨pc, pf⟩ := hS3.cell; have HS3 := Lib.hid hS3; clear hS3) | ((fail_if_success (have hzz := HS4)); go_at_call 20; refine (rdigit_any (HS3.out.setD (j := 1) (d' := ⟨TY, SO, 0, 0, 0, false, 0, 0, 0, 0, false, 0⟩) rfl) g2).mono ?_; rintro e w4 ⟨rfl, hS4⟩; rw [HRU.out.1]; rw [HRU.out.2] at hS4; obtain ⟨b0, b1, b2, b3, b4, b5, b6, b7, b8, b9, b10, b11⟩ := hS4.box; have z0 := hS4.fz 0; have z1 := hS4.fz 1; have z2 := hS4.fz 2; have z3 := hS4.fz 3; have z4 := hS4.fz 4; have z5 := hS4.fz 5; have z6 := hS4.fz 6; have z7 := hS4.fz 7; have z8 := hS4.fz 8; have z9 := hS4.fz 9; have z10 := hS4.fz 10; have z11 := hS4.fz 11; obtain ⟨pc, pf⟩ := hS4.cell; have HS4 := Lib.hid hS4; clear hS4) | ((fail_if_success (have hzz := HS5)); go_at_call 18; refine (take_any 70 (HS4.out.setD (j := 2) (d' := ⟨TY, SO, RU, 0, 0, false, 0, 0, 0, 0, false, 0⟩) rfl) g3).mono ?_; rintro e w5 ⟨rfl, hS5⟩; obtain ⟨b0, b1, b2, b3, b4, b5, b6, b7, b8, b9, b10, b11⟩ := hS5.box; have z0 := hS5.fz 0; have z1 := hS5.fz 1; have z2 := hS5.fz 2; have z3 := hS5.fz 3; have z4 := hS5.fz 4; have z5 := hS5.fz 5; have z6 := hS5.fz 6; have z7 := hS5.fz 7; have z8 := hS5.fz 8; have z9 := hS5.fz 9; have z10 := hS5.fz 10; have z11 := hS5.fz 11; obtain ⟨pc, pf⟩ := hS5.cell; have HS5 := Lib.hid hS5; clear hS5))
  go_cut [] (fun wx => St W0 p q R4 ⟨TY, SO, RU, 0, BO, false, 0, 0, 0, 0, false, 0⟩ wx)
  case first =>
    have HB0 := HS5.out.setD (j := 4) (v := .int .i64 4) (d' := ⟨TY, SO, RU, 0, 4, false, 0, 0, 0, 0, false, 0⟩) rfl
    obtain ⟨v1, v2⟩ := HBO.out
    rcases and1 (hdB R3 70) with b | b
    rotate_left
    · have e1 : tkL R3 70 = R4 := by rw [← v2]; simp [pR4, tkL, b]
      obtain rfl : BO = 4 := by rw [← v1]; simp [pBo, b]
      rw [e1] at HB0
      rw [b]
      clear e1 b v1 v2 HBO
      go_wp2_with fail
      go_meet
      exact HB0
    · have e1 : tkL R3 70 = R3 := by simp [tkL, b]
      have e2 : tkL R3 83 = R4 := by rw [← v2]; simp [pR4, tkL, b]
      have hV : BO = if hdB R3 83 then 6 else 0 := by rw [← v1]; simp [pBo, b]
      have HV := Lib.hid hV
      have HS5' := HS5.out
      rw [e1] at HS5'
      have E2 := Lib.hid e2
      have HS5 := Lib.hid HS5'
      rw [b]
      clear hV b e1 HS5' HB0 v1 v2 e2
      go_upto_if 30 with ((fail_if_success (have hzz := HS6)); go_at_call 18; refine (take_any 83 HS5.out g3).mono ?_; rintro e w6 ⟨rfl, hS6⟩; obtain ⟨b0, b1, b2, b3, b4, b5, b6, b7, b8, b9, b10, b11⟩ := hS6.box; have z0 := hS6.fz 0; have z1 := hS6.fz 1; have z2 := hS6.fz 2; have z3 := hS6.fz 3; have z4 := hS6.fz 4; have z5 := hS6.fz 5; have z6 := hS6.fz 6; have z7 := hS6.fz 7; have z8 := hS6.fz 8; have z9 := hS6.fz 9; have z10 := hS6.fz 10; have z11 := hS6.fz 11; obtain ⟨pc, pf⟩ := hS6.cell; have HS6 := Lib.hid hS6; clear hS6)
      have hS6 := HS6.out
      rw [E2.out] at hS6
      have HV2 := HV.out
      rcases and1 (hdB R3 83) with b | b
      · rw [b] at HV2 ⊢
        obtain rfl : BO = 0 := HV2
        have HS7 := Lib.hid hS6
        clear b hS6 HV HBO
        go_wp2_with fail
        go_meet
        exact HS7.out
      · rw [b] at HV2 ⊢
        obtain rfl : BO = 6 := HV2
        have HS7 := Lib.hid (hS6.setD (j := 4) (v := .int .i64 6) (d' := ⟨TY, SO, RU, 0, 6, false, 0, 0, 0, 0, false, 0⟩) rfl)
        clear b hS6 HV HBO
        go_wp2_with fail
        go_meet
        exact HS7.out
  case rest =>
  have HC2 := Lib.hid hcut
  obtain ⟨b0, b1, b2, b3, b4, b5, b6, b7, b8, b9, b10, b11⟩ := hcut.box; have z0 := hcut.fz 0; have z1 := hcut.fz 1; have z2 := hcut.fz 2; have z3 := hcut.fz 3; have z4 := hcut.fz 4; have z5 := hcut.fz 5; have z6 := hcut.fz 6; have z7 := hcut.fz 7; have z8 := hcut.fz 8; have z9 := hcut.fz 9; have z10 := hcut.fz 10; have z11 := hcut.fz 11; obtain ⟨pc, pf⟩ := hcut.cell
  clear hcut
  go_upto_if 33 with ((fail_if_success (have hzz := HS8)); go_at_call 18; refine (take_any 45 HC2.out g4).mono ?_; rintro e w8 ⟨rfl, hS8⟩; obtain ⟨b0, b1, b2, b3, b4, b5, b6, b7, b8, b9, b10, b11⟩ := hS8.box; have z0 := hS8.fz 0; have z1 := hS8.fz 1; have z2 := hS8.fz 2; have z3 := hS8.fz 3; have z4 := hS8.fz 4; have z5 := hS8.fz 5; have z6 := hS8.fz 6; have z7 := hS8.fz 7; have z8 := hS8.fz 8; have z9 := hS8.fz 9; have z10 := hS8.fz 10; have z11 := hS8.fz 11; obtain ⟨pc, pf⟩ := hS8.cell; have HS8 := Lib.hid hS8; clear hS8)
  go_cut [] (fun wx => St W0 p q R5 ⟨TY, SO, RU, SH, BO, false, 0, 0, 0, 0, false, 0⟩ wx)
  case first =>
    obtain ⟨v1, v2⟩ := HSH.out
    have hS8 := HS8.out
    rcases and1 (hdB R4 45) with b | b
    · have e1 : tkL R4 45 = R5 := by rw [← v2]; simp [pR5, tkL, b]
      obtain rfl : SH = 0 := by rw [← v1]; simp [pSh, b]
      rw [e1] at hS8
      have HS9 := Lib.hid hS8
      rw [b]
      clear b v1 v2 e1 hS8 HSH
      go_wp2_with fail
      go_meet
      exact HS9.out
    · have e1 : tkL R4 45 = R4.tail := by simp [tkL, b]
      have e2 : dgT R4.tail = R5 := by rw [← v2]; simp [pR5, b]
      have e3 : dgN R4.tail = SH := by rw [← v1]; simp [pSh, b]
      have E2 := Lib.hid e2
      have E3 := Lib.hid e3
      rw [e1] at hS8
      have HS9 := Lib.hid hS8
      rw [b]
      clear b v1 v2 e1 hS8 HSH e2 e3
      go_wp2_with (go_at_call 20; refine (rdigit_any HS9.out g4').mono ?_; rintro e w10 ⟨rfl, hS10⟩; rw [E3.out]; rw [E2.out] at hS10; obtain ⟨b0, b1, b2, b3, b4, b5, b6, b7, b8, b9, b10, b11⟩ := hS10.box; have z0 := hS10.fz 0; have z1 := hS10.fz 1; have z2 := hS10.fz 2; have z3 := hS10.fz 3; have z4 := hS10.fz 4; have z5 := hS10.fz 5; have z6 := hS10.fz 6; have z7 := hS10.fz 7; have z8 := hS10.fz 8; have z9 := hS10.fz 9; have z10 := hS10.fz 10; have z11 := hS10.fz 11; obtain ⟨pc, pf⟩ := hS10.cell; have HS10 := Lib.hid hS10; clear hS10)
      go_meet
      exact HS10.out.setD (j := 3) rfl
  case rest =>
  have HC3 := Lib.hid hcut
  obtain ⟨b0, b1, b2, b3, b4, b5, b6, b7, b8, b9, b10, b11⟩ := hcut.box; have z0 := hcut.fz 0; have z1 := hcut.fz 1; have z2 := hcut.fz 2; have z3 := hcut.fz 3; have z4 := hcut.fz 4; have z5 := hcut.fz 5; have z6 := hcut.fz 6; have z7 := hcut.fz 7; have z8 := hcut.fz 8; have z9 := hcut.fz 9; have z10 := hcut.fz 10; have z11 := hcut.fz 11; obtain ⟨pc, pf⟩ := hcut.cell
  clear hcut
  have hsc : D7.sc = 0 := by rw [← HWK.out.2]; exact wkR_sc _ _
  have HSC := Lib.hid hsc
  clear hsc
  go_upto_if 43 with (first | ((fail_if_success (have hzz := HS12)); go_at_call 18; refine (take_any 120 HC3.out g5).mono ?_; rintro e w12 ⟨rfl, hS12⟩; rw [HCR.out.1]; rw [HCR.out.2] at hS12; obtain ⟨b0, b1, b2, b3, b4, b5, b6, b7, b8, b9, b10, b11⟩ := hS12.box; have z0 := hS12.fz 0; have z1 := hS12.fz 1; have z2 := hS12.fz 2; have z3 := hS12.fz 3; have z4 := hS12.fz 4; have z5 := hS12.fz 5; have z6 := hS12.fz 6; have z7 := hS12.fz 7; have z8 := hS12.fz 8; have z9 := hS12.fz 9; have z10 := hS12.fz 10; have z11 := hS12.fz 11; obtain ⟨pc, pf⟩ := hS12.cell; have HS12 := Lib.hid hS12; clear hS12) | ((fail_if_success (have hzz := HS13)); go_at_call 21; refine (rwicket_any (HS12.out.setD (j := 5) (d' := ⟨TY, SO, RU, SH, BO, CR, 0, 0, 0, 0, false, 0⟩) rfl) g6).mono ?_; rintro e w13 ⟨rfl, hS13⟩; rw [HWK.out.1, HWK.out.2] at hS13; obtain ⟨b0, b1, b2, b3, b4, b5, b6, b7, b8, b9, b10, b11⟩ := hS13.box; have z0 := hS13.fz 0; have z1 := hS13.fz 1; have z2 := hS13.fz 2; have z3 := hS13.fz 3; have z4 := hS13.fz 4; have z5 := hS13.fz 5; have z6 := hS13.fz 6; have z7 := hS13.fz 7; have z8 := hS13.fz 8; have z9 := hS13.fz 9; have z10 := hS13.fz 10; have z11 := hS13.fz 11; obtain ⟨pc, pf⟩ := hS13.cell; have HS13 := Lib.hid hS13; clear hS13) | ((fail_if_success (have hzz := HS14)); go_at_call 18; refine (take_any 64 HS13.out g7).mono ?_; rintro e w14 ⟨rfl, hS14⟩; obtain ⟨b0, b1, b2, b3, b4, b5, b6, b7, b8, b9, b10, b11⟩ := hS14.box; have z0 := hS14.fz 0; have z1 := hS14.fz 1; have z2 := hS14.fz 2; have z3 := hS14.fz 3; have z4 := hS14.fz 4; have z5 := hS14.fz 5; have z6 := hS14.fz 6; have z7 := hS14.fz 7; have z8 := hS14.fz 8; have z9 := hS14.fz 9; have z10 := hS14.fz 10; have z11 := hS14.fz 11; obtain ⟨pc, pf⟩ := hS14.cell; have HS14 := Lib.hid hS14; clear hS14))
  go_cut [] (fun wx => ∃ RR, St W0 p q RR (pG s) wx)
  case first =>
    have hS14 := HS14.out
    rcases and1 (hdB R7 64) with b | b
    · have e : pG s = D7 := by
        rw [HPG.out]
        have h0 : pSc R7 = 0 := by simp [pSc, b]
        have h1 := HSC.out
        rw [h0]
        cases D7
        simp only at h1
        subst h1
        rfl
      have E := Lib.hid e
      have HS15 := Lib.hid hS14
      rw [b]
      clear e b hS14 HPG
      go_wp2_with fail
      go_meet
      exact ⟨_, by rw [E.out]; exact HS15.out⟩
    · have e1 : tkL R7 64 = R7.tail := by simp [tkL, b]
      have e2 : dgN R7.tail = pSc R7 := by simp [pSc, b]
      obtain ⟨SC, hSC⟩ : ∃ x, pSc R7 = x := ⟨_, rfl⟩
      have e3 := HPG.out
      rw [hSC] at e2 e3
      have E2 := Lib.hid e2
      have E3 := Lib.hid e3
      rw [e1] at hS14
      have HS15 := Lib.hid hS14
      rw [b]
      clear b e1 hS14 e2 hSC e3 HPG
      go_wp2_with (go_at_call 20; refine (rdigit_any HS15.out g7').mono ?_; rintro e w16 ⟨rfl, hS16⟩; rw [E2.out]; obtain ⟨b0, b1, b2, b3, b4, b5, b6, b7, b8, b9, b10, b11⟩ := hS16.box; have z0 := hS16.fz 0; have z1 := hS16.fz 1; have z2 := hS16.fz 2; have z3 := hS16.fz 3; have z4 := hS16.fz 4; have z5 := hS16.fz 5; have z6 := hS16.fz 6; have z7 := hS16.fz 7; have z8 := hS16.fz 8; have z9 := hS16.fz 9; have z10 := hS16.fz 10; have z11 := hS16.fz 11; obtain ⟨pc, pf⟩ := hS16.cell; have HS16 := Lib.hid hS16; clear hS16)
      go_meet
      exact ⟨_, by rw [E3.out]; exact HS16.out.setD (j := 11) rfl⟩
  case rest =>
  obtain ⟨RR, hcut⟩ := hcut
  have hEx := hE0.trans hcut.ext
  have hRBc := (hcut.ext.block _ hrs).trans HRB.out
  have r0' : wc.cell? ⟨w.heap.size, 0, none⟩ = some (.int .u8 0) := Lib.cell_of_heap hRBc 0
  obtain ⟨⟨r0, r1, r2, r3, r4, r5, r6, r7, r8, r9, r10, r11⟩, rz⟩ := zbox_fz hRBc
  have y0 := rz 0
  have y1 := rz 1
  have y2 := rz 2
  have y3 := rz 3
  have y4 := rz 4
  have y5 := rz 5
  have y6 := rz 6
  have y7 := rz 7
  have y8 := rz 8
  have y9 := rz 9
  have y10 := rz 10
  have y11 := rz 11
  obtain ⟨G, hG⟩ : ∃ g, pG s = g := ⟨_, rfl⟩
  have HPA : Hid (paD s = (if paB G s then G else zD) ∧ paE s = (if paB G s then 0 else 4)) := by rw [Hid, paD, paE, hG]; exact ⟨rfl, rfl⟩
  rw [hG] at hcut
  have HWG := HWFG.out
  rw [hG] at HWG
  have HWG := Lib.hid HWG
  clear hG
  obtain ⟨b0, b1, b2, b3, b4, b5, b6, b7, b8, b9, b10, b11⟩ := hcut.box; have z0 := hcut.fz 0; have z1 := hcut.fz 1; have z2 := hcut.fz 2; have z3 := hcut.fz 3; have z4 := hcut.fz 4; have z5 := hcut.fz 5; have z6 := hcut.fz 6; have z7 := hcut.fz 7; have z8 := hcut.fz 8; have z9 := hcut.fz 9; have z10 := hcut.fz 10; have z11 := hcut.fz 11; obtain ⟨pc, pf⟩ := hcut.cell
  have HCC := Lib.hid hcut
  have HXC : Hid (TX wc) := HX.out.ext hEx
  clear rz hcut
  have PR := fun (T : List UInt8) (E : Int) (h1 : prS G = T) (h2 : ckD G = E) => (show Calls Tryd.prog 4 #[G.v] wc fun e w' => e = .returned (.tuple #[.string ⟨T.toArray⟩, .int .i64 E]) ∧ Ext wc w' from by rw [← h1, ← h2]; exact print_any G HWG.out wc HXC.out)
  obtain ⟨E, hE⟩ : ∃ E, ckD G = E := ⟨_, rfl⟩
  obtain ⟨T, hT⟩ : ∃ T, prS G = T := ⟨_, rfl⟩
  have HPR := Lib.hid (PR T E hT hE)
  clear PR
  unfold Dl.v at HPR
  have hb : paB G s = (decide (E = 0) && decide (T = s)) := by
    unfold paB
    rw [hE]
    by_cases h0 : E = 0
    · have : T = symD G := by rw [← hT, prS, if_pos (hE.trans h0)]
      rw [this]
    · simp [h0]
  have hprl : Ext w wc := hEx
  clear hE hT
  by_cases hE0' : E = 0
  · subst hE0'
    by_cases hTs : T = s
    · subst hTs
      have HV : Hid (paD T = G ∧ paE T = 0) := by rw [Hid, HPA.out.1, HPA.out.2, hb]; simp
      clear hb HPA
      go_wp2_with (go_at_call 4; refine HPR.out.mono ?_; rintro e w15 ⟨rfl, hb15⟩; obtain ⟨hc15, hf15⟩ := hb15.cells; have x0 := (hf15 _ 0 (cell_lt r0)).trans y0; have x1 := (hf15 _ 1 (cell_lt r1)).trans y1; have x2 := (hf15 _ 2 (cell_lt r2)).trans y2; have x3 := (hf15 _ 3 (cell_lt r3)).trans y3; have x4 := (hf15 _ 4 (cell_lt r4)).trans y4; have x5 := (hf15 _ 5 (cell_lt r5)).trans y5; have x6 := (hf15 _ 6 (cell_lt r6)).trans y6; have x7 := (hf15 _ 7 (cell_lt r7)).trans y7; have x8 := (hf15 _ 8 (cell_lt r8)).trans y8; have x9 := (hf15 _ 9 (cell_lt r9)).trans y9; have x10 := (hf15 _ 10 (cell_lt r10)).trans y10; have x11 := (hf15 _ 11 (cell_lt r11)).trans y11; replace r0 := hb15.keep r0; replace b0 := hb15.keep b0; replace r1 := hb15.keep r1; replace b1 := hb15.keep b1; replace r2 := hb15.keep r2; replace b2 := hb15.keep b2; replace r3 := hb15.keep r3; replace b3 := hb15.keep b3; replace r4 := hb15.keep r4; replace b4 := hb15.keep b4; replace r5 := hb15.keep r5; replace b5 := hb15.keep b5; replace r6 := hb15.keep r6; replace b6 := hb15.keep b6; replace r7 := hb15.keep r7; replace b7 := hb15.keep b7; replace r8 := hb15.keep r8; replace b8 := hb15.keep b8; replace r9 := hb15.keep r9; replace b9 := hb15.keep b9; replace r10 := hb15.keep r10; replace b10 := hb15.keep b10; replace r11 := hb15.keep r11; replace b11 := hb15.keep b11; clear hc15 hf15)
      have hB : ((((((((((((w15.setCell ⟨w.heap.size, 0, none⟩ (.int .u8 G.ty)).setCell ⟨w.heap.size, 1, none⟩ (.int .u8 G.so)).setCell ⟨w.heap.size, 2, none⟩ (.int .i64 G.ru)).setCell ⟨w.heap.size, 3, none⟩ (.int .i64 G.sh)).setCell ⟨w.heap.size, 4, none⟩ (.int .i64 G.bo)).setCell ⟨w.heap.size, 5, none⟩ (.bool G.cr)).setCell ⟨w.heap.size, 6, none⟩ (.int .u8 G.ho)).setCell ⟨w.heap.size, 7, none⟩ (.int .i64 G.vi)).setCell ⟨w.heap.size, 8, none⟩ (.int .i64 G.fi)).setCell ⟨w.heap.size, 9, none⟩ (.int .i64 G.se)).setCell ⟨w.heap.size, 10, none⟩ (.bool G.su)).setCell ⟨w.heap.size, 11, none⟩ (.int .i64 G.sc)).heap[w.heap.size]? = some (.cells (Dl.arr G) 29 (0, 0)) := set12 w15 w.heap.size _ G ((hb15.block _ (cell_lt r0')).trans hRBc)
      have hXE : Ext w ((((((((((((w15.setCell ⟨w.heap.size, 0, none⟩ (.int .u8 G.ty)).setCell ⟨w.heap.size, 1, none⟩ (.int .u8 G.so)).setCell ⟨w.heap.size, 2, none⟩ (.int .i64 G.ru)).setCell ⟨w.heap.size, 3, none⟩ (.int .i64 G.sh)).setCell ⟨w.heap.size, 4, none⟩ (.int .i64 G.bo)).setCell ⟨w.heap.size, 5, none⟩ (.bool G.cr)).setCell ⟨w.heap.size, 6, none⟩ (.int .u8 G.ho)).setCell ⟨w.heap.size, 7, none⟩ (.int .i64 G.vi)).setCell ⟨w.heap.size, 8, none⟩ (.int .i64 G.fi)).setCell ⟨w.heap.size, 9, none⟩ (.int .i64 G.se)).setCell ⟨w.heap.size, 10, none⟩ (.bool G.su)).setCell ⟨w.heap.size, 11, none⟩ (.int .i64 G.sc)) := ext12 (hprl.trans hb15) (Nat.le_refl _) G
      obtain ⟨WX, hWX⟩ : ∃ X, ((((((((((((w15.setCell ⟨w.heap.size, 0, none⟩ (.int .u8 G.ty)).setCell ⟨w.heap.size, 1, none⟩ (.int .u8 G.so)).setCell ⟨w.heap.size, 2, none⟩ (.int .i64 G.ru)).setCell ⟨w.heap.size, 3, none⟩ (.int .i64 G.sh)).setCell ⟨w.heap.size, 4, none⟩ (.int .i64 G.bo)).setCell ⟨w.heap.size, 5, none⟩ (.bool G.cr)).setCell ⟨w.heap.size, 6, none⟩ (.int .u8 G.ho)).setCell ⟨w.heap.size, 7, none⟩ (.int .i64 G.vi)).setCell ⟨w.heap.size, 8, none⟩ (.int .i64 G.fi)).setCell ⟨w.heap.size, 9, none⟩ (.int .i64 G.se)).setCell ⟨w.heap.size, 10, none⟩ (.bool G.su)).setCell ⟨w.heap.size, 11, none⟩ (.int .i64 G.sc)) = X := ⟨_, rfl⟩
      rw [hWX] at hB hXE ⊢
      clear hWX r0 r1 r2 r3 r4 r5 r6 r7 r8 r9 r10 r11 b0 b1 b2 b3 b4 b5 b6 b7 b8 b9 b10 b11 x0 x1 x2 x3 x4 x5 x6 x7 x8 x9 x10 x11
      obtain ⟨n0, n1, n2, n3, n4, n5, n6, n7, n8, n9, n10, n11⟩ := box_of hB
      refine bodyPost_ret (v := .tuple #[.agg #[.int .u8 G.ty, .int .u8 G.so, .int .i64 G.ru, .int .i64 G.sh, .int .i64 G.bo, .bool G.cr, .int .u8 G.ho, .int .i64 G.vi, .int .i64 G.fi, .int .i64 G.se, .bool G.su, .int .i64 G.sc], .int .i64 0]) (by simp [results, Tryd.results7, go_sem, n0, n1, n2, n3, n4, n5, n6, n7, n8, n9, n10, n11]) rfl ?_
      exact ⟨by rw [HV.out.1, HV.out.2]; rfl, hXE⟩
    · have HV : Hid (paD s = zD ∧ paE s = 4) := by rw [Hid, HPA.out.1, HPA.out.2, hb]; simp [hTs]
      have t1 : (T == s) = false := by simpa using hTs
      have t2 : (T != s) = true := by simp only [bne, t1, Bool.not_false]
      clear hb HPA hTs
      go_wp2_with (go_at_call 4; refine HPR.out.mono ?_; rintro e w15 ⟨rfl, hb15⟩; obtain ⟨hc15, hf15⟩ := hb15.cells; have x0 := (hf15 _ 0 (cell_lt r0)).trans y0; have x1 := (hf15 _ 1 (cell_lt r1)).trans y1; have x2 := (hf15 _ 2 (cell_lt r2)).trans y2; have x3 := (hf15 _ 3 (cell_lt r3)).trans y3; have x4 := (hf15 _ 4 (cell_lt r4)).trans y4; have x5 := (hf15 _ 5 (cell_lt r5)).trans y5; have x6 := (hf15 _ 6 (cell_lt r6)).trans y6; have x7 := (hf15 _ 7 (cell_lt r7)).trans y7; have x8 := (hf15 _ 8 (cell_lt r8)).trans y8; have x9 := (hf15 _ 9 (cell_lt r9)).trans y9; have x10 := (hf15 _ 10 (cell_lt r10)).trans y10; have x11 := (hf15 _ 11 (cell_lt r11)).trans y11; replace r0 := hb15.keep r0; replace b0 := hb15.keep b0; replace r1 := hb15.keep r1; replace b1 := hb15.keep b1; replace r2 := hb15.keep r2; replace b2 := hb15.keep b2; replace r3 := hb15.keep r3; replace b3 := hb15.keep b3; replace r4 := hb15.keep r4; replace b4 := hb15.keep b4; replace r5 := hb15.keep r5; replace b5 := hb15.keep b5; replace r6 := hb15.keep r6; replace b6 := hb15.keep b6; replace r7 := hb15.keep r7; replace b7 := hb15.keep b7; replace r8 := hb15.keep r8; replace b8 := hb15.keep b8; replace r9 := hb15.keep r9; replace b9 := hb15.keep b9; replace r10 := hb15.keep r10; replace b10 := hb15.keep b10; replace r11 := hb15.keep r11; replace b11 := hb15.keep b11; clear hc15 hf15)
      have hB : ((((((((((((w15.setCell ⟨w.heap.size, 0, none⟩ (.int .u8 0)).setCell ⟨w.heap.size, 1, none⟩ (.int .u8 0)).setCell ⟨w.heap.size, 2, none⟩ (.int .i64 0)).setCell ⟨w.heap.size, 3, none⟩ (.int .i64 0)).setCell ⟨w.heap.size, 4, none⟩ (.int .i64 0)).setCell ⟨w.heap.size, 5, none⟩ (.bool false)).setCell ⟨w.heap.size, 6, none⟩ (.int .u8 0)).setCell ⟨w.heap.size, 7, none⟩ (.int .i64 0)).setCell ⟨w.heap.size, 8, none⟩ (.int .i64 0)).setCell ⟨w.heap.size, 9, none⟩ (.int .i64 0)).setCell ⟨w.heap.size, 10, none⟩ (.bool false)).setCell ⟨w.heap.size, 11, none⟩ (.int .i64 0)).heap[w.heap.size]? = some (.cells (Dl.arr zD) 29 (0, 0)) := set12 w15 w.heap.size _ zD ((hb15.block _ (cell_lt r0')).trans hRBc)
      have hXE : Ext w ((((((((((((w15.setCell ⟨w.heap.size, 0, none⟩ (.int .u8 0)).setCell ⟨w.heap.size, 1, none⟩ (.int .u8 0)).setCell ⟨w.heap.size, 2, none⟩ (.int .i64 0)).setCell ⟨w.heap.size, 3, none⟩ (.int .i64 0)).setCell ⟨w.heap.size, 4, none⟩ (.int .i64 0)).setCell ⟨w.heap.size, 5, none⟩ (.bool false)).setCell ⟨w.heap.size, 6, none⟩ (.int .u8 0)).setCell ⟨w.heap.size, 7, none⟩ (.int .i64 0)).setCell ⟨w.heap.size, 8, none⟩ (.int .i64 0)).setCell ⟨w.heap.size, 9, none⟩ (.int .i64 0)).setCell ⟨w.heap.size, 10, none⟩ (.bool false)).setCell ⟨w.heap.size, 11, none⟩ (.int .i64 0)) := ext12 (hprl.trans hb15) (Nat.le_refl _) zD
      obtain ⟨WX, hWX⟩ : ∃ X, ((((((((((((w15.setCell ⟨w.heap.size, 0, none⟩ (.int .u8 0)).setCell ⟨w.heap.size, 1, none⟩ (.int .u8 0)).setCell ⟨w.heap.size, 2, none⟩ (.int .i64 0)).setCell ⟨w.heap.size, 3, none⟩ (.int .i64 0)).setCell ⟨w.heap.size, 4, none⟩ (.int .i64 0)).setCell ⟨w.heap.size, 5, none⟩ (.bool false)).setCell ⟨w.heap.size, 6, none⟩ (.int .u8 0)).setCell ⟨w.heap.size, 7, none⟩ (.int .i64 0)).setCell ⟨w.heap.size, 8, none⟩ (.int .i64 0)).setCell ⟨w.heap.size, 9, none⟩ (.int .i64 0)).setCell ⟨w.heap.size, 10, none⟩ (.bool false)).setCell ⟨w.heap.size, 11, none⟩ (.int .i64 0)) = X := ⟨_, rfl⟩
      rw [hWX] at hB hXE ⊢
      clear hWX r0 r1 r2 r3 r4 r5 r6 r7 r8 r9 r10 r11 b0 b1 b2 b3 b4 b5 b6 b7 b8 b9 b10 b11 x0 x1 x2 x3 x4 x5 x6 x7 x8 x9 x10 x11
      obtain ⟨n0, n1, n2, n3, n4, n5, n6, n7, n8, n9, n10, n11⟩ := box_of hB
      refine bodyPost_ret (v := .tuple #[.agg #[.int .u8 0, .int .u8 0, .int .i64 0, .int .i64 0, .int .i64 0, .bool false, .int .u8 0, .int .i64 0, .int .i64 0, .int .i64 0, .bool false, .int .i64 0], .int .i64 4]) (by simp [results, Tryd.results7, go_sem, n0, n1, n2, n3, n4, n5, n6, n7, n8, n9, n10, n11, zD]) rfl ?_
      exact ⟨by rw [HV.out.1, HV.out.2]; rfl, hXE⟩
  · have HV : Hid (paD s = zD ∧ paE s = 4) := by rw [Hid, HPA.out.1, HPA.out.2, hb]; simp [hE0']
    have e1 : (E != 0) = true := by simpa using hE0'
    clear hb HPA hE0'
    go_wp2_with (go_at_call 4; refine HPR.out.mono ?_; rintro e w15 ⟨rfl, hb15⟩; obtain ⟨hc15, hf15⟩ := hb15.cells; have x0 := (hf15 _ 0 (cell_lt r0)).trans y0; have x1 := (hf15 _ 1 (cell_lt r1)).trans y1; have x2 := (hf15 _ 2 (cell_lt r2)).trans y2; have x3 := (hf15 _ 3 (cell_lt r3)).trans y3; have x4 := (hf15 _ 4 (cell_lt r4)).trans y4; have x5 := (hf15 _ 5 (cell_lt r5)).trans y5; have x6 := (hf15 _ 6 (cell_lt r6)).trans y6; have x7 := (hf15 _ 7 (cell_lt r7)).trans y7; have x8 := (hf15 _ 8 (cell_lt r8)).trans y8; have x9 := (hf15 _ 9 (cell_lt r9)).trans y9; have x10 := (hf15 _ 10 (cell_lt r10)).trans y10; have x11 := (hf15 _ 11 (cell_lt r11)).trans y11; replace r0 := hb15.keep r0; replace b0 := hb15.keep b0; replace r1 := hb15.keep r1; replace b1 := hb15.keep b1; replace r2 := hb15.keep r2; replace b2 := hb15.keep b2; replace r3 := hb15.keep r3; replace b3 := hb15.keep b3; replace r4 := hb15.keep r4; replace b4 := hb15.keep b4; replace r5 := hb15.keep r5; replace b5 := hb15.keep b5; replace r6 := hb15.keep r6; replace b6 := hb15.keep b6; replace r7 := hb15.keep r7; replace b7 := hb15.keep b7; replace r8 := hb15.keep r8; replace b8 := hb15.keep b8; replace r9 := hb15.keep r9; replace b9 := hb15.keep b9; replace r10 := hb15.keep r10; replace b10 := hb15.keep b10; replace r11 := hb15.keep r11; replace b11 := hb15.keep b11; clear hc15 hf15)
    have hB : ((((((((((((w15.setCell ⟨w.heap.size, 0, none⟩ (.int .u8 0)).setCell ⟨w.heap.size, 1, none⟩ (.int .u8 0)).setCell ⟨w.heap.size, 2, none⟩ (.int .i64 0)).setCell ⟨w.heap.size, 3, none⟩ (.int .i64 0)).setCell ⟨w.heap.size, 4, none⟩ (.int .i64 0)).setCell ⟨w.heap.size, 5, none⟩ (.bool false)).setCell ⟨w.heap.size, 6, none⟩ (.int .u8 0)).setCell ⟨w.heap.size, 7, none⟩ (.int .i64 0)).setCell ⟨w.heap.size, 8, none⟩ (.int .i64 0)).setCell ⟨w.heap.size, 9, none⟩ (.int .i64 0)).setCell ⟨w.heap.size, 10, none⟩ (.bool false)).setCell ⟨w.heap.size, 11, none⟩ (.int .i64 0)).heap[w.heap.size]? = some (.cells (Dl.arr zD) 29 (0, 0)) := set12 w15 w.heap.size _ zD ((hb15.block _ (cell_lt r0')).trans hRBc)
    have hXE : Ext w ((((((((((((w15.setCell ⟨w.heap.size, 0, none⟩ (.int .u8 0)).setCell ⟨w.heap.size, 1, none⟩ (.int .u8 0)).setCell ⟨w.heap.size, 2, none⟩ (.int .i64 0)).setCell ⟨w.heap.size, 3, none⟩ (.int .i64 0)).setCell ⟨w.heap.size, 4, none⟩ (.int .i64 0)).setCell ⟨w.heap.size, 5, none⟩ (.bool false)).setCell ⟨w.heap.size, 6, none⟩ (.int .u8 0)).setCell ⟨w.heap.size, 7, none⟩ (.int .i64 0)).setCell ⟨w.heap.size, 8, none⟩ (.int .i64 0)).setCell ⟨w.heap.size, 9, none⟩ (.int .i64 0)).setCell ⟨w.heap.size, 10, none⟩ (.bool false)).setCell ⟨w.heap.size, 11, none⟩ (.int .i64 0)) := ext12 (hprl.trans hb15) (Nat.le_refl _) zD
    obtain ⟨WX, hWX⟩ : ∃ X, ((((((((((((w15.setCell ⟨w.heap.size, 0, none⟩ (.int .u8 0)).setCell ⟨w.heap.size, 1, none⟩ (.int .u8 0)).setCell ⟨w.heap.size, 2, none⟩ (.int .i64 0)).setCell ⟨w.heap.size, 3, none⟩ (.int .i64 0)).setCell ⟨w.heap.size, 4, none⟩ (.int .i64 0)).setCell ⟨w.heap.size, 5, none⟩ (.bool false)).setCell ⟨w.heap.size, 6, none⟩ (.int .u8 0)).setCell ⟨w.heap.size, 7, none⟩ (.int .i64 0)).setCell ⟨w.heap.size, 8, none⟩ (.int .i64 0)).setCell ⟨w.heap.size, 9, none⟩ (.int .i64 0)).setCell ⟨w.heap.size, 10, none⟩ (.bool false)).setCell ⟨w.heap.size, 11, none⟩ (.int .i64 0)) = X := ⟨_, rfl⟩
    rw [hWX] at hB hXE ⊢
    clear hWX r0 r1 r2 r3 r4 r5 r6 r7 r8 r9 r10 r11 b0 b1 b2 b3 b4 b5 b6 b7 b8 b9 b10 b11 x0 x1 x2 x3 x4 x5 x6 x7 x8 x9 x10 x11
    obtain ⟨n0, n1, n2, n3, n4, n5, n6, n7, n8, n9, n10, n11⟩ := box_of hB
    refine bodyPost_ret (v := .tuple #[.agg #[.int .u8 0, .int .u8 0, .int .i64 0, .int .i64 0, .int .i64 0, .bool false, .int .u8 0, .int .i64 0, .int .i64 0, .int .i64 0, .bool false, .int .i64 0], .int .i64 4]) (by simp [results, Tryd.results7, go_sem, n0, n1, n2, n3, n4, n5, n6, n7, n8, n9, n10, n11, zD]) rfl ?_
    exact ⟨by rw [HV.out.1, HV.out.2]; rfl, hXE⟩

end Go.Proofs.YtohoehfebphgeaaDoor

/-
  Print of layer 7 (reference).
-/
import Derived.Test.YtpgacpkcchajmaaDoorNotB
import Derived.Test.YtpgacpkcchajmaaDoorNotR
import Derived.Deep.DeepCutAuto
import Derived.Deep.CutBlock
namespace Go.Proofs.YtpgacpkcchajmaaDoor
open Go.RowKit
set_option linter.unusedSimpArgs false

set_option maxHeartbeats 1000000 in
theorem rtype_any (ty : Int) (h : ty = 1 ∨ ty = 2 ∨ ty = 3) (w : World) : Calls Tryd.prog 27 #[.int .u8 ty] w fun e w' => e = .returned (.string ⟨(tyL ty).toArray⟩) ∧ w' = w := by
  rcases h with rfl | rfl | rfl
  all_goals
    go_enter Tryd.func27, Tryd.ntmps27
    go_wp2
    go_ret
    exact ⟨rfl, rfl⟩
set_option maxHeartbeats 4000000 in
theorem rsourceOf_any (ty so : Int) (h : ty = 1 ∨ ty = 2 ∨ ty = 3) (h' : so = 0 ∨ so = 1 ∨ so = 2 ∨ so = 3) (w : World) : Calls Tryd.prog 26 #[.int .u8 ty, .int .u8 so] w fun e w' => e = .returned (.string ⟨(srL ty so).toArray⟩) ∧ w' = w := by
  rcases h with rfl | rfl | rfl <;> rcases h' with rfl | rfl | rfl | rfl
  all_goals
    go_enter Tryd.func26, Tryd.ntmps26
    go_wp2
    go_ret
    exact ⟨rfl, rfl⟩
theorem dgL_itoa {n : Int} (h : 0 ≤ n ∧ n ≤ 9) : Lib.itoa n = dgL n := by
  obtain ⟨m, rfl⟩ := Int.eq_ofNat_of_zero_le h.1
  rw [itoa_99 m (by omega), if_pos (by omega)]; rfl
theorem boxR_new (d : Dl) (w : World) (T : TypeId) : BoxD d w.heap.size (w.alloc (.cells #[.int .u8 d.ty, .int .u8 d.so, .int .i64 d.ru, .int .i64 d.sh, .int .i64 d.bo, .bool d.cr, .int .u8 d.ho, .int .i64 d.vi, .int .i64 d.fi, .int .i64 d.se, .bool d.su, .int .i64 d.sc] T)) := by
  unfold BoxD
  refine ⟨?_, ?_, ?_, ?_, ?_, ?_, ?_, ?_, ?_, ?_, ?_, ?_⟩ <;> exact Lib.cell_of_heap (heap_alloc_new w _) _
theorem wi_if {α : Type} (h vi fi se : Int) (su : Bool) (A B : α) : (if h = 0 ∧ vi = 0 ∧ (fi != 0 || se != 0 || su) = false then A else B) = (if (h != 0 || vi != 0 || fi != 0 || se != 0 || su) then B else A) := by
  by_cases h1 : h = 0 <;> by_cases h2 : vi = 0 <;> by_cases h3 : fi = 0 <;> by_cases h4 : se = 0 <;> cases su <;> simp [*]
theorem ext_let2 : ∀ h : Nat, h ≤ 10 → (⟨#[78, 66, 67, 76, 83, 72, 82, 84, 79, 77, 81]⟩ : ByteArray).extract h (h + 1) = ⟨[ltL.getD h 0].toArray⟩ := by decide

set_option maxRecDepth 20000 in
set_option maxHeartbeats 16000000 in
theorem rprint_any (d : Dl) (hw : d.Wf) (w : World) : Calls Tryd.prog 11 #[d.v] w fun e w' => e = .returned (.tuple #[.string ⟨(prS d).toArray⟩, .int .i64 (ckD d)]) ∧ Ext w w' := by
  by_cases he : ckD d = 0
  rotate_left
  · have HP : Hid (prS d = []) := by rw [Hid, prS, if_neg he]
    obtain ⟨E, hE⟩ : ∃ E, ckD d = E := ⟨_, rfl⟩
    rw [hE] at he
    have HE := Lib.hid hE
    have HC : Hid (∀ W, Calls Tryd.prog 13 #[d.v] W fun e w' => e = .returned (.int .i64 E) ∧ Ext W w') := fun W => by rw [← hE]; exact rcheck_any d W
    clear hE
    obtain ⟨ty, so, ru, sh, bo, cr, ho, vi, fi, se, su, sc⟩ := d
    unfold Dl.v at HC ⊢
    dsimp only at HC ⊢
    go_enter Tryd.func11, Tryd.ntmps11
    go_wp2_with (first | (go_at_call 13; refine (HC.out _).mono ?_; rintro e w1 ⟨rfl, hb1⟩))
    go_ret2
    exact ⟨by rw [HP.out, HE.out]; rfl, (by repeat (first | exact Ext.refl _ | refine Ext.setCell ?_ (by first | exact Nat.le_refl _ | (simp; done) | (simp; omega)) _ | refine Ext.drew ?_ | refine Ext.drewN ?_ _ | refine Ext.alloc ?_ _ | refine Ext.trans ?_ hb1))⟩
  · have hok := ck_ok he hw
    have HP : Hid (prS d = symD d) := by rw [Hid, prS, if_pos he]
    have HE := Lib.hid he
    have HC : Hid (∀ W, Calls Tryd.prog 13 #[d.v] W fun e w' => e = .returned (.int .i64 0) ∧ Ext W w') := fun W => by rw [← he]; exact rcheck_any d W
    obtain ⟨SR, hSR⟩ : ∃ S, srL d.ty d.so = S := ⟨_, rfl⟩
    have HSo : Hid (∀ W, Calls Tryd.prog 26 #[.int .u8 d.ty, .int .u8 d.so] W fun e w' => e = .returned (.string ⟨SR.toArray⟩) ∧ w' = W) := fun W => by rw [← hSR]; exact rsourceOf_any _ _ hok.ty (by have := hok.so; omega) W
    obtain ⟨TY, hTY⟩ : ∃ S, tyL d.ty = S := ⟨_, rfl⟩
    have HTo : Hid (∀ W, Calls Tryd.prog 27 #[.int .u8 d.ty] W fun e w' => e = .returned (.string ⟨TY.toArray⟩) ∧ w' = W) := fun W => by rw [← hTY]; exact rtype_any _ hok.ty W
    obtain ⟨WI, hWI⟩ : ∃ S, wiL d = S := ⟨_, rfl⟩
    obtain ⟨RB, hRB⟩ : ∃ b, ruB d = b := ⟨_, rfl⟩
    obtain ⟨GR, hGR⟩ : ∃ S, dgL d.ru = S := ⟨_, rfl⟩
    obtain ⟨GS, hGS⟩ : ∃ S, dgL d.sh = S := ⟨_, rfl⟩
    obtain ⟨GC, hGC⟩ : ∃ S, dgL d.sc = S := ⟨_, rfl⟩
    obtain ⟨GV, hGV⟩ : ∃ S, dgL d.vi = S := ⟨_, rfl⟩
    obtain ⟨GF, hGF⟩ : ∃ S, Lib.itoa d.fi = S := ⟨_, rfl⟩
    obtain ⟨GG, hGG⟩ : ∃ S, Lib.itoa d.se = S := ⟨_, rfl⟩
    have hD1 : Hid (∀ W, Calls Tryd.prog 28 #[.int .i64 d.ru] W fun e w' => e = .returned (.string ⟨GR.toArray⟩) ∧ w' = W) := fun W => by rw [← hGR, ← dgL_itoa (by have := hok.ru; omega)]; exact rdec_any _ hok.ru.1 (by have := hok.ru.2; omega) W
    have hD2 : Hid (∀ W, Calls Tryd.prog 28 #[.int .i64 d.sh] W fun e w' => e = .returned (.string ⟨GS.toArray⟩) ∧ w' = W) := fun W => by rw [← hGS, ← dgL_itoa (by have := hok.ru; have := hok.sh; omega)]; exact rdec_any _ hok.sh.1 (by have := hok.ru.2; have := hok.sh.2; omega) W
    have hD3 : Hid (∀ W, Calls Tryd.prog 28 #[.int .i64 d.sc] W fun e w' => e = .returned (.string ⟨GC.toArray⟩) ∧ w' = W) := fun W => by rw [← hGC, ← dgL_itoa (by have := hok.sc; omega)]; exact rdec_any _ hok.sc.1 (by have := hok.sc.2; omega) W
    have hD4 : Hid (∀ W, Calls Tryd.prog 28 #[.int .i64 d.vi] W fun e w' => e = .returned (.string ⟨GV.toArray⟩) ∧ w' = W) := fun W => by rw [← hGV, ← dgL_itoa (by have := hok.vi; omega)]; exact rdec_any _ hok.vi.1 (by have := hok.vi.2; omega) W
    have hD5 : Hid (∀ W, Calls Tryd.prog 28 #[.int .i64 d.fi] W fun e w' => e = .returned (.string ⟨GF.toArray⟩) ∧ w' = W) := fun W => by rw [← hGF]; exact rdec_any _ hok.fi.1 (by have := hok.fi.2; omega) W
    have hD6 : Hid (∀ W, Calls Tryd.prog 28 #[.int .i64 d.se] W fun e w' => e = .returned (.string ⟨GG.toArray⟩) ∧ w' = W) := fun W => by rw [← hGG]; exact rdec_any _ hok.se.1 (by have := hok.se.2; omega) W
    have hSRl : SR.length ≤ 1 := by
      rw [← hSR]; unfold srL; repeat' split
      all_goals simp
    have hTYl : TY.length ≤ 1 := by
      rw [← hTY]; unfold tyL; repeat' split
      all_goals simp
    have hGRl : GR.length = 1 := by rw [← hGR]; rfl
    have hGSl : GS.length = 1 := by rw [← hGS]; rfl
    have hGCl : GC.length = 1 := by rw [← hGC]; rfl
    have hGVl : GV.length = 1 := by rw [← hGV]; rfl
    have hGFl : GF.length ≤ 21 := by rw [← hGF]; exact itoa_small hok.fi
    have hGGl : GG.length ≤ 21 := by rw [← hGG]; exact itoa_small hok.se
    have hWIl : WI.length ≤ 60 := by
      rw [← hWI]
      have l1 := itoa_small hok.fi
      have l2 := itoa_small hok.se
      unfold wiL wiG dgL
      repeat' split
      all_goals simp <;> omega
    obtain ⟨h, hh⟩ := Int.eq_ofNat_of_zero_le hok.ho.1
    have hh10 : h ≤ 10 := by have := hok.ho.2; omega
    have hle := ext_let2 h hh10
    obtain ⟨lt, hlt⟩ : ∃ c : UInt8, ltL.getD h 0 = c := ⟨_, rfl⟩
    rw [hlt] at hle
    have HWI : Hid (WI = if (d.ho != 0 || d.vi != 0 || d.fi != 0 || d.se != 0 || d.su) then 47 :: lt :: (GV ++ (if (d.fi != 0 || d.se != 0 || d.su) then 40 :: (GF ++ ((if d.se = 0 then [] else 44 :: GG) ++ ((if d.su then [115] else []) ++ [41]))) else [])) else []) := by
      rw [Hid, ← hWI, wiL, wiG, wiF, hGV, hGF, hGG, hh, Int.toNat_natCast, hlt]
      exact wi_if _ _ _ _ _ _ _
    have HS : Hid (symD d = TY ++ (SR ++ ((if RB then GR else []) ++ (boL d.bo ++ ((if 0 < d.sh then 45 :: GS else []) ++ (crL d.cr ++ (WI ++ (if 0 < d.sc then 64 :: GC else [])))))))) := by
      rw [Hid, symD, hTY, hSR, hWI, ruL, hRB, hGR, shL, hGS, scL, hGC]
    have HRB : Hid (RB = (decide (0 < d.ru) || (SR.isEmpty && d.bo == 0 && d.ty != 2))) := by rw [Hid, ← hRB, ruB, hSR]
    have HOK := Lib.hid hok
    clear he hw hok hSR hTY hWI hRB hGR hGS hGC hGV hGF hGG hlt
    obtain ⟨ty, so, ru, sh, bo, cr, ho, vi, fi, se, su, sc⟩ := d
    unfold Dl.v at HC ⊢
    dsimp only at HC HSo HTo HWI hh hD1 hD2 hD3 hD4 hD5 hD6 HS HRB ⊢
    subst hh
    have hcat : ∀ a b : List UInt8, (⟨a.toArray⟩ : ByteArray) ++ ⟨b.toArray⟩ = ⟨(a ++ b).toArray⟩ := fun a b => by apply ByteArray.ext; simp
    have hty : ty = 1 ∨ ty = 2 ∨ ty = 3 := HOK.out.ty
    have hbo : bo = 0 ∨ bo = 4 ∨ bo = 6 := HOK.out.bo
    have HTy := Lib.hid hty
    have HBo := Lib.hid hbo
    clear hty hbo
    have z1 : ¬ 9223372036854775807 < TY.length + SR.length := by omega
    go_enter Tryd.func11, Tryd.ntmps11
    go_upto_region 6 with (first | (go_at_call 13; refine (HC.out _).mono ?_; rintro e w1 ⟨rfl, hb1⟩; have hD := (boxR_new ⟨ty, so, ru, sh, bo, cr, (h : Int), vi, fi, se, su, sc⟩ w 26).ext hb1; have hDk := hD; obtain ⟨c0, c1, c2, c3, c4, c5, c6, c7, c8, c9, c10, c11⟩ := hDk; clear HC) | (go_at_call 26; refine (HSo.out _).mono ?_; rintro e w' ⟨rfl, hw'⟩; obtain rfl := hw'.symm) | (go_at_call 27; refine (HTo.out _).mono ?_; rintro e w' ⟨rfl, hw'⟩; obtain rfl := hw'.symm))
    have hE : Ext w w1 := (by repeat (first | exact Ext.refl _ | refine Ext.setCell ?_ (by first | exact Nat.le_refl _ | (simp; done) | (simp; omega)) _ | refine Ext.drew ?_ | refine Ext.drewN ?_ _ | refine Ext.alloc ?_ _ | refine Ext.trans ?_ hb1))
    clear c0 c1 c2 c3 c4 c5 c6 c7 c8 c9 c10 c11
    go_cut [5, 6, 38] (fun s5 s6 s wx => s5 = .string ⟨SR.toArray⟩ ∧ s6 = .string ⟨(TY ++ SR).toArray⟩ ∧ s = .bool RB ∧ Ext w wx ∧ BoxD ⟨ty, so, ru, sh, bo, cr, (h : Int), vi, fi, se, su, sc⟩ w.heap.size wx)
    case first =>
      as_aux_lemma =>
        have hD2 := hD
        have hDk := hD; obtain ⟨c0, c1, c2, c3, c4, c5, c6, c7, c8, c9, c10, c11⟩ := hDk
        dsimp only at c0 c2 c4
        have hrb := HRB.out
        by_cases hr : 0 < ru
        · obtain rfl : RB = true := by rw [hrb]; simp [hr]
          clear hrb
          go_wp2_with fail
          go_meet
          exact ⟨by first | rfl | (simp; done), by first | rfl | (simp; done), rfl, hE, hD2⟩
        · cases SR with
          | cons x r =>
            obtain rfl : RB = false := by rw [hrb]; simp [hr]
            clear hrb
            go_wp2_with fail
            go_meet
            exact ⟨by first | rfl | (simp; done), by first | rfl | (simp; done), rfl, hE, hD2⟩
          | nil =>
            rcases HBo.out with h1 | h1 | h1 <;> rcases HTy.out with h' | h' | h'
            all_goals
              rw [h1] at c4
              rw [h'] at c0
              rw [h1, h'] at hrb
              simp [hr] at hrb
              subst hrb
              clear h1 h'
              go_wp2_with fail
              go_meet
              exact ⟨by first | rfl | (simp; done), by first | rfl | (simp; done), rfl, hE, hD2⟩
    case rest =>
    obtain ⟨rfl, rfl, rfl, hE, hD⟩ := hcut
    go_upto_if 38 with fail
    go_cut [6] (fun s wx => s = .string ⟨(TY ++ SR ++ (if RB then GR else [])).toArray⟩ ∧ Ext w wx ∧ BoxD ⟨ty, so, ru, sh, bo, cr, (h : Int), vi, fi, se, su, sc⟩ w.heap.size wx)
    case first =>
      as_aux_lemma =>
        have hD2 := hD
        have hDk := hD; obtain ⟨c0, c1, c2, c3, c4, c5, c6, c7, c8, c9, c10, c11⟩ := hDk
        dsimp only at c2
        cases RB
        · go_wp2_with fail
          go_meet
          exact ⟨by simp, hE, hD2⟩
        · have z2 : ¬ 9223372036854775807 < TY.length + SR.length + GR.length := by omega
          go_wp2_with (go_at_call 28; refine (hD1.out _).mono ?_; rintro e w' ⟨rfl, hw'⟩; obtain rfl := hw'.symm)
          go_meet
          exact ⟨by simp [hcat], hE, hD2⟩
    case rest =>
    obtain ⟨rfl, hE, hD⟩ := hcut
    obtain ⟨X2, hX2⟩ : ∃ S, TY ++ SR ++ (if RB then GR else []) = S := ⟨_, rfl⟩
    have hX2l : X2.length ≤ 3 := by
      rw [← hX2]
      cases RB <;> simp <;> omega
    have HS2 : Hid (symD ⟨ty, so, ru, sh, bo, cr, (h : Int), vi, fi, se, su, sc⟩ = X2 ++ (boL bo ++ ((if 0 < sh then 45 :: GS else []) ++ (crL cr ++ (WI ++ (if 0 < sc then 64 :: GC else [])))))) := by
      rw [Hid, HS.out, ← hX2]; simp only [List.append_assoc]
    rw [hX2]
    clear hX2 z1 HRB HS
    have hDk := hD; obtain ⟨c0, c1, c2, c3, c4, c5, c6, c7, c8, c9, c10, c11⟩ := hDk
    dsimp only at c4
    go_upto_block 0 with fail
    go_cut [6] (fun s wx => s = .string ⟨(X2 ++ boL bo).toArray⟩ ∧ Ext w wx ∧ BoxD ⟨ty, so, ru, sh, bo, cr, (h : Int), vi, fi, se, su, sc⟩ w.heap.size wx)
    case first =>
      as_aux_lemma =>
        rcases HBo.out with h1 | h1 | h1
        all_goals
          first
            | (have q1 : (bo == 4) = true := by rw [h1]; rfl
               have q2 : boL bo = [70] := by rw [h1]; rfl)
            | (have q1 : (bo == 4) = false := by rw [h1]; rfl
               have q3 : (bo == 6) = true := by rw [h1]; rfl
               have q2 : boL bo = [83] := by rw [h1]; rfl)
            | (have q1 : (bo == 4) = false := by rw [h1]; rfl
               have q3 : (bo == 6) = false := by rw [h1]; rfl
               have q2 : boL bo = [] := by rw [h1]; rfl)
          clear h1
          have Q2 := Lib.hid q2
          clear q2
          go_wp2_with fail
          go_meet
          exact ⟨by rw [Q2.out]; first | done | rfl | (simp; done) | (simp [hcat]; done), hE, hD⟩
    case rest =>
    obtain ⟨rfl, hE, hD⟩ := hcut
    obtain ⟨X3, hX3⟩ : ∃ S, X2 ++ boL bo = S := ⟨_, rfl⟩
    have hX3l : X3.length ≤ 4 := by
      rw [← hX3]
      unfold boL
      repeat' split
      all_goals simp <;> omega
    have HS3 : Hid (symD ⟨ty, so, ru, sh, bo, cr, (h : Int), vi, fi, se, su, sc⟩ = X3 ++ ((if 0 < sh then 45 :: GS else []) ++ (crL cr ++ (WI ++ (if 0 < sc then 64 :: GC else []))))) := by
      rw [Hid, HS2.out, ← hX3]; simp only [List.append_assoc]
    rw [hX3]
    clear hX3 HS2 c0 c1 c2 c3 c4 c5 c6 c7 c8 c9 c10 c11
    have hDk := hD; obtain ⟨c0, c1, c2, c3, c4, c5, c6, c7, c8, c9, c10, c11⟩ := hDk
    dsimp only at c3
    go_upto_if 56 with fail
    go_cut [6] (fun s wx => s = .string ⟨(X3 ++ (if 0 < sh then 45 :: GS else [])).toArray⟩ ∧ Ext w wx ∧ BoxD ⟨ty, so, ru, sh, bo, cr, (h : Int), vi, fi, se, su, sc⟩ w.heap.size wx)
    case first =>
      as_aux_lemma =>
        by_cases k1 : 0 < sh
        · go_wp2_with (go_at_call 28; refine (hD2.out _).mono ?_; rintro e w' ⟨rfl, hw'⟩; obtain rfl := hw'.symm)
          go_meet
          exact ⟨by simp [hcat, k1], hE, hD⟩
        · go_wp2_with fail
          go_meet
          exact ⟨by simp [k1], hE, hD⟩
    case rest =>
    obtain ⟨rfl, hE, hD⟩ := hcut
    obtain ⟨X4, hX4⟩ : ∃ S, X3 ++ (if 0 < sh then 45 :: GS else []) = S := ⟨_, rfl⟩
    have hX4l : X4.length ≤ 6 := by
      rw [← hX4]
      split <;> simp <;> omega
    have HS4 : Hid (symD ⟨ty, so, ru, sh, bo, cr, (h : Int), vi, fi, se, su, sc⟩ = X4 ++ (crL cr ++ (WI ++ (if 0 < sc then 64 :: GC else [])))) := by
      rw [Hid, HS3.out, ← hX4]; simp only [List.append_assoc]
    rw [hX4]
    clear hX4 HS3 c0 c1 c2 c3 c4 c5 c6 c7 c8 c9 c10 c11
    have hDk := hD; obtain ⟨c0, c1, c2, c3, c4, c5, c6, c7, c8, c9, c10, c11⟩ := hDk
    dsimp only at c5
    go_upto_if 64 with fail
    go_cut [6] (fun s wx => s = .string ⟨(X4 ++ crL cr).toArray⟩ ∧ Ext w wx ∧ BoxD ⟨ty, so, ru, sh, bo, cr, (h : Int), vi, fi, se, su, sc⟩ w.heap.size wx)
    case first =>
      as_aux_lemma =>
        cases cr
        · go_wp2_with fail
          go_meet
          exact ⟨by simp [crL], hE, hD⟩
        · go_wp2_with fail
          go_meet
          exact ⟨by simp [crL], hE, hD⟩
    case rest =>
    obtain ⟨rfl, hE, hD⟩ := hcut
    obtain ⟨X5, hX5⟩ : ∃ S, X4 ++ crL cr = S := ⟨_, rfl⟩
    have hX5l : X5.length ≤ 7 := by
      rw [← hX5]
      unfold crL
      split <;> simp <;> omega
    have HS5 : Hid (symD ⟨ty, so, ru, sh, bo, cr, (h : Int), vi, fi, se, su, sc⟩ = X5 ++ (WI ++ (if 0 < sc then 64 :: GC else []))) := by
      rw [Hid, HS4.out, ← hX5]; simp only [List.append_assoc]
    rw [hX5]
    clear hX5 HS4 c0 c1 c2 c3 c4 c5 c6 c7 c8 c9 c10 c11
    have hDk := hD; obtain ⟨c0, c1, c2, c3, c4, c5, c6, c7, c8, c9, c10, c11⟩ := hDk
    dsimp only at c6 c7 c8 c9 c10 c11
    obtain ⟨WB, hWB⟩ : ∃ b, ((h : Int) != 0 || vi != 0 || fi != 0 || se != 0 || su) = b := ⟨_, rfl⟩
    rw [hWB] at HWI
    have HWB := Lib.hid hWB
    clear hWB
    go_upto_region 17 with fail
    go_cut [6, 88] (fun s6 s wx => s6 = .string ⟨X5.toArray⟩ ∧ s = .bool WB ∧ Ext w wx ∧ BoxD ⟨ty, so, ru, sh, bo, cr, (h : Int), vi, fi, se, su, sc⟩ w.heap.size wx)
    case first =>
      as_aux_lemma =>
        have hwb := HWB.out
        cases q1 : ((h : Int) != 0)
        · rw [q1] at hwb
          cases q2 : (vi != 0)
          · rw [q2] at hwb
            cases q3 : (fi != 0)
            · rw [q3] at hwb
              cases q4 : (se != 0)
              · rw [q4] at hwb
                simp at hwb
                subst hwb
                go_wp2_with fail
                go_meet
                exact ⟨rfl, rfl, hE, hD⟩
              · rw [q4] at hwb
                simp at hwb
                subst hwb
                go_wp2_with fail
                go_meet
                exact ⟨rfl, rfl, hE, hD⟩
            · rw [q3] at hwb
              simp at hwb
              subst hwb
              go_wp2_with fail
              go_meet
              exact ⟨rfl, rfl, hE, hD⟩
          · rw [q2] at hwb
            simp at hwb
            subst hwb
            go_wp2_with fail
            go_meet
            exact ⟨rfl, rfl, hE, hD⟩
        · rw [q1] at hwb
          simp at hwb
          subst hwb
          go_wp2_with fail
          go_meet
          exact ⟨rfl, rfl, hE, hD⟩
    case rest =>
    obtain ⟨rfl, rfl, hE, hD⟩ := hcut
    clear c0 c1 c2 c3 c4 c5 c6 c7 c8 c9 c10 c11
    have hDk := hD; obtain ⟨c0, c1, c2, c3, c4, c5, c6, c7, c8, c9, c10, c11⟩ := hDk
    dsimp only at c6 c7 c8 c9 c10 c11
    go_upto_if 88 with fail
    go_cut [6] (fun s wx => s = .string ⟨(X5 ++ WI).toArray⟩ ∧ Ext w wx ∧ BoxD ⟨ty, so, ru, sh, bo, cr, (h : Int), vi, fi, se, su, sc⟩ w.heap.size wx)
    case first =>
      as_aux_lemma =>
        cases WB
        · have Hwi : Hid (WI = []) := by rw [Hid, HWI.out]; simp
          go_wp2_with fail
          go_meet
          exact ⟨by rw [Hwi.out]; simp, hE, hD⟩
        · have hw1 : IntKind.u8.wrap ((h : Int) + 1) = (h : Int) + 1 := by rw [IntKind.wrap_u8]; omega
          have b1 : (h : Int) + 1 ≤ 11 := by omega
          have b2 : (h : Int) ≤ (h : Int) + 1 := by omega
          have b3 : h + 1 ≤ 11 := by omega
          have b4 : (0 : Int) ≤ (h : Int) + 1 := by omega
          have b5 : ((h : Int) + 1).toNat = h + 1 := by omega
          have hwi := HWI.out
          by_cases f0 : fi = 0 <;> by_cases s0 : se = 0 <;> cases su
          all_goals
            try subst f0
            try subst s0
            try have f1 : (fi != 0) = true := by simpa using f0
            try have s1 : (se != 0) = true := by simpa using s0
            try have s2 : (se == 0) = false := by simpa using s0
            have Hwi := Lib.hid hwi
            clear hwi
            go_wp2
            try go_quiet ((go_at_call 28; refine Calls.quiet_of_same (hD4.out _)))
            go_wp2_with (first | (go_at_call 28; refine (hD5.out _).mono ?_; rintro e w' ⟨rfl, hw'⟩; obtain rfl := hw'.symm) | (go_at_call 28; refine (hD6.out _).mono ?_; rintro e w' ⟨rfl, hw'⟩; obtain rfl := hw'.symm))
            go_meet
            exact ⟨by rw [Hwi.out]; simp [hcat, *], by first | exact hE | exact hE.drewN _ | exact hE.drew, by first | exact hD | exact hD.ext ((Ext.refl _).drewN _) | exact hD.ext (Ext.refl _).drew⟩
    case rest =>
    obtain ⟨rfl, hE, hD⟩ := hcut
    obtain ⟨X6, hX6⟩ : ∃ S, X5 ++ WI = S := ⟨_, rfl⟩
    have hX6l : X6.length ≤ 67 := by
      rw [← hX6]
      simp
      omega
    have HS6 : Hid (symD ⟨ty, so, ru, sh, bo, cr, (h : Int), vi, fi, se, su, sc⟩ = X6 ++ (if 0 < sc then 64 :: GC else [])) := by
      rw [Hid, HS5.out, ← hX6]; simp only [List.append_assoc]
    rw [hX6]
    clear hX6 HS5 HWI c0 c1 c2 c3 c4 c5 c6 c7 c8 c9 c10 c11
    have hDk := hD; obtain ⟨c0, c1, c2, c3, c4, c5, c6, c7, c8, c9, c10, c11⟩ := hDk
    dsimp only at c11
    by_cases k1 : 0 < sc
    · go_wp2_with (go_at_call 28; refine (hD3.out _).mono ?_; rintro e w' ⟨rfl, hw'⟩; obtain rfl := hw'.symm)
      go_ret2
      exact ⟨by rw [HP.out, HE.out, HS6.out]; simp [hcat, k1], hE⟩
    · go_wp2_with fail
      go_ret2
      exact ⟨by rw [HP.out, HE.out, HS6.out]; simp [k1], hE⟩
end Go.Proofs.YtpgacpkcchajmaaDoor

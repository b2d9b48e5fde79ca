/-
  Print of layer 7 (program).
-/
import Derived.Test.YtohoehfebphgeaaDoorNotB
import Derived.Deep.DeepCutAuto
namespace Go.Proofs.YtohoehfebphgeaaDoor
open Go.RowKit
set_option linter.unusedSimpArgs false

theorem nboxD_new (d : Dl) (w : World) (T : TypeId) : BoxD d w.heap.size (w.alloc (.cells #[.int .u8 d.ty, .int .u8 d.so, .int .i64 d.ru, .int .i64 d.sh, .int .i64 d.bo, .bool d.cr, .int .u8 d.ho, .int .i64 d.vi, .int .i64 d.fi, .int .i64 d.se, .bool d.su, .int .i64 d.sc] T)) := by
  unfold BoxD
  refine ⟨?_, ?_, ?_, ?_, ?_, ?_, ?_, ?_, ?_, ?_, ?_, ?_⟩ <;> exact Lib.cell_of_heap (heap_alloc_new w _) _
def pfx (d : Dl) : List UInt8 := tyL d.ty ++ srL d.ty d.so
theorem ruB_of {d : Dl} (h : 0 < d.ru) : ruB d = true := by simp [ruB, h]

set_option maxHeartbeats 16000000 in
theorem print_any (d : Dl) (hw : d.Wf) (w : World) (hX : TX w) : Calls Tryd.prog 4 #[d.v] w fun e w' => e = .returned (.tuple #[.string ⟨(prS d).toArray⟩, .int .i64 (ckD d)]) ∧ Ext w w' := by
  have HX := Lib.hid hX
  clear hX
  by_cases he : ckD d = 0
  rotate_left
  · have HP : Hid (prS d = []) := by rw [Hid, prS, if_neg he]
    obtain ⟨E, hE⟩ : ∃ E, ckD d = E := ⟨_, rfl⟩
    rw [hE] at he
    have HE := Lib.hid hE
    have HC : Hid (∀ W, Calls Tryd.prog 10 #[d.v] W fun e w' => e = .returned (.int .i64 E) ∧ Ext W w') := fun W => by rw [← hE]; exact check_any d W
    clear hE
    obtain ⟨ty, so, ru, sh, bo, cr, ho, vi, fi, se, su, sc⟩ := d
    unfold Dl.v at HC ⊢
    dsimp only at HC ⊢
    go_enter Tryd.func4, Tryd.ntmps4
    go_wp2_with (first | (go_at_call 10; refine (HC.out _).mono ?_; rintro e w1 ⟨rfl, hb1⟩))
    go_ret2
    exact ⟨by rw [HP.out, HE.out]; rfl, (by repeat (first | exact Ext.refl _ | refine Ext.setCell ?_ (by first | exact Nat.le_refl _ | (simp; done) | (simp; omega)) _ | refine Ext.drew ?_ | refine Ext.drewN ?_ _ | refine Ext.alloc ?_ _ | refine Ext.trans ?_ hb1))⟩
  · have hok := ck_ok he hw
    have HP : Hid (prS d = symD d) := by rw [Hid, prS, if_pos he]
    have HE := Lib.hid he
    have HC : Hid (∀ W, Calls Tryd.prog 10 #[d.v] W fun e w' => e = .returned (.int .i64 0) ∧ Ext W w') := fun W => by rw [← he]; exact check_any d W
    obtain ⟨SR, hSR⟩ : ∃ S, srL d.ty d.so = S := ⟨_, rfl⟩
    have HSo : Hid (∀ W, Calls Tryd.prog 11 #[d.v] W fun e w' => e = .returned (.string ⟨SR.toArray⟩) ∧ Ext W w') := fun W => by rw [← hSR]; exact source_any d hok W
    obtain ⟨WI, hWI⟩ : ∃ S, wiL d = S := ⟨_, rfl⟩
    have HWi : Hid (∀ W, TX W → Calls Tryd.prog 13 #[d.v] W fun e w' => e = .returned (.string ⟨WI.toArray⟩) ∧ Ext W w') := fun W h => by rw [← hWI]; exact wicket_any d hok W h
    obtain ⟨RB, hRB⟩ : ∃ b, ruB d = b := ⟨_, rfl⟩
    obtain ⟨GR, hGR⟩ : ∃ S, dgL d.ru = S := ⟨_, rfl⟩
    obtain ⟨GS, hGS⟩ : ∃ S, dgL d.sh = S := ⟨_, rfl⟩
    obtain ⟨GC, hGC⟩ : ∃ S, dgL d.sc = S := ⟨_, rfl⟩
    have hD1 : Hid (∀ W, Calls Tryd.prog 12 #[.int .i64 d.ru] W fun e w' => e = .returned (.string ⟨GR.toArray⟩) ∧ W = w') := fun W => by rw [← hGR]; exact digit_any _ hok.ru.1 (by have := hok.ru.2; omega) W
    have hD2 : Hid (∀ W, Calls Tryd.prog 12 #[.int .i64 d.sh] W fun e w' => e = .returned (.string ⟨GS.toArray⟩) ∧ W = w') := fun W => by rw [← hGS]; exact digit_any _ hok.sh.1 (by have := hok.ru.2; have := hok.sh.2; omega) W
    have hD3 : Hid (∀ W, Calls Tryd.prog 12 #[.int .i64 d.sc] W fun e w' => e = .returned (.string ⟨GC.toArray⟩) ∧ W = w') := fun W => by rw [← hGC]; exact digit_any _ hok.sc.1 (by have := hok.sc.2; omega) W
    have hSRl : SR.length ≤ 1 := by
      rw [← hSR]; unfold srL; repeat' split
      all_goals simp
    have hGRl : GR.length = 1 := by rw [← hGR]; rfl
    have hGSl : GS.length = 1 := by rw [← hGS]; rfl
    have hGCl : GC.length = 1 := by rw [← hGC]; rfl
    have hWIl : WI.length ≤ 60 := by
      rw [← hWI]
      have l1 := itoa_small hok.fi
      have l2 := itoa_small hok.se
      unfold wiL wiG dgL
      repeat' split
      all_goals simp <;> omega
    have HS : Hid (symD d = tyL d.ty ++ (SR ++ ((if RB then GR else []) ++ (boL d.bo ++ ((if 0 < d.sh then 45 :: GS else []) ++ (crL d.cr ++ (WI ++ (if 0 < d.sc then 64 :: GC else [])))))))) := by
      rw [Hid, symD, hSR, hWI, ruL, hRB, hGR, shL, hGS, scL, hGC]
    have HRB : Hid (RB = (decide (0 < d.ru) || (SR.isEmpty && d.bo == 0 && d.ty != 2))) := by rw [Hid, ← hRB, ruB, hSR]
    have HOK := Lib.hid hok
    clear he hw hok hSR hWI hRB hGR hGS hGC
    obtain ⟨ty, so, ru, sh, bo, cr, ho, vi, fi, se, su, sc⟩ := d
    unfold Dl.v at HC HSo HWi ⊢
    dsimp only at HC HSo HWi hD1 hD2 hD3 HS HRB ⊢
    have hcat : ∀ a b : List UInt8, (⟨a.toArray⟩ : ByteArray) ++ ⟨b.toArray⟩ = ⟨(a ++ b).toArray⟩ := fun a b => by apply ByteArray.ext; simp
    have hty : ty = 1 ∨ ty = 2 ∨ ty = 3 := HOK.out.ty
    have hbo : bo = 0 ∨ bo = 4 ∨ bo = 6 := HOK.out.bo
    have hTYl : (tyL ty).length ≤ 1 := by unfold tyL; repeat' split
                                          all_goals simp
    obtain ⟨TY, hTY⟩ : ∃ S, tyL ty = S := ⟨_, rfl⟩
    rw [hTY] at HS hTYl
    have HTY := Lib.hid hTY
    have HTy := Lib.hid hty
    have HBo := Lib.hid hbo
    clear hTY hty hbo
    have z1 : ¬ 9223372036854775807 < TY.length + SR.length := by omega
    go_enter Tryd.func4, Tryd.ntmps4
    go_upto_region 4 with (go_at_call 10; refine (HC.out _).mono ?_; rintro e w1 ⟨rfl, hb1⟩)
    have hD := (nboxD_new ⟨ty, so, ru, sh, bo, cr, ho, vi, fi, se, su, sc⟩ w 29).ext hb1
    have hE1 : Ext w w1 := (by repeat (first | exact Ext.refl _ | refine Ext.setCell ?_ (by first | exact Nat.le_refl _ | (simp; done) | (simp; omega)) _ | refine Ext.drew ?_ | refine Ext.drewN ?_ _ | refine Ext.alloc ?_ _ | refine Ext.trans ?_ hb1))
    clear HC
    go_cut [5] (fun s wx => s = .string ⟨TY.toArray⟩ ∧ Ext w wx ∧ BoxD ⟨ty, so, ru, sh, bo, cr, ho, vi, fi, se, su, sc⟩ w.heap.size wx)
    case first =>
      have hDk := hD; obtain ⟨c0, -⟩ := hDk
      rcases HTy.out with h | h | h
      all_goals
        have hT2 := HTY.out
        rw [h] at hT2 c0
        clear HTY
        simp [tyL] at hT2
        subst hT2
        have l1 : w.heap.size < w1.heap.size := hb1.lt (by simp)
        dsimp only at c0
        go_wp2_with fail
        go_meet
        exact ⟨rfl, (by repeat (first | exact Ext.refl _ | refine Ext.setCell ?_ (by first | exact Nat.le_refl _ | (simp; done) | (simp; omega)) _ | refine Ext.drew ?_ | refine Ext.drewN ?_ _ | refine Ext.alloc ?_ _ | refine Ext.trans ?_ hE1)), (nboxD_new ⟨ty, so, ru, sh, bo, cr, ho, vi, fi, se, su, sc⟩ w 29).ext (by first | exact hb1.alloc _ | exact (hb1.alloc _).drewN _)⟩
    case rest =>
    obtain ⟨rfl, hE, hD⟩ := hcut
    have hDk := hD; obtain ⟨c0, c1, c2, c3, c4, c5, c6, c7, c8, c9, c10, c11⟩ := hDk
    go_upto_region 7 with (go_at_call 11; refine (HSo.out _).mono ?_; rintro e w2 ⟨rfl, hb2⟩)
    have hD := hD.ext hb2
    have hE2 := hE.trans hb2
    clear c0 c1 c2 c3 c4 c5 c6 c7 c8 c9 c10 c11
    go_cut [5, 6, 39] (fun s5 s6 s wx => s5 = .string ⟨(TY ++ SR).toArray⟩ ∧ s6 = .string ⟨SR.toArray⟩ ∧ s = .bool RB ∧ Ext w wx ∧ BoxD ⟨ty, so, ru, sh, bo, cr, ho, vi, fi, se, su, sc⟩ w.heap.size wx)
    case first =>
      have hD2 := hD
      have hDk := hD; obtain ⟨c0, c1, c2, c3, c4, c5, c6, c7, c8, c9, c10, c11⟩ := hDk
      dsimp only at c0 c2 c4
      have hrb := HRB.out
      by_cases hr : 0 < ru
      · obtain rfl : RB = true := by rw [hrb]; simp [hr]
        clear hrb
        go_wp2_with fail
        go_meet
        exact ⟨by first | rfl | (simp; done), by first | rfl | (simp; done), rfl, hE2, hD2⟩
      · cases SR with
        | cons x r =>
          obtain rfl : RB = false := by rw [hrb]; simp [hr]
          clear hrb
          go_wp2_with fail
          go_meet
          exact ⟨by first | rfl | (simp; done), by first | rfl | (simp; done), rfl, hE2, hD2⟩
        | nil =>
          rcases HBo.out with h | h | h <;> rcases HTy.out with h' | h' | h'
          all_goals
            rw [h] at c4
            rw [h'] at c0
            rw [h, h'] at hrb
            simp [hr] at hrb
            subst hrb
            clear h h'
            go_wp2_with fail
            go_meet
            exact ⟨by first | rfl | (simp; done), by first | rfl | (simp; done), rfl, hE2, hD2⟩
    case rest =>
    obtain ⟨rfl, rfl, rfl, hE, hD⟩ := hcut
    go_upto_if 39 with fail
    go_cut [5] (fun s wx => s = .string ⟨(TY ++ SR ++ (if RB then GR else [])).toArray⟩ ∧ Ext w wx ∧ BoxD ⟨ty, so, ru, sh, bo, cr, ho, vi, fi, se, su, sc⟩ w.heap.size wx)
    case first =>
      have hD2 := hD
      have hDk := hD; obtain ⟨c0, c1, c2, c3, c4, c5, c6, c7, c8, c9, c10, c11⟩ := hDk
      dsimp only at c2
      cases RB
      · go_wp2_with fail
        go_meet
        exact ⟨by simp, hE, hD2⟩
      · have z2 : ¬ 9223372036854775807 < TY.length + SR.length + GR.length := by omega
        go_wp2_with (go_at_call 12; refine (hD1.out _).mono ?_; rintro e w' ⟨rfl, rfl⟩)
        go_meet
        exact ⟨by simp [hcat], hE, hD2⟩
    case rest =>
    obtain ⟨rfl, hE, hD⟩ := hcut
    obtain ⟨X2, hX2⟩ : ∃ S, TY ++ SR ++ (if RB then GR else []) = S := ⟨_, rfl⟩
    have hX2l : X2.length ≤ 3 := by
      rw [← hX2]
      cases RB <;> simp <;> omega
    have HS2 : Hid (symD ⟨ty, so, ru, sh, bo, cr, ho, vi, fi, se, su, sc⟩ = X2 ++ (boL bo ++ ((if 0 < sh then 45 :: GS else []) ++ (crL cr ++ (WI ++ (if 0 < sc then 64 :: GC else [])))))) := by
      rw [Hid, HS.out, ← hX2]; simp only [List.append_assoc]
    rw [hX2]
    clear hX2 z1 HRB
    have hDk := hD; obtain ⟨c0, c1, c2, c3, c4, c5, c6, c7, c8, c9, c10, c11⟩ := hDk
    dsimp only at c0 c1 c2 c3 c4 c5 c6 c7 c8 c9 c10 c11
    have hsh0 := HOK.out.sh
    rcases HBo.out with h | h | h <;> by_cases k1 : 0 < sh <;> cases cr <;> by_cases k2 : 0 < sc
    all_goals
      subst h
      have hs3 := HS2.out
      simp [boL, crL, k1, k2] at hs3
      have HS4 := Lib.hid hs3
      clear hs3 hsh0
      go_wp2_with (first | (go_at_call 12; refine (hD2.out _).mono ?_; rintro e w' ⟨rfl, rfl⟩) | ((fail_if_success (have hzz := hb3)); go_at_call 13; refine (HWi.out _ (HX.out.ext hE)).mono ?_; rintro e w3 ⟨rfl, hb3⟩; have k11 := hb3.keep c11; clear hD2) | (go_at_call 12; refine (hD3.out _).mono ?_; rintro e w' ⟨rfl, rfl⟩))
      go_ret2
      exact ⟨by rw [HP.out, HE.out, HS4.out]; simp, hE.trans hb3⟩

end Go.Proofs.YtohoehfebphgeaaDoor

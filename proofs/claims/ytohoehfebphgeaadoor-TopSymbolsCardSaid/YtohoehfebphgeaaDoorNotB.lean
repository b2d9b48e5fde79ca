/-
  The parts of a symbol (layer 7, program): digit, source, wicket; Print.
-/
import Derived.Test.YtohoehfebphgeaaDoorNotA
import Derived.Test.YtohoehfebphgeaaDoorNumF
import Derived.Deep.DeepCutAuto
namespace Go.Proofs.YtohoehfebphgeaaDoor
open Go.RowKit
set_option linter.unusedSimpArgs false

theorem digit_any (n : Int) (h0 : 0 ≤ n) (h9 : n ≤ 9) (w : World) : Calls Tryd.prog 12 #[.int .i64 n] w fun e w' => e = .returned (.string ⟨(dgL n).toArray⟩) ∧ w = w' := by
  obtain ⟨m, rfl⟩ := Int.eq_ofNat_of_zero_le h0
  have he := dg_enc m (by omega)
  obtain ⟨C, hC⟩ : ∃ C : UInt8, UInt8.ofNat (48 + m) = C := ⟨_, rfl⟩
  rw [hC] at he
  have HV : Hid (dgL (m : Int) = [C]) := by rw [Hid, dgL, Int.toNat_natCast, hC]
  clear hC
  have e1 : IntKind.i32.wrap (48 + (m : Int)) = 48 + (m : Int) := by rw [IntKind.wrap_i32]; omega
  go_enter Tryd.func12, Tryd.ntmps12
  go_wp2
  go_ret
  exact ⟨by rw [HV.out]; rfl, rfl⟩

set_option maxHeartbeats 4000000 in
theorem source_any (d : Dl) (hd : d.Ok) (w : World) : Calls Tryd.prog 11 #[d.v] w fun e w' => e = .returned (.string ⟨(srL d.ty d.so).toArray⟩) ∧ Ext w w' := by
  obtain ⟨ty, so, ru, sh, bo, cr, ho, vi, fi, se, su, sc⟩ := d
  obtain ⟨h1, h2, -⟩ := hd
  unfold Dl.v
  dsimp only at h1 h2 ⊢
  rcases h1 with rfl | rfl | rfl <;> rcases h2 with rfl | rfl | rfl | rfl
  all_goals
    go_enter Tryd.func11, Tryd.ntmps11
    go_wp2
    go_ret
    exact ⟨rfl, (by repeat (first | exact Ext.refl _ | refine Ext.setCell ?_ (by first | exact Nat.le_refl _ | (simp; done) | (simp; omega)) _ | refine Ext.drew ?_ | refine Ext.drewN ?_ _ | refine Ext.alloc ?_ _))⟩

theorem dec_any (n : Int) (h0 : -9223372036854775808 ≤ n) (h1 : n ≤ 9223372036854775807) (w : World) (h : TX w) : Calls Tryd.prog 25 #[.int .i64 n] w fun e w' => e = .returned (.string ⟨(Lib.itoa n).toArray⟩) ∧ Ext w w' := by
  have H := Lib.hid h
  clear h
  go_enter Tryd.func25, Tryd.ntmps25
  go_wp2_with (go_at_call 32; refine (fmt_any n h0 h1 _ H.out).mono ?_; rintro e w1 ⟨rfl, hb1⟩)
  go_ret
  exact ⟨rfl, hb1⟩

theorem ext_let : ∀ h : Nat, h ≤ 10 → (⟨#[78, 66, 67, 76, 83, 72, 82, 84, 79, 77, 81]⟩ : ByteArray).extract h (h + 1) = ⟨[ltL.getD h 0].toArray⟩ := by decide
theorem digit_q (n : Int) (h0 : 0 ≤ n) (h9 : n ≤ 9) (w : World) : Calls Tryd.prog 12 #[.int .i64 n] w fun e w' => e = .returned (.string ⟨(dgL n).toArray⟩) ∧ w' = w := (digit_any n h0 h9 w).mono fun _ _ h => ⟨h.1, h.2.symm⟩
theorem itoa_small {n : Int} (h : 0 ≤ n ∧ n ≤ 11) : (Lib.itoa n).length ≤ 21 := Lib.itoa_length_le _ (by omega) (by omega)

set_option maxHeartbeats 16000000 in
theorem wicket_any (d : Dl) (hd : d.Ok) (w : World) (hX : TX w) : Calls Tryd.prog 13 #[d.v] w fun e w' => e = .returned (.string ⟨(wiL d).toArray⟩) ∧ Ext w w' := by
  obtain ⟨ty, so, ru, sh, bo, cr, ho, vi, fi, se, su, sc⟩ := d
  have HD := Lib.hid hd
  have HX := Lib.hid hX
  clear hX
  obtain ⟨-, -, -, -, -, h6, h7, h8, h9, -⟩ := hd
  unfold Dl.v
  dsimp only at h6 h7 h8 h9 ⊢
  have hcat : ∀ a b : List UInt8, (⟨a.toArray⟩ : ByteArray) ++ ⟨b.toArray⟩ = ⟨(a ++ b).toArray⟩ := fun a b => by apply ByteArray.ext; simp
  obtain ⟨h, rfl⟩ := Int.eq_ofNat_of_zero_le h6.1
  have hh : h ≤ 10 := by omega
  have hle := ext_let h hh
  have hw1 : IntKind.u8.wrap ((h : Int) + 1) = (h : Int) + 1 := by rw [IntKind.wrap_u8]; omega
  have b1 : (h : Int) + 1 ≤ 11 := by omega
  have b2 : (h : Int) ≤ (h : Int) + 1 := by omega
  have b3 : h + 1 ≤ 11 := by omega
  have b4 : (0 : Int) ≤ (h : Int) + 1 := by omega
  have b5 : ((h : Int) + 1).toNat = h + 1 := by omega
  have lF := itoa_small h8
  have lS := itoa_small h9
  obtain ⟨lt, hlt⟩ : ∃ c : UInt8, ltL.getD h 0 = c := ⟨_, rfl⟩
  rw [hlt] at hle
  obtain ⟨W, hW⟩ : ∃ W, wiL ⟨ty, so, ru, sh, bo, cr, (h : Int), vi, fi, se, su, sc⟩ = W := ⟨_, rfl⟩
  have HW := Lib.hid hW
  simp only [wiL, wiF, wiG, Int.toNat_natCast, hlt] at hW
  obtain ⟨G, hG⟩ : ∃ G, dgL vi = G := ⟨_, rfl⟩
  have hGl : G.length = 1 := by rw [← hG]; rfl
  rw [hG] at hW
  have HDG : Hid (∀ W, Calls Tryd.prog 12 #[.int .i64 vi] W fun e w' => e = .returned (.string ⟨G.toArray⟩) ∧ w' = W) := fun W => by rw [← hG]; exact digit_q vi (by omega) (by omega) W
  obtain ⟨IF, hIF⟩ : ∃ G, Lib.itoa fi = G := ⟨_, rfl⟩
  obtain ⟨IS, hIS⟩ : ∃ G, Lib.itoa se = G := ⟨_, rfl⟩
  rw [hIF] at lF hW
  rw [hIS] at lS hW
  have HIF := Lib.hid hIF
  have HIS := Lib.hid hIS
  clear hlt hG hIF hIS HD
  by_cases f0 : fi = 0 <;> by_cases s0 : se = 0 <;> cases su <;> by_cases k0 : h = 0 <;> by_cases v0 : vi = 0
  all_goals
    try subst f0
    try subst s0
    try subst k0
    try subst v0
    try have f1 : (fi != 0) = true := by simpa using f0
    try have f2 : (fi == 0) = false := by simpa using f0
    try have s1 : (se != 0) = true := by simpa using s0
    try have s2 : (se == 0) = false := by simpa using s0
    try have k1 : (((h : Nat) : Int) == 0) = false := by simpa using k0
    try have v1 : (vi == 0) = false := by simpa using v0
    try simp only [Nat.zero_add] at hle
    simp [*] at hW
    try subst hW
    go_enter Tryd.func13, Tryd.ntmps13
    go_wp2
    try go_quiet ((go_at_call 12; refine Calls.quiet_of_same (HDG.out _)))
    go_wp2_with (first | ((fail_if_success (have hzz := hb1)); go_at_call 25; refine (dec_any _ (by omega) (by omega) _ (HX.out.ext (by repeat (first | exact Ext.refl _ | refine Ext.setCell ?_ (by first | exact Nat.le_refl _ | (simp; done) | (simp; omega)) _ | refine Ext.drew ?_ | refine Ext.drewN ?_ _ | refine Ext.alloc ?_ _)))).mono ?_; rintro e w1 ⟨rfl, hb1⟩; rw [HIF.out]; obtain ⟨hc1, hf1⟩ := hb1.cells; have l1 : w.heap.size < w1.heap.size := hb1.lt (by simp)) | ((fail_if_success (have hzz := hb2)); go_at_call 25; refine (dec_any _ (by omega) (by omega) _ (HX.out.ext (by repeat (first | exact Ext.refl _ | refine Ext.setCell ?_ (by first | exact Nat.le_refl _ | (simp; done) | (simp; omega)) _ | refine Ext.drew ?_ | refine Ext.drewN ?_ _ | refine Ext.alloc ?_ _ | refine Ext.trans ?_ hb1)))).mono ?_; rintro e w2 ⟨rfl, hb2⟩; rw [HIS.out]; obtain ⟨hc2, hf2⟩ := hb2.cells; have l2 : w.heap.size < w2.heap.size := hb2.lt (by simpa using l1)))
    go_ret
    exact ⟨by rw [HW.out]; first | done | rfl | (simp [*]; done), (by first | (repeat (first | exact Ext.refl _ | refine Ext.drewN ?_ _ | refine Ext.alloc ?_ _ | refine Ext.trans ?_ hb2 | refine Ext.trans ?_ hb1)) | (repeat (first | exact Ext.refl _ | refine Ext.drewN ?_ _ | refine Ext.alloc ?_ _ | refine Ext.trans ?_ hb1)) | (repeat (first | exact Ext.refl _ | refine Ext.drewN ?_ _ | refine Ext.alloc ?_ _)))⟩

end Go.Proofs.YtohoehfebphgeaaDoor

/-
  The reference's out (layer 7): a delivery in block q, the result's box in block r.
-/
import Derived.Test.YtpgacpkcchajmaaDoorNotU
import Derived.Test.YtpgacpkcchajmaaDoorNotV
import Derived.Test.YtpgacpkcchajmaaDoorNotX
import Derived.Test.YtpgacpkcchajmaaDoorNotG
import Derived.Deep.DeepCutAuto
import Derived.RegionTactic
import Derived.ChangeAlike
namespace Go.Proofs.YtpgacpkcchajmaaDoor
open Go.RowKit
set_option linter.unusedSimpArgs false

/-- A delivery in block q, zeros in block r; both younger than the world w0, of which nothing has turned. -/
structure Sd (w0 : World) (q r : Nat) (d : Dl) (w : World) : Prop where
  ext : Ext w0 w
  hq : w0.heap.size ≤ q
  hr : w0.heap.size ≤ r
  ne : q ≠ r
  dl : w.heap[q]? = some (.cells d.arr 26 (0, 0))
  rz : w.heap[r]? = some (.cells zD.arr 26 (0, 0))
section
variable {w0 w : World} {q r : Nat} {d : Dl}
theorem Sd.box (h : Sd w0 q r d w) : BoxD d q w := by
  unfold BoxD
  refine ⟨?_, ?_, ?_, ?_, ?_, ?_, ?_, ?_, ?_, ?_, ?_, ?_⟩ <;> exact Lib.cell_of_heap h.dl _
theorem Sd.fz (h : Sd w0 q r d w) (j : Nat) : w.frozen? ⟨q, j, none⟩ = false := by
  have := h.dl
  simp [World.frozen?, this]
theorem Sd.setD (h : Sd w0 q r d w) {j : Nat} {v : Value} {d' : Dl} (hv : d.arr.setIfInBounds j v = d'.arr) : Sd w0 q r d' (w.setCell ⟨q, j, none⟩ v) where
  ext := h.ext.setCell h.hq _
  hq := h.hq
  hr := h.hr
  ne := h.ne
  rz := by rw [Below.heap_setCell _ _ _ _ (show r ≠ q from fun e => h.ne e.symm)]; exact h.rz
  dl := by rw [← hv]; simp [World.setCell, Array.getElem?_modify, h.dl]
theorem Sd.grow (h : Sd w0 q r d w) {w' : World} (x : Ext w w') : Sd w0 q r d w' where
  ext := h.ext.trans x
  hq := h.hq
  hr := h.hr
  ne := h.ne
  rz := (x.block r (Array.getElem?_eq_some_iff.1 h.rz).1).trans h.rz
  dl := (x.block q (Array.getElem?_eq_some_iff.1 h.dl).1).trans h.dl
theorem Sd.drew (h : Sd w0 q r d w) : Sd w0 q r d w.drew := h.grow (Ext.drew (Ext.refl _))
theorem Sd.drewN (h : Sd w0 q r d w) (n : Nat) : Sd w0 q r d (w.drewN n) := h.grow (Ext.drewN (Ext.refl _) n)
end
theorem sd_new (d : Dl) (w : World) : Sd w w.heap.size (w.heap.size + 1) d ((w.alloc (.cells #[.int .u8 d.ty, .int .u8 d.so, .int .i64 d.ru, .int .i64 d.sh, .int .i64 d.bo, .bool d.cr, .int .u8 d.ho, .int .i64 d.vi, .int .i64 d.fi, .int .i64 d.se, .bool d.su, .int .i64 d.sc] 26)).alloc (.cells #[.int .u8 0, .int .u8 0, .int .i64 0, .int .i64 0, .int .i64 0, .bool false, .int .u8 0, .int .i64 0, .int .i64 0, .int .i64 0, .bool false, .int .i64 0] 26)) where
  ext := ((Ext.refl _).alloc _).alloc _
  hq := by simp
  hr := by simp
  ne := by omega
  dl := (Below.heap_alloc _ _ _ (by simp)).trans (heap_alloc_new w _)
  rz := by
    have h1 := heap_alloc_new (w.alloc (.cells #[.int .u8 d.ty, .int .u8 d.so, .int .i64 d.ru, .int .i64 d.sh, .int .i64 d.bo, .bool d.cr, .int .u8 d.ho, .int .i64 d.vi, .int .i64 d.fi, .int .i64 d.se, .bool d.su, .int .i64 d.sc] 26)) (.cells #[.int .u8 0, .int .u8 0, .int .i64 0, .int .i64 0, .int .i64 0, .bool false, .int .u8 0, .int .i64 0, .int .i64 0, .int .i64 0, .bool false, .int .i64 0] 26)
    have e : (w.alloc (.cells #[.int .u8 d.ty, .int .u8 d.so, .int .i64 d.ru, .int .i64 d.sh, .int .i64 d.bo, .bool d.cr, .int .u8 d.ho, .int .i64 d.vi, .int .i64 d.fi, .int .i64 d.se, .bool d.su, .int .i64 d.sc] 26)).heap.size = w.heap.size + 1 := by simp
    rw [e] at h1
    exact h1
theorem ltr_at : ∀ k : Nat, k < 11 → ∀ h, (⟨#[78, 66, 67, 76, 83, 72, 82, 84, 79, 77, 81]⟩ : ByteArray)[k]'h = ltL.getD k 0 := by
  intro k hk h
  have : k = 0 ∨ k = 1 ∨ k = 2 ∨ k = 3 ∨ k = 4 ∨ k = 5 ∨ k = 6 ∨ k = 7 ∨ k = 8 ∨ k = 9 ∨ k = 10 := by omega
  rcases this with rfl | rfl | rfl | rfl | rfl | rfl | rfl | rfl | rfl | rfl | rfl <;> rfl
theorem tail_ext (L : List UInt8) : (⟨L.toArray⟩ : ByteArray).extract 1 L.length = ⟨L.tail.toArray⟩ := by
  rw [drop_ext, List.drop_one]
theorem hd_pos {R : List UInt8} {c : UInt8} (h : hdB R c = true) : 0 < R.length := by
  cases R with
  | nil => cases h
  | cons x t => simp

set_option maxRecDepth 20000 in
set_option maxHeartbeats 16000000 in
theorem rout_any (d : Dl) (hho : d.ho = 0) (hsu : d.su = false) (R : List UInt8) (hl : R.length ≤ 9223372036854775807) (w : World) :
    Calls Tryd.prog 48 #[d.v, .string ⟨R.toArray⟩] w fun e w' => e = .returned (.tuple #[(ouR R d).2.v, .string ⟨(ouR R d).1.toArray⟩]) ∧ Ext w w' := by
  rw [show d.v = .agg #[.int .u8 d.ty, .int .u8 d.so, .int .i64 d.ru, .int .i64 d.sh, .int .i64 d.bo, .bool d.cr, .int .u8 d.ho, .int .i64 d.vi, .int .i64 d.fi, .int .i64 d.se, .bool d.su, .int .i64 d.sc] from rfl]
  have HHO := Lib.hid hho
  have HSU := Lib.hid hsu
  clear hho hsu
  go_enter Tryd.func48, Tryd.ntmps48
  go_wp2
  have hS0 := sd_new d w
  obtain ⟨W, hW⟩ : ∃ X, ((w.alloc (.cells #[.int .u8 d.ty, .int .u8 d.so, .int .i64 d.ru, .int .i64 d.sh, .int .i64 d.bo, .bool d.cr, .int .u8 d.ho, .int .i64 d.vi, .int .i64 d.fi, .int .i64 d.se, .bool d.su, .int .i64 d.sc] 26)).alloc (.cells #[.int .u8 0, .int .u8 0, .int .i64 0, .int .i64 0, .int .i64 0, .bool false, .int .u8 0, .int .i64 0, .int .i64 0, .int .i64 0, .bool false, .int .i64 0] 26)) = X := ⟨_, rfl⟩
  rw [hW] at hS0 ⊢
  clear hW
  obtain ⟨q, hq⟩ : ∃ q, w.heap.size = q := ⟨_, rfl⟩
  rw [hq] at hS0 ⊢
  clear hq
  obtain ⟨r, hr⟩ : ∃ r, q + 1 = r := ⟨_, rfl⟩
  rw [hr] at hS0 ⊢
  clear hr
  have hqr := hS0.ne
  have hrq : r ≠ q := fun e => hqr e.symm
  have HS0 := Lib.hid hS0
  clear hS0
  go_loopw [7] (fun i wr => ∃ k : Nat, k ≤ 11 ∧ i = .int .i64 k ∧ Sd w q r { d with ho := hwN R k } wr) (fun i _ => 11 - (intOf i).toNat)
  case atStart => exact ⟨0, by omega, rfl, by have e : ({ d with ho := hwN R 0 } : Dl) = d := (by rw [hwN, ← HHO.out]); rw [e]; exact HS0.out⟩
  case round =>
    obtain ⟨k, hk, rfl, hS⟩ := hrel
    obtain ⟨b0, b1, b2, b3, b4, b5, b6, b7, b8, b9, b10, b11⟩ := hS.box; have z0 := hS.fz 0; have z1 := hS.fz 1; have z2 := hS.fz 2; have z3 := hS.fz 3; have z4 := hS.fz 4; have z5 := hS.fz 5; have z6 := hS.fz 6; have z7 := hS.fz 7; have z8 := hS.fz 8; have z9 := hS.fz 9; have z10 := hS.fz 10; have z11 := hS.fz 11; (try dsimp only at b0 b1 b2 b3 b4 b5 b6 b7 b8 b9 b10 b11)
    have HS := Lib.hid hS
    by_cases hlt : k < 11
    · have hx := ltr_at k hlt
      have hw8 : IntKind.u8.wrap (k : Int) = (k : Int) := by rw [IntKind.wrap_u8]; omega
      have hv : hwN R (k + 1) = if hdB R (ltL.getD k 0) then (k : Int) else hwN R k := rfl
      clear hS
      obtain ⟨lt, hlt0⟩ : ∃ c : UInt8, ltL.getD k 0 = c := ⟨_, rfl⟩
      rw [hlt0] at hx hv
      clear hlt0
      rcases and1 (hdB R lt) with b | b
      · rw [b] at hv
        have HV := Lib.hid hv
        have HB := Lib.hid b
        clear hv b
        go_wp2_with (go_at_call 46; refine (has_any lt _ _).mono ?_; rintro e w' ⟨rfl, hw'⟩; obtain rfl := hw'.symm; rw [HB.out])
        go_roundw
        case rel => exact ⟨k + 1, by omega, by go_num, by rw [HV.out]; exact HS.out⟩
        case measure => simp [intOf]; omega
      · rw [b] at hv
        have HV := Lib.hid hv
        have HB := Lib.hid b
        clear hv b
        go_wp2_with (go_at_call 46; refine (has_any lt _ _).mono ?_; rintro e w' ⟨rfl, hw'⟩; obtain rfl := hw'.symm; rw [HB.out])
        go_roundw
        case rel => exact ⟨k + 1, by omega, by go_num, by rw [HV.out]; exact HS.out.setD (j := 6) rfl⟩
        case measure => simp [intOf]; omega
    · obtain rfl : k = 11 := by omega
      clear hlt hk
      clear b0 b1 b2 b3 b4 b5 b6 b7 b8 b9 b10 b11 z0 z1 z2 z3 z4 z5 z6 z7 z8 z9 z10 z11
      by_cases hne : R = []
      · subst hne
        have HV : Hid (ouR [] d = ([], { d with ho := hwN [] 11 })) := rfl
        obtain ⟨D, hD⟩ : ∃ D : Dl, { d with ho := hwN [] 11 } = D := ⟨_, rfl⟩
        rw [hD] at HS hS HV
        clear hD
        obtain ⟨b0, b1, b2, b3, b4, b5, b6, b7, b8, b9, b10, b11⟩ := hS.box; have z0 := hS.fz 0; have z1 := hS.fz 1; have z2 := hS.fz 2; have z3 := hS.fz 3; have z4 := hS.fz 4; have z5 := hS.fz 5; have z6 := hS.fz 6; have z7 := hS.fz 7; have z8 := hS.fz 8; have z9 := hS.fz 9; have z10 := hS.fz 10; have z11 := hS.fz 11; (try dsimp only at b0 b1 b2 b3 b4 b5 b6 b7 b8 b9 b10 b11)
        obtain ⟨⟨r0, r1, r2, r3, r4, r5, r6, r7, r8, r9, r10, r11⟩, rz⟩ := zbox_fz hS.rz; have y0 := rz 0; have y1 := rz 1; have y2 := rz 2; have y3 := rz 3; have y4 := rz 4; have y5 := rz 5; have y6 := rz 6; have y7 := rz 7; have y8 := rz 8; have y9 := rz 9; have y10 := rz 10; have y11 := rz 11; clear rz
        clear hS
        go_wp2
        have hB : ((((((((((((wr.setCell ⟨r, 0, none⟩ (.int .u8 D.ty)).setCell ⟨r, 1, none⟩ (.int .u8 D.so)).setCell ⟨r, 2, none⟩ (.int .i64 D.ru)).setCell ⟨r, 3, none⟩ (.int .i64 D.sh)).setCell ⟨r, 4, none⟩ (.int .i64 D.bo)).setCell ⟨r, 5, none⟩ (.bool D.cr)).setCell ⟨r, 6, none⟩ (.int .u8 D.ho)).setCell ⟨r, 7, none⟩ (.int .i64 D.vi)).setCell ⟨r, 8, none⟩ (.int .i64 D.fi)).setCell ⟨r, 9, none⟩ (.int .i64 D.se)).setCell ⟨r, 10, none⟩ (.bool D.su)).setCell ⟨r, 11, none⟩ (.int .i64 D.sc)).heap[r]? = some (.cells (Dl.arr D) 26 (0, 0)) := set12 wr r _ D HS.out.rz
        have hXE : Ext w ((((((((((((wr.setCell ⟨r, 0, none⟩ (.int .u8 D.ty)).setCell ⟨r, 1, none⟩ (.int .u8 D.so)).setCell ⟨r, 2, none⟩ (.int .i64 D.ru)).setCell ⟨r, 3, none⟩ (.int .i64 D.sh)).setCell ⟨r, 4, none⟩ (.int .i64 D.bo)).setCell ⟨r, 5, none⟩ (.bool D.cr)).setCell ⟨r, 6, none⟩ (.int .u8 D.ho)).setCell ⟨r, 7, none⟩ (.int .i64 D.vi)).setCell ⟨r, 8, none⟩ (.int .i64 D.fi)).setCell ⟨r, 9, none⟩ (.int .i64 D.se)).setCell ⟨r, 10, none⟩ (.bool D.su)).setCell ⟨r, 11, none⟩ (.int .i64 D.sc)) := ext12 HS.out.ext HS.out.hr D
        obtain ⟨WX, hWX⟩ : ∃ X, ((((((((((((wr.setCell ⟨r, 0, none⟩ (.int .u8 D.ty)).setCell ⟨r, 1, none⟩ (.int .u8 D.so)).setCell ⟨r, 2, none⟩ (.int .i64 D.ru)).setCell ⟨r, 3, none⟩ (.int .i64 D.sh)).setCell ⟨r, 4, none⟩ (.int .i64 D.bo)).setCell ⟨r, 5, none⟩ (.bool D.cr)).setCell ⟨r, 6, none⟩ (.int .u8 D.ho)).setCell ⟨r, 7, none⟩ (.int .i64 D.vi)).setCell ⟨r, 8, none⟩ (.int .i64 D.fi)).setCell ⟨r, 9, none⟩ (.int .i64 D.se)).setCell ⟨r, 10, none⟩ (.bool D.su)).setCell ⟨r, 11, none⟩ (.int .i64 D.sc)) = X := ⟨_, rfl⟩
        rw [hWX] at hB hXE ⊢
        clear hWX
        clear b0 b1 b2 b3 b4 b5 b6 b7 b8 b9 b10 b11 z0 z1 z2 z3 z4 z5 z6 z7 z8 z9 z10 z11
        clear r0 r1 r2 r3 r4 r5 r6 r7 r8 r9 r10 r11 y0 y1 y2 y3 y4 y5 y6 y7 y8 y9 y10 y11
        obtain ⟨n0, n1, n2, n3, n4, n5, n6, n7, n8, n9, n10, n11⟩ := box_of hB

        refine bodyPost_ret (v := .tuple #[.agg #[.int .u8 D.ty, .int .u8 D.so, .int .i64 D.ru, .int .i64 D.sh, .int .i64 D.bo, .bool D.cr, .int .u8 D.ho, .int .i64 D.vi, .int .i64 D.fi, .int .i64 D.se, .bool D.su, .int .i64 D.sc], .string ⟨#[]⟩]) (by simp [results, Tryd.results48, go_sem, n0, n1, n2, n3, n4, n5, n6, n7, n8, n9, n10, n11]) rfl ?_
        exact ⟨by rw [HV.out]; rfl, hXE⟩
      · have hie : R.isEmpty = false := by cases R with
          | nil => exact absurd rfl hne
          | cons x t => rfl
        have hp1 : (1 : Int) ≤ (R.length : Nat) := by
          cases R with
          | nil => exact absurd rfl hne
          | cons x t => simp; omega
        have hex := tail_ext R
        have htl := tail_le R
        have HO : Hid (ouR R d = if hdB (nuT R.tail) 40 then wkF (nuT R.tail) { d with ho := hwN R 11, vi := nuN R.tail } else (nuT R.tail, { d with ho := hwN R 11, vi := nuN R.tail })) := by
          cases R with
          | nil => exact absurd rfl hne
          | cons x t => rfl
        have hnl := nuT_le R.tail
        clear hne
        obtain ⟨T, hT⟩ : ∃ T, R.tail = T := ⟨_, rfl⟩
        rw [hT] at hex htl HO hnl
        obtain ⟨H, hH⟩ : ∃ T, hwN R 11 = T := ⟨_, rfl⟩
        rw [hH] at hS HS HO
        obtain ⟨N7, hN7⟩ : ∃ X, nuN T = X := ⟨_, rfl⟩
        obtain ⟨R3, hR3⟩ : ∃ X, nuT T = X := ⟨_, rfl⟩
        rw [hN7, hR3] at HO
        rw [hR3] at hnl
        have E7 := Lib.hid hN7
        have E3 := Lib.hid hR3
        have hTl : T.length ≤ 9223372036854775807 := by omega
        have hR3l : R3.length ≤ 9223372036854775807 := by omega
        clear hT hH hN7 hR3
        obtain ⟨OV, hOV⟩ : ∃ X, ouR R d = X := ⟨_, rfl⟩
        rw [hOV] at HO
        have HOV := Lib.hid hOV
        clear hOV
        obtain ⟨b0, b1, b2, b3, b4, b5, b6, b7, b8, b9, b10, b11⟩ := hS.box; have z0 := hS.fz 0; have z1 := hS.fz 1; have z2 := hS.fz 2; have z3 := hS.fz 3; have z4 := hS.fz 4; have z5 := hS.fz 5; have z6 := hS.fz 6; have z7 := hS.fz 7; have z8 := hS.fz 8; have z9 := hS.fz 9; have z10 := hS.fz 10; have z11 := hS.fz 11; (try dsimp only at b0 b1 b2 b3 b4 b5 b6 b7 b8 b9 b10 b11)
        clear hS
        go_upto_if 30 with (first | ((fail_if_success (have hzz := hn1)); go_at_call 47; refine (rnumber_any T hTl _).mono ?_; rintro e w1 ⟨rfl, hn1⟩; rw [E7.out, E3.out]; (first | have hG1 := HS.out.grow hn1 | have hG1 := HS.out.drew.grow hn1); obtain ⟨b0, b1, b2, b3, b4, b5, b6, b7, b8, b9, b10, b11⟩ := hG1.box; have z0 := hG1.fz 0; have z1 := hG1.fz 1; have z2 := hG1.fz 2; have z3 := hG1.fz 3; have z4 := hG1.fz 4; have z5 := hG1.fz 5; have z6 := hG1.fz 6; have z7 := hG1.fz 7; have z8 := hG1.fz 8; have z9 := hG1.fz 9; have z10 := hG1.fz 10; have z11 := hG1.fz 11; (try dsimp only at b0 b1 b2 b3 b4 b5 b6 b7 b8 b9 b10 b11); have HG1 := Lib.hid hG1; clear hG1) | (go_at_call 46; refine (has_n 40 R3 _ _ (by decide)).mono ?_; rintro e w' ⟨rfl, hw'⟩; obtain rfl := hw'.symm))
        have hS2 : Sd w q r { d with ho := H, vi := N7 } (w1.setCell ⟨q, 7, none⟩ (.int .i64 N7)) := HG1.out.setD (j := 7) rfl
        have HS2 := Lib.hid hS2
        clear hS2
        go_cut [1] (fun s1 wx => s1 = .string ⟨OV.1.toArray⟩ ∧ Sd w q r OV.2 wx)
        case first =>
          as_aux_lemma =>
            rcases and1 (hdB R3 40) with b40 | b40
            · rw [b40] at HO ⊢
              have HV : Hid (OV = (R3, { d with ho := H, vi := N7 })) := HO.out
              clear b40
              go_wp2
              go_meet
              rw [HV.out]
              exact ⟨rfl, HS2.out⟩
            · rw [b40] at HO ⊢
              have hp3 : (1 : Int) ≤ (R3.length : Nat) := by have := hd_pos b40; omega
              have hex3 := tail_ext R3
              have htl3 := tail_le R3
              have hnl3 := nuT_le R3.tail
              have HV : Hid (OV = wkF R3 { d with ho := H, vi := N7 }) := HO.out
              have HW : Hid (wkF R3 { d with ho := H, vi := N7 } = (tkL (tkL (if hdB (nuT R3.tail) 44 then nuT (nuT R3.tail).tail else nuT R3.tail) 115) 41, { d with ho := H, vi := N7, fi := nuN R3.tail, se := (if hdB (nuT R3.tail) 44 then nuN (nuT R3.tail).tail else d.se), su := hdB (if hdB (nuT R3.tail) 44 then nuT (nuT R3.tail).tail else nuT R3.tail) 115 })) := by
                rw [Hid]
                cases hb : hdB (nuT R3.tail) 44
                · rw [wkF_no _ rfl hb]; rfl
                · rw [wkF_yes _ rfl hb]; rfl
              obtain ⟨R4, hR4⟩ : ∃ X, R3.tail = X := ⟨_, rfl⟩
              rw [hR4] at hex3 htl3 hnl3 HW
              obtain ⟨N8, hN8⟩ : ∃ X, nuN R4 = X := ⟨_, rfl⟩
              obtain ⟨R5, hR5⟩ : ∃ X, nuT R4 = X := ⟨_, rfl⟩
              rw [hR5] at hnl3
              rw [hN8, hR5] at HW
              have E8 := Lib.hid hN8
              have E5 := Lib.hid hR5
              have hR4l : R4.length ≤ 9223372036854775807 := by omega
              have hR5l : R5.length ≤ 9223372036854775807 := by omega
              clear b40 hR4 hN8 hR5
              obtain ⟨b0, b1, b2, b3, b4, b5, b6, b7, b8, b9, b10, b11⟩ := HS2.out.box; have z0 := HS2.out.fz 0; have z1 := HS2.out.fz 1; have z2 := HS2.out.fz 2; have z3 := HS2.out.fz 3; have z4 := HS2.out.fz 4; have z5 := HS2.out.fz 5; have z6 := HS2.out.fz 6; have z7 := HS2.out.fz 7; have z8 := HS2.out.fz 8; have z9 := HS2.out.fz 9; have z10 := HS2.out.fz 10; have z11 := HS2.out.fz 11; (try dsimp only at b0 b1 b2 b3 b4 b5 b6 b7 b8 b9 b10 b11)
              go_upto_if 39 with (first | ((fail_if_success (have hzz := hn2)); go_at_call 47; refine (rnumber_any R4 hR4l _).mono ?_; rintro e w2 ⟨rfl, hn2⟩; rw [E8.out, E5.out]; (first | have hG2 := HS2.out.grow hn2 | have hG2 := HS2.out.drew.grow hn2); obtain ⟨b0, b1, b2, b3, b4, b5, b6, b7, b8, b9, b10, b11⟩ := hG2.box; have z0 := hG2.fz 0; have z1 := hG2.fz 1; have z2 := hG2.fz 2; have z3 := hG2.fz 3; have z4 := hG2.fz 4; have z5 := hG2.fz 5; have z6 := hG2.fz 6; have z7 := hG2.fz 7; have z8 := hG2.fz 8; have z9 := hG2.fz 9; have z10 := hG2.fz 10; have z11 := hG2.fz 11; (try dsimp only at b0 b1 b2 b3 b4 b5 b6 b7 b8 b9 b10 b11); have HG2 := Lib.hid hG2; clear hG2) | (go_at_call 46; refine (has_n 44 R5 _ _ (by decide)).mono ?_; rintro e w' ⟨rfl, hw'⟩; obtain rfl := hw'.symm))
              have hS3 : Sd w q r { d with ho := H, vi := N7, fi := N8 } (w2.setCell ⟨q, 8, none⟩ (.int .i64 N8)) := HG2.out.setD (j := 8) rfl
              have HS3 := Lib.hid hS3
              clear hS3
              go_cut [1] (fun s1 wx => s1 = .string ⟨(if hdB R5 44 then nuT R5.tail else R5).toArray⟩ ∧ Sd w q r { d with ho := H, vi := N7, fi := N8, se := (if hdB R5 44 then nuN R5.tail else d.se) } wx)
              case first =>
                as_aux_lemma =>
                  clear HW HV
                  rcases and1 (hdB R5 44) with b44 | b44
                  · rw [b44]
                    have B44 := Lib.hid b44
                    clear b44
                    go_wp2
                    go_meet
                    rw [B44.out]
                    exact ⟨rfl, HS3.out⟩
                  · rw [b44]
                    have hp5 : (1 : Int) ≤ (R5.length : Nat) := by have := hd_pos b44; omega
                    have hex5 := tail_ext R5
                    have htl5 := tail_le R5
                    have B44 := Lib.hid b44
                    clear b44
                    obtain ⟨R55, hR55⟩ : ∃ X, R5.tail = X := ⟨_, rfl⟩
                    rw [hR55] at hex5 htl5
                    have hR55l : R55.length ≤ 9223372036854775807 := by omega
                    have E55 := Lib.hid hR55
                    clear hR55
                    obtain ⟨b0, b1, b2, b3, b4, b5, b6, b7, b8, b9, b10, b11⟩ := HS3.out.box; have z0 := HS3.out.fz 0; have z1 := HS3.out.fz 1; have z2 := HS3.out.fz 2; have z3 := HS3.out.fz 3; have z4 := HS3.out.fz 4; have z5 := HS3.out.fz 5; have z6 := HS3.out.fz 6; have z7 := HS3.out.fz 7; have z8 := HS3.out.fz 8; have z9 := HS3.out.fz 9; have z10 := HS3.out.fz 10; have z11 := HS3.out.fz 11; (try dsimp only at b0 b1 b2 b3 b4 b5 b6 b7 b8 b9 b10 b11)
                    go_wp2_with ((fail_if_success (have hzz := hn3)); go_at_call 47; refine (rnumber_any R55 hR55l _).mono ?_; rintro e w3 ⟨rfl, hn3⟩; (first | have hG3 := HS3.out.grow hn3 | have hG3 := HS3.out.drew.grow hn3); obtain ⟨b0, b1, b2, b3, b4, b5, b6, b7, b8, b9, b10, b11⟩ := hG3.box; have z0 := hG3.fz 0; have z1 := hG3.fz 1; have z2 := hG3.fz 2; have z3 := hG3.fz 3; have z4 := hG3.fz 4; have z5 := hG3.fz 5; have z6 := hG3.fz 6; have z7 := hG3.fz 7; have z8 := hG3.fz 8; have z9 := hG3.fz 9; have z10 := hG3.fz 10; have z11 := hG3.fz 11; (try dsimp only at b0 b1 b2 b3 b4 b5 b6 b7 b8 b9 b10 b11); have HG3 := Lib.hid hG3; clear hG3)
                    go_meet
                    rw [B44.out]
                    have e55 := E55.out
                    exact ⟨by rw [if_pos rfl, e55], by rw [if_pos rfl, e55]; exact HG3.out.setD (j := 9) rfl⟩
              case rest =>
              obtain ⟨rfl, hS⟩ := hcut
              obtain ⟨R6, hR6⟩ : ∃ X, (if hdB R5 44 then nuT R5.tail else R5) = X := ⟨_, rfl⟩
              obtain ⟨SE, hSE⟩ : ∃ X, (if hdB R5 44 then nuN R5.tail else d.se) = X := ⟨_, rfl⟩
              rw [hR6, hSE] at HW
              rw [hSE] at hS
              rw [hR6]
              clear hR6 hSE
              obtain ⟨b0, b1, b2, b3, b4, b5, b6, b7, b8, b9, b10, b11⟩ := hS.box; have z0 := hS.fz 0; have z1 := hS.fz 1; have z2 := hS.fz 2; have z3 := hS.fz 3; have z4 := hS.fz 4; have z5 := hS.fz 5; have z6 := hS.fz 6; have z7 := hS.fz 7; have z8 := hS.fz 8; have z9 := hS.fz 9; have z10 := hS.fz 10; have z11 := hS.fz 11; (try dsimp only at b0 b1 b2 b3 b4 b5 b6 b7 b8 b9 b10 b11)
              have HS4 := Lib.hid hS
              clear hS
              rcases and1 (hdB R6 115) with b115 | b115
              · have HW2 : Hid (OV = (tkL R6 41, { d with ho := H, vi := N7, fi := N8, se := SE })) := by
                  rw [Hid, HV.out, HW.out, b115]
                  have e : tkL R6 115 = R6 := by simp [tkL, b115]
                  rw [e, ← HSU.out]
                have B1 := Lib.hid b115
                clear b115 HW HV
                rcases and1 (hdB R6 41) with b41 | b41
                · have e2 : Hid (tkL R6 41 = R6) := by simp [Hid, tkL, b41]
                  have B2 := Lib.hid b41
                  clear b41
                  go_wp2_with (first | (go_at_call 46; refine (has_n 115 R6 _ _ (by decide)).mono ?_; rintro e w' ⟨rfl, hw'⟩; obtain rfl := hw'.symm; rw [B1.out]) | (go_at_call 46; refine (has_n 41 R6 _ _ (by decide)).mono ?_; rintro e w' ⟨rfl, hw'⟩; obtain rfl := hw'.symm; rw [B2.out]))
                  go_meet
                  rw [HW2.out]
                  exact ⟨by rw [e2.out], HS4.out⟩
                · have hp6 : (1 : Int) ≤ (R6.length : Nat) := by have := hd_pos b41; omega
                  have hex6 := tail_ext R6
                  have e2 : Hid (tkL R6 41 = R6.tail) := by simp [Hid, tkL, b41]
                  have B2 := Lib.hid b41
                  clear b41
                  go_wp2_with (first | (go_at_call 46; refine (has_n 115 R6 _ _ (by decide)).mono ?_; rintro e w' ⟨rfl, hw'⟩; obtain rfl := hw'.symm; rw [B1.out]) | (go_at_call 46; refine (has_n 41 R6 _ _ (by decide)).mono ?_; rintro e w' ⟨rfl, hw'⟩; obtain rfl := hw'.symm; rw [B2.out]))
                  go_meet
                  rw [HW2.out]
                  exact ⟨by rw [e2.out], HS4.out⟩
              · have e1 : tkL R6 115 = R6.tail := by simp [tkL, b115]
                have HW2 : Hid (OV = (tkL R6.tail 41, { d with ho := H, vi := N7, fi := N8, se := SE, su := true })) := by
                  rw [Hid, HV.out, HW.out, b115, e1]
                have hp6 : (1 : Int) ≤ (R6.length : Nat) := by have := hd_pos b115; omega
                have hex6 := tail_ext R6
                have B1 := Lib.hid b115
                clear b115 HW HV e1
                obtain ⟨R7, hR7⟩ : ∃ X, R6.tail = X := ⟨_, rfl⟩
                rw [hR7] at HW2 hex6
                clear hR7
                have hS5 : ∀ W', Sd w q r { d with ho := H, vi := N7, fi := N8, se := SE } W' → Sd w q r { d with ho := H, vi := N7, fi := N8, se := SE, su := true } (W'.setCell ⟨q, 10, none⟩ (.bool true)) := fun W' h => h.setD (j := 10) rfl
                have HS5 := Lib.hid hS5
                clear hS5
                rcases and1 (hdB R7 41) with b41 | b41
                · have e2 : Hid (tkL R7 41 = R7) := by simp [Hid, tkL, b41]
                  have B2 := Lib.hid b41
                  clear b41
                  go_wp2_with (go_at_call 46; refine (has_n 115 R6 _ _ (by decide)).mono ?_; rintro e w' ⟨rfl, hw'⟩; obtain rfl := hw'.symm; rw [B1.out])
                  go_region
                  all_goals
                    go_wp2_with (go_at_call 46; refine (has_n 41 R7 _ _ (by decide)).mono ?_; rintro e w' ⟨rfl, hw'⟩; obtain rfl := hw'.symm; rw [B2.out])
                    go_meet
                    rw [HW2.out]
                    exact ⟨by rw [e2.out], by first | exact HS5.out _ HS4.out | exact (HS5.out _ HS4.out).drew | exact HS5.out _ HS4.out.drew⟩
                · have hp7 : (1 : Int) ≤ (R7.length : Nat) := by have := hd_pos b41; omega
                  have hex7 := tail_ext R7
                  have e2 : Hid (tkL R7 41 = R7.tail) := by simp [Hid, tkL, b41]
                  have B2 := Lib.hid b41
                  clear b41
                  go_wp2_with (go_at_call 46; refine (has_n 115 R6 _ _ (by decide)).mono ?_; rintro e w' ⟨rfl, hw'⟩; obtain rfl := hw'.symm; rw [B1.out])
                  go_region
                  all_goals
                    go_wp2_with (go_at_call 46; refine (has_n 41 R7 _ _ (by decide)).mono ?_; rintro e w' ⟨rfl, hw'⟩; obtain rfl := hw'.symm; rw [B2.out])
                    go_meet
                    rw [HW2.out]
                    exact ⟨by rw [e2.out], by first | exact HS5.out _ HS4.out | exact (HS5.out _ HS4.out).drew | exact HS5.out _ HS4.out.drew⟩
        case rest =>
        obtain ⟨rfl, hS⟩ := hcut
        obtain ⟨O1, D⟩ := OV
        dsimp only at hS
        have HOV := HOV
        obtain ⟨b0, b1, b2, b3, b4, b5, b6, b7, b8, b9, b10, b11⟩ := hS.box; have z0 := hS.fz 0; have z1 := hS.fz 1; have z2 := hS.fz 2; have z3 := hS.fz 3; have z4 := hS.fz 4; have z5 := hS.fz 5; have z6 := hS.fz 6; have z7 := hS.fz 7; have z8 := hS.fz 8; have z9 := hS.fz 9; have z10 := hS.fz 10; have z11 := hS.fz 11; (try dsimp only at b0 b1 b2 b3 b4 b5 b6 b7 b8 b9 b10 b11)
        obtain ⟨⟨r0, r1, r2, r3, r4, r5, r6, r7, r8, r9, r10, r11⟩, rz⟩ := zbox_fz hS.rz; have y0 := rz 0; have y1 := rz 1; have y2 := rz 2; have y3 := rz 3; have y4 := rz 4; have y5 := rz 5; have y6 := rz 6; have y7 := rz 7; have y8 := rz 8; have y9 := rz 9; have y10 := rz 10; have y11 := rz 11; clear rz
        have HSF := Lib.hid hS
        clear hS
        go_wp2
        have hB : ((((((((((((wc.setCell ⟨r, 0, none⟩ (.int .u8 D.ty)).setCell ⟨r, 1, none⟩ (.int .u8 D.so)).setCell ⟨r, 2, none⟩ (.int .i64 D.ru)).setCell ⟨r, 3, none⟩ (.int .i64 D.sh)).setCell ⟨r, 4, none⟩ (.int .i64 D.bo)).setCell ⟨r, 5, none⟩ (.bool D.cr)).setCell ⟨r, 6, none⟩ (.int .u8 D.ho)).setCell ⟨r, 7, none⟩ (.int .i64 D.vi)).setCell ⟨r, 8, none⟩ (.int .i64 D.fi)).setCell ⟨r, 9, none⟩ (.int .i64 D.se)).setCell ⟨r, 10, none⟩ (.bool D.su)).setCell ⟨r, 11, none⟩ (.int .i64 D.sc)).heap[r]? = some (.cells (Dl.arr D) 26 (0, 0)) := set12 wc r _ D HSF.out.rz
        have hXE : Ext w ((((((((((((wc.setCell ⟨r, 0, none⟩ (.int .u8 D.ty)).setCell ⟨r, 1, none⟩ (.int .u8 D.so)).setCell ⟨r, 2, none⟩ (.int .i64 D.ru)).setCell ⟨r, 3, none⟩ (.int .i64 D.sh)).setCell ⟨r, 4, none⟩ (.int .i64 D.bo)).setCell ⟨r, 5, none⟩ (.bool D.cr)).setCell ⟨r, 6, none⟩ (.int .u8 D.ho)).setCell ⟨r, 7, none⟩ (.int .i64 D.vi)).setCell ⟨r, 8, none⟩ (.int .i64 D.fi)).setCell ⟨r, 9, none⟩ (.int .i64 D.se)).setCell ⟨r, 10, none⟩ (.bool D.su)).setCell ⟨r, 11, none⟩ (.int .i64 D.sc)) := ext12 HSF.out.ext HSF.out.hr D
        obtain ⟨WX, hWX⟩ : ∃ X, ((((((((((((wc.setCell ⟨r, 0, none⟩ (.int .u8 D.ty)).setCell ⟨r, 1, none⟩ (.int .u8 D.so)).setCell ⟨r, 2, none⟩ (.int .i64 D.ru)).setCell ⟨r, 3, none⟩ (.int .i64 D.sh)).setCell ⟨r, 4, none⟩ (.int .i64 D.bo)).setCell ⟨r, 5, none⟩ (.bool D.cr)).setCell ⟨r, 6, none⟩ (.int .u8 D.ho)).setCell ⟨r, 7, none⟩ (.int .i64 D.vi)).setCell ⟨r, 8, none⟩ (.int .i64 D.fi)).setCell ⟨r, 9, none⟩ (.int .i64 D.se)).setCell ⟨r, 10, none⟩ (.bool D.su)).setCell ⟨r, 11, none⟩ (.int .i64 D.sc)) = X := ⟨_, rfl⟩
        rw [hWX] at hB hXE ⊢
        clear hWX
        clear b0 b1 b2 b3 b4 b5 b6 b7 b8 b9 b10 b11 z0 z1 z2 z3 z4 z5 z6 z7 z8 z9 z10 z11
        clear r0 r1 r2 r3 r4 r5 r6 r7 r8 r9 r10 r11 y0 y1 y2 y3 y4 y5 y6 y7 y8 y9 y10 y11
        obtain ⟨n0, n1, n2, n3, n4, n5, n6, n7, n8, n9, n10, n11⟩ := box_of hB

        refine bodyPost_ret (v := .tuple #[.agg #[.int .u8 D.ty, .int .u8 D.so, .int .i64 D.ru, .int .i64 D.sh, .int .i64 D.bo, .bool D.cr, .int .u8 D.ho, .int .i64 D.vi, .int .i64 D.fi, .int .i64 D.se, .bool D.su, .int .i64 D.sc], .string ⟨O1.toArray⟩]) (by simp [results, Tryd.results48, go_sem, n0, n1, n2, n3, n4, n5, n6, n7, n8, n9, n10, n11]) rfl ?_
        exact ⟨by rw [HOV.out]; rfl, hXE⟩

end Go.Proofs.YtpgacpkcchajmaaDoor

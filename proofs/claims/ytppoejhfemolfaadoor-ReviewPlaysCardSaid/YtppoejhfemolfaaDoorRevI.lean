/-
  The law ReviewAddsUp, walked.
-/
import Derived.Test.YtppoejhfemolfaaDoorRevH
import Derived.Test.YtppoejhfemolfaaDoorRevG
namespace Go.Proofs.YtppoejhfemolfaaDoor
open Go.RowKit
set_option linter.unusedSimpArgs false

theorem and1z (e : Int) : (e == 0) = false ∨ e = 0 := by
  by_cases h : e = 0
  · exact .inr h
  · exact .inl (by simp [h])

set_option maxHeartbeats 16000000 in
set_option maxRecDepth 20000 in
theorem reviewAddsUp_any (r N : Int) (A0 : Option Addr) (n C : Nat) (K S L : Nat → Int) (b off : Nat) (hr0 : 0 ≤ r ∧ r ≤ 255) (hN : r % 21 = N) (w : World) (T : ActsAt w A0 n K S L b off) (hX : TX w) :
    Calls Tryd.prog 4 #[.int .u8 r, .slice A0 n C] w fun e w' => e = .returned (.bool true) ∧ Ext w w' := by
  have HX := Lib.hid hX
  have hn := T.nle
  have HN : Hid (0 ≤ N ∧ N ≤ 20) := by rw [Hid]; omega
  clear hX
  by_cases hbig : 200 < n
  · have hbig' : (200 : Int) < (n : Int) := by omega
    go_enter Tryd.func4, Tryd.ntmps4
    go_wp2_with (first | ((fail_if_success (have hzz := hb1)); go_at_call 8; refine (awake_any _ (HX.out.ext (by repeat (first | exact Ext.refl _ | refine Ext.setCell ?_ (by first | exact Nat.le_refl _ | (simp; done) | (simp; omega)) _ | refine Ext.drew ?_ | refine Ext.drewN ?_ _ | refine Ext.alloc ?_ _)))).mono ?_; rintro e w1 ⟨rfl, hb1⟩) | ((fail_if_success (have hzz := hb2)); go_at_call 9; refine (new_any _ w1 (by omega) (by omega)).mono ?_; rintro e w2 ⟨rfl, hr2, hb2⟩))
    go_ret
    exact ⟨rfl, hb1.trans hb2⟩
  have hbig' : ¬ ((200 : Int) < (n : Int)) := by omega
  go_enter Tryd.func4, Tryd.ntmps4
  go_wp2_with (first | ((fail_if_success (have hzz := hb1)); go_at_call 8; refine (awake_any _ (HX.out.ext (by repeat (first | exact Ext.refl _ | refine Ext.setCell ?_ (by first | exact Nat.le_refl _ | (simp; done) | (simp; omega)) _ | refine Ext.drew ?_ | refine Ext.drewN ?_ _ | refine Ext.alloc ?_ _)))).mono ?_; rintro e w1 ⟨rfl, hb1⟩) | ((fail_if_success (have hzz := hb2)); (try rw [hN]); go_at_call 9; refine (new_any N w1 HN.out.1 HN.out.2).mono ?_; rintro e w2 ⟨rfl, hr2, hb2⟩))
  go_loopw [8, 48] (fun wt i wr => ∃ (k : Nat) (R : Rm), k ≤ n ∧ i = .int .i64 k ∧ wt = .int .i64 R.a ∧ RoomAt w1.heap.size R wr ∧ R.inv N ∧ R.bd (20 + (k : Int)) ∧ Ext w wr) (fun _ i _ => n - (intOf i).toNat)
  case atStart => exact ⟨0, newR N, by omega, rfl, rfl, hr2, inv_new HN.out.1, bd_new HN.out.1 HN.out.2, hb1.trans hb2⟩
  case round =>
    obtain ⟨k, R, hk, rfl, rfl, hR, hinv, hbd, hE⟩ := hrel
    have HR := Lib.hid hR
    have hlt3 := hR.lt
    clear hR
    by_cases hlt : k < n
    · obtain ⟨rfl, hbl⟩ := T.top (by omega)
      obtain ⟨c0, c1, c2⟩ := (T.ext hE).cell k hlt
      obtain ⟨k0, k1, k2⟩ := T.wf k hlt
      by_cases hk4 : K k % 4 = 2
      · rcases and1z (decE R (L k)) with hd | hd
        · obtain ⟨R', hR'⟩ : ∃ R' : Rm, decR R (L k) = R' := ⟨_, rfl⟩
          have HRR := Lib.hid hR'
          have HBDk : Hid (R'.bd (20 + ((k + 1 : Nat) : Int))) := by rw [Hid, ← hR']; exact (bd_dec hbd).mono (by omega)
          have HBD : Hid (R'.bd 1000) := HBDk.out.mono (by omega)
          have HIN : Hid (R'.inv N) := by rw [Hid, ← hR']; exact inv_dec hinv hbd.a
          have HWA : Hid (R'.a = R.a) := by rw [Hid, ← hR']; rw [(dec_no rfl hd).2.2]
          obtain ⟨E, hEq⟩ : ∃ E : Int, decE R (L k) = E := ⟨_, rfl⟩
          rw [hEq] at hd
          have HDE := Lib.hid hEq
          clear hEq
          have HSM : Hid R.small := hbd.small (by omega)
          clear hR' hinv hbd
          go_wp2_with (go_at_call 11; refine (decide_any w1.heap.size R (L k) _ (HR.out.ext (by repeat (first | exact Ext.refl _ | refine Ext.setCell ?_ (by first | exact Nat.le_refl _ | (simp; done) | (simp; omega)) _ | refine Ext.drew ?_ | refine Ext.drewN ?_ _ | refine Ext.alloc ?_ _))) HSM.out).mono ?_; rintro e w3 ⟨rfl, hr3, ht3⟩; rw [HDE.out]; rw [HRR.out] at hr3; have HR3 := Lib.hid hr3; have HX3 : Hid (Ext w w3) := ht3.then (by repeat (first | exact hE | refine Ext.setCell ?_ (by first | exact Nat.le_refl _ | (simp; done) | (simp; omega)) _ | refine Ext.drew ?_ | refine Ext.drewN ?_ _ | refine Ext.alloc ?_ _)) hb1.size; clear hr3 ht3)
          go_loopw [13] (fun i wi => ∃ j : Nat, 1 ≤ j ∧ j ≤ 3 ∧ i = .int .i64 j ∧ Ext w3 wi) (fun i _ => 3 - (intOf i).toNat)
          case atStart => exact ⟨1, by omega, by omega, rfl, Ext.refl _⟩
          case round =>
            obtain ⟨j, hj1, hj3, rfl, hE3⟩ := hrel
            by_cases hj : j ≤ 2
            · have hn12 : (j : Int) = 1 ∨ (j : Int) = 2 := by omega
              have hjle : (j : Int) ≤ 2 := by omega
              obtain ⟨b1, b2, b3, b4⟩ := bd_side HBD.out hn12
              obtain ⟨hsum, hge⟩ := inv_side HIN.out hn12
              obtain ⟨lf, hlf⟩ : ∃ x, lfN R' (j : Int) = x := ⟨_, rfl⟩
              obtain ⟨wn, hwn⟩ : ∃ x, wnN R' (j : Int) = x := ⟨_, rfl⟩
              obtain ⟨ls, hls⟩ : ∃ x, lsN R' (j : Int) = x := ⟨_, rfl⟩
              obtain ⟨op, hop⟩ : ∃ x, opN R' (j : Int) = x := ⟨_, rfl⟩
              rw [hlf] at b1 hsum hge
              rw [hwn] at b2
              rw [hls] at b3 hsum
              rw [hop] at b4
              have HLF := Lib.hid hlf
              have HWN := Lib.hid hwn
              have HLS := Lib.hid hls
              have HOP := Lib.hid hop
              clear hlf hwn hls hop
              by_cases hW : R'.a = (j : Int)
              · have hWb : (R.a == (j : Int)) = true := by rw [← HWA.out]; simp [hW]
                have HAS : Hid (asN R' (j : Int) = wn + ls + op + 1) := by rw [Hid, as_side hn12, if_pos hW, HWN.out, HLS.out, HOP.out]
                clear hW hn12
                go_wp2_with (first | ((fail_if_success (have hzz := hb6)); go_at_call 18; refine (count_any w1.heap.size R' (j : Int) _ (HR3.out.ext hE3) (HBD.out.small (by decide))).mono ?_; rintro e w6 ⟨rfl, hb6⟩; dsimp only [cntV]; rw [HAS.out, HWN.out, HLS.out, HOP.out]) | ((fail_if_success (have hzz := hb7)); go_at_call 19; refine (left_any w1.heap.size R' (j : Int) _ (HR3.out.ext (hE3.trans hb6))).mono ?_; rintro e w7 ⟨rfl, hb7⟩; rw [HLF.out]) | ((fail_if_success (have hzz := hb8)); go_at_call 19; refine (left_any w1.heap.size R' (j : Int) _ (HR3.out.ext ((hE3.trans hb6).trans hb7))).mono ?_; rintro e w8 ⟨rfl, hb8⟩; rw [HLF.out]))
                go_roundw
                case rel => exact ⟨j + 1, by omega, by omega, by go_num, ((hE3.trans hb6).trans hb7).trans hb8⟩
                case measure => simp [intOf]; omega
              · have hWb : (R.a == (j : Int)) = false := by rw [← HWA.out]; simp [hW]
                have HAS : Hid (asN R' (j : Int) = wn + ls + op) := by rw [Hid, as_side hn12, if_neg hW, HWN.out, HLS.out, HOP.out]; omega
                clear hW hn12
                go_wp2_with (first | ((fail_if_success (have hzz := hb6)); go_at_call 18; refine (count_any w1.heap.size R' (j : Int) _ (HR3.out.ext hE3) (HBD.out.small (by decide))).mono ?_; rintro e w6 ⟨rfl, hb6⟩; dsimp only [cntV]; rw [HAS.out, HWN.out, HLS.out, HOP.out]) | ((fail_if_success (have hzz := hb7)); go_at_call 19; refine (left_any w1.heap.size R' (j : Int) _ (HR3.out.ext (hE3.trans hb6))).mono ?_; rintro e w7 ⟨rfl, hb7⟩; rw [HLF.out]) | ((fail_if_success (have hzz := hb8)); go_at_call 19; refine (left_any w1.heap.size R' (j : Int) _ (HR3.out.ext ((hE3.trans hb6).trans hb7))).mono ?_; rintro e w8 ⟨rfl, hb8⟩; rw [HLF.out]))
                go_roundw
                case rel => exact ⟨j + 1, by omega, by omega, by go_num, ((hE3.trans hb6).trans hb7).trans hb8⟩
                case measure => simp [intOf]; omega
            · obtain rfl : j = 3 := by omega
              clear hj hj1 hj3
              by_cases hz : R'.a = 0
              · have HWZ : Hid ((R'.a != 0) = false) := by rw [Hid, hz]; rfl
                have hW0 : R.a = 0 := by rw [← HWA.out]; exact hz
                clear hz
                go_wp2_with (go_at_call 20; refine (waits_any w1.heap.size R' _ (HR3.out.ext hE3)).mono ?_; rintro e w9 ⟨rfl, hb9⟩; rw [HWZ.out])
                go_roundw
                case rel => exact ⟨k + 1, R', by omega, by go_num, by rw [HWA.out]; first | rfl | rw [hW0], HR3.out.ext (hE3.trans hb9), HIN.out, HBDk.out, (HX3.out.trans hE3).trans hb9⟩
                case measure => simp [intOf]; omega
              · have HWZ : Hid ((R'.a != 0) = true) := by rw [Hid]; simp [hz]
                have hW0 : (R.a == 0) = false := by rw [← HWA.out]; simp [hz]
                have hW1 : (R.a != 0) = true := by simp only [bne, hW0, Bool.not_false]
                clear hz
                go_wp2_with (go_at_call 20; refine (waits_any w1.heap.size R' _ (HR3.out.ext hE3)).mono ?_; rintro e w9 ⟨rfl, hb9⟩; rw [HWZ.out])
                go_roundw
                case rel => exact ⟨k + 1, R', by omega, by go_num, by rw [HWA.out], HR3.out.ext (hE3.trans hb9), HIN.out, HBDk.out, (HX3.out.trans hE3).trans hb9⟩
                case measure => simp [intOf]; omega

        · obtain ⟨R', hR'⟩ : ∃ R' : Rm, decR R (L k) = R' := ⟨_, rfl⟩
          have HRR := Lib.hid hR'
          have HBDk : Hid (R'.bd (20 + ((k + 1 : Nat) : Int))) := by rw [Hid, ← hR']; exact (bd_dec hbd).mono (by omega)
          have HBD : Hid (R'.bd 1000) := HBDk.out.mono (by omega)
          have HIN : Hid (R'.inv N) := by rw [Hid, ← hR']; exact inv_dec hinv hbd.a
          have HWA : Hid (R'.a = (0 : Int)) := by rw [Hid, ← hR']; exact dec_a hd
          have HDE := Lib.hid hd
          have HSM : Hid R.small := hbd.small (by omega)
          clear hR' hinv hbd hd
          go_wp2_with (go_at_call 11; refine (decide_any w1.heap.size R (L k) _ (HR.out.ext (by repeat (first | exact Ext.refl _ | refine Ext.setCell ?_ (by first | exact Nat.le_refl _ | (simp; done) | (simp; omega)) _ | refine Ext.drew ?_ | refine Ext.drewN ?_ _ | refine Ext.alloc ?_ _))) HSM.out).mono ?_; rintro e w3 ⟨rfl, hr3, ht3⟩; rw [HDE.out]; rw [HRR.out] at hr3; have HR3 := Lib.hid hr3; have HX3 : Hid (Ext w w3) := ht3.then (by repeat (first | exact hE | refine Ext.setCell ?_ (by first | exact Nat.le_refl _ | (simp; done) | (simp; omega)) _ | refine Ext.drew ?_ | refine Ext.drewN ?_ _ | refine Ext.alloc ?_ _)) hb1.size; clear hr3 ht3)
          go_loopw [13] (fun i wi => ∃ j : Nat, 1 ≤ j ∧ j ≤ 3 ∧ i = .int .i64 j ∧ Ext w3 wi) (fun i _ => 3 - (intOf i).toNat)
          case atStart => exact ⟨1, by omega, by omega, rfl, Ext.refl _⟩
          case round =>
            obtain ⟨j, hj1, hj3, rfl, hE3⟩ := hrel
            by_cases hj : j ≤ 2
            · have hn12 : (j : Int) = 1 ∨ (j : Int) = 2 := by omega
              have hjle : (j : Int) ≤ 2 := by omega
              obtain ⟨b1, b2, b3, b4⟩ := bd_side HBD.out hn12
              obtain ⟨hsum, hge⟩ := inv_side HIN.out hn12
              obtain ⟨lf, hlf⟩ : ∃ x, lfN R' (j : Int) = x := ⟨_, rfl⟩
              obtain ⟨wn, hwn⟩ : ∃ x, wnN R' (j : Int) = x := ⟨_, rfl⟩
              obtain ⟨ls, hls⟩ : ∃ x, lsN R' (j : Int) = x := ⟨_, rfl⟩
              obtain ⟨op, hop⟩ : ∃ x, opN R' (j : Int) = x := ⟨_, rfl⟩
              rw [hlf] at b1 hsum hge
              rw [hwn] at b2
              rw [hls] at b3 hsum
              rw [hop] at b4
              have HLF := Lib.hid hlf
              have HWN := Lib.hid hwn
              have HLS := Lib.hid hls
              have HOP := Lib.hid hop
              clear hlf hwn hls hop
              by_cases hW : R'.a = (j : Int)
              · have hWb : ((0 : Int) == (j : Int)) = true := by rw [← HWA.out]; simp [hW]
                have HAS : Hid (asN R' (j : Int) = wn + ls + op + 1) := by rw [Hid, as_side hn12, if_pos hW, HWN.out, HLS.out, HOP.out]
                clear hW hn12
                go_wp2_with (first | ((fail_if_success (have hzz := hb6)); go_at_call 18; refine (count_any w1.heap.size R' (j : Int) _ (HR3.out.ext hE3) (HBD.out.small (by decide))).mono ?_; rintro e w6 ⟨rfl, hb6⟩; dsimp only [cntV]; rw [HAS.out, HWN.out, HLS.out, HOP.out]) | ((fail_if_success (have hzz := hb7)); go_at_call 19; refine (left_any w1.heap.size R' (j : Int) _ (HR3.out.ext (hE3.trans hb6))).mono ?_; rintro e w7 ⟨rfl, hb7⟩; rw [HLF.out]) | ((fail_if_success (have hzz := hb8)); go_at_call 19; refine (left_any w1.heap.size R' (j : Int) _ (HR3.out.ext ((hE3.trans hb6).trans hb7))).mono ?_; rintro e w8 ⟨rfl, hb8⟩; rw [HLF.out]))
                go_roundw
                case rel => exact ⟨j + 1, by omega, by omega, by go_num, ((hE3.trans hb6).trans hb7).trans hb8⟩
                case measure => simp [intOf]; omega
              · have hWb : ((0 : Int) == (j : Int)) = false := by rw [← HWA.out]; simp [hW]
                have HAS : Hid (asN R' (j : Int) = wn + ls + op) := by rw [Hid, as_side hn12, if_neg hW, HWN.out, HLS.out, HOP.out]; omega
                clear hW hn12
                go_wp2_with (first | ((fail_if_success (have hzz := hb6)); go_at_call 18; refine (count_any w1.heap.size R' (j : Int) _ (HR3.out.ext hE3) (HBD.out.small (by decide))).mono ?_; rintro e w6 ⟨rfl, hb6⟩; dsimp only [cntV]; rw [HAS.out, HWN.out, HLS.out, HOP.out]) | ((fail_if_success (have hzz := hb7)); go_at_call 19; refine (left_any w1.heap.size R' (j : Int) _ (HR3.out.ext (hE3.trans hb6))).mono ?_; rintro e w7 ⟨rfl, hb7⟩; rw [HLF.out]) | ((fail_if_success (have hzz := hb8)); go_at_call 19; refine (left_any w1.heap.size R' (j : Int) _ (HR3.out.ext ((hE3.trans hb6).trans hb7))).mono ?_; rintro e w8 ⟨rfl, hb8⟩; rw [HLF.out]))
                go_roundw
                case rel => exact ⟨j + 1, by omega, by omega, by go_num, ((hE3.trans hb6).trans hb7).trans hb8⟩
                case measure => simp [intOf]; omega
            · obtain rfl : j = 3 := by omega
              clear hj hj1 hj3
              by_cases hz : R'.a = 0
              · have HWZ : Hid ((R'.a != 0) = false) := by rw [Hid, hz]; rfl
                
                clear hz
                go_wp2_with (go_at_call 20; refine (waits_any w1.heap.size R' _ (HR3.out.ext hE3)).mono ?_; rintro e w9 ⟨rfl, hb9⟩; rw [HWZ.out])
                go_roundw
                case rel => exact ⟨k + 1, R', by omega, by go_num, by rw [HWA.out], HR3.out.ext (hE3.trans hb9), HIN.out, HBDk.out, (HX3.out.trans hE3).trans hb9⟩
                case measure => simp [intOf]; omega
              · exact absurd HWA.out hz

      · rcases and1z (askE R (S k) (L k)) with hd | hd
        · obtain ⟨R', hR'⟩ : ∃ R' : Rm, askR R (S k) (L k) = R' := ⟨_, rfl⟩
          have HRR := Lib.hid hR'
          have HBDk : Hid (R'.bd (20 + ((k + 1 : Nat) : Int))) := by rw [Hid, ← hR']; exact (bd_ask hbd).mono (by omega)
          have HBD : Hid (R'.bd 1000) := HBDk.out.mono (by omega)
          have HIN : Hid (R'.inv N) := by rw [Hid, ← hR']; exact inv_ask hinv
          have HWA : Hid (R'.a = R.a) := by rw [Hid, ← hR']; rw [(ask_vals rfl hd).2]
          obtain ⟨E, hEq⟩ : ∃ E : Int, askE R (S k) (L k) = E := ⟨_, rfl⟩
          rw [hEq] at hd
          have HDE := Lib.hid hEq
          clear hEq
          clear hR' hinv hbd
          go_wp2_with (go_at_call 16; refine (ask_any w1.heap.size R (S k) (L k) _ (HR.out.ext (by repeat (first | exact Ext.refl _ | refine Ext.setCell ?_ (by first | exact Nat.le_refl _ | (simp; done) | (simp; omega)) _ | refine Ext.drew ?_ | refine Ext.drewN ?_ _ | refine Ext.alloc ?_ _)))).mono ?_; rintro e w3 ⟨rfl, hr3, ht3⟩; rw [HDE.out]; rw [HRR.out] at hr3; have HR3 := Lib.hid hr3; have HX3 : Hid (Ext w w3) := ht3.then (by repeat (first | exact hE | refine Ext.setCell ?_ (by first | exact Nat.le_refl _ | (simp; done) | (simp; omega)) _ | refine Ext.drew ?_ | refine Ext.drewN ?_ _ | refine Ext.alloc ?_ _)) hb1.size; have f1 : w3.cell? ⟨wr.heap.size, 1, none⟩ = some (.int .i64 (S k)) := Lib.cell_of_heap (ht3.other wr.heap.size _ (by omega) (heap_alloc_new wr _)) 1; clear hr3 ht3)
          go_loopw [13] (fun i wi => ∃ j : Nat, 1 ≤ j ∧ j ≤ 3 ∧ i = .int .i64 j ∧ Ext w3 wi) (fun i _ => 3 - (intOf i).toNat)
          case atStart => exact ⟨1, by omega, by omega, rfl, Ext.refl _⟩
          case round =>
            obtain ⟨j, hj1, hj3, rfl, hE3⟩ := hrel
            by_cases hj : j ≤ 2
            · have hn12 : (j : Int) = 1 ∨ (j : Int) = 2 := by omega
              have hjle : (j : Int) ≤ 2 := by omega
              obtain ⟨b1, b2, b3, b4⟩ := bd_side HBD.out hn12
              obtain ⟨hsum, hge⟩ := inv_side HIN.out hn12
              obtain ⟨lf, hlf⟩ : ∃ x, lfN R' (j : Int) = x := ⟨_, rfl⟩
              obtain ⟨wn, hwn⟩ : ∃ x, wnN R' (j : Int) = x := ⟨_, rfl⟩
              obtain ⟨ls, hls⟩ : ∃ x, lsN R' (j : Int) = x := ⟨_, rfl⟩
              obtain ⟨op, hop⟩ : ∃ x, opN R' (j : Int) = x := ⟨_, rfl⟩
              rw [hlf] at b1 hsum hge
              rw [hwn] at b2
              rw [hls] at b3 hsum
              rw [hop] at b4
              have HLF := Lib.hid hlf
              have HWN := Lib.hid hwn
              have HLS := Lib.hid hls
              have HOP := Lib.hid hop
              clear hlf hwn hls hop
              by_cases hW : R'.a = (j : Int)
              · have hWb : (R.a == (j : Int)) = true := by rw [← HWA.out]; simp [hW]
                have HAS : Hid (asN R' (j : Int) = wn + ls + op + 1) := by rw [Hid, as_side hn12, if_pos hW, HWN.out, HLS.out, HOP.out]
                clear hW hn12
                go_wp2_with (first | ((fail_if_success (have hzz := hb6)); go_at_call 18; refine (count_any w1.heap.size R' (j : Int) _ (HR3.out.ext hE3) (HBD.out.small (by decide))).mono ?_; rintro e w6 ⟨rfl, hb6⟩; dsimp only [cntV]; rw [HAS.out, HWN.out, HLS.out, HOP.out]) | ((fail_if_success (have hzz := hb7)); go_at_call 19; refine (left_any w1.heap.size R' (j : Int) _ (HR3.out.ext (hE3.trans hb6))).mono ?_; rintro e w7 ⟨rfl, hb7⟩; rw [HLF.out]) | ((fail_if_success (have hzz := hb8)); go_at_call 19; refine (left_any w1.heap.size R' (j : Int) _ (HR3.out.ext ((hE3.trans hb6).trans hb7))).mono ?_; rintro e w8 ⟨rfl, hb8⟩; rw [HLF.out]))
                go_roundw
                case rel => exact ⟨j + 1, by omega, by omega, by go_num, ((hE3.trans hb6).trans hb7).trans hb8⟩
                case measure => simp [intOf]; omega
              · have hWb : (R.a == (j : Int)) = false := by rw [← HWA.out]; simp [hW]
                have HAS : Hid (asN R' (j : Int) = wn + ls + op) := by rw [Hid, as_side hn12, if_neg hW, HWN.out, HLS.out, HOP.out]; omega
                clear hW hn12
                go_wp2_with (first | ((fail_if_success (have hzz := hb6)); go_at_call 18; refine (count_any w1.heap.size R' (j : Int) _ (HR3.out.ext hE3) (HBD.out.small (by decide))).mono ?_; rintro e w6 ⟨rfl, hb6⟩; dsimp only [cntV]; rw [HAS.out, HWN.out, HLS.out, HOP.out]) | ((fail_if_success (have hzz := hb7)); go_at_call 19; refine (left_any w1.heap.size R' (j : Int) _ (HR3.out.ext (hE3.trans hb6))).mono ?_; rintro e w7 ⟨rfl, hb7⟩; rw [HLF.out]) | ((fail_if_success (have hzz := hb8)); go_at_call 19; refine (left_any w1.heap.size R' (j : Int) _ (HR3.out.ext ((hE3.trans hb6).trans hb7))).mono ?_; rintro e w8 ⟨rfl, hb8⟩; rw [HLF.out]))
                go_roundw
                case rel => exact ⟨j + 1, by omega, by omega, by go_num, ((hE3.trans hb6).trans hb7).trans hb8⟩
                case measure => simp [intOf]; omega
            · obtain rfl : j = 3 := by omega
              clear hj hj1 hj3
              by_cases hz : R'.a = 0
              · have HWZ : Hid ((R'.a != 0) = false) := by rw [Hid, hz]; rfl
                have hW0 : R.a = 0 := by rw [← HWA.out]; exact hz
                clear hz
                go_wp2_with (go_at_call 20; refine (waits_any w1.heap.size R' _ (HR3.out.ext hE3)).mono ?_; rintro e w9 ⟨rfl, hb9⟩; rw [HWZ.out])
                go_roundw
                case rel => exact ⟨k + 1, R', by omega, by go_num, by rw [HWA.out]; first | rfl | rw [hW0], HR3.out.ext (hE3.trans hb9), HIN.out, HBDk.out, (HX3.out.trans hE3).trans hb9⟩
                case measure => simp [intOf]; omega
              · have HWZ : Hid ((R'.a != 0) = true) := by rw [Hid]; simp [hz]
                have hW0 : (R.a == 0) = false := by rw [← HWA.out]; simp [hz]
                have hW1 : (R.a != 0) = true := by simp only [bne, hW0, Bool.not_false]
                clear hz
                go_wp2_with (go_at_call 20; refine (waits_any w1.heap.size R' _ (HR3.out.ext hE3)).mono ?_; rintro e w9 ⟨rfl, hb9⟩; rw [HWZ.out])
                go_roundw
                case rel => exact ⟨k + 1, R', by omega, by go_num, by rw [HWA.out], HR3.out.ext (hE3.trans hb9), HIN.out, HBDk.out, (HX3.out.trans hE3).trans hb9⟩
                case measure => simp [intOf]; omega

        · obtain ⟨R', hR'⟩ : ∃ R' : Rm, askR R (S k) (L k) = R' := ⟨_, rfl⟩
          have HRR := Lib.hid hR'
          have HBDk : Hid (R'.bd (20 + ((k + 1 : Nat) : Int))) := by rw [Hid, ← hR']; exact (bd_ask hbd).mono (by omega)
          have HBD : Hid (R'.bd 1000) := HBDk.out.mono (by omega)
          have HIN : Hid (R'.inv N) := by rw [Hid, ← hR']; exact inv_ask hinv
          have HWA : Hid (R'.a = S k) := by rw [Hid, ← hR']; rw [(ask_ok hd).2]
          have HDE := Lib.hid hd
          clear hR' hinv hbd hd
          go_wp2_with (go_at_call 16; refine (ask_any w1.heap.size R (S k) (L k) _ (HR.out.ext (by repeat (first | exact Ext.refl _ | refine Ext.setCell ?_ (by first | exact Nat.le_refl _ | (simp; done) | (simp; omega)) _ | refine Ext.drew ?_ | refine Ext.drewN ?_ _ | refine Ext.alloc ?_ _)))).mono ?_; rintro e w3 ⟨rfl, hr3, ht3⟩; rw [HDE.out]; rw [HRR.out] at hr3; have HR3 := Lib.hid hr3; have HX3 : Hid (Ext w w3) := ht3.then (by repeat (first | exact hE | refine Ext.setCell ?_ (by first | exact Nat.le_refl _ | (simp; done) | (simp; omega)) _ | refine Ext.drew ?_ | refine Ext.drewN ?_ _ | refine Ext.alloc ?_ _)) hb1.size; have f1 : w3.cell? ⟨wr.heap.size, 1, none⟩ = some (.int .i64 (S k)) := Lib.cell_of_heap (ht3.other wr.heap.size _ (by omega) (heap_alloc_new wr _)) 1; clear hr3 ht3)
          go_loopw [13] (fun i wi => ∃ j : Nat, 1 ≤ j ∧ j ≤ 3 ∧ i = .int .i64 j ∧ Ext w3 wi) (fun i _ => 3 - (intOf i).toNat)
          case atStart => exact ⟨1, by omega, by omega, rfl, Ext.refl _⟩
          case round =>
            obtain ⟨j, hj1, hj3, rfl, hE3⟩ := hrel
            by_cases hj : j ≤ 2
            · have hn12 : (j : Int) = 1 ∨ (j : Int) = 2 := by omega
              have hjle : (j : Int) ≤ 2 := by omega
              obtain ⟨b1, b2, b3, b4⟩ := bd_side HBD.out hn12
              obtain ⟨hsum, hge⟩ := inv_side HIN.out hn12
              obtain ⟨lf, hlf⟩ : ∃ x, lfN R' (j : Int) = x := ⟨_, rfl⟩
              obtain ⟨wn, hwn⟩ : ∃ x, wnN R' (j : Int) = x := ⟨_, rfl⟩
              obtain ⟨ls, hls⟩ : ∃ x, lsN R' (j : Int) = x := ⟨_, rfl⟩
              obtain ⟨op, hop⟩ : ∃ x, opN R' (j : Int) = x := ⟨_, rfl⟩
              rw [hlf] at b1 hsum hge
              rw [hwn] at b2
              rw [hls] at b3 hsum
              rw [hop] at b4
              have HLF := Lib.hid hlf
              have HWN := Lib.hid hwn
              have HLS := Lib.hid hls
              have HOP := Lib.hid hop
              clear hlf hwn hls hop
              by_cases hW : R'.a = (j : Int)
              · have hWb : (S k == (j : Int)) = true := by rw [← HWA.out]; simp [hW]
                have HAS : Hid (asN R' (j : Int) = wn + ls + op + 1) := by rw [Hid, as_side hn12, if_pos hW, HWN.out, HLS.out, HOP.out]
                clear hW hn12
                go_wp2_with (first | ((fail_if_success (have hzz := hb6)); go_at_call 18; refine (count_any w1.heap.size R' (j : Int) _ (HR3.out.ext hE3) (HBD.out.small (by decide))).mono ?_; rintro e w6 ⟨rfl, hb6⟩; dsimp only [cntV]; rw [HAS.out, HWN.out, HLS.out, HOP.out]) | ((fail_if_success (have hzz := hb7)); go_at_call 19; refine (left_any w1.heap.size R' (j : Int) _ (HR3.out.ext (hE3.trans hb6))).mono ?_; rintro e w7 ⟨rfl, hb7⟩; rw [HLF.out]) | ((fail_if_success (have hzz := hb8)); go_at_call 19; refine (left_any w1.heap.size R' (j : Int) _ (HR3.out.ext ((hE3.trans hb6).trans hb7))).mono ?_; rintro e w8 ⟨rfl, hb8⟩; rw [HLF.out]))
                go_roundw
                case rel => exact ⟨j + 1, by omega, by omega, by go_num, ((hE3.trans hb6).trans hb7).trans hb8⟩
                case measure => simp [intOf]; omega
              · have hWb : (S k == (j : Int)) = false := by rw [← HWA.out]; simp [hW]
                have HAS : Hid (asN R' (j : Int) = wn + ls + op) := by rw [Hid, as_side hn12, if_neg hW, HWN.out, HLS.out, HOP.out]; omega
                clear hW hn12
                go_wp2_with (first | ((fail_if_success (have hzz := hb6)); go_at_call 18; refine (count_any w1.heap.size R' (j : Int) _ (HR3.out.ext hE3) (HBD.out.small (by decide))).mono ?_; rintro e w6 ⟨rfl, hb6⟩; dsimp only [cntV]; rw [HAS.out, HWN.out, HLS.out, HOP.out]) | ((fail_if_success (have hzz := hb7)); go_at_call 19; refine (left_any w1.heap.size R' (j : Int) _ (HR3.out.ext (hE3.trans hb6))).mono ?_; rintro e w7 ⟨rfl, hb7⟩; rw [HLF.out]) | ((fail_if_success (have hzz := hb8)); go_at_call 19; refine (left_any w1.heap.size R' (j : Int) _ (HR3.out.ext ((hE3.trans hb6).trans hb7))).mono ?_; rintro e w8 ⟨rfl, hb8⟩; rw [HLF.out]))
                go_roundw
                case rel => exact ⟨j + 1, by omega, by omega, by go_num, ((hE3.trans hb6).trans hb7).trans hb8⟩
                case measure => simp [intOf]; omega
            · obtain rfl : j = 3 := by omega
              clear hj hj1 hj3
              by_cases hz : R'.a = 0
              · have HWZ : Hid ((R'.a != 0) = false) := by rw [Hid, hz]; rfl
                have hW0 : S k = 0 := by rw [← HWA.out]; exact hz
                clear hz
                go_wp2_with (go_at_call 20; refine (waits_any w1.heap.size R' _ (HR3.out.ext hE3)).mono ?_; rintro e w9 ⟨rfl, hb9⟩; rw [HWZ.out])
                go_roundw
                case rel => exact ⟨k + 1, R', by omega, by go_num, by rw [HWA.out]; first | rfl | rw [hW0], HR3.out.ext (hE3.trans hb9), HIN.out, HBDk.out, (HX3.out.trans hE3).trans hb9⟩
                case measure => simp [intOf]; omega
              · have HWZ : Hid ((R'.a != 0) = true) := by rw [Hid]; simp [hz]
                have hW0 : (S k == 0) = false := by rw [← HWA.out]; simp [hz]
                have hW1 : (S k != 0) = true := by simp only [bne, hW0, Bool.not_false]
                clear hz
                go_wp2_with (go_at_call 20; refine (waits_any w1.heap.size R' _ (HR3.out.ext hE3)).mono ?_; rintro e w9 ⟨rfl, hb9⟩; rw [HWZ.out])
                go_roundw
                case rel => exact ⟨k + 1, R', by omega, by go_num, by rw [HWA.out], HR3.out.ext (hE3.trans hb9), HIN.out, HBDk.out, (HX3.out.trans hE3).trans hb9⟩
                case measure => simp [intOf]; omega

    · obtain rfl : k = n := by omega
      go_wp2
      go_ret
      exact ⟨rfl, hE⟩

end Go.Proofs.YtppoejhfemolfaaDoor

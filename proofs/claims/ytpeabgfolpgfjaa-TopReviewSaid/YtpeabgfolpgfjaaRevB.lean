/-
  Ask, Decide, Renew, New and Clone of layer 36's room.
-/
import Derived.Test.YtpeabgfolpgfjaaRevA
namespace Go.Proofs.Ytpeabgfolpgfjaa
open Go.RowKit
set_option linter.unusedSimpArgs false

def askE (R : Rm) (n c : Int) : Int := if sideB n then (if givB c then (if R.a == 0 then (if lfN R n == 0 then 9 else 0) else 11) else 3) else 2
def askR (R : Rm) (n c : Int) : Rm := if askE R n c == 0 then { R with a := n, c := c } else R
theorem ask_vals {R : Rm} {n c e : Int} (h : askE R n c = e) (he : (e == 0) = false) : askE R n c = e ∧ askR R n c = R := ⟨h, by unfold askR; rw [h, he]; rfl⟩
theorem ask_ok {R : Rm} {n c : Int} (h : askE R n c = 0) : askE R n c = 0 ∧ askR R n c = { R with a := n, c := c } := ⟨h, by unfold askR; rw [h]; rfl⟩
def AskOK (p : Nat) (R : Rm) (n c : Int) (w : World) (e : Ending) (w' : World) : Prop := e = .returned (.int .i64 (askE R n c)) ∧ RoomAt p (askR R n c) w' ∧ Turn p w w'

set_option maxHeartbeats 8000000 in
theorem ask_any (p : Nat) (R : Rm) (n c : Int) (w : World) (hR : RoomAt p R w) : Calls Try.prog 6 #[.pointer (some ⟨p, 0, none⟩), .int .i64 n, .int .u8 c] w (AskOK p R n c w) := by
  obtain ⟨q0, q1, q2, q3, q4, q5, q6, q7, q8, q9, q10⟩ := hR.all
  have z9 := hR.fz 9
  have z10 := hR.fz 10
  rcases and1 (sideB n) with hs | hs
  · have HV := Lib.hid (ask_vals (R := R) (n := n) (c := c) (e := 2) (by simp [askE, hs]) rfl)
    have HS := Lib.hid hs
    clear hs
    go_enter Try.func6, Try.ntmps6
    go_wp2_with (go_at_call 13; refine (side_any _ _).mono ?_; rintro e w' ⟨rfl, rfl⟩; rw [HS.out])
    go_ret
    exact ⟨by rw [HV.out.1]; rfl, by rw [HV.out.2]; exact hR, (by repeat (first | exact Turn.refl _ _ | refine Turn.set ?_ _ _ | refine Turn.drew ?_ | refine Turn.drewN ?_ _ | refine Turn.alloc ?_ _ (by first | (simp; omega) | omega)))⟩
  rcases and1 (givB c) with hg | hg
  · have HV := Lib.hid (ask_vals (R := R) (n := n) (c := c) (e := 3) (by simp [askE, hs, hg]) rfl)
    have HS := Lib.hid hs
    have HG := Lib.hid hg
    clear hs hg
    go_enter Try.func6, Try.ntmps6
    go_wp2_with (first | (go_at_call 13; refine (side_any _ _).mono ?_; rintro e w' ⟨rfl, rfl⟩; rw [HS.out]) | (go_at_call 14; refine (given_any _ _).mono ?_; rintro e w' ⟨rfl, rfl⟩; rw [HG.out]))
    go_ret
    exact ⟨by rw [HV.out.1]; rfl, by rw [HV.out.2]; exact hR, (by repeat (first | exact Turn.refl _ _ | refine Turn.set ?_ _ _ | refine Turn.drew ?_ | refine Turn.drewN ?_ _ | refine Turn.alloc ?_ _ (by first | (simp; omega) | omega)))⟩
  rcases and1 (R.a == 0) with ha | ha
  · have HV := Lib.hid (ask_vals (R := R) (n := n) (c := c) (e := 11) (by simp only [askE, hs, hg, ha]; rfl) rfl)
    have HS := Lib.hid hs
    have HG := Lib.hid hg
    clear hs hg
    go_enter Try.func6, Try.ntmps6
    go_wp2_with (first | (go_at_call 13; refine (side_any _ _).mono ?_; rintro e w' ⟨rfl, rfl⟩; rw [HS.out]) | (go_at_call 14; refine (given_any _ _).mono ?_; rintro e w' ⟨rfl, rfl⟩; rw [HG.out]))
    go_ret
    exact ⟨by rw [HV.out.1]; rfl, by rw [HV.out.2]; exact hR, (by repeat (first | exact Turn.refl _ _ | refine Turn.set ?_ _ _ | refine Turn.drew ?_ | refine Turn.drewN ?_ _ | refine Turn.alloc ?_ _ (by first | (simp; omega) | omega)))⟩
  rcases and1 (lfN R n == 0) with hl | hl
  · have HV := Lib.hid (ask_ok (R := R) (n := n) (c := c) (by simp only [askE, hs, hg, ha, hl]; rfl))
    have HS := Lib.hid hs
    have HG := Lib.hid hg
    have ha' : R.a = 0 := by simpa using ha
    rw [ha'] at q9
    rcases side_cases hs with rfl | rfl
    · clear hs hg ha ha'
      have hl' : (R.l0 == 0) = false := hl
      clear hl
      go_enter Try.func6, Try.ntmps6
      go_wp2_with (first | (go_at_call 13; refine (side_any _ _).mono ?_; rintro e w' ⟨rfl, rfl⟩; rw [HS.out]) | (go_at_call 14; refine (given_any _ _).mono ?_; rintro e w' ⟨rfl, rfl⟩; rw [HG.out]))
      go_ret
      exact ⟨by rw [HV.out.1]; rfl, by rw [HV.out.2]; exact blk_set (blk_set hR 9 _) 10 _, (by repeat (first | exact Turn.refl _ _ | refine Turn.set ?_ _ _ | refine Turn.drew ?_ | refine Turn.drewN ?_ _ | refine Turn.alloc ?_ _ (by first | (simp; omega) | omega)))⟩
    · clear hs hg ha ha'
      have hl' : (R.l1 == 0) = false := hl
      clear hl
      go_enter Try.func6, Try.ntmps6
      go_wp2_with (first | (go_at_call 13; refine (side_any _ _).mono ?_; rintro e w' ⟨rfl, rfl⟩; rw [HS.out]) | (go_at_call 14; refine (given_any _ _).mono ?_; rintro e w' ⟨rfl, rfl⟩; rw [HG.out]))
      go_ret
      exact ⟨by rw [HV.out.1]; rfl, by rw [HV.out.2]; exact blk_set (blk_set hR 9 _) 10 _, (by repeat (first | exact Turn.refl _ _ | refine Turn.set ?_ _ _ | refine Turn.drew ?_ | refine Turn.drewN ?_ _ | refine Turn.alloc ?_ _ (by first | (simp; omega) | omega)))⟩
  · have HV := Lib.hid (ask_vals (R := R) (n := n) (c := c) (e := 9) (by simp only [askE, hs, hg, ha, hl]; rfl) rfl)
    have HS := Lib.hid hs
    have HG := Lib.hid hg
    have ha' : R.a = 0 := by simpa using ha
    rw [ha'] at q9
    rcases side_cases hs with rfl | rfl
    · clear hs hg ha ha'
      have hl' : R.l0 = 0 := by simpa [lfN] using hl
      rw [hl'] at q1
      clear hl hl'
      go_enter Try.func6, Try.ntmps6
      go_wp2_with (first | (go_at_call 13; refine (side_any _ _).mono ?_; rintro e w' ⟨rfl, rfl⟩; rw [HS.out]) | (go_at_call 14; refine (given_any _ _).mono ?_; rintro e w' ⟨rfl, rfl⟩; rw [HG.out]))
      go_ret
      exact ⟨by rw [HV.out.1]; rfl, by rw [HV.out.2]; exact hR, (by repeat (first | exact Turn.refl _ _ | refine Turn.set ?_ _ _ | refine Turn.drew ?_ | refine Turn.drewN ?_ _ | refine Turn.alloc ?_ _ (by first | (simp; omega) | omega)))⟩
    · clear hs hg ha ha'
      have hl' : R.l1 = 0 := by simpa [lfN] using hl
      rw [hl'] at q5
      clear hl hl'
      go_enter Try.func6, Try.ntmps6
      go_wp2_with (first | (go_at_call 13; refine (side_any _ _).mono ?_; rintro e w' ⟨rfl, rfl⟩; rw [HS.out]) | (go_at_call 14; refine (given_any _ _).mono ?_; rintro e w' ⟨rfl, rfl⟩; rw [HG.out]))
      go_ret
      exact ⟨by rw [HV.out.1]; rfl, by rw [HV.out.2]; exact hR, (by repeat (first | exact Turn.refl _ _ | refine Turn.set ?_ _ _ | refine Turn.drew ?_ | refine Turn.drewN ?_ _ | refine Turn.alloc ?_ _ (by first | (simp; omega) | omega)))⟩

def renR (R : Rm) : Rm := { R with l0 := R.m, l1 := R.m }
set_option maxHeartbeats 8000000 in
theorem renew_any (p : Nat) (R : Rm) (w : World) (hR : RoomAt p R w) : Calls Try.prog 12 #[.pointer (some ⟨p, 0, none⟩)] w fun e w' => e = .returned (.tuple #[]) ∧ RoomAt p (renR R) w' ∧ Turn p w w' := by
  obtain ⟨q0, q1, q2, q3, q4, q5, q6, q7, q8, q9, q10⟩ := hR.all
  have z1 := hR.fz 1
  have z5 := hR.fz 5
  go_enter Try.func12, Try.ntmps12
  go_wp2
  go_region
  all_goals
    go_wp2
    go_end0
    exact ⟨rfl, blk_set (blk_set hR 1 _) 5 _, (by repeat (first | exact Turn.refl _ _ | refine Turn.set ?_ _ _ | refine Turn.drew ?_ | refine Turn.drewN ?_ _ | refine Turn.alloc ?_ _ (by first | (simp; omega) | omega)))⟩

def newR (n : Int) : Rm := ⟨n, n, 0, 0, 0, n, 0, 0, 0, 0, 0⟩
def zerR (n : Int) : Rm := ⟨n, 0, 0, 0, 0, 0, 0, 0, 0, 0, 0⟩
theorem new_any (n : Int) (w : World) (h0 : 0 ≤ n) (h1 : n ≤ 20) : Calls Try.prog 5 #[.int .i64 n] w fun e w' => e = .returned (.tuple #[.pointer (some ⟨w.heap.size, 0, none⟩), .int .i64 0]) ∧ RoomAt w.heap.size (newR n) w' ∧ Ext w w' := by
  have h0' : ¬ (n < 0) := by omega
  have h1' : ¬ (20 < n) := by omega
  go_enter Try.func5, Try.ntmps5
  go_wp2_with (go_at_call 12; refine (renew_any w.heap.size (zerR n) _ (heap_alloc_new w _)).mono ?_; rintro e w1 ⟨rfl, hr1, ht1⟩)
  go_ret2
  exact ⟨rfl, hr1, Turn.then ((by repeat (first | exact Ext.refl _ | refine Ext.setCell ?_ (by first | exact Nat.le_refl _ | (simp; done) | (simp; omega)) _ | refine Ext.drew ?_ | refine Ext.drewN ?_ _ | refine Ext.alloc ?_ _)) : Ext w _) ht1 (Nat.le_refl _)⟩
theorem new_bad (n : Int) (w : World) (h : n < 0 ∨ 20 < n) : Calls Try.prog 5 #[.int .i64 n] w fun e w' => e = .returned (.tuple #[.pointer none, .int .i64 2]) ∧ Ext w w' := by
  by_cases h0 : n < 0
  · clear h
    go_enter Try.func5, Try.ntmps5
    go_wp2
    go_ret2
    exact ⟨rfl, Ext.refl _⟩
  · have h1 : 20 < n := by omega
    clear h
    go_enter Try.func5, Try.ntmps5
    go_wp2
    go_ret2
    exact ⟨rfl, Ext.refl _⟩

def decE (R : Rm) (v : Int) : Int := if R.a == 0 then 11 else if givB v || v == 3 then 0 else 3
def decC (R : Rm) (v : Int) : Int := if decE R v == 0 then (if v == 3 then R.c else v) else 0
def decS (R : Rm) (v : Int) : Rm :=
  if v == 3 then (if R.a == 1 then { R with a := 0, c := 0, o0 := R.o0 + 1 } else { R with a := 0, c := 0, o1 := R.o1 + 1 })
  else if v == R.c then (if R.a == 1 then { R with a := 0, c := 0, x0 := R.x0 + 1, l0 := R.l0 - 1 } else { R with a := 0, c := 0, x1 := R.x1 + 1, l1 := R.l1 - 1 })
  else (if R.a == 1 then { R with a := 0, c := 0, w0 := R.w0 + 1 } else { R with a := 0, c := 0, w1 := R.w1 + 1 })
def decR (R : Rm) (v : Int) : Rm := if decE R v == 0 then decS R v else R
theorem dec_no {R : Rm} {v e : Int} (h : decE R v = e) (he : (e == 0) = false) : decE R v = e ∧ decC R v = 0 ∧ decR R v = R := ⟨h, by unfold decC; rw [h, he]; rfl, by unfold decR; rw [h, he]; rfl⟩
theorem dec_ok {R : Rm} {v : Int} (h : decE R v = 0) : decE R v = 0 ∧ decC R v = (if v == 3 then R.c else v) ∧ decR R v = decS R v := ⟨h, by unfold decC; rw [h]; rfl, by unfold decR; rw [h]; rfl⟩
def DecOK (p : Nat) (R : Rm) (v : Int) (w : World) (e : Ending) (w' : World) : Prop := e = .returned (.tuple #[.int .u8 (decC R v), .int .i64 (decE R v)]) ∧ RoomAt p (decR R v) w' ∧ Turn p w w'

set_option maxHeartbeats 16000000 in
theorem decide_any (p : Nat) (R : Rm) (v : Int) (w : World) (hR : RoomAt p R w) (hB : R.small) : Calls Try.prog 9 #[.pointer (some ⟨p, 0, none⟩), .agg #[.int .u8 v, .int .u8 0, .int .u8 0, .int .u8 0]] w (DecOK p R v w) := by
  obtain ⟨q0, q1, q2, q3, q4, q5, q6, q7, q8, q9, q10⟩ := hR.all
  have hlt := hR.lt
  have z1 := hR.fz 1
  have z2 := hR.fz 2
  have z3 := hR.fz 3
  have z4 := hR.fz 4
  have z5 := hR.fz 5
  have z6 := hR.fz 6
  have z7 := hR.fz 7
  have z8 := hR.fz 8
  have z9 := hR.fz 9
  have z10 := hR.fz 10
  obtain ⟨b1, b2, b3, b4, b5, b6, b7, b8, b9⟩ := hB
  rcases and1 (R.a == 0) with ha | ha
  · have HG : Hid (givB v = givB v) := rfl
    rcases and1 (givB v || v == 3) with hv | hv
    · have HV := Lib.hid (dec_no (R := R) (v := v) (e := 3) (by simp only [decE, ha, hv]; rfl) rfl)
      have hv1 : givB v = false := by cases h : givB v <;> simp_all
      have hv2 : (v == 3) = false := by cases h : (v == 3) <;> simp_all
      have HG := Lib.hid hv1
      clear hv hv1
      go_enter Try.func9, Try.ntmps9
      go_wp2_with (go_at_call 14; refine (given_any _ _).mono ?_; rintro e w' ⟨rfl, rfl⟩; rw [HG.out])
      go_ret2
      exact ⟨by rw [HV.out.1, HV.out.2.1]; rfl, by rw [HV.out.2.2]; exact RoomAt.ext hR (by repeat (first | exact Ext.refl _ | refine Ext.setCell ?_ (by first | exact Nat.le_refl _ | (simp; done) | (simp; omega)) _ | refine Ext.drew ?_ | refine Ext.drewN ?_ _ | refine Ext.alloc ?_ _)), (by repeat (first | exact Turn.refl _ _ | refine Turn.set ?_ _ _ | refine Turn.drew ?_ | refine Turn.drewN ?_ _ | refine Turn.alloc ?_ _ (by first | (simp; omega) | omega)))⟩
    · have HV := Lib.hid (dec_ok (R := R) (v := v) (by simp only [decE, ha, hv]; rfl))
      have ha2 : R.a = 1 ∨ R.a = 2 := by
        rcases b9 with h | h | h
        · rw [h] at ha; cases ha
        · exact .inl h
        · exact .inr h
      rcases ha2 with ha1 | ha1
      · rw [ha1] at q9
        by_cases h3 : v = 3
        · subst h3
          have HS : Hid (decR R 3 = { R with a := 0, c := 0, o0 := R.o0 + 1 }) := by rw [Hid, HV.out.2.2]; simp [decS, ha1]
          have HC : Hid (decC R 3 = R.c) := by rw [Hid, HV.out.2.1]; rfl
          have HG : Hid (givB 3 = false) := rfl
          clear hv ha ha1
          go_enter Try.func9, Try.ntmps9
          go_wp2_with (go_at_call 14; refine (given_any _ _).mono ?_; rintro e w' ⟨rfl, rfl⟩; rw [HG.out])
          go_quiet (fail)
          go_wp2
          go_ret2
          exact ⟨by rw [HV.out.1, HC.out]; rfl, by rw [HS.out]; exact blk_set (blk_set (blk_set (RoomAt.ext hR (by repeat (first | exact Ext.refl _ | refine Ext.setCell ?_ (by first | exact Nat.le_refl _ | (simp; done) | (simp; omega)) _ | refine Ext.drew ?_ | refine Ext.drewN ?_ _ | refine Ext.alloc ?_ _))) 9 _) 10 _) 4 _, (by repeat (first | exact Turn.refl _ _ | refine Turn.set ?_ _ _ | refine Turn.drew ?_ | refine Turn.drewN ?_ _ | refine Turn.alloc ?_ _ (by first | (simp; omega) | omega)))⟩
        · have h3' : (v == 3) = false := by simp [h3]
          have hv1 : givB v = true := by cases h : givB v <;> simp_all
          have HG := Lib.hid hv1
          have HC : Hid (decC R v = v) := by rw [Hid, HV.out.2.1, h3']; rfl
          by_cases hc : v = R.c
          · have HS : Hid (decR R v = { R with a := 0, c := 0, x0 := R.x0 + 1, l0 := R.l0 - 1 }) := by rw [Hid, HV.out.2.2]; simp only [decS, h3', ha1, hc, beq_self_eq_true]; simp [← hc, h3]
            rw [← hc] at q10
            clear hv hv1 ha ha1 h3 hc
            go_enter Try.func9, Try.ntmps9
            go_wp2_with (go_at_call 14; refine (given_any _ _).mono ?_; rintro e w' ⟨rfl, rfl⟩; rw [HG.out])
            go_quiet (fail)
            go_wp2
            go_ret2
            exact ⟨by rw [HV.out.1, HC.out]; rfl, by rw [HS.out]; exact blk_set (blk_set (blk_set (blk_set (RoomAt.ext hR (by repeat (first | exact Ext.refl _ | refine Ext.setCell ?_ (by first | exact Nat.le_refl _ | (simp; done) | (simp; omega)) _ | refine Ext.drew ?_ | refine Ext.drewN ?_ _ | refine Ext.alloc ?_ _))) 9 _) 10 _) 3 _) 1 _, (by repeat (first | exact Turn.refl _ _ | refine Turn.set ?_ _ _ | refine Turn.drew ?_ | refine Turn.drewN ?_ _ | refine Turn.alloc ?_ _ (by first | (simp; omega) | omega)))⟩
          · have hc' : (v == R.c) = false := by simp [hc]
            have HS : Hid (decR R v = { R with a := 0, c := 0, w0 := R.w0 + 1 }) := by rw [Hid, HV.out.2.2]; simp [decS, h3', ha1, hc']
            clear hv hv1 ha ha1 h3 hc
            go_enter Try.func9, Try.ntmps9
            go_wp2_with (go_at_call 14; refine (given_any _ _).mono ?_; rintro e w' ⟨rfl, rfl⟩; rw [HG.out])
            go_quiet (fail)
            go_wp2
            go_ret2
            exact ⟨by rw [HV.out.1, HC.out]; rfl, by rw [HS.out]; exact blk_set (blk_set (blk_set (RoomAt.ext hR (by repeat (first | exact Ext.refl _ | refine Ext.setCell ?_ (by first | exact Nat.le_refl _ | (simp; done) | (simp; omega)) _ | refine Ext.drew ?_ | refine Ext.drewN ?_ _ | refine Ext.alloc ?_ _))) 9 _) 10 _) 2 _, (by repeat (first | exact Turn.refl _ _ | refine Turn.set ?_ _ _ | refine Turn.drew ?_ | refine Turn.drewN ?_ _ | refine Turn.alloc ?_ _ (by first | (simp; omega) | omega)))⟩
      · rw [ha1] at q9
        by_cases h3 : v = 3
        · subst h3
          have HS : Hid (decR R 3 = { R with a := 0, c := 0, o1 := R.o1 + 1 }) := by rw [Hid, HV.out.2.2]; simp [decS, ha1]
          have HC : Hid (decC R 3 = R.c) := by rw [Hid, HV.out.2.1]; rfl
          have HG : Hid (givB 3 = false) := rfl
          clear hv ha ha1
          go_enter Try.func9, Try.ntmps9
          go_wp2_with (go_at_call 14; refine (given_any _ _).mono ?_; rintro e w' ⟨rfl, rfl⟩; rw [HG.out])
          go_quiet (fail)
          go_wp2
          go_ret2
          exact ⟨by rw [HV.out.1, HC.out]; rfl, by rw [HS.out]; exact blk_set (blk_set (blk_set (RoomAt.ext hR (by repeat (first | exact Ext.refl _ | refine Ext.setCell ?_ (by first | exact Nat.le_refl _ | (simp; done) | (simp; omega)) _ | refine Ext.drew ?_ | refine Ext.drewN ?_ _ | refine Ext.alloc ?_ _))) 9 _) 10 _) 8 _, (by repeat (first | exact Turn.refl _ _ | refine Turn.set ?_ _ _ | refine Turn.drew ?_ | refine Turn.drewN ?_ _ | refine Turn.alloc ?_ _ (by first | (simp; omega) | omega)))⟩
        · have h3' : (v == 3) = false := by simp [h3]
          have hv1 : givB v = true := by cases h : givB v <;> simp_all
          have HG := Lib.hid hv1
          have HC : Hid (decC R v = v) := by rw [Hid, HV.out.2.1, h3']; rfl
          by_cases hc : v = R.c
          · have HS : Hid (decR R v = { R with a := 0, c := 0, x1 := R.x1 + 1, l1 := R.l1 - 1 }) := by rw [Hid, HV.out.2.2]; simp only [decS, h3', ha1, hc, beq_self_eq_true]; simp [← hc, h3]
            rw [← hc] at q10
            clear hv hv1 ha ha1 h3 hc
            go_enter Try.func9, Try.ntmps9
            go_wp2_with (go_at_call 14; refine (given_any _ _).mono ?_; rintro e w' ⟨rfl, rfl⟩; rw [HG.out])
            go_quiet (fail)
            go_wp2
            go_ret2
            exact ⟨by rw [HV.out.1, HC.out]; rfl, by rw [HS.out]; exact blk_set (blk_set (blk_set (blk_set (RoomAt.ext hR (by repeat (first | exact Ext.refl _ | refine Ext.setCell ?_ (by first | exact Nat.le_refl _ | (simp; done) | (simp; omega)) _ | refine Ext.drew ?_ | refine Ext.drewN ?_ _ | refine Ext.alloc ?_ _))) 9 _) 10 _) 7 _) 5 _, (by repeat (first | exact Turn.refl _ _ | refine Turn.set ?_ _ _ | refine Turn.drew ?_ | refine Turn.drewN ?_ _ | refine Turn.alloc ?_ _ (by first | (simp; omega) | omega)))⟩
          · have hc' : (v == R.c) = false := by simp [hc]
            have HS : Hid (decR R v = { R with a := 0, c := 0, w1 := R.w1 + 1 }) := by rw [Hid, HV.out.2.2]; simp [decS, h3', ha1, hc']
            clear hv hv1 ha ha1 h3 hc
            go_enter Try.func9, Try.ntmps9
            go_wp2_with (go_at_call 14; refine (given_any _ _).mono ?_; rintro e w' ⟨rfl, rfl⟩; rw [HG.out])
            go_quiet (fail)
            go_wp2
            go_ret2
            exact ⟨by rw [HV.out.1, HC.out]; rfl, by rw [HS.out]; exact blk_set (blk_set (blk_set (RoomAt.ext hR (by repeat (first | exact Ext.refl _ | refine Ext.setCell ?_ (by first | exact Nat.le_refl _ | (simp; done) | (simp; omega)) _ | refine Ext.drew ?_ | refine Ext.drewN ?_ _ | refine Ext.alloc ?_ _))) 9 _) 10 _) 6 _, (by repeat (first | exact Turn.refl _ _ | refine Turn.set ?_ _ _ | refine Turn.drew ?_ | refine Turn.drewN ?_ _ | refine Turn.alloc ?_ _ (by first | (simp; omega) | omega)))⟩
  · have HV := Lib.hid (dec_no (R := R) (v := v) (e := 11) (by simp only [decE, ha]; rfl) rfl)
    have ha' : R.a = 0 := by simpa using ha
    rw [ha'] at q9
    clear ha ha'
    go_enter Try.func9, Try.ntmps9
    go_wp2
    go_ret2
    exact ⟨by rw [HV.out.1, HV.out.2.1]; rfl, by rw [HV.out.2.2]; exact RoomAt.ext hR (by repeat (first | exact Ext.refl _ | refine Ext.setCell ?_ (by first | exact Nat.le_refl _ | (simp; done) | (simp; omega)) _ | refine Ext.drew ?_ | refine Ext.drewN ?_ _ | refine Ext.alloc ?_ _)), (by repeat (first | exact Turn.refl _ _ | refine Turn.set ?_ _ _ | refine Turn.drew ?_ | refine Turn.drewN ?_ _ | refine Turn.alloc ?_ _ (by first | (simp; omega) | omega)))⟩

end Go.Proofs.Ytpeabgfolpgfjaa

/-
  Decide of the reference's room of layer 36.
-/
import Derived.Test.YtppoejhfemolfaaDoorRevK
namespace Go.Proofs.YtppoejhfemolfaaDoor
open Go.RowKit
set_option linter.unusedSimpArgs false

theorem drewN_set (W : World) (a : Addr) (v : Value) : ∀ n, (W.drewN n).setCell a v = (W.setCell a v).drewN n
  | 0 => rfl
  | n + 1 => by
    show ((W.drewN n).drew).setCell a v = ((W.setCell a v).drewN n).drew
    rw [World.setCell_drew, drewN_set W a v n]
def RDecOK (R : Rm) (v : Int) (w : World) (e : Ending) (w' : World) : Prop := e = .returned (.tuple #[.agg (rcC (decR R v)), .int .u8 (decC R v), .int .i64 (decE R v)]) ∧ Ext w w'
set_option maxHeartbeats 16000000 in
theorem rdecide_any (R : Rm) (v : Int) (w : World) (hv : 0 ≤ v ∧ v ≤ 255) (hB : R.small) : Calls Tryd.prog 12 #[.agg #[.int .i64 R.m, .int .i64 R.l0, .int .i64 R.l1, .int .i64 R.w0, .int .i64 R.w1, .int .i64 R.x0, .int .i64 R.x1, .int .i64 R.o0, .int .i64 R.o1, .int .i64 R.a, .int .u8 R.c], .agg #[.int .u8 v, .int .u8 0, .int .u8 0, .int .u8 0]] w (RDecOK R v w) := by
  obtain ⟨b1, b2, b3, b4, b5, b6, b7, b8, b9⟩ := hB
  rcases and1 (R.a == 0) with ha | ha
  · rcases and1 (givB v || v == 3) with hd | hd
    · have HV := Lib.hid (dec_no (R := R) (v := v) (e := 3) (by simp only [decE, ha, hd]; rfl) rfl)
      have hv3 : v < 1 ∨ 3 < v := by
        simp only [givB, Bool.or_eq_false_iff, beq_eq_false_iff_ne] at hd
        omega
      have hc4 : (decide (v < 1) = true) ∨ (decide (v < 1) = false ∧ 3 < v) := by
        rcases hv3 with h | h
        · left; simp only [decide_eq_true_eq]; omega
        · right; exact ⟨by simp only [decide_eq_false_iff_not]; omega, h⟩
      clear hd hv3
      rcases hc4 with hc3 | ⟨hc3, hc5⟩
      all_goals
        go_enter Tryd.func12, Tryd.ntmps12
        go_wp2
        refine bodyPost_ret (v := .tuple #[.agg (rcC R), .int .u8 0, .int .i64 3]) (by (simp [results, Tryd.results12, go_sem, *]); first | done | rfl | (simp [rcC, *]; done)) rfl ?_
        exact ⟨by rw [HV.out.1, HV.out.2.1, HV.out.2.2], (by repeat (first | exact Ext.refl _ | refine Ext.setCell ?_ (by first | exact Nat.le_refl _ | (simp; done) | (simp; omega)) _ | refine Ext.drew ?_ | refine Ext.drewN ?_ _ | refine Ext.alloc ?_ _))⟩
    · have HV := Lib.hid (dec_ok (R := R) (v := v) (by simp only [decE, ha, hd]; rfl))
      have hlo : decide (v < 1) = false := by
        simp only [givB, Bool.or_eq_true, beq_iff_eq] at hd
        simp only [decide_eq_false_iff_not]; omega
      have hhi : decide (3 < v) = false := by
        simp only [givB, Bool.or_eq_true, beq_iff_eq] at hd
        simp only [decide_eq_false_iff_not]; omega
      have ha2 : R.a = 1 ∨ R.a = 2 := by
        rcases b9 with h | h | h
        · rw [h] at ha; cases ha
        · exact .inl h
        · exact .inr h
      clear hd
      obtain ⟨m, l0, w0, x0, o0, l1, w1, x1, o1, a, c⟩ := R
      rcases ha2 with ha1 | ha1
      · obtain rfl : a = 1 := ha1
        clear b9 ha
        by_cases h3 : v = 3
        · subst h3
          have HS : Hid (decR ⟨m, l0, w0, x0, o0, l1, w1, x1, o1, 1, c⟩ 3 = ⟨m, l0, w0, x0, o0 + 1, l1, w1, x1, o1, 0, 0⟩) := by rw [Hid, HV.out.2.2]; rfl
          have HC : Hid (decC ⟨m, l0, w0, x0, o0, l1, w1, x1, o1, 1, c⟩ 3 = c) := by rw [Hid, HV.out.2.1]; rfl
          clear hlo hhi
          go_enter Tryd.func12, Tryd.ntmps12
          go_wp2
          go_quiet (fail)
          have hsd : ∀ (W : World) (a : Addr) (u : Value), (W.drewN nq).setCell a u = (W.setCell a u).drewN nq := fun W a u => drewN_set W a u nq
          go_wp2
          refine bodyPost_ret (v := .tuple #[.agg (rcC ⟨m, l0, w0, x0, o0 + 1, l1, w1, x1, o1, 0, 0⟩), .int .u8 c, .int .i64 0]) (by (simp [results, Tryd.results12, go_sem, *]); first | done | rfl | (simp [rcC, *]; done)) rfl ?_
          exact ⟨by rw [HV.out.1, HC.out, HS.out], (by repeat (first | exact Ext.refl _ | refine Ext.setCell ?_ (by first | exact Nat.le_refl _ | (simp; done) | (simp; omega)) _ | refine Ext.drew ?_ | refine Ext.drewN ?_ _ | refine Ext.alloc ?_ _))⟩
        · have h3' : (v == 3) = false := by simp [h3]
          have HC : Hid (decC ⟨m, l0, w0, x0, o0, l1, w1, x1, o1, 1, c⟩ v = v) := by rw [Hid, HV.out.2.1, h3']; rfl
          by_cases hc : v = c
          · subst hc
            have HS : Hid (decR ⟨m, l0, w0, x0, o0, l1, w1, x1, o1, 1, v⟩ v = ⟨m, l0 - 1, w0, x0 + 1, o0, l1, w1, x1, o1, 0, 0⟩) := by rw [Hid, HV.out.2.2]; simp [decS, h3]
            clear h3
            go_enter Tryd.func12, Tryd.ntmps12
            go_wp2
            go_quiet (fail)
            have hsd : ∀ (W : World) (a : Addr) (u : Value), (W.drewN nq).setCell a u = (W.setCell a u).drewN nq := fun W a u => drewN_set W a u nq
            go_wp2
            refine bodyPost_ret (v := .tuple #[.agg (rcC ⟨m, l0 - 1, w0, x0 + 1, o0, l1, w1, x1, o1, 0, 0⟩), .int .u8 v, .int .i64 0]) (by (simp [results, Tryd.results12, go_sem, *]); first | done | rfl | (simp [rcC, *]; done)) rfl ?_
            exact ⟨by rw [HV.out.1, HC.out, HS.out], (by repeat (first | exact Ext.refl _ | refine Ext.setCell ?_ (by first | exact Nat.le_refl _ | (simp; done) | (simp; omega)) _ | refine Ext.drew ?_ | refine Ext.drewN ?_ _ | refine Ext.alloc ?_ _))⟩
          · have hc' : (v == c) = false := by simp [hc]
            have HS : Hid (decR ⟨m, l0, w0, x0, o0, l1, w1, x1, o1, 1, c⟩ v = ⟨m, l0, w0 + 1, x0, o0, l1, w1, x1, o1, 0, 0⟩) := by rw [Hid, HV.out.2.2]; simp [decS, h3, hc]
            clear h3 hc
            go_enter Tryd.func12, Tryd.ntmps12
            go_wp2
            go_quiet (fail)
            have hsd : ∀ (W : World) (a : Addr) (u : Value), (W.drewN nq).setCell a u = (W.setCell a u).drewN nq := fun W a u => drewN_set W a u nq
            go_wp2
            refine bodyPost_ret (v := .tuple #[.agg (rcC ⟨m, l0, w0 + 1, x0, o0, l1, w1, x1, o1, 0, 0⟩), .int .u8 v, .int .i64 0]) (by (simp [results, Tryd.results12, go_sem, *]); first | done | rfl | (simp [rcC, *]; done)) rfl ?_
            exact ⟨by rw [HV.out.1, HC.out, HS.out], (by repeat (first | exact Ext.refl _ | refine Ext.setCell ?_ (by first | exact Nat.le_refl _ | (simp; done) | (simp; omega)) _ | refine Ext.drew ?_ | refine Ext.drewN ?_ _ | refine Ext.alloc ?_ _))⟩
      · obtain rfl : a = 2 := ha1
        clear b9 ha
        by_cases h3 : v = 3
        · subst h3
          have HS : Hid (decR ⟨m, l0, w0, x0, o0, l1, w1, x1, o1, 2, c⟩ 3 = ⟨m, l0, w0, x0, o0, l1, w1, x1, o1 + 1, 0, 0⟩) := by rw [Hid, HV.out.2.2]; rfl
          have HC : Hid (decC ⟨m, l0, w0, x0, o0, l1, w1, x1, o1, 2, c⟩ 3 = c) := by rw [Hid, HV.out.2.1]; rfl
          clear hlo hhi
          go_enter Tryd.func12, Tryd.ntmps12
          go_wp2
          go_quiet (fail)
          have hsd : ∀ (W : World) (a : Addr) (u : Value), (W.drewN nq).setCell a u = (W.setCell a u).drewN nq := fun W a u => drewN_set W a u nq
          go_wp2
          refine bodyPost_ret (v := .tuple #[.agg (rcC ⟨m, l0, w0, x0, o0, l1, w1, x1, o1 + 1, 0, 0⟩), .int .u8 c, .int .i64 0]) (by (simp [results, Tryd.results12, go_sem, *]); first | done | rfl | (simp [rcC, *]; done)) rfl ?_
          exact ⟨by rw [HV.out.1, HC.out, HS.out], (by repeat (first | exact Ext.refl _ | refine Ext.setCell ?_ (by first | exact Nat.le_refl _ | (simp; done) | (simp; omega)) _ | refine Ext.drew ?_ | refine Ext.drewN ?_ _ | refine Ext.alloc ?_ _))⟩
        · have h3' : (v == 3) = false := by simp [h3]
          have HC : Hid (decC ⟨m, l0, w0, x0, o0, l1, w1, x1, o1, 2, c⟩ v = v) := by rw [Hid, HV.out.2.1, h3']; rfl
          by_cases hc : v = c
          · subst hc
            have HS : Hid (decR ⟨m, l0, w0, x0, o0, l1, w1, x1, o1, 2, v⟩ v = ⟨m, l0, w0, x0, o0, l1 - 1, w1, x1 + 1, o1, 0, 0⟩) := by rw [Hid, HV.out.2.2]; simp [decS, h3]
            clear h3
            go_enter Tryd.func12, Tryd.ntmps12
            go_wp2
            go_quiet (fail)
            have hsd : ∀ (W : World) (a : Addr) (u : Value), (W.drewN nq).setCell a u = (W.setCell a u).drewN nq := fun W a u => drewN_set W a u nq
            go_wp2
            refine bodyPost_ret (v := .tuple #[.agg (rcC ⟨m, l0, w0, x0, o0, l1 - 1, w1, x1 + 1, o1, 0, 0⟩), .int .u8 v, .int .i64 0]) (by (simp [results, Tryd.results12, go_sem, *]); first | done | rfl | (simp [rcC, *]; done)) rfl ?_
            exact ⟨by rw [HV.out.1, HC.out, HS.out], (by repeat (first | exact Ext.refl _ | refine Ext.setCell ?_ (by first | exact Nat.le_refl _ | (simp; done) | (simp; omega)) _ | refine Ext.drew ?_ | refine Ext.drewN ?_ _ | refine Ext.alloc ?_ _))⟩
          · have hc' : (v == c) = false := by simp [hc]
            have HS : Hid (decR ⟨m, l0, w0, x0, o0, l1, w1, x1, o1, 2, c⟩ v = ⟨m, l0, w0, x0, o0, l1, w1 + 1, x1, o1, 0, 0⟩) := by rw [Hid, HV.out.2.2]; simp [decS, h3, hc]
            clear h3 hc
            go_enter Tryd.func12, Tryd.ntmps12
            go_wp2
            go_quiet (fail)
            have hsd : ∀ (W : World) (a : Addr) (u : Value), (W.drewN nq).setCell a u = (W.setCell a u).drewN nq := fun W a u => drewN_set W a u nq
            go_wp2
            refine bodyPost_ret (v := .tuple #[.agg (rcC ⟨m, l0, w0, x0, o0, l1, w1 + 1, x1, o1, 0, 0⟩), .int .u8 v, .int .i64 0]) (by (simp [results, Tryd.results12, go_sem, *]); first | done | rfl | (simp [rcC, *]; done)) rfl ?_
            exact ⟨by rw [HV.out.1, HC.out, HS.out], (by repeat (first | exact Ext.refl _ | refine Ext.setCell ?_ (by first | exact Nat.le_refl _ | (simp; done) | (simp; omega)) _ | refine Ext.drew ?_ | refine Ext.drewN ?_ _ | refine Ext.alloc ?_ _))⟩
  · have HV := Lib.hid (dec_no (R := R) (v := v) (e := 11) (by simp only [decE, ha]; rfl) rfl)
    have ha' : R.a = 0 := by simpa using ha
    clear ha
    go_enter Tryd.func12, Tryd.ntmps12
    go_wp2
    refine bodyPost_ret (v := .tuple #[.agg (rcC R), .int .u8 0, .int .i64 11]) (by (simp [results, Tryd.results12, go_sem, *]); first | done | rfl | (simp [rcC, *]; done)) rfl ?_
    exact ⟨by rw [HV.out.1, HV.out.2.1, HV.out.2.2], (by repeat (first | exact Ext.refl _ | refine Ext.setCell ?_ (by first | exact Nat.le_refl _ | (simp; done) | (simp; omega)) _ | refine Ext.drew ?_ | refine Ext.drewN ?_ _ | refine Ext.alloc ?_ _))⟩

end Go.Proofs.YtppoejhfemolfaaDoor

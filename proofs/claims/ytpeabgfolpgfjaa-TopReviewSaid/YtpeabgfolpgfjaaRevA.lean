/-
  The room of layer 36 in memory; its small functions.
-/
import Derived.Test.YtpeabgfolpgfjaaKit
import Derived.BigRegion
import Derived.Laws.OwnMore
namespace Go.Proofs.Ytpeabgfolpgfjaa
open Go.RowKit
set_option linter.unusedSimpArgs false

/-- The state of a room: most, the two sides' (left, won, lost, open), the side that waits, the call. -/
structure Rm where
  m : Int
  l0 : Int
  w0 : Int
  x0 : Int
  o0 : Int
  l1 : Int
  w1 : Int
  x1 : Int
  o1 : Int
  a : Int
  c : Int
def rmC (R : Rm) : Array Value := #[.int .i64 R.m, .int .i64 R.l0, .int .i64 R.w0, .int .i64 R.x0, .int .i64 R.o0, .int .i64 R.l1, .int .i64 R.w1, .int .i64 R.x1, .int .i64 R.o1, .int .i64 R.a, .int .u8 R.c]
def RoomAt (p : Nat) (R : Rm) (w : World) : Prop := w.heap[p]? = some (.cells (rmC R) 72 (0, 0))
theorem RoomAt.at {p : Nat} {R : Rm} {w : World} (h : RoomAt p R w) (j : Nat) {v : Value} (hv : (rmC R)[j]? = some v) : w.cell? ⟨p, j, none⟩ = some v := (Lib.cell_of_heap h j).trans hv
theorem RoomAt.all {p : Nat} {R : Rm} {w : World} (h : RoomAt p R w) : w.cell? ⟨p, 0, none⟩ = some (.int .i64 R.m) ∧ w.cell? ⟨p, 1, none⟩ = some (.int .i64 R.l0) ∧ w.cell? ⟨p, 2, none⟩ = some (.int .i64 R.w0) ∧ w.cell? ⟨p, 3, none⟩ = some (.int .i64 R.x0) ∧ w.cell? ⟨p, 4, none⟩ = some (.int .i64 R.o0) ∧ w.cell? ⟨p, 5, none⟩ = some (.int .i64 R.l1) ∧ w.cell? ⟨p, 6, none⟩ = some (.int .i64 R.w1) ∧ w.cell? ⟨p, 7, none⟩ = some (.int .i64 R.x1) ∧ w.cell? ⟨p, 8, none⟩ = some (.int .i64 R.o1) ∧ w.cell? ⟨p, 9, none⟩ = some (.int .i64 R.a) ∧ w.cell? ⟨p, 10, none⟩ = some (.int .u8 R.c) :=
  ⟨h.at 0 rfl, h.at 1 rfl, h.at 2 rfl, h.at 3 rfl, h.at 4 rfl, h.at 5 rfl, h.at 6 rfl, h.at 7 rfl, h.at 8 rfl, h.at 9 rfl, h.at 10 rfl⟩
theorem RoomAt.fz {p : Nat} {R : Rm} {w : World} (h : RoomAt p R w) (j : Nat) : w.frozen? ⟨p, j, none⟩ = false := frozen_of_row w p j _ _ h
theorem RoomAt.lt {p : Nat} {R : Rm} {w : World} (h : RoomAt p R w) : p < w.heap.size := (Array.getElem?_eq_some_iff.1 h).1
theorem RoomAt.ext {p : Nat} {R : Rm} {w w' : World} (h : RoomAt p R w) (x : Ext w w') : RoomAt p R w' := (x.block p h.lt).trans h
theorem RoomAt.drew {p : Nat} {R : Rm} {w : World} (h : RoomAt p R w) : RoomAt p R w.drew := h
theorem blk_set {p : Nat} {cs : Array Value} {T : TypeId} {w : World} (h : w.heap[p]? = some (.cells cs T (0, 0))) (j : Nat) (u : Value) : (w.setCell ⟨p, j, none⟩ u).heap[p]? = some (.cells (cs.setIfInBounds j u) T (0, 0)) := heap_setCell_same w p j cs T u h
/-- Block p alone may have turned. -/
structure Turn (p : Nat) (w w' : World) : Prop where
  below : Below p w w'
  other : ∀ g o, g ≠ p → w.heap[g]? = some o → w'.heap[g]? = some o
theorem Turn.refl (p : Nat) (w : World) : Turn p w w := ⟨Below.refl _ _, fun _ _ _ h => h⟩
theorem Turn.of_ext {p : Nat} {w w' : World} (h : Ext w w') (hp : p ≤ w.heap.size) : Turn p w w' := ⟨Below.mono h hp, fun g _ _ hg => (h.block g (Array.getElem?_eq_some_iff.1 hg).1).trans hg⟩
theorem Turn.set {p : Nat} {a w : World} (h : Turn p a w) (j : Nat) (u : Value) : Turn p a (w.setCell ⟨p, j, none⟩ u) :=
  ⟨h.below.setCell (p := ⟨p, j, none⟩) (Nat.le_refl _) u, fun g o hg ho => (Below.heap_setCell w ⟨p, j, none⟩ u g hg).trans (h.other g o hg ho)⟩
theorem Turn.trans {p : Nat} {a b c : World} (h : Turn p a b) (k : Turn p b c) : Turn p a c := ⟨h.below.trans k.below, fun g o hg ho => k.other g o hg (h.other g o hg ho)⟩
theorem Turn.drew {p : Nat} {a w : World} (h : Turn p a w) : Turn p a w.drew := ⟨h.below.drew, h.other⟩
theorem Turn.drewN {p : Nat} {a w : World} (h : Turn p a w) (n : Nat) : Turn p a (w.drewN n) := by
  induction n with
  | zero => exact h
  | succ n ih => exact ih.drew
theorem Turn.alloc {p : Nat} {a w : World} (h : Turn p a w) (o : Obj) (hp : p ≤ w.heap.size) : Turn p a (w.alloc o) :=
  ⟨h.below.alloc hp o, fun g o' hg ho => (Below.heap_alloc w o g (Array.getElem?_eq_some_iff.1 (h.other g o' hg ho)).1).trans (h.other g o' hg ho)⟩
theorem Turn.then {p : Nat} {w0 w w' : World} (h : Ext w0 w) (k : Turn p w w') (hp : w0.heap.size ≤ p) : Ext w0 w' := Below.trans h (Below.mono k.below hp)
theorem RoomAt.turn {p q : Nat} {R : Rm} {w w' : World} (h : RoomAt p R w) (k : Turn q w w') (hne : p ≠ q) : RoomAt p R w' := k.other p _ hne h

def sideB (n : Int) : Bool := n == 1 || n == 2
def givB (c : Int) : Bool := c == 1 || c == 2
theorem side_any (n : Int) (w : World) : Calls Try.prog 13 #[.int .i64 n] w fun e w' => e = .returned (.bool (sideB n)) ∧ w = w' := by
  by_cases h1 : n = 1
  · subst h1
    go_enter Try.func13, Try.ntmps13
    go_wp2
    go_ret
    exact ⟨rfl, rfl⟩
  · by_cases h2 : n = 2
    · subst h2
      go_enter Try.func13, Try.ntmps13
      go_wp2
      go_ret
      exact ⟨rfl, rfl⟩
    · have HV : Hid (sideB n = false) := by simp [Hid, sideB, h1, h2]
      go_enter Try.func13, Try.ntmps13
      go_wp2
      go_ret
      exact ⟨retb (by first | rfl | exact HV.out.symm), rfl⟩
theorem given_any (n : Int) (w : World) : Calls Try.prog 14 #[.int .u8 n] w fun e w' => e = .returned (.bool (givB n)) ∧ w = w' := by
  by_cases h1 : n = 1
  · subst h1
    go_enter Try.func14, Try.ntmps14
    go_wp2
    go_ret
    exact ⟨rfl, rfl⟩
  · by_cases h2 : n = 2
    · subst h2
      go_enter Try.func14, Try.ntmps14
      go_wp2
      go_ret
      exact ⟨rfl, rfl⟩
    · have HV : Hid (givB n = false) := by simp [Hid, givB, h1, h2]
      go_enter Try.func14, Try.ntmps14
      go_wp2
      go_ret
      exact ⟨retb (by first | rfl | exact HV.out.symm), rfl⟩
theorem side_cases {n : Int} (h : sideB n = true) : n = 1 ∨ n = 2 := by simpa [sideB] using h
theorem giv_cases {n : Int} (h : givB n = true) : n = 1 ∨ n = 2 := by simpa [givB] using h
def lfN (R : Rm) (n : Int) : Int := if n = 1 then R.l0 else if n = 2 then R.l1 else 0
def wnN (R : Rm) (n : Int) : Int := if n = 1 then R.w0 else if n = 2 then R.w1 else 0
def lsN (R : Rm) (n : Int) : Int := if n = 1 then R.x0 else if n = 2 then R.x1 else 0
def opN (R : Rm) (n : Int) : Int := if n = 1 then R.o0 else if n = 2 then R.o1 else 0
def asN (R : Rm) (n : Int) : Int := if sideB n then wnN R n + lsN R n + opN R n + (if R.a = n then 1 else 0) else 0
/-- No count is large. -/
structure Rm.small (R : Rm) : Prop where
  l0 : -1000000 ≤ R.l0 ∧ R.l0 ≤ 1000000
  w0 : -1000000 ≤ R.w0 ∧ R.w0 ≤ 1000000
  x0 : -1000000 ≤ R.x0 ∧ R.x0 ≤ 1000000
  o0 : -1000000 ≤ R.o0 ∧ R.o0 ≤ 1000000
  l1 : -1000000 ≤ R.l1 ∧ R.l1 ≤ 1000000
  w1 : -1000000 ≤ R.w1 ∧ R.w1 ≤ 1000000
  x1 : -1000000 ≤ R.x1 ∧ R.x1 ≤ 1000000
  o1 : -1000000 ≤ R.o1 ∧ R.o1 ≤ 1000000
  a : R.a = 0 ∨ R.a = 1 ∨ R.a = 2

theorem left_any (p : Nat) (R : Rm) (n : Int) (w : World) (hR : RoomAt p R w) : Calls Try.prog 8 #[.pointer (some ⟨p, 0, none⟩), .int .i64 n] w fun e w' => e = .returned (.int .i64 (lfN R n)) ∧ Ext w w' := by
  obtain ⟨q0, q1, q2, q3, q4, q5, q6, q7, q8, q9, q10⟩ := hR.all
  rcases and1 (sideB n) with hs | hs
  · have HS := Lib.hid hs
    have HV : Hid (lfN R n = 0) := by
      have h1 : ¬ n = 1 := by rintro rfl; exact absurd hs (by decide)
      have h2 : ¬ n = 2 := by rintro rfl; exact absurd hs (by decide)
      simp [Hid, lfN, h1, h2]
    clear hs
    go_enter Try.func8, Try.ntmps8
    go_wp2_with (go_at_call 13; refine (side_any _ _).mono ?_; rintro e w' ⟨rfl, rfl⟩; rw [HS.out])
    go_ret
    exact ⟨by rw [HV.out]; rfl, Ext.refl _⟩
  · have HS := Lib.hid hs
    rcases side_cases hs with rfl | rfl
    all_goals
      clear hs
      go_enter Try.func8, Try.ntmps8
      go_wp2_with (go_at_call 13; refine (side_any _ _).mono ?_; rintro e w' ⟨rfl, rfl⟩; rw [HS.out])
      go_ret
      exact ⟨rfl, Ext.refl _⟩

def cntV (R : Rm) (n : Int) : Value := .tuple #[.int .i64 (asN R n), .int .i64 (wnN R n), .int .i64 (lsN R n), .int .i64 (opN R n)]
set_option maxHeartbeats 8000000 in
theorem count_any (p : Nat) (R : Rm) (n : Int) (w : World) (hR : RoomAt p R w) (hB : R.small) : Calls Try.prog 10 #[.pointer (some ⟨p, 0, none⟩), .int .i64 n] w fun e w' => e = .returned (cntV R n) ∧ Ext w w' := by
  obtain ⟨q0, q1, q2, q3, q4, q5, q6, q7, q8, q9, q10⟩ := hR.all
  have hlt := hR.lt
  obtain ⟨b1, b2, b3, b4, b5, b6, b7, b8, b9⟩ := hB
  rcases and1 (sideB n) with hs | hs
  · have HS := Lib.hid hs
    have HV : Hid (asN R n = 0 ∧ wnN R n = 0 ∧ lsN R n = 0 ∧ opN R n = 0) := by
      have h1 : ¬ n = 1 := by rintro rfl; exact absurd hs (by decide)
      have h2 : ¬ n = 2 := by rintro rfl; exact absurd hs (by decide)
      simp [Hid, asN, wnN, lsN, opN, h1, h2, hs]
    clear hs
    go_enter Try.func10, Try.ntmps10
    go_wp2_with (go_at_call 13; refine (side_any _ _).mono ?_; rintro e w' ⟨rfl, rfl⟩; rw [HS.out])
    refine bodyPost_ret (v := .tuple #[.int .i64 0, .int .i64 0, .int .i64 0, .int .i64 0]) (by simp [results, Try.results10, go_sem, *]) rfl ?_
    exact ⟨by rw [cntV, HV.out.1, HV.out.2.1, HV.out.2.2.1, HV.out.2.2.2], Ext.refl _⟩
  · have HS := Lib.hid hs
    rcases side_cases hs with rfl | rfl
    · clear hs
      by_cases ha : R.a = 1
      · have HV : Hid (asN R 1 = R.w0 + R.x0 + R.o0 + 1) := by simp [Hid, asN, wnN, lsN, opN, sideB, ha]
        go_enter Try.func10, Try.ntmps10
        go_wp2_with (go_at_call 13; refine (side_any _ _).mono ?_; rintro e w' ⟨rfl, rfl⟩; rw [HS.out])
        go_quiet (fail)
        go_wp2
        refine bodyPost_ret (v := .tuple #[.int .i64 (R.w0 + R.x0 + R.o0 + 1), .int .i64 R.w0, .int .i64 R.x0, .int .i64 R.o0]) (by simp [results, Try.results10, go_sem, *]) rfl ?_
        exact ⟨by rw [cntV, HV.out]; rfl, (by repeat (first | exact Ext.refl _ | refine Ext.setCell ?_ (by first | exact Nat.le_refl _ | (simp; done) | (simp; omega)) _ | refine Ext.drew ?_ | refine Ext.drewN ?_ _ | refine Ext.alloc ?_ _))⟩
      · have HV : Hid (asN R 1 = R.w0 + R.x0 + R.o0) := by simp [Hid, asN, wnN, lsN, opN, sideB, ha]
        have ha' : (R.a == 1) = false := by simp [ha]
        go_enter Try.func10, Try.ntmps10
        go_wp2_with (go_at_call 13; refine (side_any _ _).mono ?_; rintro e w' ⟨rfl, rfl⟩; rw [HS.out])
        go_quiet (fail)
        go_wp2
        refine bodyPost_ret (v := .tuple #[.int .i64 (R.w0 + R.x0 + R.o0), .int .i64 R.w0, .int .i64 R.x0, .int .i64 R.o0]) (by simp [results, Try.results10, go_sem, *]) rfl ?_
        exact ⟨by rw [cntV, HV.out]; rfl, (by repeat (first | exact Ext.refl _ | refine Ext.setCell ?_ (by first | exact Nat.le_refl _ | (simp; done) | (simp; omega)) _ | refine Ext.drew ?_ | refine Ext.drewN ?_ _ | refine Ext.alloc ?_ _))⟩
    · clear hs
      by_cases ha : R.a = 2
      · have HV : Hid (asN R 2 = R.w1 + R.x1 + R.o1 + 1) := by simp [Hid, asN, wnN, lsN, opN, sideB, ha]
        go_enter Try.func10, Try.ntmps10
        go_wp2_with (go_at_call 13; refine (side_any _ _).mono ?_; rintro e w' ⟨rfl, rfl⟩; rw [HS.out])
        go_quiet (fail)
        go_wp2
        refine bodyPost_ret (v := .tuple #[.int .i64 (R.w1 + R.x1 + R.o1 + 1), .int .i64 R.w1, .int .i64 R.x1, .int .i64 R.o1]) (by simp [results, Try.results10, go_sem, *]) rfl ?_
        exact ⟨by rw [cntV, HV.out]; rfl, (by repeat (first | exact Ext.refl _ | refine Ext.setCell ?_ (by first | exact Nat.le_refl _ | (simp; done) | (simp; omega)) _ | refine Ext.drew ?_ | refine Ext.drewN ?_ _ | refine Ext.alloc ?_ _))⟩
      · have HV : Hid (asN R 2 = R.w1 + R.x1 + R.o1) := by simp [Hid, asN, wnN, lsN, opN, sideB, ha]
        have ha' : (R.a == 2) = false := by simp [ha]
        go_enter Try.func10, Try.ntmps10
        go_wp2_with (go_at_call 13; refine (side_any _ _).mono ?_; rintro e w' ⟨rfl, rfl⟩; rw [HS.out])
        go_quiet (fail)
        go_wp2
        refine bodyPost_ret (v := .tuple #[.int .i64 (R.w1 + R.x1 + R.o1), .int .i64 R.w1, .int .i64 R.x1, .int .i64 R.o1]) (by simp [results, Try.results10, go_sem, *]) rfl ?_
        exact ⟨by rw [cntV, HV.out]; rfl, (by repeat (first | exact Ext.refl _ | refine Ext.setCell ?_ (by first | exact Nat.le_refl _ | (simp; done) | (simp; omega)) _ | refine Ext.drew ?_ | refine Ext.drewN ?_ _ | refine Ext.alloc ?_ _))⟩

end Go.Proofs.Ytpeabgfolpgfjaa

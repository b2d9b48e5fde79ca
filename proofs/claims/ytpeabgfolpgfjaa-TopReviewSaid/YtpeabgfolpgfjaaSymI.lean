/-
  Powerplays of rules (layer 5).
-/
import Derived.Test.YtpeabgfolpgfjaaSymG
namespace Go.Proofs.Ytpeabgfolpgfjaa
open Go.RowKit
set_option linter.unusedSimpArgs false

/-- The powerplays in memory: n of them, three numbers each. -/
structure PhAt (w : World) (A0 : Option Addr) (n : Nat) (f : Nat → Nat → Int) (b off : Nat) : Prop where
  nle : n ≤ 9223372036854775807
  top : 0 < n → A0 = some ⟨b, off, none⟩ ∧ b < w.heap.size
  cell : ∀ i j, i < n → j < 3 → w.cell? ⟨b, off + i * 3 + j, none⟩ = some (.int .i64 (f i j))
theorem PhAt.ext {w w' : World} {A0 : Option Addr} {n : Nat} {f : Nat → Nat → Int} {b off : Nat} (T : PhAt w A0 n f b off) (h : Ext w w') : PhAt w' A0 n f b off where
  nle := T.nle
  top := fun k => ⟨(T.top k).1, Nat.lt_of_lt_of_le (T.top k).2 h.size⟩
  cell := fun i j hi hj => ((Ext.cells h).1 _ _ (T.top (by omega)).2).trans (T.cell i j hi hj)
def phR (f : Nat → Nat → Int) (ov : Int) (i : Nat) : Bool := decide (1 ≤ f i 0 ∧ f i 0 ≤ f i 1 ∧ f i 1 ≤ ov) && rng (f i 2) 0 11
def phO (f : Nat → Nat → Int) (i : Nat) : Bool := decide (0 < i → f (i - 1) 1 < f i 0)
def phGo (f : Nat → Nat → Int) (ov : Int) : Nat → Nat → Int
  | 0, _ => 0
  | m + 1, k => if phR f ov k then (if phO f k then phGo f ov m (k + 1) else 8) else 2
def phE (n : Nat) (f : Nat → Nat → Int) (ov : Int) : Int := if 8 < n then 9 else phGo f ov n 0
theorem phGo_step {n k : Nat} (f : Nat → Nat → Int) (ov : Int) (h : k < n) : phGo f ov (n - k) k = if phR f ov k then (if phO f k then phGo f ov (n - (k + 1)) (k + 1) else 8) else 2 := by
  rw [show n - k = (n - (k + 1)) + 1 by omega]; rfl
set_option maxRecDepth 20000 in
set_option maxHeartbeats 16000000 in
theorem phases_any (r : Ru) (f : Nat → Nat → Int) (b off : Nat) (w : World) (T : PhAt w r.pa r.pl f b off) :
    Calls Try.prog 53 #[r.v] w fun e w' => e = .returned (.int .i64 (phE r.pl f r.ov)) ∧ Ext w w' := by
  obtain ⟨nm, si, inn, ov, ba, qu, wi, nb, fh, nw, fo, re, ou, pa, pl, pc⟩ := r
  unfold Ru.v
  dsimp only at *
  obtain ⟨n, rfl⟩ : ∃ n, n = pl := ⟨_, rfl⟩
  have hn := T.nle
  by_cases hbig : 8 < n
  · have HV : Hid (9 = phE n f ov) := by simp [Hid, phE, hbig]
    have hbig' : (8 : Int) < (n : Int) := by omega
    clear T
    go_enter Try.func53, Try.ntmps53
    go_wp2
    go_ret
    exact ⟨ret1 HV.out, (by repeat (first | exact Ext.refl _ | refine Ext.setCell ?_ (by first | exact Nat.le_refl _ | (simp; done) | (simp; omega)) _ | refine Ext.drew ?_ | refine Ext.drewN ?_ _ | refine Ext.alloc ?_ _))⟩
  · have hbig' : ¬ ((8 : Int) < (n : Int)) := by omega
    have HS : Hid (phE n f ov = phGo f ov n 0) := by simp [Hid, phE, hbig]
    go_enter Try.func53, Try.ntmps53
    go_wp2
    go_loopw [12] (fun i wr => ∃ k : Nat, k ≤ n ∧ i = .int .i64 k ∧ Ext (w.alloc (.cells #[.string ⟨nm.toArray⟩, .int .i64 si, .int .i64 inn, .int .i64 ov, .int .i64 ba, .int .i64 qu, .int .i64 wi, .int .i64 nb, .bool fh, .int .i64 nw, .int .i64 fo, .int .i64 re, .int .i64 ou, .slice pa n pc] 25)) wr ∧ phGo f ov n 0 = phGo f ov (n - k) k) (fun i _ => n - (intOf i).toNat)
    case atStart => exact ⟨0, by omega, rfl, Ext.refl _, rfl⟩
    case round =>
      obtain ⟨k, hk, rfl, hE, hG⟩ := hrel
      have HG := Lib.hid hG
      clear hG
      have r3 : wr.cell? ⟨w.heap.size, 3, none⟩ = some (.int .i64 ov) := hE.keep (by simp [go_sem])
      have r13 : wr.cell? ⟨w.heap.size, 13, none⟩ = some (.slice pa n pc) := hE.keep (by simp [go_sem])
      have rl : w.heap.size < wr.heap.size := cell_lt r3
      by_cases hlt : k < n
      · have T2 := T.ext (((Ext.refl _).alloc _).trans hE)
        obtain ⟨hA, hb⟩ := T2.top (by omega)
        subst hA
        have c0 : wr.cell? ⟨b, off + k * 3, none⟩ = some (.int .i64 (f k 0)) := T2.cell k 0 hlt (by omega)
        have c1 := T2.cell k 1 hlt (by omega)
        have c2 := T2.cell k 2 hlt (by omega)
        have HStep := Lib.hid (phGo_step f ov hlt)
        by_cases q1 : f k 0 < 1
        · have HR : Hid (phR f ov k = false) := by simp only [Hid, phR, Bool.and_eq_false_iff, decide_eq_false_iff_not]; left; omega
          have HVV : Hid (2 = phE n f ov) := by rw [Hid, HS.out, HG.out, HStep.out, HR.out]; rfl
          clear T2
          go_wp2_with fail
          go_ret
          exact ⟨ret1 HVV.out, (((Ext.refl _).alloc _).trans (by repeat (first | exact hE | refine Ext.setCell ?_ (by first | exact Nat.le_refl _ | (simp; done) | (simp; omega)) _ | refine Ext.drew ?_ | refine Ext.drewN ?_ _ | refine Ext.alloc ?_ _)))⟩
        by_cases q2 : f k 1 < f k 0
        · have HR : Hid (phR f ov k = false) := by simp only [Hid, phR, Bool.and_eq_false_iff, decide_eq_false_iff_not]; left; omega
          have HVV : Hid (2 = phE n f ov) := by rw [Hid, HS.out, HG.out, HStep.out, HR.out]; rfl
          clear T2
          go_wp2_with fail
          go_ret
          exact ⟨ret1 HVV.out, (((Ext.refl _).alloc _).trans (by repeat (first | exact hE | refine Ext.setCell ?_ (by first | exact Nat.le_refl _ | (simp; done) | (simp; omega)) _ | refine Ext.drew ?_ | refine Ext.drewN ?_ _ | refine Ext.alloc ?_ _)))⟩
        by_cases q3 : ov < f k 1
        · have HR : Hid (phR f ov k = false) := by simp only [Hid, phR, Bool.and_eq_false_iff, decide_eq_false_iff_not]; left; omega
          have HVV : Hid (2 = phE n f ov) := by rw [Hid, HS.out, HG.out, HStep.out, HR.out]; rfl
          clear T2
          go_wp2_with fail
          go_ret
          exact ⟨ret1 HVV.out, (((Ext.refl _).alloc _).trans (by repeat (first | exact hE | refine Ext.setCell ?_ (by first | exact Nat.le_refl _ | (simp; done) | (simp; omega)) _ | refine Ext.drew ?_ | refine Ext.drewN ?_ _ | refine Ext.alloc ?_ _)))⟩
        rcases and1 (rng (f k 2) 0 11) with q4 | q4
        · have X0 := Lib.hid q4
          have HR : Hid (phR f ov k = false) := by simp only [Hid, phR, q4, Bool.and_false]
          have HVV : Hid (2 = phE n f ov) := by rw [Hid, HS.out, HG.out, HStep.out, HR.out]; rfl
          clear T2 q4
          go_wp2_with (go_at_call 79; refine (rbet_any _ _ _ _).mono ?_; rintro e w' ⟨rfl, rfl⟩; rw [X0.out])
          go_ret
          exact ⟨ret1 HVV.out, (((Ext.refl _).alloc _).trans (by repeat (first | exact hE | refine Ext.setCell ?_ (by first | exact Nat.le_refl _ | (simp; done) | (simp; omega)) _ | refine Ext.drew ?_ | refine Ext.drewN ?_ _ | refine Ext.alloc ?_ _)))⟩
        have HR : Hid (phR f ov k = true) := by simp only [Hid, phR, q4, Bool.and_true, decide_eq_true_eq]; omega
        have X0 := Lib.hid q4
        clear q4
        by_cases hk0 : k = 0
        · have HO : Hid (phO f k = true) := by simp [Hid, phO, hk0]
          have HG2 : Hid (phGo f ov n 0 = phGo f ov (n - (k + 1)) (k + 1)) := by rw [Hid, HG.out, HStep.out, HR.out, HO.out]; rfl
          clear T2
          subst hk0
          simp only [Nat.zero_mul, Nat.add_zero] at c0 c1 c2
          go_wp2_with (go_at_call 79; refine (rbet_any _ _ _ _).mono ?_; rintro e w' ⟨rfl, rfl⟩; rw [X0.out])
          go_quiet (fail)
          go_wp2
          go_roundw
          case rel => exact ⟨0 + 1, by omega, by go_num, (by repeat (first | exact hE | refine Ext.setCell ?_ (by first | exact Nat.le_refl _ | (simp; done) | (simp; omega)) _ | refine Ext.drew ?_ | refine Ext.drewN ?_ _ | refine Ext.alloc ?_ _)), HG2.out⟩
          case measure => simp [intOf]; omega
        · have hk1 : (0 : Int) < (k : Int) := by omega
          obtain ⟨j, rfl⟩ : ∃ j, k = j + 1 := ⟨k - 1, by omega⟩
          have cp := T2.cell j 1 (by omega) (by omega)
          clear T2
          have ej : (((j + 1 : Nat) : Int) - 1) = (j : Int) := by omega
          have ej2 : ((j : Int) + 1 - 1) = (j : Int) := by omega
          by_cases ho : f j 1 < f (j + 1) 0
          · have HO : Hid (phO f (j + 1) = true) := by simp [Hid, phO, ho]
            have HG2 : Hid (phGo f ov n 0 = phGo f ov (n - (j + 1 + 1)) (j + 1 + 1)) := by rw [Hid, HG.out, HStep.out, HR.out, HO.out]; rfl
            have ho' : ¬ (f (j + 1) 0 ≤ f j 1) := by omega
            go_wp2_with (go_at_call 79; refine (rbet_any _ _ _ _).mono ?_; rintro e w' ⟨rfl, rfl⟩; rw [X0.out])
            go_quiet (fail)
            go_wp2
            go_roundw
            case rel => exact ⟨j + 1 + 1, by omega, by go_num, (by repeat (first | exact hE | refine Ext.setCell ?_ (by first | exact Nat.le_refl _ | (simp; done) | (simp; omega)) _ | refine Ext.drew ?_ | refine Ext.drewN ?_ _ | refine Ext.alloc ?_ _)), HG2.out⟩
            case measure => simp [intOf]; omega
          · have HO : Hid (phO f (j + 1) = false) := by simp [Hid, phO]; omega
            have HVV : Hid (8 = phE n f ov) := by rw [Hid, HS.out, HG.out, HStep.out, HR.out, HO.out]; rfl
            have ho' : f (j + 1) 0 ≤ f j 1 := by omega
            go_wp2_with (go_at_call 79; refine (rbet_any _ _ _ _).mono ?_; rintro e w' ⟨rfl, rfl⟩; rw [X0.out])
            go_quiet (fail)
            go_wp2
            go_ret
            exact ⟨ret1 HVV.out, (((Ext.refl _).alloc _).trans (by repeat (first | exact hE | refine Ext.setCell ?_ (by first | exact Nat.le_refl _ | (simp; done) | (simp; omega)) _ | refine Ext.drew ?_ | refine Ext.drewN ?_ _ | refine Ext.alloc ?_ _)))⟩
      · obtain rfl : k = n := by omega
        have HVV : Hid (0 = phE k f ov) := by rw [Hid, HS.out, HG.out, Nat.sub_self]; rfl
        go_wp2
        go_ret
        exact ⟨ret1 HVV.out, (((Ext.refl _).alloc _).trans (by repeat (first | exact hE | refine Ext.setCell ?_ (by first | exact Nat.le_refl _ | (simp; done) | (simp; omega)) _ | refine Ext.drew ?_ | refine Ext.drewN ?_ _ | refine Ext.alloc ?_ _)))⟩

end Go.Proofs.Ytpeabgfolpgfjaa

/-
  Contracts of Overs, Wickets, At (program and reference) and of small, layer 37.
-/
import Derived.Test.YtoemcpndmfimiaaResC
namespace Go.Proofs.Ytoemcpndmfimiaa
open Go.RowKit
set_option linter.unusedSimpArgs false

def ovV (n : Nat) : Int := if n = 0 then 0 else (n : Int) - 1
def wkV (n : Nat) (L : Nat → Nat) : Int := if n = 0 then 0 else (L 0 : Int)
theorem ovV_pos {n : Nat} (h : 0 < n) : ovV n = (n : Int) - 1 := by unfold ovV; rw [if_neg (by omega)]
theorem ovV_zero : ovV 0 = 0 := rfl
theorem wkV_pos {n : Nat} {L : Nat → Nat} (h : 0 < n) : wkV n L = (L 0 : Int) := by unfold wkV; rw [if_neg (by omega)]
theorem wkV_zero {L : Nat → Nat} : wkV 0 L = 0 := rfl
/-- Are the numbers of a question to a table in their ranges? -/
def AtR (n : Nat) (L : Nat → Nat) (per balls wk : Int) : Prop := 1 ≤ per ∧ per ≤ 8 ∧ 0 ≤ balls ∧ balls ≤ ((n : Int) - 1) * per ∧ 0 ≤ wk ∧ wk ≤ (L 0 : Int)
def atN (Z : Nat → Nat → Int) (per balls wk : Int) : Int :=
  Z (balls / per).toNat wk.toNat * (per - balls % per) + (if 0 < balls % per then Z ((balls / per).toNat + 1) wk.toNat * (balls % per) else 0)
open Classical in
noncomputable def atV (n : Nat) (L : Nat → Nat) (Z : Nat → Nat → Int) (per balls wk : Int) : Int :=
  if checkV n L Z = 0 ∧ AtR n L per balls wk ∧ wk ≠ (L 0 : Int) then atN Z per balls wk else 0
open Classical in
noncomputable def atE (n : Nat) (L : Nat → Nat) (Z : Nat → Nat → Int) (per balls wk : Int) : Int :=
  if checkV n L Z = 0 then (if AtR n L per balls wk then 0 else 2) else checkV n L Z
section
variable {n : Nat} {L : Nat → Nat} {Z : Nat → Nat → Int} {per balls wk : Int}
theorem at_check (h : checkV n L Z ≠ 0) : atV n L Z per balls wk = 0 ∧ atE n L Z per balls wk = checkV n L Z := by simp [atV, atE, h]
theorem at_range (h : checkV n L Z = 0) (h' : ¬ AtR n L per balls wk) : atV n L Z per balls wk = 0 ∧ atE n L Z per balls wk = 2 := by simp [atV, atE, h, h']
theorem at_all (h : checkV n L Z = 0) (h' : AtR n L per balls wk) (hw : wk = (L 0 : Int)) : atV n L Z per balls wk = 0 ∧ atE n L Z per balls wk = 0 := by
  simp [atV, atE, h, hw]; rw [← hw]; exact h'
theorem at_some (h : checkV n L Z = 0) (h' : AtR n L per balls wk) (hw : wk ≠ (L 0 : Int)) : atV n L Z per balls wk = atN Z per balls wk ∧ atE n L Z per balls wk = 0 := by
  simp [atV, atE, h, h', hw]
end
/-- The quotient and the rest, as natural numbers. -/
theorem quot_rest {n : Nat} {per balls : Int} (h1 : 1 ≤ per) (h2 : 0 ≤ balls) (h3 : balls ≤ ((n : Int) - 1) * per) :
    ∃ u r : Nat, balls / per = (u : Int) ∧ balls % per = (r : Int) ∧ (r : Int) < per ∧ (u : Int) ≤ (n : Int) - 1 ∧ (0 < r → u + 1 < n) ∧ balls = per * u + r := by
  have e := Int.mul_ediv_add_emod balls per
  have r0 := Int.emod_nonneg balls (b := per) (by omega)
  have r1 := Int.emod_lt_of_pos balls (b := per) (by omega)
  have q0 : 0 ≤ balls / per := Int.ediv_nonneg h2 (by omega)
  obtain ⟨u, hu⟩ := Int.eq_ofNat_of_zero_le q0
  obtain ⟨r, hr⟩ := Int.eq_ofNat_of_zero_le r0
  rw [hu, hr] at e
  rw [hr] at r1
  have h4 : (u : Int) * per ≤ ((n : Int) - 1) * per := by rw [Int.mul_comm]; omega
  have h5 : (u : Int) ≤ (n : Int) - 1 := Int.le_of_mul_le_mul_right h4 (by omega)
  refine ⟨u, r, hu, hr, r1, h5, fun hpos => ?_, e.symm⟩
  have h6 : (u : Int) * per < ((n : Int) - 1) * per := by rw [Int.mul_comm]; omega
  have := Int.lt_of_mul_lt_mul_right h6 (by omega)
  omega
def SomeBool (w : World) (e : Ending) (w' : World) : Prop := ∃ q : Bool, e = .returned (.bool q) ∧ Ext w w'

set_option maxHeartbeats 400000 in
theorem overs_any (w : World) (A0 : Option Addr) (n c0 : Nat) (hn : n ≤ 9223372036854775807) :
    Calls Try.prog 8 #[.agg #[.slice A0 n c0]] w fun e w' => e = .returned (.int .i64 (ovV n)) ∧ Ext w w' := by
  rcases Nat.eq_zero_or_pos n with rfl | h
  · go_enter Try.func8, Try.ntmps8
    go_wp2
    go_ret
    exact ⟨ret1 ovV_zero.symm, (Ext.refl _).alloc _⟩
  · have HV := Lib.hid (ovV_pos h)
    go_enter Try.func8, Try.ntmps8
    go_wp2
    all_goals
      go_ret
      exact ⟨ret1 (by first | (rw [HV.out]; done) | (rw [HV.out]; omega)), (Ext.refl _).alloc _⟩

set_option maxHeartbeats 400000 in
theorem wkts_any (w : World) {A0 : Option Addr} {n : Nat} {A : Nat → Option Addr} {L C : Nat → Nat} {Z : Nat → Nat → Int} {b off : Nat} {G O : Nat → Nat} (c0 : Nat) (T : TabAt w A0 n A L C Z b off G O) :
    Calls Try.prog 10 #[.agg #[.slice A0 n c0]] w fun e w' => e = .returned (.int .i64 (wkV n L)) ∧ Ext w w' := by
  rcases Nat.eq_zero_or_pos n with rfl | h
  · go_enter Try.func10, Try.ntmps10
    go_wp2
    go_ret
    exact ⟨ret1 wkV_zero.symm, (Ext.refl _).alloc _⟩
  · have HV := Lib.hid (@wkV_pos n L h)
    have hn := T.nle
    obtain ⟨rfl, hb⟩ := T.top h
    have hr0 : w.cell? ⟨b, off, none⟩ = some (.slice (A 0) (L 0) (C 0)) := by simpa using T.row 0 h
    have hnz : ((n : Int) == 0) = false := by simp; omega
    go_enter Try.func10, Try.ntmps10
    go_wp2
    go_ret
    exact ⟨ret1 HV.out.symm, (Ext.refl _).alloc _⟩

set_option maxHeartbeats 4000000 in
theorem at_any (w : World) {A0 : Option Addr} {n : Nat} {A : Nat → Option Addr} {L C : Nat → Nat} {Z : Nat → Nat → Int} {b off : Nat} {G O : Nat → Nat} (c0 : Nat) (per balls wk : Int) (T : TabAt w A0 n A L C Z b off G O) :
    Calls Try.prog 22 #[.agg #[.slice A0 n c0], .int .i64 per, .int .i64 balls, .int .i64 wk] w fun e w' => e = .returned (.tuple #[.int .i64 (atV n L Z per balls wk), .int .i64 (atE n L Z per balls wk)]) ∧ Ext w w' := by
  have hn := T.nle
  have TX : TabAt (w.alloc (.cells #[.slice A0 n c0] 24)) A0 n A L C Z b off G O := T.ext ((Ext.refl _).alloc _)
  by_cases hc : checkV n L Z = 0
  · have HC := Lib.hid hc
    obtain ⟨n1, n2, l1, l2, hL, hV⟩ := shape_zero (rends_zero (check_zero hc).1).1
    have HO := Lib.hid (@ovV_pos n (by omega))
    have HW := Lib.hid (@wkV_pos n L (by omega))
    have HL := Lib.hid hL
    have HVA := Lib.hid hV
    clear hL hV
    by_cases hr : AtR n L per balls wk
    · by_cases hw : wk = (L 0 : Int)
      · have HM := Lib.hid (at_all hc hr hw)
        obtain ⟨r1, r2, r3, r4, r5, r6⟩ := hr
        have k1 : 0 ≤ ((n : Int) - 1) * per := Int.mul_nonneg (by omega) (by omega)
        have k2 : ((n : Int) - 1) * per ≤ 90 * 8 := Int.mul_le_mul (by omega) r2 (by omega) (by omega)
        have hwb : (wk == (L 0 : Int)) = true := by simp [hw]
        have hwl : wk ≤ 10 := by omega
        clear hw hc
        go_enter Try.func22, Try.ntmps22
        go_wp2_with (first | (go_at_call 6; refine (check_any _ c0 TX).mono ?_; rintro e w1 ⟨rfl, hE⟩; rw [HC.out]; obtain ⟨hcell, hfr⟩ := hE.cells; have T1 := TX.ext hE) | (go_at_call 8; refine (overs_any _ _ n c0 hn).mono ?_; rintro e w' ⟨rfl, hb2⟩; rw [HO.out]; (first | (replace hE := hE.trans hb2) | (replace hE := hE.drew.trans hb2)); clear hb2 hcell hfr T1; obtain ⟨hcell, hfr⟩ := hE.cells; have T1 := TX.ext hE) | (go_at_call 10; refine (wkts_any _ c0 T1).mono ?_; rintro e w' ⟨rfl, hb2⟩; rw [HW.out]; (first | (replace hE := hE.trans hb2) | (replace hE := hE.drew.trans hb2)); clear hb2 hcell hfr T1; obtain ⟨hcell, hfr⟩ := hE.cells; have T1 := TX.ext hE))
        go_ret2
        exact ⟨ret2 HM.out.1.symm HM.out.2.symm, ((Ext.refl _).alloc _).trans hE⟩
      · have HM := Lib.hid (at_some hc hr hw)
        obtain ⟨r1, r2, r3, r4, r5, r6⟩ := hr
        have k1 : 0 ≤ ((n : Int) - 1) * per := Int.mul_nonneg (by omega) (by omega)
        have k2 : ((n : Int) - 1) * per ≤ 90 * 8 := Int.mul_le_mul (by omega) r2 (by omega) (by omega)
        have hwb : (wk == (L 0 : Int)) = false := by simp [hw]
        have hwl : wk < (L 0 : Int) := by omega
        obtain ⟨u, r, e1, e2, e3, e4, e5, -⟩ := quot_rest r1 r3 r4
        obtain ⟨j, rfl⟩ := Int.eq_ofNat_of_zero_le r5
        have hun : u < n := by omega
        have hju : j < L u := by rw [HL.out u hun]; omega
        obtain ⟨z1, z2⟩ := HVA.out u hun j hju
        have k3 := mul_bd (y := per - r) z1 z2 (by omega) (show per - r ≤ 8 by omega)
        obtain ⟨k30, k31⟩ := k3
        clear hw hc
        by_cases hrp : 0 < r
        · have e5 := e5 hrp
          have hju1 : j < L (u + 1) := by rw [HL.out (u + 1) e5]; omega
          obtain ⟨z3, z4⟩ := HVA.out (u + 1) e5 j hju1
          obtain ⟨k40, k41⟩ := mul_bd (y := (r : Int)) z3 z4 (by omega) (show (r : Int) ≤ 8 by omega)
          have HF : Hid (atN Z per balls (j : Int) = Z u j * (per - r) + Z (u + 1) j * r) := by
            unfold Hid atN; rw [e1, e2, if_pos (by omega)]; simp
          have E1 := Lib.hid e1
          have E2 := Lib.hid e2
          clear e1 e2
          go_enter Try.func22, Try.ntmps22
          go_wp2_with (first | (go_at_call 6; refine (check_any _ c0 TX).mono ?_; rintro e w1 ⟨rfl, hE⟩; rw [HC.out]; obtain ⟨hcell, hfr⟩ := hE.cells; have T1 := TX.ext hE) | (go_at_call 8; refine (overs_any _ _ n c0 hn).mono ?_; rintro e w' ⟨rfl, hb2⟩; rw [HO.out]; (first | (replace hE := hE.trans hb2) | (replace hE := hE.drew.trans hb2)); clear hb2 hcell hfr T1; obtain ⟨hcell, hfr⟩ := hE.cells; have T1 := TX.ext hE) | (go_at_call 10; refine (wkts_any _ c0 T1).mono ?_; rintro e w' ⟨rfl, hb2⟩; rw [HW.out]; (first | (replace hE := hE.trans hb2) | (replace hE := hE.drew.trans hb2)); clear hb2 hcell hfr T1; obtain ⟨hcell, hfr⟩ := hE.cells; have T1 := TX.ext hE))
          have e1 := E1.out
          have e2 := E2.out
          have T1b := (T1.top (by omega)).2
          have hru := T1.row u hun
          have hrv := T1.row (u + 1) e5
          obtain ⟨hAu, hGu⟩ := T1.got u hun (by omega)
          obtain ⟨hAv, hGv⟩ := T1.got (u + 1) e5 (by omega)
          rw [hAu] at hru
          rw [hAv] at hrv
          have hcu := T1.cell u j hun hju
          have hcv := T1.cell (u + 1) j e5 hju1
          have hbox := hE.keep (b := w.heap.size) (o := 0) (v := .slice A0 n c0) (by simp)
          clear hcell hfr hAu hAv T1 TX
          obtain ⟨rfl, hb⟩ := T.top (by omega)
          have hz : ((per : Int) == 0) = false := by simp; omega
          go_region
          go_wp2
          go_ret2
          exact ⟨ret2 (by rw [HM.out.1, HF.out]) HM.out.2.symm, ((Ext.refl _).alloc _).trans hE.drew⟩
        · obtain rfl : r = 0 := by omega
          have HF : Hid (atN Z per balls (j : Int) = Z u j * per) := by
            unfold Hid atN; rw [e1, e2]; simp
          have E1 := Lib.hid e1
          have E2 := Lib.hid e2
          clear e1 e2 e5
          have k5 : per - (0 : Nat) = per := by omega
          rw [k5] at k30 k31
          clear k5
          go_enter Try.func22, Try.ntmps22
          go_wp2_with (first | (go_at_call 6; refine (check_any _ c0 TX).mono ?_; rintro e w1 ⟨rfl, hE⟩; rw [HC.out]; obtain ⟨hcell, hfr⟩ := hE.cells; have T1 := TX.ext hE) | (go_at_call 8; refine (overs_any _ _ n c0 hn).mono ?_; rintro e w' ⟨rfl, hb2⟩; rw [HO.out]; (first | (replace hE := hE.trans hb2) | (replace hE := hE.drew.trans hb2)); clear hb2 hcell hfr T1; obtain ⟨hcell, hfr⟩ := hE.cells; have T1 := TX.ext hE) | (go_at_call 10; refine (wkts_any _ c0 T1).mono ?_; rintro e w' ⟨rfl, hb2⟩; rw [HW.out]; (first | (replace hE := hE.trans hb2) | (replace hE := hE.drew.trans hb2)); clear hb2 hcell hfr T1; obtain ⟨hcell, hfr⟩ := hE.cells; have T1 := TX.ext hE))
          have e1 := E1.out
          have e2 : balls % per = 0 := E2.out
          have T1b := (T1.top (by omega)).2
          have hru := T1.row u hun
          obtain ⟨hAu, hGu⟩ := T1.got u hun (by omega)
          rw [hAu] at hru
          have hcu := T1.cell u j hun hju
          have hbox := hE.keep (b := w.heap.size) (o := 0) (v := .slice A0 n c0) (by simp)
          clear hcell hfr hAu T1 TX
          obtain ⟨rfl, hb⟩ := T.top (by omega)
          have hz : ((per : Int) == 0) = false := by simp; omega
          go_region
          go_wp2
          go_ret2
          exact ⟨ret2 (by rw [HM.out.1, HF.out]) HM.out.2.symm, ((Ext.refl _).alloc _).trans hE.drew⟩
    · have HM := Lib.hid (at_range hc hr)
      have hcases : per < 1 ∨ (1 ≤ per ∧ 8 < per) ∨ (1 ≤ per ∧ per ≤ 8 ∧ balls < 0) ∨ (1 ≤ per ∧ per ≤ 8 ∧ 0 ≤ balls ∧ ((n : Int) - 1) * per < balls) ∨
          (1 ≤ per ∧ per ≤ 8 ∧ 0 ≤ balls ∧ balls ≤ ((n : Int) - 1) * per ∧ wk < 0) ∨ (1 ≤ per ∧ per ≤ 8 ∧ 0 ≤ balls ∧ balls ≤ ((n : Int) - 1) * per ∧ 0 ≤ wk ∧ (L 0 : Int) < wk) := by
        unfold AtR at hr; omega
      clear hr hc
      rcases hcases with r1 | ⟨r1, r2⟩ | ⟨r1, r2, r3⟩ | ⟨r1, r2, r3, r4⟩ | ⟨r1, r2, r3, r4, r5⟩ | ⟨r1, r2, r3, r4, r5, r6⟩
      iterate 3
        · go_enter Try.func22, Try.ntmps22
          go_wp2_with (go_at_call 6; refine (check_any _ c0 TX).mono ?_; rintro e w1 ⟨rfl, hE⟩; rw [HC.out]; obtain ⟨hcell, hfr⟩ := hE.cells; have T1 := TX.ext hE)
          go_ret2
          exact ⟨ret2 HM.out.1.symm HM.out.2.symm, ((Ext.refl _).alloc _).trans hE⟩
      all_goals
        have k1 : 0 ≤ ((n : Int) - 1) * per := Int.mul_nonneg (by omega) (by omega)
        have k2 : ((n : Int) - 1) * per ≤ 90 * 8 := Int.mul_le_mul (by omega) r2 (by omega) (by omega)
        go_enter Try.func22, Try.ntmps22
        go_wp2_with (first | (go_at_call 6; refine (check_any _ c0 TX).mono ?_; rintro e w1 ⟨rfl, hE⟩; rw [HC.out]; obtain ⟨hcell, hfr⟩ := hE.cells; have T1 := TX.ext hE) | (go_at_call 8; refine (overs_any _ _ n c0 hn).mono ?_; rintro e w' ⟨rfl, hb2⟩; rw [HO.out]; (first | (replace hE := hE.trans hb2) | (replace hE := hE.drew.trans hb2)); clear hb2 hcell hfr T1; obtain ⟨hcell, hfr⟩ := hE.cells; have T1 := TX.ext hE) | (go_at_call 10; refine (wkts_any _ c0 T1).mono ?_; rintro e w' ⟨rfl, hb2⟩; rw [HW.out]; (first | (replace hE := hE.trans hb2) | (replace hE := hE.drew.trans hb2)); clear hb2 hcell hfr T1; obtain ⟨hcell, hfr⟩ := hE.cells; have T1 := TX.ext hE))
        go_ret2
        exact ⟨ret2 HM.out.1.symm HM.out.2.symm, ((Ext.refl _).alloc _).trans hE⟩
  · have HM := Lib.hid (@at_check n L Z per balls wk hc)
    have hcb : (checkV n L Z != 0) = true := by simp [hc]
    clear hc
    go_enter Try.func22, Try.ntmps22
    go_wp2_with (go_at_call 6; refine (check_any _ c0 TX).mono ?_; rintro e w1 ⟨rfl, hE⟩)
    go_ret2
    exact ⟨ret2 HM.out.1.symm HM.out.2.symm, ((Ext.refl _).alloc _).trans hE⟩

end Go.Proofs.Ytoemcpndmfimiaa

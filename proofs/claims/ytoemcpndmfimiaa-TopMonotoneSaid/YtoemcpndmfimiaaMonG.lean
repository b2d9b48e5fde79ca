/-
  rain.Lost and rain.Left where nothing is wrong.
-/
import Derived.Test.YtoemcpndmfimiaaMonF
namespace Go.Proofs.Ytoemcpndmfimiaa
open Go.RowKit
set_option linter.unusedSimpArgs false

set_option maxHeartbeats 4000000 in
theorem lost_ok (w : World) {A0 : Option Addr} {n : Nat} {A : Nat → Option Addr} {L C : Nat → Nat} {Z : Nat → Nat → Int} {b off : Nat} {G O : Nat → Nat} (c0 : Nat) (per x y z : Int) (T : TabAt w A0 n A L C Z b off G O)
    (hx : atE n L Z per x z = 0) (hy : atE n L Z per y z = 0) (hxy : y ≤ x) :
    Calls Try.prog 23 #[.agg #[.slice A0 n c0], .int .i64 per, .agg #[.int .i64 x, .int .i64 y, .int .i64 z]] w fun e w' => e = .returned (.tuple #[.int .i64 (atV n L Z per x z - atV n L Z per y z), .int .i64 0]) ∧ Ext w w' := by
  have HX := Lib.hid hx
  have HY := Lib.hid hy
  have a1 := @at_bd n L Z per x z
  have a2 := @at_bd n L Z per y z
  obtain ⟨a1, a3⟩ := a1
  obtain ⟨a2, a4⟩ := a2
  have hxy' : ¬ (x < y) := by omega
  have TX : TabAt ((w.alloc (.cells #[.slice A0 n c0] 24)).alloc (.cells #[.int .i64 x, .int .i64 y, .int .i64 z] 37)) A0 n A L C Z b off G O := T.ext (((Ext.refl _).alloc _).alloc _)
  clear hx hy
  go_enter Try.func23, Try.ntmps23
  go_wp2_with (first
    | ((fail_if_success (have hzz := hE)); go_at_call 22; refine (at_any _ c0 per x z TX).mono ?_; rintro e w1 ⟨rfl, hE⟩; rw [HX.out]; have TY := TX.ext hE; obtain ⟨hcell, hfr⟩ := hE.cells)
    | (go_at_call 22; refine (at_any _ c0 per y z TY).mono ?_; rintro e w2 ⟨rfl, hE2⟩; rw [HY.out]; have hE3 := hE.trans hE2; clear hcell hfr; obtain ⟨hcell, hfr⟩ := hE3.cells))
  go_ret2
  exact ⟨rfl, (((Ext.refl _).alloc _).alloc _).trans hE3⟩

set_option maxHeartbeats 8000000 in
theorem left_ok (w : World) {A0 : Option Addr} {n : Nat} {A : Nat → Option Addr} {L C : Nat → Nat} {Z : Nat → Nat → Int} {b off : Nat} {G O : Nat → Nat} (c0 : Nat) (per balls : Int) (T : TabAt w A0 n A L C Z b off G O) (hc : checkV n L Z = 0) (hp1 : 1 ≤ per) (hp2 : per ≤ 8) (hb1 : 1 ≤ balls) (hb2 : balls ≤ ((n : Int) - 1) * per)
    {A1 : Option Addr} {k b1 o1 : Nat} {f : Nat → Nat → Int} (c1 : Nat) (U : StopsAt w A1 k b1 o1 f) (hk : k ≤ 20) (hU : StopsOk L balls k f) :
    Calls Try.prog 11 #[.agg #[.slice A0 n c0], .int .i64 per, .int .i64 balls, .slice A1 k c1] w fun e w' => e = .returned (.tuple #[.int .i64 (leftV n L Z per balls f k), .int .i64 0]) ∧ Ext w w' := by
  have H0 := Lib.hid (at_in hc (⟨hp1, hp2, by omega, hb2, Int.le_refl _, by have := (check_facts hc).2.2.1; omega⟩ : AtR n L per balls 0))
  have TX : TabAt (w.alloc (.cells #[.slice A0 n c0] 24)) A0 n A L C Z b off G O := T.ext ((Ext.refl _).alloc _)
  have UX : StopsAt (w.alloc (.cells #[.slice A0 n c0] 24)) A1 k b1 o1 f := U.ext ((Ext.refl _).alloc _)
  have HB2 := Lib.hid hb2
  have HK := Lib.hid hc
  clear hb2 hc
  go_enter Try.func11, Try.ntmps11
  go_wp2_with (first
    | (go_at_call 21; refine (rainCheck_ok _ c0 per balls TX HK.out hp1 hp2 hb1 HB2.out UX hk hU).mono ?_; rintro e w1 ⟨rfl, hE1⟩; have TY := TX.ext hE1; have UY := UX.ext hE1; obtain ⟨hcell, hfr⟩ := hE1.cells)
    | (go_at_call 22; refine (at_any _ c0 per balls 0 TY).mono ?_; rintro e w2 ⟨rfl, hE2⟩; rw [H0.out]; have hE := hE1.trans hE2))
  obtain ⟨ws, hws⟩ : ∃ ws : World, ws = w2 := ⟨_, rfl⟩
  go_loopw [11, 14, 15, 16, 37] (fun v _ _ _ i wr => ∃ j : Nat, j ≤ k ∧ i = .int .i64 j ∧ v = .int .i64 (leftV n L Z per balls f j) ∧ Ext (w.alloc (.cells #[.slice A0 n c0] 24)) wr) (fun _ _ _ _ i _ => k - (intOf i).toNat)
  case atStart => exact ⟨0, by omega, rfl, rfl, hE⟩
  case round =>
    obtain ⟨i, hi, rfl, rfl, hX⟩ := hrel
    have h0 : wr.cell? ⟨w.heap.size, 0, none⟩ = some (.slice A0 n c0) := hX.keep (by simp [go_sem])
    have hlw := cell_lt h0
    by_cases hlt : i < k
    · have UZ := UX.ext hX
      obtain ⟨rfl, hbl⟩ := UZ.top (by omega)
      have c0' : wr.cell? ⟨b1, o1 + i * 3, none⟩ = some (.int .i64 (f i 0)) := UZ.cell i 0 hlt (by omega)
      have c1' : wr.cell? ⟨b1, o1 + i * 3 + 1, none⟩ = some (.int .i64 (f i 1)) := UZ.cell i 1 hlt (by omega)
      have c2' : wr.cell? ⟨b1, o1 + i * 3 + 2, none⟩ = some (.int .i64 (f i 2)) := UZ.cell i 2 hlt (by omega)
      have g0 := hU.before i hlt
      obtain ⟨g1, g2⟩ := hU.after i hlt
      obtain ⟨g3, g4⟩ := hU.wk i hlt
      have HA := Lib.hid (at_in HK.out (⟨hp1, hp2, by omega, by have := HB2.out; omega, g3, g4⟩ : AtR n L per (f i 0) (f i 2)))
      have HB := Lib.hid (at_in HK.out (⟨hp1, hp2, by omega, by have := HB2.out; omega, g3, g4⟩ : AtR n L per (f i 1) (f i 2)))
      have l1 := @left_bd n L Z per balls f i
      have a1 := @at_bd n L Z per (f i 0) (f i 2)
      have a2 := @at_bd n L Z per (f i 1) (f i 2)
      obtain ⟨l1, l2⟩ := l1
      obtain ⟨a1, a3⟩ := a1
      obtain ⟨a2, a4⟩ := a2
      have hX2 : Ext (w.alloc (.cells #[.slice A0 n c0] 24)) (wr.alloc (.cells #[.int .i64 (f i 0), .int .i64 (f i 1), .int .i64 (f i 2)] 37)) := hX.alloc _
      clear UZ
      go_wp2_with (go_at_call 23; refine (lost_ok _ c0 per (f i 0) (f i 1) (f i 2) (TX.ext hX2) HA.out HB.out g2).mono ?_; rintro e w3 ⟨rfl, hb⟩; have hX3 := hX2.trans hb)
      go_roundw
      case rel => exact ⟨i + 1, by omega, by go_num, rfl, hX3⟩
      case measure => simp [intOf]; omega
    · obtain rfl : i = k := by omega
      go_wp2
      go_ret2
      exact ⟨rfl, ((Ext.refl _).alloc _).trans hX⟩

end Go.Proofs.Ytoemcpndmfimiaa

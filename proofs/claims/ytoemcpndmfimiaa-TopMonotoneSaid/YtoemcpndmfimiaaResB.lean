/-
  Contracts of ends and Check (program and reference) of layer 37.
-/
import Derived.Test.YtoemcpndmfimiaaResA
namespace Go.Proofs.Ytoemcpndmfimiaa
open Go.RowKit
set_option linter.unusedSimpArgs false

set_option maxHeartbeats 2000000 in
theorem ends_any (w : World) {A0 : Option Addr} {n : Nat} {A : Nat → Option Addr} {L C : Nat → Nat} {Z : Nat → Nat → Int} {b off : Nat} {G O : Nat → Nat} (c0 : Nat) (T : TabAt w A0 n A L C Z b off G O) (hs : shapeV n L Z = 0) :
    Calls Try.prog 19 #[.agg #[.slice A0 n c0]] w fun e w' => e = .returned (.int .i64 (endsV n L Z)) ∧ Ext w w' := by
  have HS := Lib.hid hs
  obtain ⟨n1, n2, l1, l2, hL, hV⟩ := shape_zero hs
  clear hs
  have HL := Lib.hid hL
  clear hL hV
  obtain ⟨rfl, hb⟩ := T.top (by omega)
  have TX : TabAt (w.alloc (.cells #[.slice (some ⟨b, off, none⟩) n c0] 24)) (some ⟨b, off, none⟩) n A L C Z b off G O := T.ext ((Ext.refl _).alloc _)
  have hr0 : w.cell? ⟨b, off, none⟩ = some (.slice (A 0) (L 0) (C 0)) := by simpa using T.row 0 (by omega)
  obtain ⟨hA, hG⟩ := T.got 0 (by omega) (by omega)
  rw [hA] at hr0
  have hrn := T.row (n - 1) (by omega)
  have hln : 0 < L (n - 1) := by rw [HL.out (n - 1) (by omega)]; omega
  obtain ⟨hA', hG'⟩ := T.got (n - 1) (by omega) hln
  rw [hA'] at hrn
  have hcn : w.cell? ⟨G (n - 1), O (n - 1), none⟩ = some (.int .i64 (Z (n - 1) 0)) := by simpa using T.cell (n - 1) 0 (by omega) hln
  clear hA hA'
  go_enter Try.func19, Try.ntmps19
  go_wp2
  go_loop [4, 10] (fun _ i => ∃ k : Nat, k ≤ L 0 ∧ i = .int .i64 k ∧ ZeroTo Z k) (fun _ i => L 0 - (intOf i).toNat)
  case atStart => exact ⟨0, Nat.zero_le _, rfl, zero_zero⟩
  case round =>
    obtain ⟨k, hk, rfl, hZ⟩ := hrel
    by_cases hlt : k < L 0
    · have hc := T.cell 0 k (by omega) hlt
      obtain ⟨hz1, hz2⟩ := T.wf 0 k (by omega) hlt
      by_cases hz : Z 0 k = 0
      · have HZ := Lib.hid hz
        have hzb : (Z 0 k != 0) = false := by simp [hz]
        clear hz
        go_wp2
        go_round
        case rel => exact ⟨k + 1, by omega, by go_num, zero_succ hZ HZ.out⟩
        case measure => simp [intOf]; omega
      · have HV := Lib.hid (@ends_arg n L Z k hlt hz)
        have hzb : (Z 0 k != 0) = true := by simp [hz]
        clear hz
        go_wp2
        go_ret
        exact ⟨ret1 HV.out.symm, (Ext.refl _).alloc _⟩
    · obtain rfl : k = L 0 := by omega
      by_cases hz : Z (n - 1) 0 = 10000
      · have HV := Lib.hid (@ends_ok n L Z hZ hz)
        have hzb : (Z (n - 1) 0 != 10000) = false := by simp [hz]
        clear hz
        go_wp2
        go_ret
        exact ⟨ret1 HV.out.symm, (Ext.refl _).alloc _⟩
      · have HV := Lib.hid (@ends_sum n L Z hZ hz)
        have hzb : (Z (n - 1) 0 != 10000) = true := by simp [hz]
        clear hz
        go_wp2
        go_ret
        exact ⟨ret1 HV.out.symm, (Ext.refl _).alloc _⟩

end Go.Proofs.Ytoemcpndmfimiaa

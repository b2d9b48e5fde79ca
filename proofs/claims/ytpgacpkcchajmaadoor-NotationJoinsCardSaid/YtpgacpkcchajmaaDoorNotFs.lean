/-
  few and same of the law of layer 7.
-/
import Derived.Test.YtpgacpkcchajmaaDoorNotPr
namespace Go.Proofs.YtpgacpkcchajmaaDoor
open Go.RowKit
set_option linter.unusedSimpArgs false

theorem few_any (A0 : Option Addr) (n C : Nat) (hC : n ≤ C) (hN : A0 = none → C = 0) (hn : n ≤ 9223372036854775807) (m : Nat) (hm : m = min n 12) (w : World) :
    Calls Tryd.prog 16 #[.slice A0 n C] w fun e w' => e = .returned (.slice A0 m C) ∧ w' = w := by
  have hmi : min (n : Int) 12 = (m : Int) := by omega
  have hm1 : m ≤ n := by omega
  have hm2 : m ≤ C := by omega
  cases A0 with
  | none =>
    obtain rfl := hN rfl
    obtain rfl : n = 0 := by omega
    obtain rfl : m = 0 := by omega
    clear hm hmi hN hC hn hm1 hm2
    have hm0 : min (0 : Int) 12 = 0 := by omega
    go_enter Tryd.func16, Tryd.ntmps16
    go_wp2
    go_ret
    exact ⟨rfl, rfl⟩
  | some a =>
    clear hN hm
    go_enter Tryd.func16, Tryd.ntmps16
    go_wp2
    go_ret
    exact ⟨by first | rfl | (simp; done), rfl⟩
theorem DlsAt.cut {w : World} {A0 : Option Addr} {n : Nat} {f : Nat → Dl} {b off : Nat} (T : DlsAt w A0 n f b off) {m : Nat} (h : m ≤ n) : DlsAt w A0 m f b off where
  nle := Nat.le_trans h T.nle
  top := fun k => T.top (by omega)
  cell := fun i hi => T.cell i (by omega)
  wf := fun i hi => T.wf i (by omega)
set_option maxHeartbeats 16000000 in
theorem same_any (A1 A2 : Option Addr) (n C1 C2 : Nat) (f g : Nat → Dl) (b1 o1 b2 o2 : Nat) (w : World) (T1 : DlsAt w A1 n f b1 o1) (T2 : DlsAt w A2 n g b2 o2) (he : ∀ i, i < n → g i = f i) :
    Calls Tryd.prog 21 #[.slice A1 n C1, .slice A2 n C2] w fun e w' => e = .returned (.bool true) ∧ Ext w w' := by
  have hn := T1.nle
  go_enter Tryd.func21, Tryd.ntmps21
  go_wp2
  go_loopw [13] (fun i wr => ∃ k : Nat, k ≤ n ∧ i = .int .i64 k ∧ Ext w wr) (fun i _ => n - (intOf i).toNat)
  case atStart => exact ⟨0, by omega, rfl, Ext.refl _⟩
  case round =>
    obtain ⟨k, hk, rfl, hE⟩ := hrel
    by_cases hlt : k < n
    · obtain ⟨rfl, hb1⟩ := T1.top (by omega)
      obtain ⟨rfl, hb2⟩ := T2.top (by omega)
      obtain ⟨c0, c1, c2, c3, c4, c5, c6, c7, c8, c9, c10, c11⟩ := (T1.ext hE).cell k hlt
      have hd := (T2.ext hE).cell k hlt
      rw [he k hlt] at hd
      obtain ⟨d0, d1, d2, d3, d4, d5, d6, d7, d8, d9, d10, d11⟩ := hd
      have hki : (k : Int) < (n : Int) := by omega
      go_wp2
      go_quiet (fail)
      go_wp2
      go_roundw
      case rel => exact ⟨k + 1, by omega, by go_num, hE.drewN _⟩
      case measure => simp [intOf]; omega
    · obtain rfl : k = n := by omega
      go_wp2
      go_ret
      exact ⟨rfl, hE⟩

end Go.Proofs.YtpgacpkcchajmaaDoor

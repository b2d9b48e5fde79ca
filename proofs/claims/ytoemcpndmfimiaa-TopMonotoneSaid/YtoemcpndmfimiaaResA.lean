/-
  Contracts of Shape (program and reference) of layer 37.
-/
import Derived.Test.YtoemcpndmfimiaaResP
namespace Go.Proofs.Ytoemcpndmfimiaa
open Go.RowKit
set_option linter.unusedSimpArgs false

set_option maxHeartbeats 2000000 in
theorem shape_any (w : World) {A0 : Option Addr} {n : Nat} {A : Nat → Option Addr} {L C : Nat → Nat} {Z : Nat → Nat → Int} {b off : Nat} {G O : Nat → Nat} (c0 : Nat) (T : TabAt w A0 n A L C Z b off G O) :
    Calls Try.prog 18 #[.agg #[.slice A0 n c0]] w fun e w' => e = .returned (.int .i64 (shapeV n L Z)) ∧ Ext w w' := by
  have hn := T.nle
  by_cases h2 : n < 2
  · have HV := Lib.hid (@shape_arg n L Z (.inl h2))
    go_enter Try.func18, Try.ntmps18
    go_wp2
    go_ret
    exact ⟨ret1 HV.out.symm, (Ext.refl _).alloc _⟩
  · obtain ⟨rfl, hb⟩ := T.top (by omega)
    have hr0 : w.cell? ⟨b, off, none⟩ = some (.slice (A 0) (L 0) (C 0)) := by simpa using T.row 0 (by omega)
    have hl0 := T.lle 0 (by omega)
    have hn2 : 2 ≤ (n : Int) := by omega
    by_cases h0 : L 0 = 0
    · have HV := Lib.hid (@shape_arg n L Z (.inr h0))
      have h0' : ((L 0 : Int) == 0) = true := by simp [h0]
      clear h0
      go_enter Try.func18, Try.ntmps18
      go_wp2
      go_ret
      exact ⟨ret1 HV.out.symm, (Ext.refl _).alloc _⟩
    · have h0' : ((L 0 : Int) == 0) = false := by simp [h0]
      have hx : ¬ (n < 2 ∨ L 0 = 0) := by omega
      by_cases h9 : 91 < n ∨ 10 < L 0
      · have HV := Lib.hid (@shape_limit n L Z hx h9)
        have h9' : 91 < n ∨ (¬ 91 < n ∧ 10 < L 0) := by omega
        clear hx h9
        rcases h9' with h9 | ⟨h8, h9⟩
        all_goals
          go_enter Try.func18, Try.ntmps18
          go_wp2
          go_ret
          exact ⟨ret1 HV.out.symm, (Ext.refl _).alloc _⟩
      · have HX := Lib.hid hx
        have H9 := Lib.hid h9
        have h91 : ¬ 91 < n := by omega
        have h92 : ¬ 10 < L 0 := by omega
        clear hx h9
        go_enter Try.func18, Try.ntmps18
        go_wp2
        go_loop [4, 38] (fun _ i => ∃ k : Nat, k ≤ n ∧ i = .int .i64 k ∧ LensTo L k) (fun _ i => n - (intOf i).toNat)
        case atStart => exact ⟨0, Nat.zero_le _, rfl, lens_zero⟩
        case round =>
          obtain ⟨k, hk, rfl, hL⟩ := hrel
          by_cases hlt : k < n
          · have hr := T.row k hlt
            have hlk := T.lle k hlt
            by_cases hq : L k = L 0
            · have HQ := Lib.hid hq
              have hq' : ((L k : Int) != (L 0 : Int)) = false := by simp [hq]
              clear hq
              go_wp2
              go_round
              case rel => exact ⟨k + 1, by omega, by go_num, lens_succ hL HQ.out⟩
              case measure => simp [intOf]; omega
            · have HV := Lib.hid (@shape_lens n L Z HX.out H9.out k hlt hq)
              have hq' : ((L k : Int) != (L 0 : Int)) = true := by simp; omega
              clear hq
              go_wp2
              go_ret
              exact ⟨ret1 HV.out.symm, (Ext.refl _).alloc _⟩
          · obtain rfl : k = n := by omega
            have HL := Lib.hid hL
            clear hL
            go_wp2
            go_loop [6, 54] (fun _ i => ∃ k2 : Nat, k2 ≤ k ∧ i = .int .i64 k2 ∧ ValsTo L Z k2) (fun _ i => k - (intOf i).toNat)
            case atStart => exact ⟨0, Nat.zero_le _, rfl, vals_zero⟩
            case round =>
              obtain ⟨m, hm, rfl, hV⟩ := hrel
              by_cases hlt2 : m < k
              · have hr := T.row m hlt2
                have hlm := T.lle m hlt2
                have hl0' : 0 < L m := by rw [HL.out m hlt2]; omega
                obtain ⟨hA, hG⟩ := T.got m hlt2 hl0'
                rw [hA] at hr
                clear hA
                go_wp2
                go_loop [8, 60] (fun _ i => ∃ j : Nat, j ≤ L m ∧ i = .int .i64 j ∧ ValsIn Z m j) (fun _ i => L m - (intOf i).toNat)
                case atStart => exact ⟨0, Nat.zero_le _, rfl, valsIn_zero⟩
                case round =>
                  obtain ⟨j, hj, rfl, hW⟩ := hrel
                  by_cases hlt3 : j < L m
                  · have hc := T.cell m j hlt2 hlt3
                    obtain ⟨hz1, hz2⟩ := T.wf m j hlt2 hlt3
                    by_cases hz : 0 ≤ Z m j ∧ Z m j ≤ 10000
                    · obtain ⟨hz3, hz4⟩ := hz
                      go_wp2
                      go_round
                      case rel => exact ⟨j + 1, by omega, by go_num, valsIn_succ hW ⟨hz3, hz4⟩⟩
                      case measure => simp [intOf]; omega
                    · have HV := Lib.hid (@shape_range k L Z HX.out H9.out HL.out m j hlt2 hlt3 hz)
                      go_wp2
                      all_goals
                        go_ret
                        exact ⟨ret1 HV.out.symm, (Ext.refl _).alloc _⟩
                  · obtain rfl : j = L m := by omega
                    go_wp2
                    go_round
                    case rel => exact ⟨m + 1, by omega, by go_num, vals_succ hV hW⟩
                    case measure => simp [intOf]; omega
              · obtain rfl : m = k := by omega
                have HV := Lib.hid (@shape_ok m L Z HX.out H9.out HL.out hV)
                go_wp2
                go_ret
                exact ⟨ret1 HV.out.symm, (Ext.refl _).alloc _⟩

end Go.Proofs.Ytoemcpndmfimiaa

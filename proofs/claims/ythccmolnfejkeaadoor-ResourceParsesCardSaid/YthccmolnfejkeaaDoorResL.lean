/-
  Same (the reference's comparison of tables) returns true of two tables that are equal; the law ResourceLinear, walked.
-/
import Derived.Test.YthccmolnfejkeaaDoorResG
namespace Go.Proofs.YthccmolnfejkeaaDoor
open Go.RowKit
set_option linter.unusedSimpArgs false

set_option maxHeartbeats 4000000 in
theorem same_any (w : World) {A0 : Option Addr} {n : Nat} {A : Nat → Option Addr} {L C : Nat → Nat} {Z : Nat → Nat → Int} {b off : Nat} {G O : Nat → Nat} (c0 : Nat) (T : TabAt w A0 n A L C Z b off G O) {A1 : Option Addr} {A' : Nat → Option Addr} {L' C' : Nat → Nat} {Z' : Nat → Nat → Int} {b' off' : Nat} {G' O' : Nat → Nat} (c1 : Nat)
    (T' : TabAt w A1 n A' L' C' Z' b' off' G' O') (hL : ∀ i, i < n → L i = L' i) (hZ : ∀ i j, i < n → j < L i → Z i j = Z' i j) :
    Calls Tryd.prog 10 #[.agg #[.slice A0 n c0], .agg #[.slice A1 n c1]] w fun e w' => e = .returned (.bool true) ∧ Ext w w' := by
  have hn := T.nle
  replace hL := Lib.hid hL
  replace hZ := Lib.hid hZ
  rcases Nat.eq_zero_or_pos n with h0 | h0
  · subst h0
    go_enter Tryd.func10, Tryd.ntmps10
    go_wp2
    go_loop [5, 6, 19] (fun _ _ i => i = .int .i64 (0 : Nat)) (fun _ _ _ => 0)
    case atStart => rfl
    case round =>
      subst hrel
      go_wp2
      go_ret
      exact ⟨rfl, ((Ext.refl _).alloc _).alloc _⟩
  · obtain ⟨rfl, hb⟩ := T.top h0
    obtain ⟨rfl, hb'⟩ := T'.top h0
    go_enter Tryd.func10, Tryd.ntmps10
    go_wp2
    go_loop [5, 6, 19] (fun _ _ i => ∃ k : Nat, k ≤ n ∧ i = .int .i64 k) (fun _ _ i => n - (intOf i).toNat)
    case atStart => exact ⟨0, Nat.zero_le _, rfl⟩
    case round =>
      obtain ⟨k, hk, rfl⟩ := hrel
      by_cases hlt : k < n
      · have hr := T.row k hlt
        have hr' := T'.row k hlt
        have hlk := T.lle k hlt
        have hLk := hL.out k hlt
        rw [← hLk] at hr'
        rcases Nat.eq_zero_or_pos (L k) with hl0 | hl0
        · have hl0i : (L k : Int) ≤ 0 := by omega
          clear hLk hl0
          go_wp2
          go_loop [7, 8, 35] (fun _ _ i => i = .int .i64 (0 : Nat)) (fun _ _ _ => 0)
          case atStart => rfl
          case round =>
            subst hrel
            go_wp2
            go_round
            case rel => exact ⟨k + 1, by omega, by go_num⟩
            case measure => simp [intOf]; omega
        · obtain ⟨hA, hG⟩ := T.got k hlt hl0
          obtain ⟨hA', hG'⟩ := T'.got k hlt (by omega)
          rw [hA] at hr
          rw [hA'] at hr'
          replace hLk := Lib.hid hLk
          clear hA hA'
          go_wp2
          go_loop [7, 8, 35] (fun _ _ i => ∃ j : Nat, j ≤ L k ∧ i = .int .i64 j) (fun _ _ i => L k - (intOf i).toNat)
          case atStart => exact ⟨0, Nat.zero_le _, rfl⟩
          case round =>
            obtain ⟨j, hj, rfl⟩ := hrel
            by_cases hlt2 : j < L k
            · have hc := T.cell k j hlt hlt2
              have hc' := T'.cell k j hlt (by have := hLk.out; omega)
              rw [← hZ.out k j hlt hlt2] at hc'
              go_wp2
              go_round
              case rel => exact ⟨j + 1, by omega, by go_num⟩
              case measure => simp [intOf]; omega
            · obtain rfl : j = L k := by omega
              go_wp2
              go_round
              case rel => exact ⟨k + 1, by omega, by go_num⟩
              case measure => simp [intOf]; omega
      · obtain rfl : k = n := by omega
        go_wp2
        go_ret
        exact ⟨rfl, ((Ext.refl _).alloc _).alloc _⟩

end Go.Proofs.YthccmolnfejkeaaDoor

/-
  Contracts of Check (program and reference) of layer 37.
-/
import Derived.Test.YtoemcpndmfimiaaResB
namespace Go.Proofs.Ytoemcpndmfimiaa
open Go.RowKit
set_option linter.unusedSimpArgs false

section
variable {L : Nat → Nat} {Z : Nat → Nat → Int}
theorem ord_mk {u w : Nat} (h1 : u = 0 ∨ Z (u - 1) w ≤ Z u w) (h2 : L u ≤ w + 1 ∨ Z u (w + 1) ≤ Z u w) : OrdAt L Z u w := by
  rintro (⟨a, c⟩ | ⟨a, c⟩) <;> omega
theorem ord_no1 {u w : Nat} (h : 0 < u) (h1 : Z u w < Z (u - 1) w) : ¬ OrdAt L Z u w := fun g => g (.inl ⟨h, h1⟩)
theorem ord_no2 {u w : Nat} (h : w + 1 < L u) (h1 : Z u w < Z u (w + 1)) : ¬ OrdAt L Z u w := fun g => g (.inr ⟨h, h1⟩)
end

set_option maxHeartbeats 4000000 in
theorem check_any (w : World) {A0 : Option Addr} {n : Nat} {A : Nat → Option Addr} {L C : Nat → Nat} {Z : Nat → Nat → Int} {b off : Nat} {G O : Nat → Nat} (c0 : Nat) (T : TabAt w A0 n A L C Z b off G O) :
    Calls Try.prog 6 #[.agg #[.slice A0 n c0]] w fun e w' => e = .returned (.int .i64 (checkV n L Z)) ∧ Ext w w' := by
  by_cases hr : rendsV n L Z = 0
  · skip
    have HR := Lib.hid hr
    obtain ⟨hs, he⟩ := rends_zero hr
    have HS := Lib.hid hs
    have HEN := Lib.hid he
    obtain ⟨n1, n2, l1, l2, hL, hV⟩ := shape_zero hs
    clear hs he hr
    have HL := Lib.hid hL
    have HVA := Lib.hid hV
    clear hL hV
    obtain ⟨rfl, hb⟩ := T.top (by omega)
    have TX : TabAt (w.alloc (.cells #[.slice (some ⟨b, off, none⟩) n c0] 24)) (some ⟨b, off, none⟩) n A L C Z b off G O := T.ext ((Ext.refl _).alloc _)
    go_enter Try.func6, Try.ntmps6
    go_wp2_with (first | (go_at_call 18; refine (shape_any _ c0 TX).mono ?_; rintro e w1 ⟨rfl, hb1⟩; rw [HS.out]; obtain ⟨hcell, hfr⟩ := hb1.cells; have TY := TX.ext hb1) | (go_at_call 19; refine (ends_any _ c0 TY HS.out).mono ?_; rintro e w2 ⟨rfl, hb2⟩; rw [HEN.out]; replace hE := hb1.trans hb2; clear hb1 hb2 hcell hfr TY; obtain ⟨hcell, hfr⟩ := hE.cells))
    have T2 : TabAt w2 (some ⟨b, off, none⟩) n A L C Z b off G O := TX.ext hE
    have hb2 : b < w2.heap.size := (T2.top (by omega)).2
    have hbox : w2.cell? ⟨w.heap.size, 0, none⟩ = some (.slice (some ⟨b, off, none⟩) n c0) := by rw [hcell _ _ (by simp)]; simp
    clear TX hcell hfr
    go_loopw [6, 25, 5] (fun _ i _ wr => ∃ k : Nat, k ≤ n ∧ i = .int .i64 k ∧ OrdTo L Z k ∧ w2 = wr) (fun _ i _ _ => n - (intOf i).toNat)
    case atStart => exact ⟨0, Nat.zero_le _, rfl, ord_zero, rfl⟩
    case round =>
      obtain ⟨u, hu, rfl, hO, rfl⟩ := hrel
      by_cases hlt : u < n
      · have hr := T2.row u hlt
        have hlu := HL.out u hlt
        have HLU := Lib.hid hlu
        have hlu10 : L u ≤ 10 := by omega
        have hlu1 : 1 ≤ L u := by omega
        clear hlu
        obtain ⟨hA, hG⟩ := T2.got u hlt (by omega)
        rw [hA] at hr
        clear hA
        go_wp2
        go_loop [32, 7, 8] (fun i _ _ => ∃ k : Nat, k ≤ L u ∧ i = .int .i64 k ∧ OrdIn L Z u k) (fun i _ _ => L u - (intOf i).toNat)
        case atStart => exact ⟨0, Nat.zero_le _, rfl, ordIn_zero⟩
        case round =>
          obtain ⟨v, hv, rfl, hI⟩ := hrel
          by_cases hlt2 : v < L u
          · have hc := T2.cell u v hlt hlt2
            obtain ⟨z1, z2⟩ := T2.wf u v hlt hlt2
            have hnext : v + 1 < L u → w2.cell? ⟨G u, O u + (v + 1), none⟩ = some (.int .i64 (Z u (v + 1))) := fun h => T2.cell u (v + 1) hlt h
            rcases Nat.lt_or_ge 0 u with hu0 | hu0
            · have hup : u - 1 < n := by omega
              have hlp := HL.out (u - 1) hup
              have hlp1 : v < L (u - 1) := by have := HLU.out; omega
              have hlp10 : L (u - 1) ≤ 10 := by omega
              clear hlp
              have hrp := T2.row (u - 1) hup
              obtain ⟨hAp, hGp⟩ := T2.got (u - 1) hup (by omega)
              rw [hAp] at hrp
              clear hAp
              have hcp := T2.cell (u - 1) v hup hlp1
              obtain ⟨z3, z4⟩ := T2.wf (u - 1) v hup hlp1
              by_cases hq : Z u v < Z (u - 1) v
              · have HV := Lib.hid (@check_ord n L Z HR.out u v hlt hlt2 (ord_no1 hu0 hq))
                clear hnext
                go_wp2
                go_ret
                exact ⟨ret1 HV.out.symm, ((Ext.refl _).alloc _).trans hE⟩
              · by_cases hn : v + 1 < L u
                · have hcn := hnext hn
                  clear hnext
                  by_cases ho : Z u v < Z u (v + 1)
                  · have HV := Lib.hid (@check_ord n L Z HR.out u v hlt hlt2 (ord_no2 hn ho))
                    go_wp2
                    go_ret
                    exact ⟨ret1 HV.out.symm, ((Ext.refl _).alloc _).trans hE⟩
                  · have HI := Lib.hid (ordIn_succ hI (ord_mk (.inr (by omega)) (.inr (by omega))))
                    go_wp2
                    go_round
                    case rel => exact ⟨v + 1, by omega, by go_num, HI.out⟩
                    case measure => simp [intOf]; omega
                · have HI := Lib.hid (ordIn_succ hI (@ord_mk L Z u v (.inr (by omega)) (.inl (by omega))))
                  clear hnext
                  go_wp2
                  go_round
                  case rel => exact ⟨v + 1, by omega, by go_num, HI.out⟩
                  case measure => simp [intOf]; omega
            · by_cases hn : v + 1 < L u
              · have hcn := hnext hn
                clear hnext
                by_cases ho : Z u v < Z u (v + 1)
                · have HV := Lib.hid (@check_ord n L Z HR.out u v hlt hlt2 (ord_no2 hn ho))
                  go_wp2
                  go_ret
                  exact ⟨ret1 HV.out.symm, ((Ext.refl _).alloc _).trans hE⟩
                · have HI := Lib.hid (ordIn_succ hI (ord_mk (.inl (by omega)) (.inr (by omega))))
                  go_wp2
                  go_round
                  case rel => exact ⟨v + 1, by omega, by go_num, HI.out⟩
                  case measure => simp [intOf]; omega
              · have HI := Lib.hid (ordIn_succ hI (@ord_mk L Z u v (.inl (by omega)) (.inl (by omega))))
                clear hnext
                go_wp2
                go_round
                case rel => exact ⟨v + 1, by omega, by go_num, HI.out⟩
                case measure => simp [intOf]; omega
          · obtain rfl : v = L u := by omega
            go_wp2
            go_roundw
            case rel => exact ⟨u + 1, by omega, by go_num, ord_succ hO hI, (by first | rfl | trivial)⟩
            case measure => simp [intOf]; omega
      · obtain rfl : u = n := by omega
        have HO := Lib.hid hO
        clear hO
        go_wp2
        go_loopw [9] (fun i wr => ∃ k : Nat, 2 ≤ k ∧ k ≤ u ∧ i = .int .i64 k ∧ ConTo L Z k ∧ Ext w2 wr) (fun i _ => u - (intOf i).toNat)
        case atStart => exact ⟨2, Nat.le_refl _, n1, rfl, con_two, Ext.refl _⟩
        case round =>
          obtain ⟨k, hk2, hku, rfl, hC, hX⟩ := hrel
          have hbox3 := hX.keep hbox
          by_cases hlt : k < u
          · have T3 := T2.ext hX
            have hr := T3.row k hlt
            have hlu := HL.out k hlt
            have HLU := Lib.hid hlu
            have hlu10 : L k ≤ 10 := by omega
            have hlu1 : 1 ≤ L k := by omega
            clear hlu
            obtain ⟨hA, hG⟩ := T3.got k hlt (by omega)
            rw [hA] at hr
            clear T3
            go_wp2
            obtain ⟨wo, rfl⟩ : ∃ wo : World, wo = wr := ⟨_, rfl⟩
            clear hr hbox3
            go_loopw [83, 10, 11] (fun i _ _ wr => ∃ v : Nat, v ≤ L k ∧ i = .int .i64 v ∧ ConIn Z k v ∧ Ext w2 wr) (fun i _ _ _ => L k - (intOf i).toNat)
            case atStart => exact ⟨0, Nat.zero_le _, rfl, conIn_zero, hX⟩
            case round =>
              obtain ⟨v, hv, rfl, hI, hY⟩ := hrel
              by_cases hlt2 : v < L k
              · have hbox3 := hY.keep hbox
                have T3 := T2.ext hY
                have hb3 := (T3.top (by omega)).2
                have hG3 := (T3.got k hlt (by omega)).2
                have hc := T3.cell k v hlt hlt2
                have hr1 := T3.row (k - 1) (by omega)
                have hr2 := T3.row (k - 2) (by omega)
                have hl1 := HL.out (k - 1) (by omega)
                have hl2 := HL.out (k - 2) (by omega)
                have hm1 : v < L (k - 1) := by have := HLU.out; omega
                have hm2 : v < L (k - 2) := by have := HLU.out; omega
                have hp1 : L (k - 1) ≤ 10 := by omega
                have hp2 : L (k - 2) ≤ 10 := by omega
                clear hl1 hl2
                obtain ⟨hA1, hG1⟩ := T3.got (k - 1) (by omega) (by omega)
                obtain ⟨hA2, hG2⟩ := T3.got (k - 2) (by omega) (by omega)
                rw [hA1] at hr1
                rw [hA2] at hr2
                clear hA1 hA2
                have hc1 := T3.cell (k - 1) v (by omega) hm1
                have hc2 := T3.cell (k - 2) v (by omega) hm2
                obtain ⟨z1, z2⟩ := HVA.out k hlt v hlt2
                obtain ⟨z3, z4⟩ := HVA.out (k - 1) (by omega) v hm1
                obtain ⟨z5, z6⟩ := HVA.out (k - 2) (by omega) v hm2
                clear T3
                have q1 : (0 : Int) ≤ (k : Int) - 1 := by omega
                have q2 : (0 : Int) ≤ (k : Int) - 2 := by omega
                have q3 : (0 : Int) ≤ (v : Int) := by omega
                by_cases hd : Z k v - Z (k - 1) v ≤ Z (k - 1) v - Z (k - 2) v
                · have HI := Lib.hid (conIn_succ hI hd)
                  go_wp2
                  go_quiet (fail)
                  go_wp2
                  go_roundw
                  case rel => exact ⟨v + 1, by omega, by go_num, HI.out, by first | exact hY | exact hY.drewN _ | exact hY.drew⟩
                  case measure => simp [intOf]; omega
                · have HV := Lib.hid (@check_con u L Z HR.out HO.out k v hk2 hlt hlt2 hd)
                  go_wp2
                  go_quiet (fail)
                  go_wp2
                  go_ret
                  exact ⟨ret1 HV.out.symm, (((Ext.refl _).alloc _).trans hE).trans (by first | exact hY | exact hY.drewN _ | exact hY.drew)⟩
              · obtain rfl : v = L k := by omega
                go_wp2
                go_roundw
                case rel => exact ⟨k + 1, by omega, by omega, by go_num, con_succ hC hI, hY⟩
                case measure => simp [intOf]; omega
          · obtain rfl : k = u := by omega
            have HV := Lib.hid (@check_ok k L Z HR.out HO.out hC)
            go_wp2
            go_ret
            exact ⟨ret1 HV.out.symm, (((Ext.refl _).alloc _).trans hE).trans hX⟩
  · have HV := Lib.hid (check_rends hr)
    by_cases hs : shapeV n L Z = 0
    · have he : endsV n L Z ≠ 0 := by rw [← rends_ends hs]; exact hr
      have HW := Lib.hid ((check_rends hr).trans (rends_ends hs))
      have HS := Lib.hid hs
      have heb : (endsV n L Z != 0) = true := by simp [he]
      have TX : TabAt (w.alloc (.cells #[.slice A0 n c0] 24)) A0 n A L C Z b off G O := T.ext ((Ext.refl _).alloc _)
      clear hs hr he
      go_enter Try.func6, Try.ntmps6
      go_wp2_with (first | (go_at_call 18; refine (shape_any _ c0 TX).mono ?_; rintro e w1 ⟨rfl, hb1⟩; rw [HS.out]; obtain ⟨hcell, hfr⟩ := hb1.cells; have TY := TX.ext hb1) | (go_at_call 19; refine (ends_any _ c0 TY HS.out).mono ?_; rintro e w2 ⟨rfl, hb2⟩))
      go_ret
      exact ⟨ret1 HW.out.symm, (((Ext.refl _).alloc _).trans hb1).trans hb2⟩
    · have HW := Lib.hid ((check_rends hr).trans (rends_shape hs))
      have hsb : (shapeV n L Z != 0) = true := by simp [hs]
      have TX : TabAt (w.alloc (.cells #[.slice A0 n c0] 24)) A0 n A L C Z b off G O := T.ext ((Ext.refl _).alloc _)
      clear hs hr
      go_enter Try.func6, Try.ntmps6
      go_wp2_with (go_at_call 18; refine (shape_any _ c0 TX).mono ?_; rintro e w1 ⟨rfl, hb1⟩)
      go_ret
      exact ⟨ret1 HW.out.symm, ((Ext.refl _).alloc _).trans hb1⟩

end Go.Proofs.Ytoemcpndmfimiaa

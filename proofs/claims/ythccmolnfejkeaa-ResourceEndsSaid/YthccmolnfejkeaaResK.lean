/-
  The law ResourceEnds, walked.
-/
import Derived.Test.YthccmolnfejkeaaResI
namespace Go.Proofs.Ythccmolnfejkeaa
open Go.RowKit
set_option linter.unusedSimpArgs false

/-- 'uint64(x) % uint64(m + 1)', back in int64: from 0 to m. -/
theorem rem_bd (x : Int) {m : Int} (h0 : 0 ≤ m) (h1 : m ≤ 1000000) : 0 ≤ IntKind.i64.wrap ((IntKind.u64.wrap x).tmod (m + 1)) ∧ IntKind.i64.wrap ((IntKind.u64.wrap x).tmod (m + 1)) ≤ m := by
  have hU : 0 ≤ IntKind.u64.wrap x := by rw [IntKind.wrap_u64]; omega
  rw [Int.tmod_eq_emod_of_nonneg hU]
  have a := Int.emod_nonneg (IntKind.u64.wrap x) (b := m + 1) (by omega)
  have b := Int.emod_lt_of_pos (IntKind.u64.wrap x) (b := m + 1) (by omega)
  rw [IntWalk.i64_in _ (by omega)]
  omega

set_option maxHeartbeats 4000000 in
theorem resourceEnds_any (w : World) {A0 : Option Addr} {n : Nat} {A : Nat → Option Addr} {L C : Nat → Nat} {Z : Nat → Nat → Int} {b off : Nat} {G O : Nat → Nat} (c0 : Nat) (per x0 x1 : Int) (T : TabAt w A0 n A L C Z b off G O) :
    Calls Try.prog 6 #[.agg #[.slice A0 n c0], .int .i64 per, .agg #[.int .i64 x0, .int .i64 x1]] w fun e w' => e = .returned (.bool true) ∧ Ext w w' := by
  have hn := T.nle
  have TX : TabAt ((w.alloc (.cells #[.slice A0 n c0] 24)).alloc (.cells #[.int .i64 x0, .int .i64 x1] 30)) A0 n A L C Z b off G O := T.ext (((Ext.refl _).alloc _).alloc _)
  by_cases hc : checkV n L Z = 0
  · have HC := Lib.hid hc
    have hf := check_facts hc
    have n1 := hf.1
    have n2 := hf.2.1
    have l1 := hf.2.2.1
    have l2 := hf.2.2.2.1
    clear hf
    have HO := Lib.hid (@ovV_pos n (by omega))
    have HW := Lib.hid (@wkV_pos n L (by omega))
    by_cases hp : 1 ≤ per ∧ per ≤ 8
    · obtain ⟨r1, r2⟩ := hp
      have k1 : 0 ≤ ((n : Int) - 1) * per := Int.mul_nonneg (by omega) (by omega)
      have k2 : ((n : Int) - 1) * per ≤ 90 * 8 := Int.mul_le_mul (by omega) r2 (by omega) (by omega)
      have H1 := Lib.hid (at_full hc r1 r2)
      obtain ⟨g1, g2⟩ := rem_bd x1 (show (0 : Int) ≤ (L 0 : Int) by omega) (by omega)
      obtain ⟨g3, g4⟩ := rem_bd x0 k1 (by omega)
      have H2 := Lib.hid (at_none hc r1 r2 g1 g2)
      have H3 := Lib.hid (at_lost hc r1 r2 g3 g4)
      clear g1 g2 g3 g4
      clear hc
      go_enter Try.func6, Try.ntmps6
      go_wp2_with (go_at_call 8; refine (awake_any _).mono ?_; rintro e w1 ⟨rfl, hE⟩; obtain ⟨hcell, hfr⟩ := hE.cells)
      refine (small_any _ c0 (TX.ext hE)).mono ?_
      rintro e w2 ⟨q, rfl, hb⟩
      replace hE := hE.trans hb
      clear hb hcell hfr
      obtain ⟨hcell, hfr⟩ := hE.cells
      cases q
      · go_wp2
        go_ret
        exact ⟨rfl, (((Ext.refl _).alloc _).alloc _).trans hE⟩
      · go_wp2_with (first | (go_at_call 12; refine (check_any _ c0  (TX.ext (by first | exact hE | exact hE.drew | exact hE.drewN _))).mono ?_; rintro e w' ⟨rfl, hb⟩; (first | (replace hE := hE.trans hb) | (replace hE := hE.drew.trans hb) | (replace hE := (hE.drewN _).trans hb)); clear hb hcell hfr; obtain ⟨hcell, hfr⟩ := hE.cells; rw [HC.out]) | (go_at_call 14; refine (overs_any _ _ n c0 hn).mono ?_; rintro e w' ⟨rfl, hb⟩; (first | (replace hE := hE.trans hb) | (replace hE := hE.drew.trans hb) | (replace hE := (hE.drewN _).trans hb)); rw [HO.out]; clear hb hcell hfr; obtain ⟨hcell, hfr⟩ := hE.cells) | (go_at_call 16; refine (wkts_any _ c0  (TX.ext (by first | exact hE | exact hE.drew | exact hE.drewN _))).mono ?_; rintro e w' ⟨rfl, hb⟩; (first | (replace hE := hE.trans hb) | (replace hE := hE.drew.trans hb) | (replace hE := (hE.drewN _).trans hb)); clear hb hcell hfr; obtain ⟨hcell, hfr⟩ := hE.cells; rw [HW.out]) | (go_at_call 18; refine (at_any _ c0 per _ _ (TX.ext (by first | exact hE | exact hE.drew | exact hE.drewN _))).mono ?_; rintro e w' ⟨rfl, hb⟩; (first | (replace hE := hE.trans hb) | (replace hE := hE.drew.trans hb) | (replace hE := (hE.drewN _).trans hb)); clear hb hcell hfr; obtain ⟨hcell, hfr⟩ := hE.cells; rw [H1.out.1, H1.out.2]))
        have e1 : IntKind.i64.wrap ((L 0 : Int) + 1) = (L 0 : Int) + 1 := IntWalk.i64_in _ (by omega)
        have e2 : IntKind.u64.wrap ((L 0 : Int) + 1) = (L 0 : Int) + 1 := by rw [IntKind.wrap_u64]; omega
        have e3 : ¬ ((L 0 : Int) + 1 = 0) := by omega
        go_region_held3 (fun w' => w'.cell? ⟨w.heap.size, 0, none⟩ = some (.slice A0 n c0) ∧ w'.cell? ⟨w.heap.size + 1, 0, none⟩ = some (.int .i64 x0) ∧ w'.cell? ⟨w.heap.size + 1, 1, none⟩ = some (.int .i64 x1)) (simp [go_sem, *])
          ((go_at_call 18; refine (at_any _ c0 per _ _ (TX.ext (by first | exact hE | exact hE.drew | exact hE.drewN _))).mono ?_; rintro e w' ⟨rfl, hb⟩; (first | (replace hE := hE.trans hb) | (replace hE := hE.drew.trans hb) | (replace hE := (hE.drewN _).trans hb)); clear hb hcell hfr; obtain ⟨hcell, hfr⟩ := hE.cells; rw [H2.out.1, H2.out.2]))
        clear e1 e2 e3
        go_wp2
        have f1 : IntKind.i64.wrap (((n : Int) - 1) * per + 1) = ((n : Int) - 1) * per + 1 := IntWalk.i64_in _ (by omega)
        have f2 : IntKind.u64.wrap (((n : Int) - 1) * per + 1) = ((n : Int) - 1) * per + 1 := by rw [IntKind.wrap_u64]; omega
        have f3 : ¬ (((n : Int) - 1) * per + 1 = 0) := by omega
        go_region_held3 (fun w' => w'.cell? ⟨w.heap.size, 0, none⟩ = some (.slice A0 n c0) ∧ w'.cell? ⟨w.heap.size + 1, 0, none⟩ = some (.int .i64 x0) ∧ w'.cell? ⟨w.heap.size + 1, 1, none⟩ = some (.int .i64 x1)) (simp [go_sem, *])
          ((go_at_call 18; refine (at_any _ c0 per _ _ (TX.ext (by first | exact hE | exact hE.drew | exact hE.drewN _))).mono ?_; rintro e w' ⟨rfl, hb⟩; (first | (replace hE := hE.trans hb) | (replace hE := hE.drew.trans hb) | (replace hE := (hE.drewN _).trans hb)); clear hb hcell hfr; obtain ⟨hcell, hfr⟩ := hE.cells; rw [H3.out.1, H3.out.2]))
        clear f1 f2 f3
        go_wp2
        go_ret
        exact ⟨rfl, (((Ext.refl _).alloc _).alloc _).trans hE⟩
    · clear hc
      have hp' : per < 1 ∨ (1 ≤ per ∧ 8 < per) := by omega
      rcases hp' with h | ⟨h, h'⟩
      all_goals
        go_enter Try.func6, Try.ntmps6
        go_wp2_with (go_at_call 8; refine (awake_any _).mono ?_; rintro e w1 ⟨rfl, hE⟩; obtain ⟨hcell, hfr⟩ := hE.cells)
        refine (small_any _ c0 (TX.ext hE)).mono ?_
        rintro e w2 ⟨q, rfl, hb⟩
        replace hE := hE.trans hb
        clear hb hcell hfr
        obtain ⟨hcell, hfr⟩ := hE.cells
        cases q
        · go_wp2
          go_ret
          exact ⟨rfl, (((Ext.refl _).alloc _).alloc _).trans hE⟩
        · go_wp2_with (go_at_call 12; refine (check_any _ c0  (TX.ext (by first | exact hE | exact hE.drew | exact hE.drewN _))).mono ?_; rintro e w' ⟨rfl, hb⟩; (first | (replace hE := hE.trans hb) | (replace hE := hE.drew.trans hb) | (replace hE := (hE.drewN _).trans hb)); clear hb hcell hfr; obtain ⟨hcell, hfr⟩ := hE.cells; rw [HC.out])
          go_ret
          exact ⟨rfl, (((Ext.refl _).alloc _).alloc _).trans hE⟩
  · have hcb : (checkV n L Z != 0) = true := by simpa using hc
    clear hc
    go_enter Try.func6, Try.ntmps6
    go_wp2_with (go_at_call 8; refine (awake_any _).mono ?_; rintro e w1 ⟨rfl, hE⟩; obtain ⟨hcell, hfr⟩ := hE.cells)
    refine (small_any _ c0 (TX.ext hE)).mono ?_
    rintro e w2 ⟨q, rfl, hb⟩
    replace hE := hE.trans hb
    clear hb hcell hfr
    obtain ⟨hcell, hfr⟩ := hE.cells
    cases q
    · go_wp2
      go_ret
      exact ⟨rfl, (((Ext.refl _).alloc _).alloc _).trans hE⟩
    · go_wp2_with (go_at_call 12; refine (check_any _ c0  (TX.ext (by first | exact hE | exact hE.drew | exact hE.drewN _))).mono ?_; rintro e w' ⟨rfl, hb⟩; (first | (replace hE := hE.trans hb) | (replace hE := hE.drew.trans hb) | (replace hE := (hE.drewN _).trans hb)); clear hb hcell hfr; obtain ⟨hcell, hfr⟩ := hE.cells)
      go_ret
      exact ⟨rfl, (((Ext.refl _).alloc _).alloc _).trans hE⟩

end Go.Proofs.Ythccmolnfejkeaa

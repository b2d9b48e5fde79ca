/-
  The laws ResourceFalls and ResourceEnds, walked.
-/
import Derived.Test.YthccmolnfejkeaaResI
namespace Go.Proofs.Ythccmolnfejkeaa
open Go.RowKit
set_option linter.unusedSimpArgs false

set_option maxHeartbeats 4000000 in
theorem resourceFalls_any (w : World) {A0 : Option Addr} {n : Nat} {A : Nat → Option Addr} {L C : Nat → Nat} {Z : Nat → Nat → Int} {b off : Nat} {G O : Nat → Nat} (c0 : Nat) (per x0 x1 : Int) (T : TabAt w A0 n A L C Z b off G O) :
    Calls Try.prog 5 #[.agg #[.slice A0 n c0], .int .i64 per, .agg #[.int .i64 x0, .int .i64 x1]] w fun e w' => e = .returned (.bool true) ∧ Ext w w' := by
  have hn := T.nle
  have TX : TabAt ((w.alloc (.cells #[.slice A0 n c0] 24)).alloc (.cells #[.int .i64 x0, .int .i64 x1] 30)) A0 n A L C Z b off G O := T.ext (((Ext.refl _).alloc _).alloc _)
  obtain ⟨b1, b2⟩ := @at_bd n L Z per x0 x1
  by_cases h1 : atE n L Z per x0 x1 = 0
  · obtain ⟨hc, r1, r2, r3, r4, r5, r6⟩ := at_okay h1
    have hf := check_facts hc
    have n1 := hf.1
    have n2 := hf.2.1
    have l2 := hf.2.2.2.1
    have HO := Lib.hid (@ovV_pos n (by omega))
    have k1 : 0 ≤ ((n : Int) - 1) * per := Int.mul_nonneg (by omega) (by omega)
    have k2 : ((n : Int) - 1) * per ≤ 90 * 8 := Int.mul_le_mul (by omega) r2 (by omega) (by omega)
    have H1 := Lib.hid h1
    clear hf hc
    obtain ⟨b3, b4⟩ := @at_bd n L Z per x0 (x1 + 1)
    obtain ⟨b5, b6⟩ := @at_bd n L Z per (x0 + 1) x1
    obtain ⟨b7, b8⟩ := @at_bd n L Z per (x0 - 1) x1
    have hW : (atE n L Z per x0 (x1 + 1) = 0 ∧ ¬ atV n L Z per x0 x1 < atV n L Z per x0 (x1 + 1)) ∨ (atE n L Z per x0 (x1 + 1) == 0) = false := by
      by_cases h2 : atE n L Z per x0 (x1 + 1) = 0
      · have := at_wicket h1 h2
        exact .inl ⟨h2, by omega⟩
      · exact .inr (by simpa using h2)
    have hB : ((atE n L Z per (x0 + 1) x1 != 0) = true ∧ x0 = ((n : Int) - 1) * per) ∨ (atE n L Z per (x0 + 1) x1 = 0 ∧ atV n L Z per x0 x1 ≤ atV n L Z per (x0 + 1) x1 ∧
        (((atE n L Z per (x0 - 1) x1 != 0) = true ∧ (atE n L Z per (x0 - 1) x1 == 0) = false ∧ x0 = 0) ∨ (atE n L Z per (x0 - 1) x1 = 0 ∧ atV n L Z per (x0 + 1) x1 - atV n L Z per x0 x1 ≤ atV n L Z per x0 x1 - atV n L Z per (x0 - 1) x1))) := by
      by_cases h3 : atE n L Z per (x0 + 1) x1 = 0
      · refine .inr ⟨h3, at_mono h1 h3, ?_⟩
        by_cases h4 : atE n L Z per (x0 - 1) x1 = 0
        · exact .inr ⟨h4, at_less h1 h3 h4⟩
        · exact .inl ⟨by simpa using h4, by simpa using h4, at_prev h1 h4⟩
      · exact .inl ⟨by simpa using h3, at_next h1 h3⟩
    clear h1
    rcases hW with ⟨h2, h2'⟩ | h2
    · have H2 := Lib.hid h2
      clear h2
      rcases hB with ⟨h3, h3'⟩ | ⟨h3, h3', ⟨h4, h4', h5⟩ | ⟨h4, h5⟩⟩
      · have h5 : (x0 == ((n : Int) - 1) * per) = true := by simpa using h3'
        clear h3'
        go_enter Try.func5, Try.ntmps5
        go_wp2_with (go_at_call 8; refine (awake_any _).mono ?_; rintro e w1 ⟨rfl, hE⟩; obtain ⟨hcell, hfr⟩ := hE.cells)
        refine (small_any _ c0 (TX.ext hE)).mono ?_
        rintro e w2 ⟨q, rfl, hb⟩
        replace hE := hE.trans hb
        clear hb hcell hfr
        obtain ⟨hcell, hfr⟩ := hE.cells
        cases q
        · go_wp2
          go_ret
          exact ⟨rfl, (((Ext.refl _).alloc _).alloc _).trans hE⟩
        · go_wp2
          go_quiet (fail)
          go_wp2_with (first | (go_at_call 18; refine (at_any _ c0 per _ _ (TX.ext (by first | exact hE | exact hE.drew | exact hE.drewN _))).mono ?_; rintro e w' ⟨rfl, hb⟩; (first | (replace hE := hE.trans hb) | (replace hE := hE.drew.trans hb) | (replace hE := (hE.drewN _).trans hb)); clear hb hcell hfr; obtain ⟨hcell, hfr⟩ := hE.cells; (first | rw [H1.out] | rw [H2.out] | skip)) | (go_at_call 14; refine (overs_any _ _ n c0 hn).mono ?_; rintro e w' ⟨rfl, hb⟩; (first | (replace hE := hE.trans hb) | (replace hE := hE.drew.trans hb) | (replace hE := (hE.drewN _).trans hb)); rw [HO.out]; clear hb hcell hfr; obtain ⟨hcell, hfr⟩ := hE.cells))
          go_ret
          exact ⟨rfl, (((Ext.refl _).alloc _).alloc _).trans hE⟩
      · have H3 := Lib.hid h3
        have h5b : (x0 == 0) = true := by simpa using h5
        clear h3 h5
        go_enter Try.func5, Try.ntmps5
        go_wp2_with (go_at_call 8; refine (awake_any _).mono ?_; rintro e w1 ⟨rfl, hE⟩; obtain ⟨hcell, hfr⟩ := hE.cells)
        refine (small_any _ c0 (TX.ext hE)).mono ?_
        rintro e w2 ⟨q, rfl, hb⟩
        replace hE := hE.trans hb
        clear hb hcell hfr
        obtain ⟨hcell, hfr⟩ := hE.cells
        cases q
        · go_wp2
          go_ret
          exact ⟨rfl, (((Ext.refl _).alloc _).alloc _).trans hE⟩
        · go_wp2
          go_quiet (fail)
          go_wp2_with (first | (go_at_call 18; refine (at_any _ c0 per _ _ (TX.ext (by first | exact hE | exact hE.drew | exact hE.drewN _))).mono ?_; rintro e w' ⟨rfl, hb⟩; (first | (replace hE := hE.trans hb) | (replace hE := hE.drew.trans hb) | (replace hE := (hE.drewN _).trans hb)); clear hb hcell hfr; obtain ⟨hcell, hfr⟩ := hE.cells; (first | rw [H1.out] | rw [H2.out] | rw [H3.out] | skip)) | (go_at_call 14; refine (overs_any _ _ n c0 hn).mono ?_; rintro e w' ⟨rfl, hb⟩; (first | (replace hE := hE.trans hb) | (replace hE := hE.drew.trans hb) | (replace hE := (hE.drewN _).trans hb)); rw [HO.out]; clear hb hcell hfr; obtain ⟨hcell, hfr⟩ := hE.cells))
          go_ret
          exact ⟨rfl, (((Ext.refl _).alloc _).alloc _).trans hE⟩
      · have H3 := Lib.hid h3
        have H4 := Lib.hid h4
        clear h3 h4
        go_enter Try.func5, Try.ntmps5
        go_wp2_with (go_at_call 8; refine (awake_any _).mono ?_; rintro e w1 ⟨rfl, hE⟩; obtain ⟨hcell, hfr⟩ := hE.cells)
        refine (small_any _ c0 (TX.ext hE)).mono ?_
        rintro e w2 ⟨q, rfl, hb⟩
        replace hE := hE.trans hb
        clear hb hcell hfr
        obtain ⟨hcell, hfr⟩ := hE.cells
        cases q
        · go_wp2
          go_ret
          exact ⟨rfl, (((Ext.refl _).alloc _).alloc _).trans hE⟩
        · go_wp2
          go_quiet (fail)
          go_wp2_with (first | (go_at_call 18; refine (at_any _ c0 per _ _ (TX.ext (by first | exact hE | exact hE.drew | exact hE.drewN _))).mono ?_; rintro e w' ⟨rfl, hb⟩; (first | (replace hE := hE.trans hb) | (replace hE := hE.drew.trans hb) | (replace hE := (hE.drewN _).trans hb)); clear hb hcell hfr; obtain ⟨hcell, hfr⟩ := hE.cells; (first | rw [H1.out] | rw [H2.out] | rw [H3.out] | rw [H4.out])) | (go_at_call 14; refine (overs_any _ _ n c0 hn).mono ?_; rintro e w' ⟨rfl, hb⟩; (first | (replace hE := hE.trans hb) | (replace hE := hE.drew.trans hb) | (replace hE := (hE.drewN _).trans hb)); rw [HO.out]; clear hb hcell hfr; obtain ⟨hcell, hfr⟩ := hE.cells))
          go_ret
          exact ⟨retb (by first | rfl | (simp; done) | (simp; omega)), (((Ext.refl _).alloc _).alloc _).trans hE⟩
    · rcases hB with ⟨h3, h3'⟩ | ⟨h3, h3', ⟨h4, h4', h5⟩ | ⟨h4, h5⟩⟩
      · have h5 : (x0 == ((n : Int) - 1) * per) = true := by simpa using h3'
        clear h3'
        go_enter Try.func5, Try.ntmps5
        go_wp2_with (go_at_call 8; refine (awake_any _).mono ?_; rintro e w1 ⟨rfl, hE⟩; obtain ⟨hcell, hfr⟩ := hE.cells)
        refine (small_any _ c0 (TX.ext hE)).mono ?_
        rintro e w2 ⟨q, rfl, hb⟩
        replace hE := hE.trans hb
        clear hb hcell hfr
        obtain ⟨hcell, hfr⟩ := hE.cells
        cases q
        · go_wp2
          go_ret
          exact ⟨rfl, (((Ext.refl _).alloc _).alloc _).trans hE⟩
        · go_wp2
          go_quiet (fail)
          go_wp2_with (first | (go_at_call 18; refine (at_any _ c0 per _ _ (TX.ext (by first | exact hE | exact hE.drew | exact hE.drewN _))).mono ?_; rintro e w' ⟨rfl, hb⟩; (first | (replace hE := hE.trans hb) | (replace hE := hE.drew.trans hb) | (replace hE := (hE.drewN _).trans hb)); clear hb hcell hfr; obtain ⟨hcell, hfr⟩ := hE.cells; (first | rw [H1.out] | skip)) | (go_at_call 14; refine (overs_any _ _ n c0 hn).mono ?_; rintro e w' ⟨rfl, hb⟩; (first | (replace hE := hE.trans hb) | (replace hE := hE.drew.trans hb) | (replace hE := (hE.drewN _).trans hb)); rw [HO.out]; clear hb hcell hfr; obtain ⟨hcell, hfr⟩ := hE.cells))
          go_ret
          exact ⟨rfl, (((Ext.refl _).alloc _).alloc _).trans hE⟩
      · have H3 := Lib.hid h3
        have h5b : (x0 == 0) = true := by simpa using h5
        clear h3 h5
        go_enter Try.func5, Try.ntmps5
        go_wp2_with (go_at_call 8; refine (awake_any _).mono ?_; rintro e w1 ⟨rfl, hE⟩; obtain ⟨hcell, hfr⟩ := hE.cells)
        refine (small_any _ c0 (TX.ext hE)).mono ?_
        rintro e w2 ⟨q, rfl, hb⟩
        replace hE := hE.trans hb
        clear hb hcell hfr
        obtain ⟨hcell, hfr⟩ := hE.cells
        cases q
        · go_wp2
          go_ret
          exact ⟨rfl, (((Ext.refl _).alloc _).alloc _).trans hE⟩
        · go_wp2
          go_quiet (fail)
          go_wp2_with (first | (go_at_call 18; refine (at_any _ c0 per _ _ (TX.ext (by first | exact hE | exact hE.drew | exact hE.drewN _))).mono ?_; rintro e w' ⟨rfl, hb⟩; (first | (replace hE := hE.trans hb) | (replace hE := hE.drew.trans hb) | (replace hE := (hE.drewN _).trans hb)); clear hb hcell hfr; obtain ⟨hcell, hfr⟩ := hE.cells; (first | rw [H1.out] | rw [H3.out] | skip)) | (go_at_call 14; refine (overs_any _ _ n c0 hn).mono ?_; rintro e w' ⟨rfl, hb⟩; (first | (replace hE := hE.trans hb) | (replace hE := hE.drew.trans hb) | (replace hE := (hE.drewN _).trans hb)); rw [HO.out]; clear hb hcell hfr; obtain ⟨hcell, hfr⟩ := hE.cells))
          go_ret
          exact ⟨rfl, (((Ext.refl _).alloc _).alloc _).trans hE⟩
      · have H3 := Lib.hid h3
        have H4 := Lib.hid h4
        clear h3 h4
        go_enter Try.func5, Try.ntmps5
        go_wp2_with (go_at_call 8; refine (awake_any _).mono ?_; rintro e w1 ⟨rfl, hE⟩; obtain ⟨hcell, hfr⟩ := hE.cells)
        refine (small_any _ c0 (TX.ext hE)).mono ?_
        rintro e w2 ⟨q, rfl, hb⟩
        replace hE := hE.trans hb
        clear hb hcell hfr
        obtain ⟨hcell, hfr⟩ := hE.cells
        cases q
        · go_wp2
          go_ret
          exact ⟨rfl, (((Ext.refl _).alloc _).alloc _).trans hE⟩
        · go_wp2
          go_quiet (fail)
          go_wp2_with (first | (go_at_call 18; refine (at_any _ c0 per _ _ (TX.ext (by first | exact hE | exact hE.drew | exact hE.drewN _))).mono ?_; rintro e w' ⟨rfl, hb⟩; (first | (replace hE := hE.trans hb) | (replace hE := hE.drew.trans hb) | (replace hE := (hE.drewN _).trans hb)); clear hb hcell hfr; obtain ⟨hcell, hfr⟩ := hE.cells; (first | rw [H1.out] | rw [H3.out] | rw [H4.out] | skip)) | (go_at_call 14; refine (overs_any _ _ n c0 hn).mono ?_; rintro e w' ⟨rfl, hb⟩; (first | (replace hE := hE.trans hb) | (replace hE := hE.drew.trans hb) | (replace hE := (hE.drewN _).trans hb)); rw [HO.out]; clear hb hcell hfr; obtain ⟨hcell, hfr⟩ := hE.cells))
          go_ret
          exact ⟨retb (by first | rfl | (simp; done) | (simp; omega)), (((Ext.refl _).alloc _).alloc _).trans hE⟩
  · have hz := Lib.hid (at_err h1)
    have h1b : (atE n L Z per x0 x1 != 0) = true := by simpa using h1
    clear h1
    go_enter Try.func5, Try.ntmps5
    go_wp2_with (go_at_call 8; refine (awake_any _).mono ?_; rintro e w1 ⟨rfl, hE⟩; obtain ⟨hcell, hfr⟩ := hE.cells)
    refine (small_any _ c0 (TX.ext hE)).mono ?_
    rintro e w2 ⟨q, rfl, hb⟩
    replace hE := hE.trans hb
    clear hb hcell hfr
    obtain ⟨hcell, hfr⟩ := hE.cells
    cases q
    · go_wp2
      go_ret
      exact ⟨rfl, (((Ext.refl _).alloc _).alloc _).trans hE⟩
    · go_wp2
      go_quiet (fail)
      go_wp2_with (go_at_call 18; refine (at_any _ c0 per _ _ (TX.ext (by first | exact hE | exact hE.drew | exact hE.drewN _))).mono ?_; rintro e w' ⟨rfl, hb⟩; (first | (replace hE := hE.trans hb) | (replace hE := hE.drew.trans hb) | (replace hE := (hE.drewN _).trans hb)); clear hb hcell hfr; obtain ⟨hcell, hfr⟩ := hE.cells; rw [hz.out])
      go_ret
      exact ⟨rfl, (((Ext.refl _).alloc _).alloc _).trans hE⟩

end Go.Proofs.Ythccmolnfejkeaa

/-
  The laws ResourceChecks and ResourceLookups, walked.
-/
import Derived.Test.YthccmolnfejkeaaResG
namespace Go.Proofs.Ythccmolnfejkeaa
open Go.RowKit
set_option linter.unusedSimpArgs false

set_option maxHeartbeats 4000000 in
theorem resourceChecks_any (w : World) {A0 : Option Addr} {n : Nat} {A : Nat → Option Addr} {L C : Nat → Nat} {Z : Nat → Nat → Int} {b off : Nat} {G O : Nat → Nat} (c0 : Nat) (T : TabAt w A0 n A L C Z b off G O) :
    Calls Try.prog 3 #[.agg #[.slice A0 n c0]] w fun e w' => e = .returned (.bool true) ∧ Ext w w' := by
  have hn := T.nle
  have TX : TabAt (w.alloc (.cells #[.slice A0 n c0] 24)) A0 n A L C Z b off G O := T.ext ((Ext.refl _).alloc _)
  go_enter Try.func3, Try.ntmps3
  go_wp2_with (go_at_call 8; refine (awake_any _).mono ?_; rintro e w1 ⟨rfl, hE⟩; obtain ⟨hcell, hfr⟩ := hE.cells)
  refine (small_any _ c0 (TX.ext hE)).mono ?_
  rintro e w2 ⟨q, rfl, hb⟩
  replace hE := hE.trans hb
  clear hb hcell hfr
  obtain ⟨hcell, hfr⟩ := hE.cells
  cases q
  · go_wp2
    go_ret
    exact ⟨rfl, ((Ext.refl _).alloc _).trans hE⟩
  · go_wp2
    go_region_held3 (fun w' => w'.cell? ⟨w.heap.size, 0, none⟩ = some (.slice A0 n c0)) (simp [go_sem, *])
      (first | (go_at_call 10; refine (shape_any _ c0  (TX.ext (by first | exact hE | exact hE.drew))).mono ?_; rintro e w' ⟨rfl, hb⟩; (first | (replace hE := hE.trans hb) | (replace hE := hE.drew.trans hb)); clear hb hcell hfr; obtain ⟨hcell, hfr⟩ := hE.cells) | (go_at_call 11; refine (rshape_any _ c0  (TX.ext (by first | exact hE | exact hE.drew))).mono ?_; rintro e w' ⟨rfl, hb⟩; (first | (replace hE := hE.trans hb) | (replace hE := hE.drew.trans hb)); clear hb hcell hfr; obtain ⟨hcell, hfr⟩ := hE.cells) | (go_at_call 12; refine (check_any _ c0  (TX.ext (by first | exact hE | exact hE.drew))).mono ?_; rintro e w' ⟨rfl, hb⟩; (first | (replace hE := hE.trans hb) | (replace hE := hE.drew.trans hb)); clear hb hcell hfr; obtain ⟨hcell, hfr⟩ := hE.cells) | (go_at_call 13; refine (rcheck_any _ c0  (TX.ext (by first | exact hE | exact hE.drew))).mono ?_; rintro e w' ⟨rfl, hb⟩; (first | (replace hE := hE.trans hb) | (replace hE := hE.drew.trans hb)); clear hb hcell hfr; obtain ⟨hcell, hfr⟩ := hE.cells) | (go_at_call 14; refine (overs_any _ _ n c0 hn).mono ?_; rintro e w' ⟨rfl, hb⟩; (first | (replace hE := hE.trans hb) | (replace hE := hE.drew.trans hb)); clear hb hcell hfr; obtain ⟨hcell, hfr⟩ := hE.cells) | (go_at_call 15; refine (rovers_any _ _ n c0 hn).mono ?_; rintro e w' ⟨rfl, hb⟩; (first | (replace hE := hE.trans hb) | (replace hE := hE.drew.trans hb)); clear hb hcell hfr; obtain ⟨hcell, hfr⟩ := hE.cells) | (go_at_call 16; refine (wkts_any _ c0  (TX.ext (by first | exact hE | exact hE.drew))).mono ?_; rintro e w' ⟨rfl, hb⟩; (first | (replace hE := hE.trans hb) | (replace hE := hE.drew.trans hb)); clear hb hcell hfr; obtain ⟨hcell, hfr⟩ := hE.cells) | (go_at_call 17; refine (rwkts_any _ c0  (TX.ext (by first | exact hE | exact hE.drew))).mono ?_; rintro e w' ⟨rfl, hb⟩; (first | (replace hE := hE.trans hb) | (replace hE := hE.drew.trans hb)); clear hb hcell hfr; obtain ⟨hcell, hfr⟩ := hE.cells))
    go_wp2
    go_ret
    exact ⟨rfl, ((Ext.refl _).alloc _).trans hE⟩

set_option maxHeartbeats 4000000 in
theorem resourceLookups_any (w : World) {A0 : Option Addr} {n : Nat} {A : Nat → Option Addr} {L C : Nat → Nat} {Z : Nat → Nat → Int} {b off : Nat} {G O : Nat → Nat} (c0 : Nat) (per x0 x1 : Int) (T : TabAt w A0 n A L C Z b off G O) :
    Calls Try.prog 4 #[.agg #[.slice A0 n c0], .int .i64 per, .agg #[.int .i64 x0, .int .i64 x1]] w fun e w' => e = .returned (.bool true) ∧ Ext w w' := by
  have hn := T.nle
  have TX : TabAt ((w.alloc (.cells #[.slice A0 n c0] 24)).alloc (.cells #[.int .i64 x0, .int .i64 x1] 30)) A0 n A L C Z b off G O := T.ext (((Ext.refl _).alloc _).alloc _)
  go_enter Try.func4, Try.ntmps4
  go_wp2_with (go_at_call 8; refine (awake_any _).mono ?_; rintro e w1 ⟨rfl, hE⟩; obtain ⟨hcell, hfr⟩ := hE.cells)
  refine (small_any _ c0 (TX.ext hE)).mono ?_
  rintro e w2 ⟨q, rfl, hb⟩
  replace hE := hE.trans hb
  clear hb hcell hfr
  obtain ⟨hcell, hfr⟩ := hE.cells
  cases q
  · go_wp2
    go_ret
    exact ⟨rfl, (((Ext.refl _).alloc _).alloc _).trans hE⟩
  · go_wp2_with (first | (go_at_call 18; refine (at_any _ c0 per x0 x1 (TX.ext (by first | exact hE | exact hE.drew))).mono ?_; rintro e w' ⟨rfl, hb⟩; (first | (replace hE := hE.trans hb) | (replace hE := hE.drew.trans hb)); clear hb hcell hfr; obtain ⟨hcell, hfr⟩ := hE.cells) | (go_at_call 19; refine (rat_any _ c0 per x0 x1 (TX.ext (by first | exact hE | exact hE.drew))).mono ?_; rintro e w' ⟨rfl, hb⟩; (first | (replace hE := hE.trans hb) | (replace hE := hE.drew.trans hb)); clear hb hcell hfr; obtain ⟨hcell, hfr⟩ := hE.cells))
    go_ret
    exact ⟨rfl, (((Ext.refl _).alloc _).alloc _).trans hE⟩

end Go.Proofs.Ythccmolnfejkeaa

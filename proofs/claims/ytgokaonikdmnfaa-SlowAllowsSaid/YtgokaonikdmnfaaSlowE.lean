/-
  The law SlowAllows, walked.
-/
import Derived.Test.YtgokaonikdmnfaaSlowD
namespace Go.Proofs.Ytgokaonikdmnfaa
open Go.RowKit

set_option maxHeartbeats 2000000 in
theorem slowAllows_any (m po wk rv pe mx gr a b c d : Int) (w : World) :
    Calls Try.prog 3 #[.agg #[.int .i64 m, .int .i64 po, .int .i64 wk, .int .i64 rv, .int .i64 pe, .int .i64 mx, .int .i64 gr], .agg #[.int .i64 a, .int .i64 b, .int .i64 c, .int .i64 d]] w fun e w' => e = .returned (.bool true) ∧ Ext w w' := by
  go_enter Try.func3, Try.ntmps3
  go_wp2_with (go_at_call 10; refine (awake_any _).mono ?_; rintro e w1 ⟨rfl, hb1⟩; obtain ⟨hcell1, _⟩ := hb1.cells; have l10 : w.heap.size < w1.heap.size := hb1.lt (by first | (simp; done) | (simp; omega)); have l11 : w.heap.size + 1 < w1.heap.size := hb1.lt (by first | (simp; done) | (simp; omega)))
  go_region_held3 (fun w' => w'.cell? ⟨w.heap.size, 0, none⟩ = some (.int .i64 m) ∧ w'.cell? ⟨w.heap.size, 1, none⟩ = some (.int .i64 po) ∧ w'.cell? ⟨w.heap.size, 2, none⟩ = some (.int .i64 wk) ∧ w'.cell? ⟨w.heap.size, 3, none⟩ = some (.int .i64 rv) ∧ w'.cell? ⟨w.heap.size, 4, none⟩ = some (.int .i64 pe) ∧ w'.cell? ⟨w.heap.size, 5, none⟩ = some (.int .i64 mx) ∧ w'.cell? ⟨w.heap.size, 6, none⟩ = some (.int .i64 gr) ∧ w'.cell? ⟨w.heap.size + 1, 0, none⟩ = some (.int .i64 a) ∧ w'.cell? ⟨w.heap.size + 1, 1, none⟩ = some (.int .i64 b) ∧ w'.cell? ⟨w.heap.size + 1, 2, none⟩ = some (.int .i64 c) ∧ w'.cell? ⟨w.heap.size + 1, 3, none⟩ = some (.int .i64 d)) (simp [go_sem, *])
    (first | (go_at_call 12; refine (of_any _ _ _ _ _ _ _ _).mono ?_; rintro e w2 ⟨rfl, hb2⟩; replace hb2 := hb2.ofDrew; obtain ⟨hcell2, _⟩ := hb2.cells; have l20 := hb2.lt l10; have l21 := hb2.lt l11) | (go_at_call 11; refine (allowed_any _ _ _ _ _ _ _ _ _ _ _).mono ?_; rintro e w3 ⟨rfl, hb3⟩; obtain ⟨hcell3, _⟩ := hb3.cells; have l30 := hb3.lt l20; have l31 := hb3.lt l21))
  go_wp2_with (go_at_call 13; refine (rallowed_any _ _ _ _ _ _ _ _ _ _ _).mono ?_; rintro e w4 ⟨rfl, hb4⟩; obtain ⟨hcell4, _⟩ := hb4.cells; have l40 := hb4.lt l30; have l41 := hb4.lt l31)
  go_region_held3 (fun w' => w'.cell? ⟨w.heap.size, 0, none⟩ = some (.int .i64 m) ∧ w'.cell? ⟨w.heap.size, 1, none⟩ = some (.int .i64 po) ∧ w'.cell? ⟨w.heap.size, 2, none⟩ = some (.int .i64 wk) ∧ w'.cell? ⟨w.heap.size, 3, none⟩ = some (.int .i64 rv) ∧ w'.cell? ⟨w.heap.size, 4, none⟩ = some (.int .i64 pe) ∧ w'.cell? ⟨w.heap.size, 5, none⟩ = some (.int .i64 mx) ∧ w'.cell? ⟨w.heap.size, 6, none⟩ = some (.int .i64 gr) ∧ w'.cell? ⟨w.heap.size + 1, 0, none⟩ = some (.int .i64 a) ∧ w'.cell? ⟨w.heap.size + 1, 1, none⟩ = some (.int .i64 b) ∧ w'.cell? ⟨w.heap.size + 1, 2, none⟩ = some (.int .i64 c) ∧ w'.cell? ⟨w.heap.size + 1, 3, none⟩ = some (.int .i64 d)) (simp [go_sem, *])
    (first | (go_at_call 12; refine (of_any _ _ _ _ _ _ _ _).mono ?_; rintro e w5 ⟨rfl, hb5⟩; replace hb5 := hb5.ofDrew; obtain ⟨hcell5, _⟩ := hb5.cells; have l50 := hb5.lt l40; have l51 := hb5.lt l41) | (go_at_call 14; refine (missing_any _ _ _ _ _ _ _ _ _ _ _ _).mono ?_; rintro e w6 ⟨rfl, hb6⟩; obtain ⟨hcell6, _⟩ := hb6.cells; have l60 := hb6.lt l50; have l61 := hb6.lt l51))
  go_wp2_with (go_at_call 15; refine (rmissing_any _ _ _ _ _ _ _ _ _ _ _ _).mono ?_; rintro e w7 ⟨rfl, hb7⟩; obtain ⟨hcell7, _⟩ := hb7.cells; have l70 := hb7.lt l60; have l71 := hb7.lt l61)
  go_region_held3 (fun w' => w'.cell? ⟨w.heap.size, 0, none⟩ = some (.int .i64 m) ∧ w'.cell? ⟨w.heap.size, 1, none⟩ = some (.int .i64 po) ∧ w'.cell? ⟨w.heap.size, 2, none⟩ = some (.int .i64 wk) ∧ w'.cell? ⟨w.heap.size, 3, none⟩ = some (.int .i64 rv) ∧ w'.cell? ⟨w.heap.size, 4, none⟩ = some (.int .i64 pe) ∧ w'.cell? ⟨w.heap.size, 5, none⟩ = some (.int .i64 mx) ∧ w'.cell? ⟨w.heap.size, 6, none⟩ = some (.int .i64 gr) ∧ w'.cell? ⟨w.heap.size + 1, 0, none⟩ = some (.int .i64 a) ∧ w'.cell? ⟨w.heap.size + 1, 1, none⟩ = some (.int .i64 b) ∧ w'.cell? ⟨w.heap.size + 1, 2, none⟩ = some (.int .i64 c) ∧ w'.cell? ⟨w.heap.size + 1, 3, none⟩ = some (.int .i64 d)) (simp [go_sem, *])
    (first | (go_at_call 12; refine (of_any _ _ _ _ _ _ _ _).mono ?_; rintro e w8 ⟨rfl, hb8⟩; replace hb8 := hb8.ofDrew; obtain ⟨hcell8, _⟩ := hb8.cells; have l80 := hb8.lt l70; have l81 := hb8.lt l71) | (go_at_call 16; refine (check_any _ _ _ _ _ _ _ _).mono ?_; rintro e w9 ⟨rfl, hb9⟩; obtain ⟨hcell9, _⟩ := hb9.cells; have l90 := hb9.lt l80; have l91 := hb9.lt l81) | (go_at_call 17; refine (rcheck_any _ _ _ _ _ _ _ _).mono ?_; rintro e w10 ⟨rfl, hb10⟩; obtain ⟨hcell10, _⟩ := hb10.cells; have l100 := hb10.lt l90; have l101 := hb10.lt l91))
  go_wp2
  go_ret
  exact ⟨rfl, (((((((((((((Ext.refl _).alloc _).alloc _).trans hb1).trans hb2).trans hb3).trans hb4).trans hb5).trans hb6).trans hb7).trans hb8).trans hb9).trans hb10)⟩

end Go.Proofs.Ytgokaonikdmnfaa

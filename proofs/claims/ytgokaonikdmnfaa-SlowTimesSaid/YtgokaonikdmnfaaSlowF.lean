/-
  The laws SlowRuns and SlowTimes, walked.
-/
import Derived.Test.YtgokaonikdmnfaaSlowD
namespace Go.Proofs.Ytgokaonikdmnfaa
open Go.RowKit

set_option maxHeartbeats 1000000 in
theorem slowRuns_any (m po wk rv pe mx gr d : Int) (w : World) :
    Calls Try.prog 4 #[.agg #[.int .i64 m, .int .i64 po, .int .i64 wk, .int .i64 rv, .int .i64 pe, .int .i64 mx, .int .i64 gr], .int .i64 d] w fun e w' => e = .returned (.bool true) ∧ Ext w w' := by
  go_enter Try.func4, Try.ntmps4
  go_wp2_with (first | (go_at_call 10; refine (awake_any _).mono ?_; rintro e w1 ⟨rfl, hb1⟩; obtain ⟨hcell1, _⟩ := hb1.cells; have l10 : w.heap.size < w1.heap.size := hb1.lt (by first | (simp; done) | (simp; omega))) | (go_at_call 12; refine (of_any _ _ _ _ _ _ _ _).mono ?_; rintro e w2 ⟨rfl, hb2⟩; obtain ⟨hcell2, _⟩ := hb2.cells; have l20 := hb2.lt l10) | (go_at_call 18; refine (runs_any _ _ _ _ _ _ _ _ _).mono ?_; rintro e w3 ⟨rfl, hb3⟩; obtain ⟨hcell3, _⟩ := hb3.cells; have l30 := hb3.lt l20) | (go_at_call 19; refine (rruns_any _ _ _ _ _ _ _ _ _).mono ?_; rintro e w4 ⟨rfl, hb4⟩; obtain ⟨hcell4, _⟩ := hb4.cells; have l40 := hb4.lt l30))
  go_ret
  exact ⟨rfl, ((((((Ext.refl _).alloc _).trans hb1).trans hb2).trans hb3).trans hb4)⟩

theorem alwV_times {m po wk rv pe mx gr a b c : Int} (h : okA m po wk rv pe mx gr a b c = true) :
    (60 * (m - c) - wk * a - rv * b < po → alwV m po wk rv pe mx gr a b c = 0) ∧
    (¬ 60 * (m - c) - wk * a - rv * b < po → alwV m po wk rv pe mx gr a b c * po ≤ 60 * (m - c) - wk * a - rv * b ∧ (alwV m po wk rv pe mx gr a b c + 1) * po > 60 * (m - c) - wk * a - rv * b) := by
  have h3 := pok_bd (okA_bd h).1
  rw [(okA_alw h).1]
  generalize 60 * (m - c) - wk * a - rv * b = L
  constructor
  · intro hl
    apply Int.ediv_eq_zero_of_lt <;> omega
  · intro hl
    rw [Int.max_eq_left (by omega)]
    have e := Int.mul_ediv_add_emod L po
    have r := Int.emod_nonneg L (b := po) (by omega)
    have s := Int.emod_lt_of_pos L (b := po) (by omega)
    rw [Int.add_mul, Int.mul_comm (L / po) po]
    omega

set_option maxHeartbeats 2000000 in
theorem slowTimes_any (m po wk rv pe mx gr a b c d : Int) (w : World) :
    Calls Try.prog 6 #[.agg #[.int .i64 m, .int .i64 po, .int .i64 wk, .int .i64 rv, .int .i64 pe, .int .i64 mx, .int .i64 gr], .agg #[.int .i64 a, .int .i64 b, .int .i64 c, .int .i64 d]] w fun e w' => e = .returned (.bool true) ∧ Ext w w' := by
  rcases and1 (okA m po wk rv pe mx gr a b c) with h1 | h1
  · have HN := Lib.hid (okA_not h1)
    clear h1
    go_enter Try.func6, Try.ntmps6
    go_wp2_with (go_at_call 10; refine (awake_any _).mono ?_; rintro e w1 ⟨rfl, hb1⟩; obtain ⟨hcell1, _⟩ := hb1.cells; have l10 : w.heap.size < w1.heap.size := hb1.lt (by first | (simp; done) | (simp; omega)); have l11 : w.heap.size + 1 < w1.heap.size := hb1.lt (by first | (simp; done) | (simp; omega)))
    go_region_held3 (fun w' => w'.cell? ⟨w.heap.size, 0, none⟩ = some (.int .i64 m) ∧ w'.cell? ⟨w.heap.size, 1, none⟩ = some (.int .i64 po) ∧ w'.cell? ⟨w.heap.size, 2, none⟩ = some (.int .i64 wk) ∧ w'.cell? ⟨w.heap.size, 3, none⟩ = some (.int .i64 rv) ∧ w'.cell? ⟨w.heap.size, 4, none⟩ = some (.int .i64 pe) ∧ w'.cell? ⟨w.heap.size, 5, none⟩ = some (.int .i64 mx) ∧ w'.cell? ⟨w.heap.size, 6, none⟩ = some (.int .i64 gr) ∧ w'.cell? ⟨w.heap.size + 1, 0, none⟩ = some (.int .i64 a) ∧ w'.cell? ⟨w.heap.size + 1, 1, none⟩ = some (.int .i64 b) ∧ w'.cell? ⟨w.heap.size + 1, 2, none⟩ = some (.int .i64 c) ∧ w'.cell? ⟨w.heap.size + 1, 3, none⟩ = some (.int .i64 d)) (simp [go_sem, *])
      (first | (go_at_call 12; refine (of_any _ _ _ _ _ _ _ _).mono ?_; rintro e w2 ⟨rfl, hb2⟩; replace hb2 := hb2.ofDrew; obtain ⟨hcell2, _⟩ := hb2.cells; have l20 := hb2.lt l10; have l21 := hb2.lt l11) | (go_at_call 11; refine (allowed_any _ _ _ _ _ _ _ _ _ _ _).mono ?_; rintro e w3 ⟨rfl, hb3⟩; obtain ⟨hcell3, _⟩ := hb3.cells; have l30 := hb3.lt l20; have l31 := hb3.lt l21; rw [HN.out.1, HN.out.2]))
    go_wp2
    go_ret
    exact ⟨rfl, ((((((Ext.refl _).alloc _).alloc _).trans hb1).trans hb2).trans hb3)⟩
  · have HN := Lib.hid (okA_alw h1).2
    obtain ⟨t1, t2⟩ := alwV_times h1
    obtain ⟨g3, g4⟩ := alwV_bd h1
    have hk := okA_bd h1
    obtain ⟨hd0, hd1, hd2, hd3, hd4, hd5, hd6, hd7, _, _, _, _, _, _⟩ := pok_bd hk.1
    obtain ⟨_, g10, g11, g20, g21, g30, g31⟩ := hk
    obtain ⟨k10, k11⟩ := mul_bd hd4 hd5 g10 g11
    obtain ⟨k20, k21⟩ := mul_bd hd6 hd7 g20 g21
    clear h1
    by_cases hl : 60 * (m - c) - wk * a - rv * b < po
    · have HZ := Lib.hid (t1 hl)
      clear t1 t2
      go_enter Try.func6, Try.ntmps6
      go_wp2_with (go_at_call 10; refine (awake_any _).mono ?_; rintro e w1 ⟨rfl, hb1⟩; obtain ⟨hcell1, _⟩ := hb1.cells; have l10 : w.heap.size < w1.heap.size := hb1.lt (by first | (simp; done) | (simp; omega)); have l11 : w.heap.size + 1 < w1.heap.size := hb1.lt (by first | (simp; done) | (simp; omega)))
      go_region_held3 (fun w' => w'.cell? ⟨w.heap.size, 0, none⟩ = some (.int .i64 m) ∧ w'.cell? ⟨w.heap.size, 1, none⟩ = some (.int .i64 po) ∧ w'.cell? ⟨w.heap.size, 2, none⟩ = some (.int .i64 wk) ∧ w'.cell? ⟨w.heap.size, 3, none⟩ = some (.int .i64 rv) ∧ w'.cell? ⟨w.heap.size, 4, none⟩ = some (.int .i64 pe) ∧ w'.cell? ⟨w.heap.size, 5, none⟩ = some (.int .i64 mx) ∧ w'.cell? ⟨w.heap.size, 6, none⟩ = some (.int .i64 gr) ∧ w'.cell? ⟨w.heap.size + 1, 0, none⟩ = some (.int .i64 a) ∧ w'.cell? ⟨w.heap.size + 1, 1, none⟩ = some (.int .i64 b) ∧ w'.cell? ⟨w.heap.size + 1, 2, none⟩ = some (.int .i64 c) ∧ w'.cell? ⟨w.heap.size + 1, 3, none⟩ = some (.int .i64 d)) (simp [go_sem, *])
        (first | (go_at_call 12; refine (of_any _ _ _ _ _ _ _ _).mono ?_; rintro e w2 ⟨rfl, hb2⟩; replace hb2 := hb2.ofDrew; obtain ⟨hcell2, _⟩ := hb2.cells; have l20 := hb2.lt l10; have l21 := hb2.lt l11) | (go_at_call 11; refine (allowed_any _ _ _ _ _ _ _ _ _ _ _).mono ?_; rintro e w3 ⟨rfl, hb3⟩; obtain ⟨hcell3, _⟩ := hb3.cells; have l30 := hb3.lt l20; have l31 := hb3.lt l21; rw [HN.out, HZ.out]))
      go_wp2
      go_ret
      exact ⟨rfl, ((((((Ext.refl _).alloc _).alloc _).trans hb1).trans hb2).trans hb3)⟩
    · obtain ⟨t3, t4⟩ := t2 hl
      clear t1 t2
      have t5 : 0 ≤ alwV m po wk rv pe mx gr a b c * po := Int.mul_nonneg g3 (by omega)
      have t6 : (alwV m po wk rv pe mx gr a b c + 1) * po = alwV m po wk rv pe mx gr a b c * po + po := by rw [Int.add_mul, Int.one_mul]
      have t7 : (alwV m po wk rv pe mx gr a b c + 1) * po ≤ 40000 := by omega
      have t8 : 0 ≤ (alwV m po wk rv pe mx gr a b c + 1) * po := by omega
      clear t6
      go_enter Try.func6, Try.ntmps6
      go_wp2_with (go_at_call 10; refine (awake_any _).mono ?_; rintro e w1 ⟨rfl, hb1⟩; obtain ⟨hcell1, _⟩ := hb1.cells; have l10 : w.heap.size < w1.heap.size := hb1.lt (by first | (simp; done) | (simp; omega)); have l11 : w.heap.size + 1 < w1.heap.size := hb1.lt (by first | (simp; done) | (simp; omega)))
      go_region_held3 (fun w' => w'.cell? ⟨w.heap.size, 0, none⟩ = some (.int .i64 m) ∧ w'.cell? ⟨w.heap.size, 1, none⟩ = some (.int .i64 po) ∧ w'.cell? ⟨w.heap.size, 2, none⟩ = some (.int .i64 wk) ∧ w'.cell? ⟨w.heap.size, 3, none⟩ = some (.int .i64 rv) ∧ w'.cell? ⟨w.heap.size, 4, none⟩ = some (.int .i64 pe) ∧ w'.cell? ⟨w.heap.size, 5, none⟩ = some (.int .i64 mx) ∧ w'.cell? ⟨w.heap.size, 6, none⟩ = some (.int .i64 gr) ∧ w'.cell? ⟨w.heap.size + 1, 0, none⟩ = some (.int .i64 a) ∧ w'.cell? ⟨w.heap.size + 1, 1, none⟩ = some (.int .i64 b) ∧ w'.cell? ⟨w.heap.size + 1, 2, none⟩ = some (.int .i64 c) ∧ w'.cell? ⟨w.heap.size + 1, 3, none⟩ = some (.int .i64 d)) (simp [go_sem, *])
        (first | (go_at_call 12; refine (of_any _ _ _ _ _ _ _ _).mono ?_; rintro e w2 ⟨rfl, hb2⟩; replace hb2 := hb2.ofDrew; obtain ⟨hcell2, _⟩ := hb2.cells; have l20 := hb2.lt l10; have l21 := hb2.lt l11) | (go_at_call 11; refine (allowed_any _ _ _ _ _ _ _ _ _ _ _).mono ?_; rintro e w3 ⟨rfl, hb3⟩; obtain ⟨hcell3, _⟩ := hb3.cells; have l30 := hb3.lt l20; have l31 := hb3.lt l21; rw [HN.out]))
      go_wp2
      go_ret
      exact ⟨retb (by first | rfl | (simp; done) | (simp; omega)), ((((((Ext.refl _).alloc _).alloc _).trans hb1).trans hb2).trans hb3)⟩

end Go.Proofs.Ytgokaonikdmnfaa

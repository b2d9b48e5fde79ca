/-
  The law SlowEases, walked.
-/
import Derived.Test.YtgokaonikdmnfaaSlowD
namespace Go.Proofs.Ytgokaonikdmnfaa
open Go.RowKit

theorem misE_ok {m po wk rv pe mx gr a b c d : Int} (h : misE m po wk rv pe mx gr a b c d = 0) : okA m po wk rv pe mx gr a b c = true ∧ rng d 0 1000 = true := by
  unfold misE at h
  split at h
  · rename_i hk; simpa using hk
  · cases h
theorem misE_two {m po wk rv pe mx gr a b c d : Int} (h : misE m po wk rv pe mx gr a b c d ≠ 0) : misV m po wk rv pe mx gr a b c d = 0 ∧ misE m po wk rv pe mx gr a b c d = 2 := by
  unfold misV misE at *
  split at h
  · exact absurd rfl h
  · rename_i hk; simp [hk]
theorem mis_mono {m po wk rv pe mx gr a b c d x y z u : Int} (hx : 0 ≤ x) (hy : 0 ≤ y) (hz : 0 ≤ z) (hu : 0 ≤ u) (h : misE m po wk rv pe mx gr a b c d = 0) (h' : misE m po wk rv pe mx gr (a + x) (b + y) (c + z) (d + u) = 0) :
    misV m po wk rv pe mx gr (a + x) (b + y) (c + z) (d + u) ≤ misV m po wk rv pe mx gr a b c d ∧ 0 ≤ misV m po wk rv pe mx gr (a + x) (b + y) (c + z) (d + u) := by
  obtain ⟨h1, h2⟩ := misE_ok h
  obtain ⟨h3, h4⟩ := misE_ok h'
  have hk := pok_bd (okA_bd h1).1
  have e1 : misV m po wk rv pe mx gr a b c d = max (alwV m po wk rv pe mx gr a b c - gr - d) 0 := by simp [misV, h1, h2]
  have e2 : misV m po wk rv pe mx gr (a + x) (b + y) (c + z) (d + u) = max (alwV m po wk rv pe mx gr (a + x) (b + y) (c + z) - gr - (d + u)) 0 := by simp [misV, h3, h4]
  have e3 := (okA_alw h1).1
  have e4 := (okA_alw h3).1
  have m1 : 0 ≤ wk * x := Int.mul_nonneg hk.2.2.2.2.1 hx
  have m2 : 0 ≤ rv * y := Int.mul_nonneg hk.2.2.2.2.2.2.1 hy
  have e5 : alwV m po wk rv pe mx gr (a + x) (b + y) (c + z) ≤ alwV m po wk rv pe mx gr a b c := by
    rw [e3, e4]
    apply Int.ediv_le_ediv (by omega)
    rw [Int.mul_add wk, Int.mul_add rv]
    omega
  rw [e1, e2]
  omega

set_option maxHeartbeats 4000000 in
theorem slowEases_any (m po wk rv pe mx gr a b c d x0 x1 x2 x3 : Int) (h0 : 0 ≤ x0 ∧ x0 ≤ 255) (h1 : 0 ≤ x1 ∧ x1 ≤ 255) (h2 : 0 ≤ x2 ∧ x2 ≤ 255) (h3 : 0 ≤ x3 ∧ x3 ≤ 255) (w : World) :
    Calls Try.prog 5 #[.agg #[.int .i64 m, .int .i64 po, .int .i64 wk, .int .i64 rv, .int .i64 pe, .int .i64 mx, .int .i64 gr], .agg #[.int .i64 a, .int .i64 b, .int .i64 c, .int .i64 d], .agg #[.int .u8 x0, .int .u8 x1, .int .u8 x2, .int .u8 x3]] w fun e w' => e = .returned (.bool true) ∧ Ext w w' := by
  obtain ⟨h00, h01⟩ := h0
  obtain ⟨h10, h11⟩ := h1
  obtain ⟨h20, h21⟩ := h2
  obtain ⟨h30, h31⟩ := h3
  by_cases h : misE m po wk rv pe mx gr a b c d = 0
  · obtain ⟨g1, g2⟩ := misE_ok h
    obtain ⟨hp, k1, k2, k3, k4, k5, k6⟩ := okA_bd g1
    obtain ⟨p1, p2, _⟩ := pok_bd hp
    obtain ⟨k7, k8⟩ := rng_yes g2
    clear hp g1 g2
    by_cases h' : misE m po wk rv pe mx gr (a + x0) (b + x1) (c + x2) (d + x3) = 0
    · obtain ⟨m1, m2⟩ := mis_mono h00 h10 h20 h30 h h'
      have H1 := Lib.hid h
      have H2 := Lib.hid h'
      clear h h'
      go_enter Try.func5, Try.ntmps5
      go_wp2_with (go_at_call 10; refine (awake_any _).mono ?_; rintro e w1 ⟨rfl, hE⟩; obtain ⟨hcell, hfr⟩ := hE.cells)
      go_region_held3 (fun w' => w'.cell? ⟨w.heap.size, 0, none⟩ = some (.int .i64 m) ∧ w'.cell? ⟨w.heap.size, 1, none⟩ = some (.int .i64 po) ∧ w'.cell? ⟨w.heap.size, 2, none⟩ = some (.int .i64 wk) ∧ w'.cell? ⟨w.heap.size, 3, none⟩ = some (.int .i64 rv) ∧ w'.cell? ⟨w.heap.size, 4, none⟩ = some (.int .i64 pe) ∧ w'.cell? ⟨w.heap.size, 5, none⟩ = some (.int .i64 mx) ∧ w'.cell? ⟨w.heap.size, 6, none⟩ = some (.int .i64 gr) ∧ w'.cell? ⟨w.heap.size + 1, 0, none⟩ = some (.int .i64 a) ∧ w'.cell? ⟨w.heap.size + 1, 1, none⟩ = some (.int .i64 b) ∧ w'.cell? ⟨w.heap.size + 1, 2, none⟩ = some (.int .i64 c) ∧ w'.cell? ⟨w.heap.size + 1, 3, none⟩ = some (.int .i64 d) ∧ w'.cell? ⟨w.heap.size + 2, 0, none⟩ = some (.int .u8 x0) ∧ w'.cell? ⟨w.heap.size + 2, 1, none⟩ = some (.int .u8 x1) ∧ w'.cell? ⟨w.heap.size + 2, 2, none⟩ = some (.int .u8 x2) ∧ w'.cell? ⟨w.heap.size + 2, 3, none⟩ = some (.int .u8 x3)) (simp [go_sem, *])
        (first | (go_at_call 12; refine (of_any _ _ _ _ _ _ _ _).mono ?_; rintro e w' ⟨rfl, hb⟩; (first | (replace hE := hE.trans hb) | (replace hE := hE.drew.trans hb)); clear hb hcell hfr; obtain ⟨hcell, hfr⟩ := hE.cells) | (go_at_call 14; refine (missing_any _ _ _ _ _ _ _ _ _ _ _ _).mono ?_; rintro e w' ⟨rfl, hb⟩; (first | (replace hE := hE.trans hb) | (replace hE := hE.drew.trans hb)); clear hb hcell hfr; obtain ⟨hcell, hfr⟩ := hE.cells; (first | rw [H1.out] | rw [H2.out])))
      go_wp2
      have q0 : IntKind.i64.wrap (a + x0) = a + x0 := IntWalk.i64_in _ (by omega)
      have q1 : IntKind.i64.wrap (b + x1) = b + x1 := IntWalk.i64_in _ (by omega)
      have q2 : IntKind.i64.wrap (c + x2) = c + x2 := IntWalk.i64_in _ (by omega)
      have q3 : IntKind.i64.wrap (d + x3) = d + x3 := IntWalk.i64_in _ (by omega)
      have r0 : IntKind.i64.wrap x0 = x0 := IntWalk.i64_in _ (by omega)
      have r1 : IntKind.i64.wrap x1 = x1 := IntWalk.i64_in _ (by omega)
      have r2 : IntKind.i64.wrap x2 = x2 := IntWalk.i64_in _ (by omega)
      have r3 : IntKind.i64.wrap x3 = x3 := IntWalk.i64_in _ (by omega)
      go_region_held3 (fun w' => w'.cell? ⟨w.heap.size, 0, none⟩ = some (.int .i64 m) ∧ w'.cell? ⟨w.heap.size, 1, none⟩ = some (.int .i64 po) ∧ w'.cell? ⟨w.heap.size, 2, none⟩ = some (.int .i64 wk) ∧ w'.cell? ⟨w.heap.size, 3, none⟩ = some (.int .i64 rv) ∧ w'.cell? ⟨w.heap.size, 4, none⟩ = some (.int .i64 pe) ∧ w'.cell? ⟨w.heap.size, 5, none⟩ = some (.int .i64 mx) ∧ w'.cell? ⟨w.heap.size, 6, none⟩ = some (.int .i64 gr) ∧ w'.cell? ⟨w.heap.size + 1, 0, none⟩ = some (.int .i64 a) ∧ w'.cell? ⟨w.heap.size + 1, 1, none⟩ = some (.int .i64 b) ∧ w'.cell? ⟨w.heap.size + 1, 2, none⟩ = some (.int .i64 c) ∧ w'.cell? ⟨w.heap.size + 1, 3, none⟩ = some (.int .i64 d) ∧ w'.cell? ⟨w.heap.size + 2, 0, none⟩ = some (.int .u8 x0) ∧ w'.cell? ⟨w.heap.size + 2, 1, none⟩ = some (.int .u8 x1) ∧ w'.cell? ⟨w.heap.size + 2, 2, none⟩ = some (.int .u8 x2) ∧ w'.cell? ⟨w.heap.size + 2, 3, none⟩ = some (.int .u8 x3)) (simp [go_sem, *])
        (first | (go_at_call 12; refine (of_any _ _ _ _ _ _ _ _).mono ?_; rintro e w' ⟨rfl, hb⟩; (first | (replace hE := hE.trans hb) | (replace hE := hE.drew.trans hb)); clear hb hcell hfr; obtain ⟨hcell, hfr⟩ := hE.cells) | (go_at_call 14; refine (missing_any _ _ _ _ _ _ _ _ _ _ _ _).mono ?_; rintro e w' ⟨rfl, hb⟩; (first | (replace hE := hE.trans hb) | (replace hE := hE.drew.trans hb)); clear hb hcell hfr; obtain ⟨hcell, hfr⟩ := hE.cells; (first | rw [H2.out] | rw [H1.out])))
      clear q0 q1 q2 q3 r0 r1 r2 r3
      go_wp2
      go_ret
      exact ⟨retb (by first | rfl | (simp; done) | (simp; omega)), ((((Ext.refl _).alloc _).alloc _).alloc _).trans hE⟩
    · obtain ⟨e1, e2⟩ := misE_two h'
      have H1 := Lib.hid h
      have H2 := Lib.hid (And.intro e1 e2)
      clear h h' e1 e2
      go_enter Try.func5, Try.ntmps5
      go_wp2_with (go_at_call 10; refine (awake_any _).mono ?_; rintro e w1 ⟨rfl, hE⟩; obtain ⟨hcell, hfr⟩ := hE.cells)
      go_region_held3 (fun w' => w'.cell? ⟨w.heap.size, 0, none⟩ = some (.int .i64 m) ∧ w'.cell? ⟨w.heap.size, 1, none⟩ = some (.int .i64 po) ∧ w'.cell? ⟨w.heap.size, 2, none⟩ = some (.int .i64 wk) ∧ w'.cell? ⟨w.heap.size, 3, none⟩ = some (.int .i64 rv) ∧ w'.cell? ⟨w.heap.size, 4, none⟩ = some (.int .i64 pe) ∧ w'.cell? ⟨w.heap.size, 5, none⟩ = some (.int .i64 mx) ∧ w'.cell? ⟨w.heap.size, 6, none⟩ = some (.int .i64 gr) ∧ w'.cell? ⟨w.heap.size + 1, 0, none⟩ = some (.int .i64 a) ∧ w'.cell? ⟨w.heap.size + 1, 1, none⟩ = some (.int .i64 b) ∧ w'.cell? ⟨w.heap.size + 1, 2, none⟩ = some (.int .i64 c) ∧ w'.cell? ⟨w.heap.size + 1, 3, none⟩ = some (.int .i64 d) ∧ w'.cell? ⟨w.heap.size + 2, 0, none⟩ = some (.int .u8 x0) ∧ w'.cell? ⟨w.heap.size + 2, 1, none⟩ = some (.int .u8 x1) ∧ w'.cell? ⟨w.heap.size + 2, 2, none⟩ = some (.int .u8 x2) ∧ w'.cell? ⟨w.heap.size + 2, 3, none⟩ = some (.int .u8 x3)) (simp [go_sem, *])
        (first | (go_at_call 12; refine (of_any _ _ _ _ _ _ _ _).mono ?_; rintro e w' ⟨rfl, hb⟩; (first | (replace hE := hE.trans hb) | (replace hE := hE.drew.trans hb)); clear hb hcell hfr; obtain ⟨hcell, hfr⟩ := hE.cells) | (go_at_call 14; refine (missing_any _ _ _ _ _ _ _ _ _ _ _ _).mono ?_; rintro e w' ⟨rfl, hb⟩; (first | (replace hE := hE.trans hb) | (replace hE := hE.drew.trans hb)); clear hb hcell hfr; obtain ⟨hcell, hfr⟩ := hE.cells; (first | rw [H1.out])))
      go_wp2
      have q0 : IntKind.i64.wrap (a + x0) = a + x0 := IntWalk.i64_in _ (by omega)
      have q1 : IntKind.i64.wrap (b + x1) = b + x1 := IntWalk.i64_in _ (by omega)
      have q2 : IntKind.i64.wrap (c + x2) = c + x2 := IntWalk.i64_in _ (by omega)
      have q3 : IntKind.i64.wrap (d + x3) = d + x3 := IntWalk.i64_in _ (by omega)
      have r0 : IntKind.i64.wrap x0 = x0 := IntWalk.i64_in _ (by omega)
      have r1 : IntKind.i64.wrap x1 = x1 := IntWalk.i64_in _ (by omega)
      have r2 : IntKind.i64.wrap x2 = x2 := IntWalk.i64_in _ (by omega)
      have r3 : IntKind.i64.wrap x3 = x3 := IntWalk.i64_in _ (by omega)
      go_region_held3 (fun w' => w'.cell? ⟨w.heap.size, 0, none⟩ = some (.int .i64 m) ∧ w'.cell? ⟨w.heap.size, 1, none⟩ = some (.int .i64 po) ∧ w'.cell? ⟨w.heap.size, 2, none⟩ = some (.int .i64 wk) ∧ w'.cell? ⟨w.heap.size, 3, none⟩ = some (.int .i64 rv) ∧ w'.cell? ⟨w.heap.size, 4, none⟩ = some (.int .i64 pe) ∧ w'.cell? ⟨w.heap.size, 5, none⟩ = some (.int .i64 mx) ∧ w'.cell? ⟨w.heap.size, 6, none⟩ = some (.int .i64 gr) ∧ w'.cell? ⟨w.heap.size + 1, 0, none⟩ = some (.int .i64 a) ∧ w'.cell? ⟨w.heap.size + 1, 1, none⟩ = some (.int .i64 b) ∧ w'.cell? ⟨w.heap.size + 1, 2, none⟩ = some (.int .i64 c) ∧ w'.cell? ⟨w.heap.size + 1, 3, none⟩ = some (.int .i64 d) ∧ w'.cell? ⟨w.heap.size + 2, 0, none⟩ = some (.int .u8 x0) ∧ w'.cell? ⟨w.heap.size + 2, 1, none⟩ = some (.int .u8 x1) ∧ w'.cell? ⟨w.heap.size + 2, 2, none⟩ = some (.int .u8 x2) ∧ w'.cell? ⟨w.heap.size + 2, 3, none⟩ = some (.int .u8 x3)) (simp [go_sem, *])
        (first | (go_at_call 12; refine (of_any _ _ _ _ _ _ _ _).mono ?_; rintro e w' ⟨rfl, hb⟩; (first | (replace hE := hE.trans hb) | (replace hE := hE.drew.trans hb)); clear hb hcell hfr; obtain ⟨hcell, hfr⟩ := hE.cells) | (go_at_call 14; refine (missing_any _ _ _ _ _ _ _ _ _ _ _ _).mono ?_; rintro e w' ⟨rfl, hb⟩; (first | (replace hE := hE.trans hb) | (replace hE := hE.drew.trans hb)); clear hb hcell hfr; obtain ⟨hcell, hfr⟩ := hE.cells; (first | rw [H2.out.1, H2.out.2])))
      clear q0 q1 q2 q3 r0 r1 r2 r3
      go_wp2
      go_ret
      exact ⟨retb (by first | rfl | (simp; done) | (simp; omega)), ((((Ext.refl _).alloc _).alloc _).alloc _).trans hE⟩
  · obtain ⟨e1, e2⟩ := misE_two h
    have H1 := Lib.hid (And.intro e1 e2)
    clear h e1 e2
    go_enter Try.func5, Try.ntmps5
    go_wp2_with (go_at_call 10; refine (awake_any _).mono ?_; rintro e w1 ⟨rfl, hE⟩; obtain ⟨hcell, hfr⟩ := hE.cells)
    go_region_held3 (fun w' => w'.cell? ⟨w.heap.size, 0, none⟩ = some (.int .i64 m) ∧ w'.cell? ⟨w.heap.size, 1, none⟩ = some (.int .i64 po) ∧ w'.cell? ⟨w.heap.size, 2, none⟩ = some (.int .i64 wk) ∧ w'.cell? ⟨w.heap.size, 3, none⟩ = some (.int .i64 rv) ∧ w'.cell? ⟨w.heap.size, 4, none⟩ = some (.int .i64 pe) ∧ w'.cell? ⟨w.heap.size, 5, none⟩ = some (.int .i64 mx) ∧ w'.cell? ⟨w.heap.size, 6, none⟩ = some (.int .i64 gr) ∧ w'.cell? ⟨w.heap.size + 1, 0, none⟩ = some (.int .i64 a) ∧ w'.cell? ⟨w.heap.size + 1, 1, none⟩ = some (.int .i64 b) ∧ w'.cell? ⟨w.heap.size + 1, 2, none⟩ = some (.int .i64 c) ∧ w'.cell? ⟨w.heap.size + 1, 3, none⟩ = some (.int .i64 d) ∧ w'.cell? ⟨w.heap.size + 2, 0, none⟩ = some (.int .u8 x0) ∧ w'.cell? ⟨w.heap.size + 2, 1, none⟩ = some (.int .u8 x1) ∧ w'.cell? ⟨w.heap.size + 2, 2, none⟩ = some (.int .u8 x2) ∧ w'.cell? ⟨w.heap.size + 2, 3, none⟩ = some (.int .u8 x3)) (simp [go_sem, *])
      (first | (go_at_call 12; refine (of_any _ _ _ _ _ _ _ _).mono ?_; rintro e w' ⟨rfl, hb⟩; (first | (replace hE := hE.trans hb) | (replace hE := hE.drew.trans hb)); clear hb hcell hfr; obtain ⟨hcell, hfr⟩ := hE.cells) | (go_at_call 14; refine (missing_any _ _ _ _ _ _ _ _ _ _ _ _).mono ?_; rintro e w' ⟨rfl, hb⟩; (first | (replace hE := hE.trans hb) | (replace hE := hE.drew.trans hb)); clear hb hcell hfr; obtain ⟨hcell, hfr⟩ := hE.cells; (first | rw [H1.out.1, H1.out.2])))
    go_wp2
    go_ret
    exact ⟨rfl, ((((Ext.refl _).alloc _).alloc _).alloc _).trans hE⟩

end Go.Proofs.Ytgokaonikdmnfaa

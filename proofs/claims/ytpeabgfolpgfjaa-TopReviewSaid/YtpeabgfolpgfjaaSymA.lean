/-
  Which deliveries there are (layer 9).
-/
import Derived.Test.YtpeabgfolpgfjaaNotP
import Derived.Deep.DeepCutAuto
import Derived.Deep.CutBlock
namespace Go.Proofs.Ytpeabgfolpgfjaa
open Go.RowKit
set_option linter.unusedSimpArgs false

theorem boxD_new (d : Dl) (w : World) (T : TypeId) : BoxD d w.heap.size (w.alloc (.cells #[.int .u8 d.ty, .int .u8 d.so, .int .i64 d.ru, .int .i64 d.sh, .int .i64 d.bo, .bool d.cr, .int .u8 d.ho, .int .i64 d.vi, .int .i64 d.fi, .int .i64 d.se, .bool d.su, .int .i64 d.sc] T)) := by
  refine ⟨?_, ?_, ?_, ?_, ?_, ?_, ?_, ?_, ?_, ?_, ?_, ?_⟩ <;> simp [go_sem]
def tgD (d : Dl) : Prop := if d.ty = 2 then d.so = 0 ∧ d.bo ≠ 6 else if d.so = 0 then d.ru = 0 ∧ d.bo = 0 else if d.so = 1 then d.bo ≠ 6 ∨ d.ru = 0 else d.bo ≠ 6 ∧ (0 < d.ru ∨ d.bo ≠ 0)
instance (d : Dl) : Decidable (tgD d) := by unfold tgD; infer_instance
def tgB (d : Dl) : Bool := decide (tgD d)
set_option maxHeartbeats 4000000 in
theorem tog_any (d : Dl) (w : World) : Calls Try.prog 93 #[d.v] w fun e w' => e = .returned (.bool (tgB d)) ∧ Ext w w' := by
  obtain ⟨V, hV⟩ : ∃ V, tgB d = V := ⟨_, rfl⟩
  have HV := Lib.hid hV
  rw [hV]
  clear hV
  obtain ⟨ty, so, ru, sh, bo, cr, ho, vi, fi, se, su, sc⟩ := d
  unfold Dl.v
  dsimp only
  go_enter Try.func93, Try.ntmps93
  go_wp2
  all_goals
    go_ret
    refine ⟨?_, (by repeat (first | exact Ext.refl _ | refine Ext.setCell ?_ (by first | exact Nat.le_refl _ | (simp; done) | (simp; omega)) _ | refine Ext.drew ?_ | refine Ext.drewN ?_ _ | refine Ext.alloc ?_ _))⟩
    rw [← HV.out]
    simp only [beq_iff_eq, beq_eq_false_iff_ne] at *
    first | (simp [tgB, tgD, *]; done) | (simp [tgB, tgD, *]; rw [Bool.eq_iff_iff]; simp [*]; done) | (simp [tgB, tgD, *]; omega)

/-- The law that refuses a delivery, where T says whether its parts go together. -/
def lgX (T : Bool) (d : Dl) : Int :=
  if d.ty < 1 ∨ 3 < d.ty ∨ 3 < d.so ∨ 10 < d.ho ∨ d.sc < 0 ∨ 8 < d.sc then 11
  else if d.ru < 0 ∨ 7 < d.ru ∨ d.sh < 0 ∨ d.ru < d.sh ∨ (d.bo ≠ 0 ∧ d.bo ≠ 4 ∧ d.bo ≠ 6) then 12
  else if T = false ∨ (d.ty ≠ 2 ∧ d.so = 1 ∧ d.ru = 0 ∧ d.bo = 0) then 11
  else if d.sc ≠ 0 ∧ d.so ≠ 1 ∧ d.ho ≠ 2 then 11
  else if d.bo ≠ 0 ∧ d.ho ≠ 0 then 11
  else if d.cr = true ∧ d.ho ≠ 6 ∧ d.ho ≠ 8 then 11
  else 0
def lgD (d : Dl) : Int := lgX (tgB d) d
set_option maxRecDepth 20000 in
set_option maxHeartbeats 16000000 in
theorem legal_any (d : Dl) (w : World) : Calls Try.prog 87 #[d.v] w fun e w' => e = .returned (.int .i64 (lgD d)) ∧ Ext w w' := by
  have HT : Hid (∀ W, Calls Try.prog 93 #[d.v] W fun e w' => e = .returned (.bool (tgB d)) ∧ Ext W w') := fun W => tog_any d W
  unfold lgD
  obtain ⟨T, hT⟩ : ∃ T, tgB d = T := ⟨_, rfl⟩
  rw [hT] at HT ⊢
  clear hT
  obtain ⟨V, hV⟩ : ∃ V, lgX T d = V := ⟨_, rfl⟩
  have HV := Lib.hid hV
  rw [hV]
  clear hV
  obtain ⟨ty, so, ru, sh, bo, cr, ho, vi, fi, se, su, sc⟩ := d
  unfold Dl.v at HT ⊢
  dsimp only at HT ⊢
  go_enter Try.func87, Try.ntmps87
  have hD := boxD_new (⟨ty, so, ru, sh, bo, cr, ho, vi, fi, se, su, sc⟩ : Dl) w 53
  have hE : Ext w (w.alloc (.cells #[.int .u8 ty, .int .u8 so, .int .i64 ru, .int .i64 sh, .int .i64 bo, .bool cr, .int .u8 ho, .int .i64 vi, .int .i64 fi, .int .i64 se, .bool su, .int .i64 sc] 53)) := (Ext.refl _).alloc _
  dsimp only at hD
  go_upto_region 1 with fail
  go_cut [3] (fun s wx => s = .bool (decide (ty < 1 ∨ 3 < ty ∨ 3 < so ∨ 10 < ho ∨ sc < 0 ∨ 8 < sc)) ∧ Ext w wx ∧ BoxD (⟨ty, so, ru, sh, bo, cr, ho, vi, fi, se, su, sc⟩ : Dl) w.heap.size wx)
  case first =>
    have hDk := hD; obtain ⟨c0, c1, c2, c3, c4, c5, c6, c7, c8, c9, c10, c11⟩ := hDk; dsimp only at c0 c1 c2 c3 c4 c5 c6 c7 c8 c9 c10 c11
    go_wp2_with fail
    all_goals
      go_meet
      refine ⟨?_, (by first | assumption | exact (by repeat (first | exact Ext.refl _ | refine Ext.setCell ?_ (by first | exact Nat.le_refl _ | (simp; done) | (simp; omega)) _ | refine Ext.drew ?_ | refine Ext.drewN ?_ _ | refine Ext.alloc ?_ _ | refine Ext.trans ?_ hb1 | refine Ext.trans ?_ hE))), (by first | exact hD | exact hD.ext (by first | assumption | exact ((by repeat (first | exact Ext.refl _ | refine Ext.setCell ?_ (by first | exact Nat.le_refl _ | (simp; done) | (simp; omega)) _ | refine Ext.drew ?_ | refine Ext.drewN ?_ _ | refine Ext.alloc ?_ _ | refine Ext.trans ?_ hb1)))))⟩
      try simp only [beq_iff_eq, beq_eq_false_iff_ne] at *
      first | rfl | (simp [*]; done) | (refine congrArg Value.bool ?_; rw [Bool.eq_iff_iff]; simp only [Bool.or_eq_true, Bool.and_eq_true, decide_eq_true_eq, bne_iff_ne, beq_iff_eq, Bool.false_eq_true, eq_self, true_iff, false_iff, true_or, false_or, true_and, false_and, ne_eq, not_false_eq_true, reduceCtorEq] <;> omega)
  case rest =>
  obtain ⟨rfl, hE, hD⟩ := hcut
  rcases hq1 : decide (ty < 1 ∨ 3 < ty ∨ 3 < so ∨ 10 < ho ∨ sc < 0 ∨ 8 < sc) with _ | _
  rotate_left
  · have HQ := Lib.hid hq1
    clear hq1
    go_wp2
    refine bodyPost_ret (v := .int .i64 11) (by simp [results, Try.results87, go_sem, *]) rfl ⟨ret1 ?_, (by repeat (first | exact Ext.refl _ | refine Ext.setCell ?_ (by first | exact Nat.le_refl _ | (simp; done) | (simp; omega)) _ | refine Ext.drew ?_ | refine Ext.drewN ?_ _ | refine Ext.alloc ?_ _ | refine Ext.trans ?_ hE))⟩
    rw [← HV.out, lgX]
    dsimp only
    rw [if_pos (of_decide_eq_true HQ.out)]
  have H1 := Lib.hid hq1
  clear hq1
  generalize (Value.agg #[.int .u8 ty, .int .u8 so, .int .i64 ru, .int .i64 sh, .int .i64 bo, .bool cr, .int .u8 ho, .int .i64 vi, .int .i64 fi, .int .i64 se, .bool su, .int .i64 sc]) = G0
  go_upto_region 3 with fail
  go_cut [32] (fun s wx => s = .bool (decide (ru < 0 ∨ 7 < ru ∨ sh < 0 ∨ ru < sh ∨ (bo ≠ 0 ∧ bo ≠ 4 ∧ bo ≠ 6))) ∧ Ext w wx ∧ BoxD (⟨ty, so, ru, sh, bo, cr, ho, vi, fi, se, su, sc⟩ : Dl) w.heap.size wx)
  case first =>
    have hDk := hD; obtain ⟨c0, c1, c2, c3, c4, c5, c6, c7, c8, c9, c10, c11⟩ := hDk; dsimp only at c0 c1 c2 c3 c4 c5 c6 c7 c8 c9 c10 c11
    go_wp2_with fail
    all_goals
      go_meet
      refine ⟨?_, (by first | assumption | exact (by repeat (first | exact Ext.refl _ | refine Ext.setCell ?_ (by first | exact Nat.le_refl _ | (simp; done) | (simp; omega)) _ | refine Ext.drew ?_ | refine Ext.drewN ?_ _ | refine Ext.alloc ?_ _ | refine Ext.trans ?_ hb1 | refine Ext.trans ?_ hE))), (by first | exact hD | exact hD.ext (by first | assumption | exact ((by repeat (first | exact Ext.refl _ | refine Ext.setCell ?_ (by first | exact Nat.le_refl _ | (simp; done) | (simp; omega)) _ | refine Ext.drew ?_ | refine Ext.drewN ?_ _ | refine Ext.alloc ?_ _ | refine Ext.trans ?_ hb1)))))⟩
      try simp only [beq_iff_eq, beq_eq_false_iff_ne] at *
      first | rfl | (simp [*]; done) | (refine congrArg Value.bool ?_; rw [Bool.eq_iff_iff]; simp only [Bool.or_eq_true, Bool.and_eq_true, decide_eq_true_eq, bne_iff_ne, beq_iff_eq, Bool.false_eq_true, eq_self, true_iff, false_iff, true_or, false_or, true_and, false_and, ne_eq, not_false_eq_true, reduceCtorEq] <;> omega)
  case rest =>
  obtain ⟨rfl, hE, hD⟩ := hcut
  rcases hq3 : decide (ru < 0 ∨ 7 < ru ∨ sh < 0 ∨ ru < sh ∨ (bo ≠ 0 ∧ bo ≠ 4 ∧ bo ≠ 6)) with _ | _
  rotate_left
  · have HQ := Lib.hid hq3
    clear hq3
    go_wp2
    refine bodyPost_ret (v := .int .i64 12) (by simp [results, Try.results87, go_sem, *]) rfl ⟨ret1 ?_, (by repeat (first | exact Ext.refl _ | refine Ext.setCell ?_ (by first | exact Nat.le_refl _ | (simp; done) | (simp; omega)) _ | refine Ext.drew ?_ | refine Ext.drewN ?_ _ | refine Ext.alloc ?_ _ | refine Ext.trans ?_ hE))⟩
    rw [← HV.out, lgX]
    dsimp only
    rw [if_neg (of_decide_eq_false H1.out), if_pos (of_decide_eq_true HQ.out)]
  have H3 := Lib.hid hq3
  clear hq3
  go_upto_region 5 with fail
  go_cut [68] (fun s wx => s = .bool (decide (T = false ∨ (ty ≠ 2 ∧ so = 1 ∧ ru = 0 ∧ bo = 0))) ∧ Ext w wx ∧ BoxD (⟨ty, so, ru, sh, bo, cr, ho, vi, fi, se, su, sc⟩ : Dl) w.heap.size wx)
  case first =>
    have hDk := hD; obtain ⟨c0, c1, c2, c3, c4, c5, c6, c7, c8, c9, c10, c11⟩ := hDk; dsimp only at c0 c1 c2 c3 c4 c5 c6 c7 c8 c9 c10 c11
    cases T
    all_goals
      go_wp2_with (go_at_call 93; refine (HT.out _).mono ?_; rintro e w1 ⟨rfl, hb1⟩; (have hD9 := hD.ext hb1); obtain ⟨e0, e1, e2, e3, e4, e5, e6, e7, e8, e9, e10, e11⟩ := hD9; dsimp only at e0 e1 e2 e3 e4 e5 e6 e7 e8 e9 e10 e11)
    all_goals
      go_meet
      refine ⟨?_, (by first | assumption | exact (by repeat (first | exact Ext.refl _ | refine Ext.setCell ?_ (by first | exact Nat.le_refl _ | (simp; done) | (simp; omega)) _ | refine Ext.drew ?_ | refine Ext.drewN ?_ _ | refine Ext.alloc ?_ _ | refine Ext.trans ?_ hb1 | refine Ext.trans ?_ hE))), (by first | exact hD | exact hD.ext (by first | assumption | exact ((by repeat (first | exact Ext.refl _ | refine Ext.setCell ?_ (by first | exact Nat.le_refl _ | (simp; done) | (simp; omega)) _ | refine Ext.drew ?_ | refine Ext.drewN ?_ _ | refine Ext.alloc ?_ _ | refine Ext.trans ?_ hb1)))))⟩
      try simp only [beq_iff_eq, beq_eq_false_iff_ne] at *
      first | rfl | (simp [*]; done) | (refine congrArg Value.bool ?_; rw [Bool.eq_iff_iff]; simp only [Bool.or_eq_true, Bool.and_eq_true, decide_eq_true_eq, bne_iff_ne, beq_iff_eq, Bool.false_eq_true, eq_self, true_iff, false_iff, true_or, false_or, true_and, false_and, ne_eq, not_false_eq_true, reduceCtorEq] <;> omega)
  case rest =>
  obtain ⟨rfl, hE, hD⟩ := hcut
  rcases hq5 : decide (T = false ∨ (ty ≠ 2 ∧ so = 1 ∧ ru = 0 ∧ bo = 0)) with _ | _
  rotate_left
  · have HQ := Lib.hid hq5
    clear hq5
    go_wp2
    refine bodyPost_ret (v := .int .i64 11) (by simp [results, Try.results87, go_sem, *]) rfl ⟨ret1 ?_, (by repeat (first | exact Ext.refl _ | refine Ext.setCell ?_ (by first | exact Nat.le_refl _ | (simp; done) | (simp; omega)) _ | refine Ext.drew ?_ | refine Ext.drewN ?_ _ | refine Ext.alloc ?_ _ | refine Ext.trans ?_ hE))⟩
    rw [← HV.out, lgX]
    dsimp only
    rw [if_neg (of_decide_eq_false H1.out), if_neg (of_decide_eq_false H3.out), if_pos (of_decide_eq_true HQ.out)]
  have H5 := Lib.hid hq5
  clear hq5
  go_upto_region 7 with fail
  go_cut [92] (fun s wx => s = .bool (decide (sc ≠ 0 ∧ so ≠ 1 ∧ ho ≠ 2)) ∧ Ext w wx ∧ BoxD (⟨ty, so, ru, sh, bo, cr, ho, vi, fi, se, su, sc⟩ : Dl) w.heap.size wx)
  case first =>
    have hDk := hD; obtain ⟨c0, c1, c2, c3, c4, c5, c6, c7, c8, c9, c10, c11⟩ := hDk; dsimp only at c0 c1 c2 c3 c4 c5 c6 c7 c8 c9 c10 c11
    go_wp2_with fail
    all_goals
      go_meet
      refine ⟨?_, (by first | assumption | exact (by repeat (first | exact Ext.refl _ | refine Ext.setCell ?_ (by first | exact Nat.le_refl _ | (simp; done) | (simp; omega)) _ | refine Ext.drew ?_ | refine Ext.drewN ?_ _ | refine Ext.alloc ?_ _ | refine Ext.trans ?_ hb1 | refine Ext.trans ?_ hE))), (by first | exact hD | exact hD.ext (by first | assumption | exact ((by repeat (first | exact Ext.refl _ | refine Ext.setCell ?_ (by first | exact Nat.le_refl _ | (simp; done) | (simp; omega)) _ | refine Ext.drew ?_ | refine Ext.drewN ?_ _ | refine Ext.alloc ?_ _ | refine Ext.trans ?_ hb1)))))⟩
      try simp only [beq_iff_eq, beq_eq_false_iff_ne] at *
      first | rfl | (simp [*]; done) | (refine congrArg Value.bool ?_; rw [Bool.eq_iff_iff]; simp only [Bool.or_eq_true, Bool.and_eq_true, decide_eq_true_eq, bne_iff_ne, beq_iff_eq, Bool.false_eq_true, eq_self, true_iff, false_iff, true_or, false_or, true_and, false_and, ne_eq, not_false_eq_true, reduceCtorEq] <;> omega)
  case rest =>
  obtain ⟨rfl, hE, hD⟩ := hcut
  rcases hq7 : decide (sc ≠ 0 ∧ so ≠ 1 ∧ ho ≠ 2) with _ | _
  rotate_left
  · have HQ := Lib.hid hq7
    clear hq7
    go_wp2
    refine bodyPost_ret (v := .int .i64 11) (by simp [results, Try.results87, go_sem, *]) rfl ⟨ret1 ?_, (by repeat (first | exact Ext.refl _ | refine Ext.setCell ?_ (by first | exact Nat.le_refl _ | (simp; done) | (simp; omega)) _ | refine Ext.drew ?_ | refine Ext.drewN ?_ _ | refine Ext.alloc ?_ _ | refine Ext.trans ?_ hE))⟩
    rw [← HV.out, lgX]
    dsimp only
    rw [if_neg (of_decide_eq_false H1.out), if_neg (of_decide_eq_false H3.out), if_neg (of_decide_eq_false H5.out), if_pos (of_decide_eq_true HQ.out)]
  have H7 := Lib.hid hq7
  clear hq7
  go_upto_region 9 with fail
  go_cut [106] (fun s wx => s = .bool (decide (bo ≠ 0 ∧ ho ≠ 0)) ∧ Ext w wx ∧ BoxD (⟨ty, so, ru, sh, bo, cr, ho, vi, fi, se, su, sc⟩ : Dl) w.heap.size wx)
  case first =>
    have hDk := hD; obtain ⟨c0, c1, c2, c3, c4, c5, c6, c7, c8, c9, c10, c11⟩ := hDk; dsimp only at c0 c1 c2 c3 c4 c5 c6 c7 c8 c9 c10 c11
    go_wp2_with fail
    all_goals
      go_meet
      refine ⟨?_, (by first | assumption | exact (by repeat (first | exact Ext.refl _ | refine Ext.setCell ?_ (by first | exact Nat.le_refl _ | (simp; done) | (simp; omega)) _ | refine Ext.drew ?_ | refine Ext.drewN ?_ _ | refine Ext.alloc ?_ _ | refine Ext.trans ?_ hb1 | refine Ext.trans ?_ hE))), (by first | exact hD | exact hD.ext (by first | assumption | exact ((by repeat (first | exact Ext.refl _ | refine Ext.setCell ?_ (by first | exact Nat.le_refl _ | (simp; done) | (simp; omega)) _ | refine Ext.drew ?_ | refine Ext.drewN ?_ _ | refine Ext.alloc ?_ _ | refine Ext.trans ?_ hb1)))))⟩
      try simp only [beq_iff_eq, beq_eq_false_iff_ne] at *
      first | rfl | (simp [*]; done) | (refine congrArg Value.bool ?_; rw [Bool.eq_iff_iff]; simp only [Bool.or_eq_true, Bool.and_eq_true, decide_eq_true_eq, bne_iff_ne, beq_iff_eq, Bool.false_eq_true, eq_self, true_iff, false_iff, true_or, false_or, true_and, false_and, ne_eq, not_false_eq_true, reduceCtorEq] <;> omega)
  case rest =>
  obtain ⟨rfl, hE, hD⟩ := hcut
  rcases hq9 : decide (bo ≠ 0 ∧ ho ≠ 0) with _ | _
  rotate_left
  · have HQ := Lib.hid hq9
    clear hq9
    go_wp2
    refine bodyPost_ret (v := .int .i64 11) (by simp [results, Try.results87, go_sem, *]) rfl ⟨ret1 ?_, (by repeat (first | exact Ext.refl _ | refine Ext.setCell ?_ (by first | exact Nat.le_refl _ | (simp; done) | (simp; omega)) _ | refine Ext.drew ?_ | refine Ext.drewN ?_ _ | refine Ext.alloc ?_ _ | refine Ext.trans ?_ hE))⟩
    rw [← HV.out, lgX]
    dsimp only
    rw [if_neg (of_decide_eq_false H1.out), if_neg (of_decide_eq_false H3.out), if_neg (of_decide_eq_false H5.out), if_neg (of_decide_eq_false H7.out), if_pos (of_decide_eq_true HQ.out)]
  have H9 := Lib.hid hq9
  clear hq9
  go_upto_region 11 with fail
  go_cut [115] (fun s wx => s = .bool (decide (cr = true ∧ ho ≠ 6 ∧ ho ≠ 8)) ∧ Ext w wx ∧ BoxD (⟨ty, so, ru, sh, bo, cr, ho, vi, fi, se, su, sc⟩ : Dl) w.heap.size wx)
  case first =>
    have hDk := hD; obtain ⟨c0, c1, c2, c3, c4, c5, c6, c7, c8, c9, c10, c11⟩ := hDk; dsimp only at c0 c1 c2 c3 c4 c5 c6 c7 c8 c9 c10 c11
    cases cr
    all_goals
      go_wp2_with fail
    all_goals
      go_meet
      refine ⟨?_, (by first | assumption | exact (by repeat (first | exact Ext.refl _ | refine Ext.setCell ?_ (by first | exact Nat.le_refl _ | (simp; done) | (simp; omega)) _ | refine Ext.drew ?_ | refine Ext.drewN ?_ _ | refine Ext.alloc ?_ _ | refine Ext.trans ?_ hb1 | refine Ext.trans ?_ hE))), (by first | exact hD | exact hD.ext (by first | assumption | exact ((by repeat (first | exact Ext.refl _ | refine Ext.setCell ?_ (by first | exact Nat.le_refl _ | (simp; done) | (simp; omega)) _ | refine Ext.drew ?_ | refine Ext.drewN ?_ _ | refine Ext.alloc ?_ _ | refine Ext.trans ?_ hb1)))))⟩
      try simp only [beq_iff_eq, beq_eq_false_iff_ne] at *
      first | rfl | (simp [*]; done) | (refine congrArg Value.bool ?_; rw [Bool.eq_iff_iff]; simp only [Bool.or_eq_true, Bool.and_eq_true, decide_eq_true_eq, bne_iff_ne, beq_iff_eq, Bool.false_eq_true, eq_self, true_iff, false_iff, true_or, false_or, true_and, false_and, ne_eq, not_false_eq_true, reduceCtorEq] <;> omega)
  case rest =>
  obtain ⟨rfl, hE, hD⟩ := hcut
  rcases hq11 : decide (cr = true ∧ ho ≠ 6 ∧ ho ≠ 8) with _ | _
  rotate_left
  · have HQ := Lib.hid hq11
    clear hq11
    go_wp2
    refine bodyPost_ret (v := .int .i64 11) (by simp [results, Try.results87, go_sem, *]) rfl ⟨ret1 ?_, (by repeat (first | exact Ext.refl _ | refine Ext.setCell ?_ (by first | exact Nat.le_refl _ | (simp; done) | (simp; omega)) _ | refine Ext.drew ?_ | refine Ext.drewN ?_ _ | refine Ext.alloc ?_ _ | refine Ext.trans ?_ hE))⟩
    rw [← HV.out, lgX]
    dsimp only
    rw [if_neg (of_decide_eq_false H1.out), if_neg (of_decide_eq_false H3.out), if_neg (of_decide_eq_false H5.out), if_neg (of_decide_eq_false H7.out), if_neg (of_decide_eq_false H9.out), if_pos (of_decide_eq_true HQ.out)]
  have H11 := Lib.hid hq11
  clear hq11
  go_wp2
  refine bodyPost_ret (v := .int .i64 0) (by simp [results, Try.results87, go_sem, *]) rfl ⟨ret1 ?_, (by repeat (first | exact Ext.refl _ | refine Ext.setCell ?_ (by first | exact Nat.le_refl _ | (simp; done) | (simp; omega)) _ | refine Ext.drew ?_ | refine Ext.drewN ?_ _ | refine Ext.alloc ?_ _ | refine Ext.trans ?_ hE))⟩
  rw [← HV.out, lgX]
  dsimp only
  rw [if_neg (of_decide_eq_false H1.out), if_neg (of_decide_eq_false H3.out), if_neg (of_decide_eq_false H5.out), if_neg (of_decide_eq_false H7.out), if_neg (of_decide_eq_false H9.out), if_neg (of_decide_eq_false H11.out)]

end Go.Proofs.Ytpeabgfolpgfjaa

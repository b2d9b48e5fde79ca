/-
  Check of rules (layer 5).
-/
import Derived.Test.YtpeabgfolpgfjaaSymH
import Derived.Test.YtpeabgfolpgfjaaSymI
namespace Go.Proofs.Ytpeabgfolpgfjaa
open Go.RowKit
set_option linter.unusedSimpArgs false

def BoxRu (r : Ru) (p : Nat) (w : World) : Prop := w.cell? ⟨p, 0, none⟩ = some (.string ⟨r.nm.toArray⟩) ∧ w.cell? ⟨p, 1, none⟩ = some (.int .i64 r.si) ∧ w.cell? ⟨p, 2, none⟩ = some (.int .i64 r.inn) ∧ w.cell? ⟨p, 3, none⟩ = some (.int .i64 r.ov) ∧ w.cell? ⟨p, 4, none⟩ = some (.int .i64 r.ba) ∧ w.cell? ⟨p, 5, none⟩ = some (.int .i64 r.qu) ∧ w.cell? ⟨p, 6, none⟩ = some (.int .i64 r.wi) ∧ w.cell? ⟨p, 7, none⟩ = some (.int .i64 r.nb) ∧ w.cell? ⟨p, 8, none⟩ = some (.bool r.fh) ∧ w.cell? ⟨p, 9, none⟩ = some (.int .i64 r.nw) ∧ w.cell? ⟨p, 10, none⟩ = some (.int .i64 r.fo) ∧ w.cell? ⟨p, 11, none⟩ = some (.int .i64 r.re) ∧ w.cell? ⟨p, 12, none⟩ = some (.int .i64 r.ou) ∧ w.cell? ⟨p, 13, none⟩ = some (.slice r.pa r.pl r.pc)
theorem BoxRu.ext {r : Ru} {p : Nat} {w w' : World} (h : BoxRu r p w) (e : Ext w w') : BoxRu r p w' := by
  obtain ⟨c0, c1, c2, c3, c4, c5, c6, c7, c8, c9, c10, c11, c12, c13⟩ := h
  exact ⟨e.keep c0, e.keep c1, e.keep c2, e.keep c3, e.keep c4, e.keep c5, e.keep c6, e.keep c7, e.keep c8, e.keep c9, e.keep c10, e.keep c11, e.keep c12, e.keep c13⟩
theorem boxRu_new (r : Ru) (w : World) (T : TypeId) : BoxRu r w.heap.size (w.alloc (.cells #[.string ⟨r.nm.toArray⟩, .int .i64 r.si, .int .i64 r.inn, .int .i64 r.ov, .int .i64 r.ba, .int .i64 r.qu, .int .i64 r.wi, .int .i64 r.nb, .bool r.fh, .int .i64 r.nw, .int .i64 r.fo, .int .i64 r.re, .int .i64 r.ou, .slice r.pa r.pl r.pc] T)) := by
  refine ⟨?_, ?_, ?_, ?_, ?_, ?_, ?_, ?_, ?_, ?_, ?_, ?_, ?_, ?_⟩ <;> simp [go_sem]

def ckRu (r : Ru) (P : Int) : Int := if nmOk r.nm = false then 5 else if irB r = false then 2 else if (r.fo ≠ 0 ∧ r.inn = 1) ∨ ((r.qu ≠ 0 ∨ 0 < r.pl) ∧ r.ov = 0) then 1 else if r.qu ≠ 0 ∧ r.qu * r.si < r.ov then 13 else P
set_option maxRecDepth 20000 in
set_option maxHeartbeats 8000000 in
theorem rucheck_any (r : Ru) (f : Nat → Nat → Int) (b off : Nat) (w : World) (hnm' : r.nm.length ≤ 9223372036854775807) (T : PhAt w r.pa r.pl f b off) :
    Calls Try.prog 21 #[r.v] w fun e w' => e = .returned (.int .i64 (ckRu r (phE r.pl f r.ov))) ∧ Ext w w' := by
  have HIR : Hid (∀ W, Calls Try.prog 52 #[r.v] W fun e w' => e = .returned (.bool (irB r)) ∧ Ext W w') := fun W => inrange_any r W
  have HPH : Hid (∀ W, PhAt W r.pa r.pl f b off → Calls Try.prog 53 #[r.v] W fun e w' => e = .returned (.int .i64 (phE r.pl f r.ov)) ∧ Ext W w') := fun W h => phases_any r f b off W h
  obtain ⟨P, hP⟩ : ∃ P, phE r.pl f r.ov = P := ⟨_, rfl⟩
  rw [hP] at HPH ⊢
  clear hP
  obtain ⟨V, hV⟩ : ∃ V, ckRu r P = V := ⟨_, rfl⟩
  have HV := Lib.hid hV
  rw [hV]
  clear hV
  have hmul : irB r = true → IntKind.i64.wrap (r.qu * r.si) = r.qu * r.si := fun h => by
    simp only [irB, Bool.and_eq_true] at h
    have h1 := rng_yes h.1.1.1.1.1.1.1.1.1.1
    have h2 := rng_yes h.1.1.1.1.1.1.2
    have := mul_bd (show (0 : Int) ≤ r.qu by omega) (show r.qu ≤ 90 by omega) (show (0 : Int) ≤ r.si by omega) (show r.si ≤ 11 by omega)
    exact IntWalk.i64_in _ (by omega)
  have HT := Lib.hid T
  have hpl := T.nle
  obtain ⟨I, hI⟩ : ∃ I, irB r = I := ⟨_, rfl⟩
  unfold ckRu at HV
  rw [hI] at HV HIR hmul
  clear hI T
  obtain ⟨nm, si, inn, ov, ba, qu, wi, nb, fh, nw, fo, re, ou, pa, pl, pc⟩ := r
  unfold Ru.v at HIR HPH ⊢
  dsimp only at *
  obtain ⟨n, rfl⟩ : ∃ n, n = pl := ⟨_, rfl⟩
  have hnm := Lib.hid hnm'
  obtain ⟨N, hN⟩ : ∃ N, nmOk nm = N := ⟨_, rfl⟩
  rw [hN] at HV
  have XN := Lib.hid hN
  clear hnm' hN
  cases N
  · clear hmul
    go_enter Try.func21, Try.ntmps21
    go_wp2_with ((fail_if_success (have hzz := hb1)); go_at_call 51; refine (name_any nm hnm.out _).mono ?_; rintro e w1 ⟨rfl, hb1⟩; rw [XN.out]; obtain ⟨hc1, hf1⟩ := hb1.cells; (have l1_0 : w.heap.size < w1.heap.size := hb1.lt (by first | (simp; done) | (simp; omega) | (simp [go_sem]; done) | (simp [go_sem]; omega) | omega)))
    refine bodyPost_ret (v := .int .i64 V) ?_ rfl ⟨rfl, (by repeat (first | exact Ext.refl _ | refine Ext.setCell ?_ (by first | exact Nat.le_refl _ | (simp; done) | (simp; omega)) _ | refine Ext.drew ?_ | refine Ext.drewN ?_ _ | refine Ext.alloc ?_ _ | refine Ext.trans ?_ hb1))⟩
    rw [← HV.out]
    simp [results, Try.results21, go_sem, *]
  cases I
  · clear hmul
    go_enter Try.func21, Try.ntmps21
    go_wp2_with (first | ((fail_if_success (have hzz := hb1)); go_at_call 51; refine (name_any nm hnm.out _).mono ?_; rintro e w1 ⟨rfl, hb1⟩; rw [XN.out]; obtain ⟨hc1, hf1⟩ := hb1.cells; (have l1_0 : w.heap.size < w1.heap.size := hb1.lt (by first | (simp; done) | (simp; omega) | (simp [go_sem]; done) | (simp [go_sem]; omega) | omega))) | ((fail_if_success (have hzz := hb2)); go_at_call 52; refine (HIR.out _).mono ?_; rintro e w2 ⟨rfl, hb2⟩; obtain ⟨hc2, hf2⟩ := hb2.cells; (have l2_0 : w.heap.size < w2.heap.size := hb2.lt (by first | (simp; done) | (simp; omega) | (simp [go_sem]; done) | (simp [go_sem]; omega) | omega))))
    refine bodyPost_ret (v := .int .i64 V) ?_ rfl ⟨rfl, (by repeat (first | exact Ext.refl _ | refine Ext.setCell ?_ (by first | exact Nat.le_refl _ | (simp; done) | (simp; omega)) _ | refine Ext.drew ?_ | refine Ext.drewN ?_ _ | refine Ext.alloc ?_ _ | refine Ext.trans ?_ hb2 | refine Ext.trans ?_ hb1))⟩
    rw [← HV.out]
    simp [results, Try.results21, go_sem, *]
  have hm := hmul rfl
  clear hmul
  go_enter Try.func21, Try.ntmps21
  go_upto_region 5 with (first | ((fail_if_success (have hzz := hb1)); go_at_call 51; refine (name_any nm hnm.out _).mono ?_; rintro e w1 ⟨rfl, hb1⟩; rw [XN.out]; obtain ⟨hc1, hf1⟩ := hb1.cells; (have l1_0 : w.heap.size < w1.heap.size := hb1.lt (by first | (simp; done) | (simp; omega) | (simp [go_sem]; done) | (simp [go_sem]; omega) | omega))) | ((fail_if_success (have hzz := hb2)); go_at_call 52; refine (HIR.out _).mono ?_; rintro e w2 ⟨rfl, hb2⟩; obtain ⟨hc2, hf2⟩ := hb2.cells; (have l2_0 : w.heap.size < w2.heap.size := hb2.lt (by first | (simp; done) | (simp; omega) | (simp [go_sem]; done) | (simp [go_sem]; omega) | omega))))
  have hD : BoxRu (⟨nm, si, inn, ov, ba, qu, wi, nb, fh, nw, fo, re, ou, pa, n, pc⟩ : Ru) w.heap.size w2 := ((boxRu_new (⟨nm, si, inn, ov, ba, qu, wi, nb, fh, nw, fo, re, ou, pa, n, pc⟩ : Ru) w 25).ext hb1).ext hb2
  have hE : Ext w w2 := (by repeat (first | exact Ext.refl _ | refine Ext.setCell ?_ (by first | exact Nat.le_refl _ | (simp; done) | (simp; omega)) _ | refine Ext.drew ?_ | refine Ext.drewN ?_ _ | refine Ext.alloc ?_ _ | refine Ext.trans ?_ hb2 | refine Ext.trans ?_ hb1))
  clear hc1 hf1 hc2 hf2
  generalize (Value.agg #[.string ⟨nm.toArray⟩, .int .i64 si, .int .i64 inn, .int .i64 ov, .int .i64 ba, .int .i64 qu, .int .i64 wi, .int .i64 nb, .bool fh, .int .i64 nw, .int .i64 fo, .int .i64 re, .int .i64 ou, .slice pa n pc]) = G0
  go_upto_region 5 with fail
  go_cut [12] (fun s wx => s = .bool (decide (fo ≠ 0 ∧ inn = 1)) ∧ Ext w wx ∧ BoxRu (⟨nm, si, inn, ov, ba, qu, wi, nb, fh, nw, fo, re, ou, pa, n, pc⟩ : Ru) w.heap.size wx)
  case first =>
    have hDk := hD; obtain ⟨c0, c1, c2, c3, c4, c5, c6, c7, c8, c9, c10, c11, c12, c13⟩ := hDk; dsimp only at c0 c1 c2 c3 c4 c5 c6 c7 c8 c9 c10 c11 c12 c13
    go_wp2
    all_goals
      go_meet
      refine ⟨?_, (by first | assumption | exact (by repeat (first | exact Ext.refl _ | refine Ext.setCell ?_ (by first | exact Nat.le_refl _ | (simp; done) | (simp; omega)) _ | refine Ext.drew ?_ | refine Ext.drewN ?_ _ | refine Ext.alloc ?_ _ | refine Ext.trans ?_ hE))), (by first | exact hD)⟩
      try simp only [beq_iff_eq, beq_eq_false_iff_ne, bne_iff_ne, ne_eq, bne_eq_false_iff_eq] at *
      first | rfl | (simp [*]; done) | (refine congrArg Value.bool ?_; rw [Bool.eq_iff_iff]; simp only [Bool.or_eq_true, Bool.and_eq_true, decide_eq_true_eq, bne_iff_ne, beq_iff_eq, Bool.false_eq_true, eq_self, true_iff, false_iff, true_or, false_or, true_and, false_and, ne_eq, not_false_eq_true, reduceCtorEq] <;> omega)
  case rest =>
  obtain ⟨rfl, hE, hD⟩ := hcut
  rcases hq5 : decide (fo ≠ 0 ∧ inn = 1) with _ | _
  rotate_left
  · have HQ := Lib.hid hq5
    clear hq5
    have hDk := hD; obtain ⟨c0, c1, c2, c3, c4, c5, c6, c7, c8, c9, c10, c11, c12, c13⟩ := hDk; dsimp only at c0 c1 c2 c3 c4 c5 c6 c7 c8 c9 c10 c11 c12 c13
    go_wp2
    refine bodyPost_ret (v := .int .i64 1) (by simp [results, Try.results21, go_sem, *]) rfl ⟨ret1 ?_, (by repeat (first | exact Ext.refl _ | refine Ext.setCell ?_ (by first | exact Nat.le_refl _ | (simp; done) | (simp; omega)) _ | refine Ext.drew ?_ | refine Ext.drewN ?_ _ | refine Ext.alloc ?_ _ | refine Ext.trans ?_ hE))⟩
    rw [← HV.out]; (try dsimp only); rw [if_neg (by simp), if_neg (by simp), if_pos (Or.inl (of_decide_eq_true HQ.out))]
  have H5 := Lib.hid hq5
  clear hq5
  go_upto_region 6 with fail
  go_cut [12] (fun s wx => s = .bool (decide ((qu ≠ 0 ∨ 0 < n) ∧ ov = 0)) ∧ Ext w wx ∧ BoxRu (⟨nm, si, inn, ov, ba, qu, wi, nb, fh, nw, fo, re, ou, pa, n, pc⟩ : Ru) w.heap.size wx)
  case first =>
    have hDk := hD; obtain ⟨c0, c1, c2, c3, c4, c5, c6, c7, c8, c9, c10, c11, c12, c13⟩ := hDk; dsimp only at c0 c1 c2 c3 c4 c5 c6 c7 c8 c9 c10 c11 c12 c13
    go_wp2
    all_goals
      go_meet
      refine ⟨?_, (by first | assumption | exact (by repeat (first | exact Ext.refl _ | refine Ext.setCell ?_ (by first | exact Nat.le_refl _ | (simp; done) | (simp; omega)) _ | refine Ext.drew ?_ | refine Ext.drewN ?_ _ | refine Ext.alloc ?_ _ | refine Ext.trans ?_ hE))), (by first | exact hD)⟩
      try simp only [beq_iff_eq, beq_eq_false_iff_ne, bne_iff_ne, ne_eq, bne_eq_false_iff_eq] at *
      first | rfl | (simp [*]; done) | (refine congrArg Value.bool ?_; rw [Bool.eq_iff_iff]; simp only [Bool.or_eq_true, Bool.and_eq_true, decide_eq_true_eq, bne_iff_ne, beq_iff_eq, Bool.false_eq_true, eq_self, true_iff, false_iff, true_or, false_or, true_and, false_and, ne_eq, not_false_eq_true, reduceCtorEq] <;> omega)
  case rest =>
  obtain ⟨rfl, hE, hD⟩ := hcut
  rcases hq6 : decide ((qu ≠ 0 ∨ 0 < n) ∧ ov = 0) with _ | _
  rotate_left
  · have HQ := Lib.hid hq6
    clear hq6
    have hDk := hD; obtain ⟨c0, c1, c2, c3, c4, c5, c6, c7, c8, c9, c10, c11, c12, c13⟩ := hDk; dsimp only at c0 c1 c2 c3 c4 c5 c6 c7 c8 c9 c10 c11 c12 c13
    go_wp2
    refine bodyPost_ret (v := .int .i64 1) (by simp [results, Try.results21, go_sem, *]) rfl ⟨ret1 ?_, (by repeat (first | exact Ext.refl _ | refine Ext.setCell ?_ (by first | exact Nat.le_refl _ | (simp; done) | (simp; omega)) _ | refine Ext.drew ?_ | refine Ext.drewN ?_ _ | refine Ext.alloc ?_ _ | refine Ext.trans ?_ hE))⟩
    rw [← HV.out]; (try dsimp only); rw [if_neg (by simp), if_neg (by simp), if_pos (Or.inr (of_decide_eq_true HQ.out))]
  have H6 := Lib.hid hq6
  clear hq6
  go_upto_region 8 with fail
  go_cut [35] (fun s wx => s = .bool (decide (qu ≠ 0 ∧ qu * si < ov)) ∧ Ext w wx ∧ BoxRu (⟨nm, si, inn, ov, ba, qu, wi, nb, fh, nw, fo, re, ou, pa, n, pc⟩ : Ru) w.heap.size wx)
  case first =>
    have hDk := hD; obtain ⟨c0, c1, c2, c3, c4, c5, c6, c7, c8, c9, c10, c11, c12, c13⟩ := hDk; dsimp only at c0 c1 c2 c3 c4 c5 c6 c7 c8 c9 c10 c11 c12 c13
    go_wp2
    all_goals
      go_meet
      refine ⟨?_, (by first | assumption | exact (by repeat (first | exact Ext.refl _ | refine Ext.setCell ?_ (by first | exact Nat.le_refl _ | (simp; done) | (simp; omega)) _ | refine Ext.drew ?_ | refine Ext.drewN ?_ _ | refine Ext.alloc ?_ _ | refine Ext.trans ?_ hE))), (by first | exact hD)⟩
      try simp only [beq_iff_eq, beq_eq_false_iff_ne, bne_iff_ne, ne_eq, bne_eq_false_iff_eq] at *
      first | rfl | (simp [*]; done) | (refine congrArg Value.bool ?_; rw [Bool.eq_iff_iff]; simp only [Bool.or_eq_true, Bool.and_eq_true, decide_eq_true_eq, bne_iff_ne, beq_iff_eq, Bool.false_eq_true, eq_self, true_iff, false_iff, true_or, false_or, true_and, false_and, ne_eq, not_false_eq_true, reduceCtorEq] <;> omega)
  case rest =>
  obtain ⟨rfl, hE, hD⟩ := hcut
  rcases hq8 : decide (qu ≠ 0 ∧ qu * si < ov) with _ | _
  rotate_left
  · have HQ := Lib.hid hq8
    clear hq8
    have hDk := hD; obtain ⟨c0, c1, c2, c3, c4, c5, c6, c7, c8, c9, c10, c11, c12, c13⟩ := hDk; dsimp only at c0 c1 c2 c3 c4 c5 c6 c7 c8 c9 c10 c11 c12 c13
    go_wp2
    refine bodyPost_ret (v := .int .i64 13) (by simp [results, Try.results21, go_sem, *]) rfl ⟨ret1 ?_, (by repeat (first | exact Ext.refl _ | refine Ext.setCell ?_ (by first | exact Nat.le_refl _ | (simp; done) | (simp; omega)) _ | refine Ext.drew ?_ | refine Ext.drewN ?_ _ | refine Ext.alloc ?_ _ | refine Ext.trans ?_ hE))⟩
    rw [← HV.out]; (try dsimp only); rw [if_neg (by simp), if_neg (by simp), if_neg (fun hh => hh.elim (of_decide_eq_false H5.out) (of_decide_eq_false H6.out)), if_pos (of_decide_eq_true HQ.out)]
  have H8 := Lib.hid hq8
  clear hq8
  have hDk := hD; obtain ⟨c0, c1, c2, c3, c4, c5, c6, c7, c8, c9, c10, c11, c12, c13⟩ := hDk; dsimp only at c0 c1 c2 c3 c4 c5 c6 c7 c8 c9 c10 c11 c12 c13
  go_wp2_with (go_at_call 53; refine (HPH.out _ (HT.out.ext (by repeat (first | exact Ext.refl _ | refine Ext.setCell ?_ (by first | exact Nat.le_refl _ | (simp; done) | (simp; omega)) _ | refine Ext.drew ?_ | refine Ext.drewN ?_ _ | refine Ext.alloc ?_ _ | refine Ext.trans ?_ hE)))).mono ?_; rintro e w3 ⟨rfl, hb3⟩)
  refine bodyPost_ret (v := .int .i64 P) (by simp [results, Try.results21, go_sem, *]) rfl ⟨ret1 ?_, (by repeat (first | exact Ext.refl _ | refine Ext.setCell ?_ (by first | exact Nat.le_refl _ | (simp; done) | (simp; omega)) _ | refine Ext.drew ?_ | refine Ext.drewN ?_ _ | refine Ext.alloc ?_ _ | refine Ext.trans ?_ hb3 | refine Ext.trans ?_ hE))⟩
  rw [← HV.out]; (try dsimp only); rw [if_neg (by simp), if_neg (by simp), if_neg (fun hh => hh.elim (of_decide_eq_false H5.out) (of_decide_eq_false H6.out)), if_neg (of_decide_eq_false H8.out)]

end Go.Proofs.Ytpeabgfolpgfjaa

/-
  What a delivery may say of a dismissal (layer 10).
-/
import Derived.Test.YtpeabgfolpgfjaaSymA
import Derived.Test.YtpeabgfolpgfjaaSymL
import Derived.Test.YtpeabgfolpgfjaaSymN
namespace Go.Proofs.Ytpeabgfolpgfjaa
open Go.RowKit
set_option linter.unusedSimpArgs false

def WyB (k p : Nat) (w : World) : Prop := w.cell? ⟨p, 0, none⟩ = some (.int .u8 (k : Int)) ∧ w.cell? ⟨p, 1, none⟩ = some (.string (nmT k)) ∧ w.cell? ⟨p, 2, none⟩ = some (.bool (frT k)) ∧ w.cell? ⟨p, 3, none⟩ = some (.bool (wdT k)) ∧ w.cell? ⟨p, 4, none⟩ = some (.bool (noT k)) ∧ w.cell? ⟨p, 5, none⟩ = some (.bool (flT k)) ∧ w.cell? ⟨p, 6, none⟩ = some (.bool (eiT k))
theorem WyB.ext {k p : Nat} {w w' : World} (h : WyB k p w) (e : Ext w w') : WyB k p w' := by
  obtain ⟨c0, c1, c2, c3, c4, c5, c6⟩ := h
  exact ⟨e.keep c0, e.keep c1, e.keep c2, e.keep c3, e.keep c4, e.keep c5, e.keep c6⟩
theorem wyB_new (k : Nat) (w : World) (T : TypeId) : WyB k w.heap.size (w.alloc (.cells #[.int .u8 (k : Int), .string (nmT k), .bool (frT k), .bool (wdT k), .bool (noT k), .bool (flT k), .bool (eiT k)] T)) := by
  refine ⟨?_, ?_, ?_, ?_, ?_, ?_, ?_⟩ <;> simp [go_sem]
theorem HwAt.ext {w w' : World} {v : Value} {l : List Nat} (h : HwAt w v l) (e : Ext w w') : HwAt w' v l := by
  rcases h with h | ⟨g, cap, h1, h2, h3⟩
  · exact Or.inl h
  · exact Or.inr ⟨g, cap, h1, Nat.lt_of_lt_of_le h2 e.size, fun j hj => e.keep (h3 j hj)⟩
/-- The law of what is said without a dismissal. -/
def psZ (vi fi se : Int) (su : Bool) : Int := if vi ≠ 0 then 14 else if fi ≠ 0 ∨ se ≠ 0 ∨ su = true then 15 else 0
def rnB (k : Nat) : Bool := decide (k = 6 ∨ k = 8)
def p2B (k : Nat) (so ru : Int) : Bool := !rnB k && decide (so ≠ 0 ∨ ru ≠ 0)
def p3B (k : Nat) (vi : Int) : Bool := decide (vi ≠ 1) && (decide (vi ≠ 2) || !eiT k)
def p5B (k : Nat) (su : Bool) : Bool := su && decide (k ≠ 2 ∧ k ≠ 6)
def psK (k : Nat) (ty so ru vi fi se : Int) (su : Bool) : Int := if onB k ty = false then 13 else if p2B k so ru = true then 12 else if p3B k vi = true then 14 else if fdB (flT k) k fi se = false then 15 else if p5B k su = true then 18 else 0
def psD (d : Dl) : Int := if d.ho = 0 then psZ d.vi d.fi d.se d.su else psK d.ho.toNat d.ty d.so d.ru d.vi d.fi d.se d.su
set_option maxRecDepth 20000 in
set_option maxHeartbeats 4000000 in
theorem possible_zero (d : Dl) (h0 : d.ho = 0) (w : World) : Calls Try.prog 88 #[d.v, .bool false] w fun e w' => e = .returned (.int .i64 (psZ d.vi d.fi d.se d.su)) ∧ Ext w w' := by
  obtain ⟨V, hV⟩ : ∃ V, psZ d.vi d.fi d.se d.su = V := ⟨_, rfl⟩
  have HV := Lib.hid hV
  rw [hV]
  clear hV
  obtain ⟨ty, so, ru, sh, bo, cr, ho, vi, fi, se, su, sc⟩ := d
  unfold Dl.v
  unfold psZ at HV
  dsimp only at *
  subst h0
  cases su
  all_goals
    go_enter Try.func88, Try.ntmps88
    go_wp2
    all_goals
      try simp only [beq_iff_eq, beq_eq_false_iff_ne, bne_iff_ne, ne_eq, bne_eq_false_iff_eq] at *
      refine bodyPost_ret (v := .int .i64 V) ?_ rfl ⟨rfl, (by repeat (first | exact Ext.refl _ | refine Ext.setCell ?_ (by first | exact Nat.le_refl _ | (simp; done) | (simp; omega)) _ | refine Ext.drew ?_ | refine Ext.drewN ?_ _ | refine Ext.alloc ?_ _))⟩
      rw [← HV.out]
      simp [results, Try.results88, go_sem, *]

set_option maxRecDepth 20000 in
set_option maxHeartbeats 16000000 in
theorem possible_k (d : Dl) (k : Nat) (hk : d.ho = k) (hk0 : 0 < k) (hk11 : k < 11) (w : World) : Calls Try.prog 88 #[d.v, .bool false] w fun e w' => e = .returned (.int .i64 (psK k d.ty d.so d.ru d.vi d.fi d.se d.su)) ∧ Ext w w' := by
  have HFD : Hid (∀ W, Calls Try.prog 97 #[d.v, .agg #[.int .u8 (k : Nat), .string (nmT k), .bool (frT k), .bool (wdT k), .bool (noT k), .bool (flT k), .bool (eiT k)]] W fun e w' => e = .returned (.bool (fdB (flT k) k d.fi d.se)) ∧ Ext W w') := fun W => by
    have := fielders_any d k (nmT k) (frT k) (wdT k) (noT k) (flT k) (eiT k) W
    rw [hk] at this; exact this
  have hmem : decide (k ∈ hwN d.ty 11) = onB k d.ty := by
    rw [Bool.eq_iff_iff, decide_eq_true_eq]; exact hwN_mem hk11
  have HMEM := Lib.hid hmem
  obtain ⟨V, hV⟩ : ∃ V, psK k d.ty d.so d.ru d.vi d.fi d.se d.su = V := ⟨_, rfl⟩
  have HV := Lib.hid hV
  rw [hV]
  clear hV hmem
  obtain ⟨ty, so, ru, sh, bo, cr, ho, vi, fi, se, su, sc⟩ := d
  unfold Dl.v at HFD ⊢
  unfold psK at HV
  dsimp only at *
  subst hk
  obtain ⟨C1, hC1⟩ : ∃ x, onB k ty = x := ⟨_, rfl⟩
  rw [hC1] at HMEM HV
  clear hC1
  obtain ⟨C2, hC2⟩ : ∃ x, p2B k so ru = x := ⟨_, rfl⟩
  have HC2 := Lib.hid hC2
  rw [hC2] at HV
  clear hC2
  obtain ⟨C3, hC3⟩ : ∃ x, p3B k vi = x := ⟨_, rfl⟩
  have HC3 := Lib.hid hC3
  rw [hC3] at HV
  clear hC3
  obtain ⟨C4, hC4⟩ : ∃ x, fdB (flT k) k fi se = x := ⟨_, rfl⟩
  rw [hC4] at HV HFD
  clear hC4
  obtain ⟨C5, hC5⟩ : ∃ x, p5B k su = x := ⟨_, rfl⟩
  have HC5 := Lib.hid hC5
  rw [hC5] at HV
  clear hC5
  have hkz : ¬ ((k : Int) = 0) := by omega
  have hkz2 : ((k : Int) == 0) = false := by simpa using hkz
  go_enter Try.func88, Try.ntmps88
  go_upto_region 8 with (go_at_call 94; refine (of_any k hk11 _).mono ?_; rintro e w1 ⟨rfl, hb1⟩)
  have hD := (boxD_new (⟨ty, so, ru, sh, bo, cr, (k : Int), vi, fi, se, su, sc⟩ : Dl) w 53).ext (hb1.alloc (.cells #[.int .u8 (k : Int), .string (nmT k), .bool (frT k), .bool (wdT k), .bool (noT k), .bool (flT k), .bool (eiT k)] 142))
  have hW := wyB_new k w1 142
  have hE : Ext w (w1.alloc (.cells #[.int .u8 (k : Int), .string (nmT k), .bool (frT k), .bool (wdT k), .bool (noT k), .bool (flT k), .bool (eiT k)] 142)) := (by repeat (first | exact Ext.refl _ | refine Ext.setCell ?_ (by first | exact Nat.le_refl _ | (simp; done) | (simp; omega)) _ | refine Ext.drew ?_ | refine Ext.drewN ?_ _ | refine Ext.alloc ?_ _ | refine Ext.trans ?_ hb1))
  try dsimp only at hD
  clear hb1
  generalize (Value.agg #[.int .u8 ty, .int .u8 so, .int .i64 ru, .int .i64 sh, .int .i64 bo, .bool cr, .int .u8 (k : Int), .int .i64 vi, .int .i64 fi, .int .i64 se, .bool su, .int .i64 sc]) = G0
  generalize (w1.alloc (.cells #[.int .u8 (k : Int), .string (nmT k), .bool (frT k), .bool (wdT k), .bool (noT k), .bool (flT k), .bool (eiT k)] 142)) = W2 at hD hW hE ⊢
  go_upto_region 8 with fail
  go_cut [6] (fun s wx => s = .bool (rnB k) ∧ Ext w wx ∧ BoxD (⟨ty, so, ru, sh, bo, cr, (k : Int), vi, fi, se, su, sc⟩ : Dl) w.heap.size wx ∧ WyB k w1.heap.size wx)
  case first =>
    have hDk := hD; obtain ⟨c0, c1, c2, c3, c4, c5, c6, c7, c8, c9, c10, c11⟩ := hDk; dsimp only at c0 c1 c2 c3 c4 c5 c6 c7 c8 c9 c10 c11
    have hWk := hW; obtain ⟨y0, y1, y2, y3, y4, y5, y6⟩ := hWk
    go_wp2
    all_goals
      go_meet
      refine ⟨?_, (by first | assumption | exact (by repeat (first | exact Ext.refl _ | refine Ext.setCell ?_ (by first | exact Nat.le_refl _ | (simp; done) | (simp; omega)) _ | refine Ext.drew ?_ | refine Ext.drewN ?_ _ | refine Ext.alloc ?_ _ | refine Ext.trans ?_ hb3 | refine Ext.trans ?_ hb2 | refine Ext.trans ?_ hE))), (by first | exact hD | exact hD.ext (by first | assumption | exact ((by repeat (first | exact Ext.refl _ | refine Ext.setCell ?_ (by first | exact Nat.le_refl _ | (simp; done) | (simp; omega)) _ | refine Ext.drew ?_ | refine Ext.drewN ?_ _ | refine Ext.alloc ?_ _ | refine Ext.trans ?_ hb3 | refine Ext.trans ?_ hb2))))), (by first | exact hW | exact hW.ext (by first | assumption | exact ((by repeat (first | exact Ext.refl _ | refine Ext.setCell ?_ (by first | exact Nat.le_refl _ | (simp; done) | (simp; omega)) _ | refine Ext.drew ?_ | refine Ext.drewN ?_ _ | refine Ext.alloc ?_ _ | refine Ext.trans ?_ hb3 | refine Ext.trans ?_ hb2)))))⟩
      unfold rnB
      all_goals (try simp only [beq_iff_eq, beq_eq_false_iff_ne, bne_iff_ne, ne_eq, bne_eq_false_iff_eq] at *)
      all_goals (first | rfl | (simp [*]; done) | (refine congrArg Value.bool ?_; rw [Bool.eq_iff_iff]; simp only [Bool.not_true, Bool.not_false, Bool.true_and, Bool.false_and, Bool.or_eq_true, Bool.and_eq_true, decide_eq_true_eq, bne_iff_ne, beq_iff_eq, Bool.false_eq_true, eq_self, true_iff, false_iff, true_or, false_or, true_and, false_and, ne_eq, not_false_eq_true, reduceCtorEq] <;> omega))
  case rest =>
  obtain ⟨rfl, hE, hD, hW⟩ := hcut
  obtain ⟨RN, hRN⟩ : ∃ x, rnB k = x := ⟨_, rfl⟩
  rw [hRN]
  have HRN := Lib.hid hRN
  clear hRN
  go_upto_region 9 with fail
  go_cut [38] (fun s wx => s = .bool (!C1) ∧ Ext w wx ∧ BoxD (⟨ty, so, ru, sh, bo, cr, (k : Int), vi, fi, se, su, sc⟩ : Dl) w.heap.size wx ∧ WyB k w1.heap.size wx)
  case first =>
    have hDk := hD; obtain ⟨c0, c1, c2, c3, c4, c5, c6, c7, c8, c9, c10, c11⟩ := hDk; dsimp only at c0 c1 c2 c3 c4 c5 c6 c7 c8 c9 c10 c11
    have hWk := hW; obtain ⟨y0, y1, y2, y3, y4, y5, y6⟩ := hWk
    go_region_held3 (fun w' => w'.cell? ⟨w.heap.size, 0, none⟩ = some (.int .u8 ty) ∧ w'.cell? ⟨w.heap.size, 6, none⟩ = some (.int .u8 (k : Int))) (first | exact ⟨c0, c6⟩ | (simp [go_sem, *])) (first | ((fail_if_success (have hzz := hb2)); go_at_call 96; refine (ways_any ty _).mono ?_; rintro e w2 ⟨v, rfl, hv0, hown, hb2⟩; (have HA := Lib.hid (hwAt_of hv0 hown)); clear hv0 hown; (have s0 : w2.cell? ⟨w.heap.size, 0, none⟩ = some (.int .u8 ty) := hb2.keep (by first | assumption | exact c0)); (have s6 : w2.cell? ⟨w.heap.size, 6, none⟩ = some (.int .u8 (k : Int)) := hb2.keep (by first | assumption | exact c6))) | (go_at_call 95; refine (contains_any v (hwN ty 11) k _ (by have := hwN_len ty 11; omega) (by first | exact HA.out | exact HA.out.ext (by repeat (first | exact Ext.refl _ | refine Ext.setCell ?_ (by first | exact Nat.le_refl _ | (simp; done) | (simp; omega)) _ | refine Ext.drew ?_ | refine Ext.drewN ?_ _ | refine Ext.alloc ?_ _)))).mono ?_; rintro e w' ⟨rfl, rfl⟩; rw [HMEM.out]))
    all_goals go_wp2
    all_goals
      go_meet
      refine ⟨?_, (by first | assumption | exact (by repeat (first | exact Ext.refl _ | refine Ext.setCell ?_ (by first | exact Nat.le_refl _ | (simp; done) | (simp; omega)) _ | refine Ext.drew ?_ | refine Ext.drewN ?_ _ | refine Ext.alloc ?_ _ | refine Ext.trans ?_ hb3 | refine Ext.trans ?_ hb2 | refine Ext.trans ?_ hE))), (by first | exact hD | exact hD.ext (by first | assumption | exact ((by repeat (first | exact Ext.refl _ | refine Ext.setCell ?_ (by first | exact Nat.le_refl _ | (simp; done) | (simp; omega)) _ | refine Ext.drew ?_ | refine Ext.drewN ?_ _ | refine Ext.alloc ?_ _ | refine Ext.trans ?_ hb3 | refine Ext.trans ?_ hb2))))), (by first | exact hW | exact hW.ext (by first | assumption | exact ((by repeat (first | exact Ext.refl _ | refine Ext.setCell ?_ (by first | exact Nat.le_refl _ | (simp; done) | (simp; omega)) _ | refine Ext.drew ?_ | refine Ext.drewN ?_ _ | refine Ext.alloc ?_ _ | refine Ext.trans ?_ hb3 | refine Ext.trans ?_ hb2)))))⟩
      skip
      all_goals (try simp only [beq_iff_eq, beq_eq_false_iff_ne, bne_iff_ne, ne_eq, bne_eq_false_iff_eq] at *)
      all_goals (first | rfl | (simp [*]; done) | (refine congrArg Value.bool ?_; rw [Bool.eq_iff_iff]; simp only [Bool.not_true, Bool.not_false, Bool.true_and, Bool.false_and, Bool.or_eq_true, Bool.and_eq_true, decide_eq_true_eq, bne_iff_ne, beq_iff_eq, Bool.false_eq_true, eq_self, true_iff, false_iff, true_or, false_or, true_and, false_and, ne_eq, not_false_eq_true, reduceCtorEq] <;> omega))
  case rest =>
  obtain ⟨rfl, hE, hD, hW⟩ := hcut
  rcases hq9 : (!C1) with _ | _
  rotate_left
  · have HQ := Lib.hid hq9
    try rw [hq9]
    clear hq9
    go_wp2
    refine bodyPost_ret (v := .int .i64 13) (by simp [results, Try.results88, go_sem, *]) rfl ⟨ret1 ?_, (by repeat (first | exact Ext.refl _ | refine Ext.setCell ?_ (by first | exact Nat.le_refl _ | (simp; done) | (simp; omega)) _ | refine Ext.drew ?_ | refine Ext.drewN ?_ _ | refine Ext.alloc ?_ _ | refine Ext.trans ?_ hE))⟩
    rw [← HV.out]
    rw [if_pos (by have := HQ.out; simpa using this)]
  have H9 := Lib.hid hq9
  try rw [hq9]
  clear hq9
  go_upto_region 11 with fail
  go_cut [47] (fun s wx => s = .bool (C2) ∧ Ext w wx ∧ BoxD (⟨ty, so, ru, sh, bo, cr, (k : Int), vi, fi, se, su, sc⟩ : Dl) w.heap.size wx ∧ WyB k w1.heap.size wx)
  case first =>
    have hDk := hD; obtain ⟨c0, c1, c2, c3, c4, c5, c6, c7, c8, c9, c10, c11⟩ := hDk; dsimp only at c0 c1 c2 c3 c4 c5 c6 c7 c8 c9 c10 c11
    have hWk := hW; obtain ⟨y0, y1, y2, y3, y4, y5, y6⟩ := hWk
    cases RN
    all_goals go_wp2
    all_goals
      go_meet
      refine ⟨?_, (by first | assumption | exact (by repeat (first | exact Ext.refl _ | refine Ext.setCell ?_ (by first | exact Nat.le_refl _ | (simp; done) | (simp; omega)) _ | refine Ext.drew ?_ | refine Ext.drewN ?_ _ | refine Ext.alloc ?_ _ | refine Ext.trans ?_ hb3 | refine Ext.trans ?_ hb2 | refine Ext.trans ?_ hE))), (by first | exact hD | exact hD.ext (by first | assumption | exact ((by repeat (first | exact Ext.refl _ | refine Ext.setCell ?_ (by first | exact Nat.le_refl _ | (simp; done) | (simp; omega)) _ | refine Ext.drew ?_ | refine Ext.drewN ?_ _ | refine Ext.alloc ?_ _ | refine Ext.trans ?_ hb3 | refine Ext.trans ?_ hb2))))), (by first | exact hW | exact hW.ext (by first | assumption | exact ((by repeat (first | exact Ext.refl _ | refine Ext.setCell ?_ (by first | exact Nat.le_refl _ | (simp; done) | (simp; omega)) _ | refine Ext.drew ?_ | refine Ext.drewN ?_ _ | refine Ext.alloc ?_ _ | refine Ext.trans ?_ hb3 | refine Ext.trans ?_ hb2)))))⟩
      rw [← HC2.out, p2B, HRN.out]
      all_goals (try simp only [beq_iff_eq, beq_eq_false_iff_ne, bne_iff_ne, ne_eq, bne_eq_false_iff_eq] at *)
      all_goals (first | rfl | (simp [*]; done) | (refine congrArg Value.bool ?_; rw [Bool.eq_iff_iff]; simp only [Bool.not_true, Bool.not_false, Bool.true_and, Bool.false_and, Bool.or_eq_true, Bool.and_eq_true, decide_eq_true_eq, bne_iff_ne, beq_iff_eq, Bool.false_eq_true, eq_self, true_iff, false_iff, true_or, false_or, true_and, false_and, ne_eq, not_false_eq_true, reduceCtorEq] <;> omega))
  case rest =>
  obtain ⟨rfl, hE, hD, hW⟩ := hcut
  rcases hq11 : C2 with _ | _
  rotate_left
  · have HQ := Lib.hid hq11
    try rw [hq11]
    clear hq11
    go_wp2
    refine bodyPost_ret (v := .int .i64 12) (by simp [results, Try.results88, go_sem, *]) rfl ⟨ret1 ?_, (by repeat (first | exact Ext.refl _ | refine Ext.setCell ?_ (by first | exact Nat.le_refl _ | (simp; done) | (simp; omega)) _ | refine Ext.drew ?_ | refine Ext.drewN ?_ _ | refine Ext.alloc ?_ _ | refine Ext.trans ?_ hE))⟩
    rw [← HV.out]
    rw [if_neg (by have := H9.out; simpa using this), if_pos HQ.out]
  have H11 := Lib.hid hq11
  try rw [hq11]
  clear hq11
  go_upto_region 13 with fail
  go_cut [60] (fun s wx => s = .bool (C3) ∧ Ext w wx ∧ BoxD (⟨ty, so, ru, sh, bo, cr, (k : Int), vi, fi, se, su, sc⟩ : Dl) w.heap.size wx ∧ WyB k w1.heap.size wx)
  case first =>
    have hDk := hD; obtain ⟨c0, c1, c2, c3, c4, c5, c6, c7, c8, c9, c10, c11⟩ := hDk; dsimp only at c0 c1 c2 c3 c4 c5 c6 c7 c8 c9 c10 c11
    have hWk := hW; obtain ⟨y0, y1, y2, y3, y4, y5, y6⟩ := hWk
    cases hei : eiT k
    all_goals
      rw [hei] at y6
      go_wp2
    all_goals
      go_meet
      refine ⟨?_, (by first | assumption | exact (by repeat (first | exact Ext.refl _ | refine Ext.setCell ?_ (by first | exact Nat.le_refl _ | (simp; done) | (simp; omega)) _ | refine Ext.drew ?_ | refine Ext.drewN ?_ _ | refine Ext.alloc ?_ _ | refine Ext.trans ?_ hb3 | refine Ext.trans ?_ hb2 | refine Ext.trans ?_ hE))), (by first | exact hD | exact hD.ext (by first | assumption | exact ((by repeat (first | exact Ext.refl _ | refine Ext.setCell ?_ (by first | exact Nat.le_refl _ | (simp; done) | (simp; omega)) _ | refine Ext.drew ?_ | refine Ext.drewN ?_ _ | refine Ext.alloc ?_ _ | refine Ext.trans ?_ hb3 | refine Ext.trans ?_ hb2))))), (by first | exact hW | exact hW.ext (by first | assumption | exact ((by repeat (first | exact Ext.refl _ | refine Ext.setCell ?_ (by first | exact Nat.le_refl _ | (simp; done) | (simp; omega)) _ | refine Ext.drew ?_ | refine Ext.drewN ?_ _ | refine Ext.alloc ?_ _ | refine Ext.trans ?_ hb3 | refine Ext.trans ?_ hb2)))))⟩
      rw [← HC3.out, p3B]; try rw [hei]
      all_goals (try simp only [beq_iff_eq, beq_eq_false_iff_ne, bne_iff_ne, ne_eq, bne_eq_false_iff_eq] at *)
      all_goals (first | rfl | (simp [*]; done) | (refine congrArg Value.bool ?_; rw [Bool.eq_iff_iff]; simp only [Bool.not_true, Bool.not_false, Bool.true_and, Bool.false_and, Bool.or_eq_true, Bool.and_eq_true, decide_eq_true_eq, bne_iff_ne, beq_iff_eq, Bool.false_eq_true, eq_self, true_iff, false_iff, true_or, false_or, true_and, false_and, ne_eq, not_false_eq_true, reduceCtorEq] <;> omega))
  case rest =>
  obtain ⟨rfl, hE, hD, hW⟩ := hcut
  rcases hq13 : C3 with _ | _
  rotate_left
  · have HQ := Lib.hid hq13
    try rw [hq13]
    clear hq13
    go_wp2
    refine bodyPost_ret (v := .int .i64 14) (by simp [results, Try.results88, go_sem, *]) rfl ⟨ret1 ?_, (by repeat (first | exact Ext.refl _ | refine Ext.setCell ?_ (by first | exact Nat.le_refl _ | (simp; done) | (simp; omega)) _ | refine Ext.drew ?_ | refine Ext.drewN ?_ _ | refine Ext.alloc ?_ _ | refine Ext.trans ?_ hE))⟩
    rw [← HV.out]
    rw [if_neg (by have := H9.out; simpa using this), if_neg (by rw [H11.out]; simp), if_pos HQ.out]
  have H13 := Lib.hid hq13
  try rw [hq13]
  clear hq13
  go_upto_region 15 with fail
  go_cut [74] (fun s wx => s = .bool (!C4) ∧ Ext w wx ∧ BoxD (⟨ty, so, ru, sh, bo, cr, (k : Int), vi, fi, se, su, sc⟩ : Dl) w.heap.size wx ∧ WyB k w1.heap.size wx)
  case first =>
    have hDk := hD; obtain ⟨c0, c1, c2, c3, c4, c5, c6, c7, c8, c9, c10, c11⟩ := hDk; dsimp only at c0 c1 c2 c3 c4 c5 c6 c7 c8 c9 c10 c11
    have hWk := hW; obtain ⟨y0, y1, y2, y3, y4, y5, y6⟩ := hWk
    go_wp2_with ((fail_if_success (have hzz := hb3)); go_at_call 97; refine (HFD.out _).mono ?_; rintro e w3 ⟨rfl, hb3⟩)
    all_goals
      go_meet
      refine ⟨?_, (by first | assumption | exact (by repeat (first | exact Ext.refl _ | refine Ext.setCell ?_ (by first | exact Nat.le_refl _ | (simp; done) | (simp; omega)) _ | refine Ext.drew ?_ | refine Ext.drewN ?_ _ | refine Ext.alloc ?_ _ | refine Ext.trans ?_ hb3 | refine Ext.trans ?_ hb2 | refine Ext.trans ?_ hE))), (by first | exact hD | exact hD.ext (by first | assumption | exact ((by repeat (first | exact Ext.refl _ | refine Ext.setCell ?_ (by first | exact Nat.le_refl _ | (simp; done) | (simp; omega)) _ | refine Ext.drew ?_ | refine Ext.drewN ?_ _ | refine Ext.alloc ?_ _ | refine Ext.trans ?_ hb3 | refine Ext.trans ?_ hb2))))), (by first | exact hW | exact hW.ext (by first | assumption | exact ((by repeat (first | exact Ext.refl _ | refine Ext.setCell ?_ (by first | exact Nat.le_refl _ | (simp; done) | (simp; omega)) _ | refine Ext.drew ?_ | refine Ext.drewN ?_ _ | refine Ext.alloc ?_ _ | refine Ext.trans ?_ hb3 | refine Ext.trans ?_ hb2)))))⟩
      skip
      all_goals (try simp only [beq_iff_eq, beq_eq_false_iff_ne, bne_iff_ne, ne_eq, bne_eq_false_iff_eq] at *)
      all_goals (first | rfl | (simp [*]; done) | (refine congrArg Value.bool ?_; rw [Bool.eq_iff_iff]; simp only [Bool.not_true, Bool.not_false, Bool.true_and, Bool.false_and, Bool.or_eq_true, Bool.and_eq_true, decide_eq_true_eq, bne_iff_ne, beq_iff_eq, Bool.false_eq_true, eq_self, true_iff, false_iff, true_or, false_or, true_and, false_and, ne_eq, not_false_eq_true, reduceCtorEq] <;> omega))
  case rest =>
  obtain ⟨rfl, hE, hD, hW⟩ := hcut
  rcases hq15 : (!C4) with _ | _
  rotate_left
  · have HQ := Lib.hid hq15
    try rw [hq15]
    clear hq15
    go_wp2
    refine bodyPost_ret (v := .int .i64 15) (by simp [results, Try.results88, go_sem, *]) rfl ⟨ret1 ?_, (by repeat (first | exact Ext.refl _ | refine Ext.setCell ?_ (by first | exact Nat.le_refl _ | (simp; done) | (simp; omega)) _ | refine Ext.drew ?_ | refine Ext.drewN ?_ _ | refine Ext.alloc ?_ _ | refine Ext.trans ?_ hE))⟩
    rw [← HV.out]
    rw [if_neg (by have := H9.out; simpa using this), if_neg (by rw [H11.out]; simp), if_neg (by rw [H13.out]; simp), if_pos (by have := HQ.out; simpa using this)]
  have H15 := Lib.hid hq15
  try rw [hq15]
  clear hq15
  go_upto_region 17 with fail
  go_cut [79] (fun s wx => s = .bool (C5) ∧ Ext w wx ∧ BoxD (⟨ty, so, ru, sh, bo, cr, (k : Int), vi, fi, se, su, sc⟩ : Dl) w.heap.size wx ∧ WyB k w1.heap.size wx)
  case first =>
    have hDk := hD; obtain ⟨c0, c1, c2, c3, c4, c5, c6, c7, c8, c9, c10, c11⟩ := hDk; dsimp only at c0 c1 c2 c3 c4 c5 c6 c7 c8 c9 c10 c11
    have hWk := hW; obtain ⟨y0, y1, y2, y3, y4, y5, y6⟩ := hWk
    cases su
    all_goals go_wp2
    all_goals
      go_meet
      refine ⟨?_, (by first | assumption | exact (by repeat (first | exact Ext.refl _ | refine Ext.setCell ?_ (by first | exact Nat.le_refl _ | (simp; done) | (simp; omega)) _ | refine Ext.drew ?_ | refine Ext.drewN ?_ _ | refine Ext.alloc ?_ _ | refine Ext.trans ?_ hb3 | refine Ext.trans ?_ hb2 | refine Ext.trans ?_ hE))), (by first | exact hD | exact hD.ext (by first | assumption | exact ((by repeat (first | exact Ext.refl _ | refine Ext.setCell ?_ (by first | exact Nat.le_refl _ | (simp; done) | (simp; omega)) _ | refine Ext.drew ?_ | refine Ext.drewN ?_ _ | refine Ext.alloc ?_ _ | refine Ext.trans ?_ hb3 | refine Ext.trans ?_ hb2))))), (by first | exact hW | exact hW.ext (by first | assumption | exact ((by repeat (first | exact Ext.refl _ | refine Ext.setCell ?_ (by first | exact Nat.le_refl _ | (simp; done) | (simp; omega)) _ | refine Ext.drew ?_ | refine Ext.drewN ?_ _ | refine Ext.alloc ?_ _ | refine Ext.trans ?_ hb3 | refine Ext.trans ?_ hb2)))))⟩
      rw [← HC5.out, p5B]
      all_goals (try simp only [beq_iff_eq, beq_eq_false_iff_ne, bne_iff_ne, ne_eq, bne_eq_false_iff_eq] at *)
      all_goals (first | rfl | (simp [*]; done) | (refine congrArg Value.bool ?_; rw [Bool.eq_iff_iff]; simp only [Bool.not_true, Bool.not_false, Bool.true_and, Bool.false_and, Bool.or_eq_true, Bool.and_eq_true, decide_eq_true_eq, bne_iff_ne, beq_iff_eq, Bool.false_eq_true, eq_self, true_iff, false_iff, true_or, false_or, true_and, false_and, ne_eq, not_false_eq_true, reduceCtorEq] <;> omega))
  case rest =>
  obtain ⟨rfl, hE, hD, hW⟩ := hcut
  rcases hq17 : C5 with _ | _
  rotate_left
  · have HQ := Lib.hid hq17
    try rw [hq17]
    clear hq17
    go_wp2
    refine bodyPost_ret (v := .int .i64 18) (by simp [results, Try.results88, go_sem, *]) rfl ⟨ret1 ?_, (by repeat (first | exact Ext.refl _ | refine Ext.setCell ?_ (by first | exact Nat.le_refl _ | (simp; done) | (simp; omega)) _ | refine Ext.drew ?_ | refine Ext.drewN ?_ _ | refine Ext.alloc ?_ _ | refine Ext.trans ?_ hE))⟩
    rw [← HV.out]
    rw [if_neg (by have := H9.out; simpa using this), if_neg (by rw [H11.out]; simp), if_neg (by rw [H13.out]; simp), if_neg (by have := H15.out; simpa using this), if_pos HQ.out]
  have H17 := Lib.hid hq17
  try rw [hq17]
  clear hq17
  go_wp2
  refine bodyPost_ret (v := .int .i64 0) (by simp [results, Try.results88, go_sem, *]) rfl ⟨ret1 ?_, (by repeat (first | exact Ext.refl _ | refine Ext.setCell ?_ (by first | exact Nat.le_refl _ | (simp; done) | (simp; omega)) _ | refine Ext.drew ?_ | refine Ext.drewN ?_ _ | refine Ext.alloc ?_ _ | refine Ext.trans ?_ hE))⟩
  rw [← HV.out]
  rw [if_neg (by have := H9.out; simpa using this), if_neg (by rw [H11.out]; simp), if_neg (by rw [H13.out]; simp), if_neg (by have := H15.out; simpa using this), if_neg (by rw [H17.out]; simp)]
theorem possible_any (d : Dl) (h0 : 0 ≤ d.ho) (h10 : d.ho ≤ 10) (w : World) : Calls Try.prog 88 #[d.v, .bool false] w fun e w' => e = .returned (.int .i64 (psD d)) ∧ Ext w w' := by
  unfold psD
  by_cases hz : d.ho = 0
  · rw [if_pos hz]; exact possible_zero d hz w
  · rw [if_neg hz]; exact possible_k d d.ho.toNat (by omega) (by omega) (by omega) w

end Go.Proofs.Ytpeabgfolpgfjaa

/-
  The law ReviewFree, walked.
-/
import Derived.Test.YtppoejhfemolfaaDoorRevE
namespace Go.Proofs.YtppoejhfemolfaaDoor
open Go.RowKit
set_option linter.unusedSimpArgs false

theorem Turn.keep {p g j : Nat} {v : Value} {w w' : World} (h : Turn p w w') (hne : g ≠ p) (hc : w.cell? ⟨g, j, none⟩ = some v) : w'.cell? ⟨g, j, none⟩ = some v := by
  have hl := cell_lt hc
  have ho : w.heap[g]? = some w.heap[g] := Array.getElem?_eq_getElem hl
  have := h.other g _ hne ho
  rw [World.cell?_of_block (w := w) (w' := w') (a := ⟨g, j, none⟩) (this.trans ho.symm)]
  exact hc
theorem ask_new {t s c : Int} (ht : 1 ≤ t) (hs : s = 1 ∨ s = 2) : askE (newR t) s c = (if givB c then 0 else 3) := by
  have h0 : (t == 0) = false := by simp; omega
  rcases hs with rfl | rfl
  · simp only [askE, newR, lfN, sideB]; cases givB c <;> simp [h0] <;> omega
  · simp only [askE, newR, lfN, sideB]; cases givB c <;> simp [h0] <;> omega
/-- The room in which side s waits with the call c. -/
def wtR (t s c : Int) : Rm := ⟨t, t, 0, 0, 0, t, 0, 0, 0, s, c⟩
theorem ask_wt {t s c : Int} (h : askE (newR t) s c = 0) : askR (newR t) s c = wtR t s c := by rw [(ask_ok h).2]; rfl
theorem wt_small {t s : Int} (h0 : 1 ≤ t) (h1 : t ≤ 20) (hs : s = 1 ∨ s = 2) (c : Int) : (wtR t s c).small := ⟨by simp only [wtR]; omega, by simp only [wtR]; omega, by simp only [wtR]; omega, by simp only [wtR]; omega, by simp only [wtR]; omega, by simp only [wtR]; omega, by simp only [wtR]; omega, by simp only [wtR]; omega, by simp only [wtR]; omega⟩
theorem wt_E {t s c v : Int} (hs : s = 1 ∨ s = 2) : decE (wtR t s c) v = (if givB v || v == 3 then 0 else 3) := by
  have h : (s == 0) = false := by rcases hs with rfl | rfl <;> rfl
  simp [decE, wtR, h]
theorem wt_C {t s c v : Int} (h : decE (wtR t s c) v = 0) : decC (wtR t s c) v = (if v == 3 then c else v) := (dec_ok h).2.1
theorem wt_lf {t s c v : Int} (hs : s = 1 ∨ s = 2) (h : decE (wtR t s c) v = 0) : lfN (decR (wtR t s c) v) s = (if v == 3 then t else if v == c then t - 1 else t) ∧ lfN (decR (wtR t s c) v) (3 - s) = t := by
  rw [(dec_ok h).2.2]
  rcases hs with rfl | rfl
  · by_cases h3 : v = 3
    · subst h3; exact ⟨rfl, rfl⟩
    · by_cases hc : v = c
      · subst hc; simp [decS, wtR, lfN, h3]
      · simp [decS, wtR, lfN, h3, hc]
  · by_cases h3 : v = 3
    · subst h3; exact ⟨rfl, rfl⟩
    · by_cases hc : v = c
      · subst hc; simp [decS, wtR, lfN, h3]
      · simp [decS, wtR, lfN, h3, hc]
theorem lf_new {t s : Int} (hs : s = 1 ∨ s = 2) : lfN (newR t) s = t := by rcases hs with rfl | rfl <;> rfl
theorem lf_wt {t s c : Int} (hs : s = 1 ∨ s = 2) : lfN (wtR t s c) s = t := by rcases hs with rfl | rfl <;> rfl

set_option maxHeartbeats 16000000 in
theorem reviewFree_at (r : Int) (b : Bool) (c0 c1 S T : Int) (hr0 : 0 ≤ r ∧ r ≤ 255) (hc1 : 0 ≤ c1 ∧ c1 ≤ 255) (hS : S = if b then 2 else 1) (hT : r % 20 + 1 = T) (w : World) (hX : TX w) :
    Calls Tryd.prog 5 #[.int .u8 r, .bool b, .agg #[.int .u8 c0, .int .u8 c1]] w fun e w' => e = .returned (.bool true) ∧ Ext w w' := by
  have HX := Lib.hid hX
  clear hX
  have hT0 : 0 ≤ T := by omega
  have hT1 : T ≤ 20 := by omega
  have hT2 : 1 ≤ T := by omega
  have hs : S = 1 ∨ S = 2 := by rw [hS]; cases b <;> simp
  have HL : Hid (lfN (newR T) S = T) := lf_new hs
  rcases and1 (givB c0) with hg | hg
  · have HAE : Hid (askE (newR T) S c0 = 3) := by rw [Hid, ask_new hT2 hs, hg]; rfl
    have HAR : Hid (askR (newR T) S c0 = newR T) := (ask_vals HAE.out rfl).2
    have hn1 : (c0 == 1) = false := by cases h : (c0 == 1) <;> simp_all [givB]
    have hn2 : (c0 == 2) = false := by cases h : (c0 == 2) <;> simp_all [givB]
    have hm1 : (c0 != 1) = true := by simp only [bne, hn1, Bool.not_false]
    have hm2 : (c0 != 2) = true := by simp only [bne, hn2, Bool.not_false]
    have HW : Hid (((newR T).a != 0) = false) := rfl
    clear hg
    cases b
    all_goals
      first | (obtain rfl : S = 1 := hS) | (obtain rfl : S = 2 := hS)
      go_enter Tryd.func5, Tryd.ntmps5
      go_wp2_with (first | ((fail_if_success (have hzz := hb1)); go_at_call 8; refine (awake_any _ (HX.out.ext (by repeat (first | exact Ext.refl _ | refine Ext.setCell ?_ (by first | exact Nat.le_refl _ | (simp; done) | (simp; omega)) _ | refine Ext.drew ?_ | refine Ext.drewN ?_ _ | refine Ext.alloc ?_ _)))).mono ?_; rintro e w1 ⟨rfl, hb1⟩; have e1_0 : w1.cell? ⟨w.heap.size, 0, none⟩ = some (.int .u8 c0) := hb1.keep (Lib.cell_of_heap (heap_alloc_new w _) 0); have e1_1 : w1.cell? ⟨w.heap.size, 1, none⟩ = some (.int .u8 c1) := hb1.keep (Lib.cell_of_heap (heap_alloc_new w _) 1); have hne : w.heap.size ≠ w1.heap.size := (by have := hb1.size; simp only [World.alloc, Array.size_push] at this; omega); have hb1w : Ext w w1 := Ext.trans (Ext.alloc (Ext.refl w) _) hb1) | ((fail_if_success (have hzz := hb2)); go_at_call 9; refine (new_any T w1 hT0 hT1).mono ?_; rintro e w2 ⟨rfl, hr2, hb2⟩; have e2_0 : w2.cell? ⟨w.heap.size, 0, none⟩ = some (.int .u8 c0) := hb2.keep e1_0; have e2_1 : w2.cell? ⟨w.heap.size, 1, none⟩ = some (.int .u8 c1) := hb2.keep e1_1; have hx2 : Ext w w2 := hb1w.trans hb2) | ((fail_if_success (have hzz := hb3)); go_at_call 19; refine (left_any w1.heap.size _ _ _ hr2).mono ?_; rintro e w3 ⟨rfl, hb3⟩; rw [HL.out]; have hr3 := hr2.ext hb3; have e3_0 : w3.cell? ⟨w.heap.size, 0, none⟩ = some (.int .u8 c0) := hb3.keep e2_0; have e3_1 : w3.cell? ⟨w.heap.size, 1, none⟩ = some (.int .u8 c1) := hb3.keep e2_1; have hx3 := hx2.trans hb3) | ((fail_if_success (have hzz := ht4)); go_at_call 16; refine (ask_any w1.heap.size _ _ c0 _ hr3).mono ?_; rintro e w4 ⟨rfl, hr4, ht4⟩; rw [HAE.out]; rw [HAR.out] at hr4; have e4_0 : w4.cell? ⟨w.heap.size, 0, none⟩ = some (.int .u8 c0) := ht4.keep hne e3_0; have e4_1 : w4.cell? ⟨w.heap.size, 1, none⟩ = some (.int .u8 c1) := ht4.keep hne e3_1; have hx4 : Ext w w4 := ht4.then hx3 hb1w.size) | ((fail_if_success (have hzz := hb9)); go_at_call 20; refine (waits_any w1.heap.size _ _ hr4).mono ?_; rintro e w9 ⟨rfl, hb9⟩; (try rw [HW.out]); have e9_0 := hb9.keep (by first | exact e5_0 | exact e4_0); have e9_1 := hb9.keep (by first | exact e5_1 | exact e4_1)))
      go_ret
      exact ⟨retb (by first | rfl | simp), hx4.trans hb9⟩
  have HAE : Hid (askE (newR T) S c0 = 0) := by rw [Hid, ask_new hT2 hs, hg]; rfl
  have HAR : Hid (askR (newR T) S c0 = wtR T S c0) := ask_wt HAE.out
  have HSM : Hid (wtR T S c0).small := wt_small hT2 hT1 hs c0
  clear hg
  rcases and1 (givB c1 || c1 == 3) with hd | hd
  · have HDE : Hid (decE (wtR T S c0) c1 = 3) := by rw [Hid, wt_E hs, hd]; rfl
    have HDC : Hid (decC (wtR T S c0) c1 = 0) := (dec_no HDE.out rfl).2.1
    have HDR : Hid (decR (wtR T S c0) c1 = wtR T S c0) := (dec_no HDE.out rfl).2.2
    have HW : Hid (((wtR T S c0).a != 0) = true) := by show (S != 0) = true; rcases hs with h | h <;> rw [h] <;> rfl
    have HL6 : Hid (lfN (wtR T S c0) S = T) := lf_wt hs
    have hc : c1 = 0 ∨ 3 < c1 := by
      simp only [givB, Bool.or_eq_false_iff, beq_eq_false_iff_ne] at hd
      omega
    clear hd
    have hc4 : (decide (c1 < 1) = true) ∨ (decide (c1 < 1) = false ∧ 3 < c1) := by
      rcases hc with h | h
      · left; simp only [decide_eq_true_eq]; omega
      · right; exact ⟨by simp only [decide_eq_false_iff_not]; omega, h⟩
    clear hc
    rcases hc4 with hc3 | ⟨hc3, hc5⟩
    all_goals
      cases b
      all_goals
        first | (obtain rfl : S = 1 := hS) | (obtain rfl : S = 2 := hS)
        go_enter Tryd.func5, Tryd.ntmps5
        go_wp2_with (first | ((fail_if_success (have hzz := hb1)); go_at_call 8; refine (awake_any _ (HX.out.ext (by repeat (first | exact Ext.refl _ | refine Ext.setCell ?_ (by first | exact Nat.le_refl _ | (simp; done) | (simp; omega)) _ | refine Ext.drew ?_ | refine Ext.drewN ?_ _ | refine Ext.alloc ?_ _)))).mono ?_; rintro e w1 ⟨rfl, hb1⟩; have e1_0 : w1.cell? ⟨w.heap.size, 0, none⟩ = some (.int .u8 c0) := hb1.keep (Lib.cell_of_heap (heap_alloc_new w _) 0); have e1_1 : w1.cell? ⟨w.heap.size, 1, none⟩ = some (.int .u8 c1) := hb1.keep (Lib.cell_of_heap (heap_alloc_new w _) 1); have hne : w.heap.size ≠ w1.heap.size := (by have := hb1.size; simp only [World.alloc, Array.size_push] at this; omega); have hb1w : Ext w w1 := Ext.trans (Ext.alloc (Ext.refl w) _) hb1) | ((fail_if_success (have hzz := hb2)); go_at_call 9; refine (new_any T w1 hT0 hT1).mono ?_; rintro e w2 ⟨rfl, hr2, hb2⟩; have e2_0 : w2.cell? ⟨w.heap.size, 0, none⟩ = some (.int .u8 c0) := hb2.keep e1_0; have e2_1 : w2.cell? ⟨w.heap.size, 1, none⟩ = some (.int .u8 c1) := hb2.keep e1_1; have hx2 : Ext w w2 := hb1w.trans hb2) | ((fail_if_success (have hzz := hb3)); go_at_call 19; refine (left_any w1.heap.size _ _ _ hr2).mono ?_; rintro e w3 ⟨rfl, hb3⟩; rw [HL.out]; have hr3 := hr2.ext hb3; have e3_0 : w3.cell? ⟨w.heap.size, 0, none⟩ = some (.int .u8 c0) := hb3.keep e2_0; have e3_1 : w3.cell? ⟨w.heap.size, 1, none⟩ = some (.int .u8 c1) := hb3.keep e2_1; have hx3 := hx2.trans hb3) | ((fail_if_success (have hzz := ht4)); go_at_call 16; refine (ask_any w1.heap.size _ _ c0 _ hr3).mono ?_; rintro e w4 ⟨rfl, hr4, ht4⟩; rw [HAE.out]; rw [HAR.out] at hr4; have e4_0 : w4.cell? ⟨w.heap.size, 0, none⟩ = some (.int .u8 c0) := ht4.keep hne e3_0; have e4_1 : w4.cell? ⟨w.heap.size, 1, none⟩ = some (.int .u8 c1) := ht4.keep hne e3_1; have hx4 : Ext w w4 := ht4.then hx3 hb1w.size) | ((fail_if_success (have hzz := ht5)); go_at_call 11; refine (decide_any w1.heap.size _ c1 _ hr4 HSM.out).mono ?_; rintro e w5 ⟨rfl, hr5, ht5⟩; rw [HDE.out, HDC.out]; rw [HDR.out] at hr5; have e5_0 : w5.cell? ⟨w.heap.size, 0, none⟩ = some (.int .u8 c0) := ht5.keep hne e4_0; have e5_1 : w5.cell? ⟨w.heap.size, 1, none⟩ = some (.int .u8 c1) := ht5.keep hne e4_1; have hx5 : Ext w w5 := ht5.then hx4 hb1w.size) | ((fail_if_success (have hzz := hb9)); go_at_call 20; refine (waits_any w1.heap.size _ _ hr5).mono ?_; rintro e w9 ⟨rfl, hb9⟩; (try rw [HW.out]); have e9_0 := hb9.keep (by first | exact e5_0 | exact e4_0); have e9_1 := hb9.keep (by first | exact e5_1 | exact e4_1)) | ((fail_if_success (have hzz := hb6)); go_at_call 19; refine (left_any w1.heap.size _ _ _ (hr5.ext hb9)).mono ?_; rintro e w6 ⟨rfl, hb6⟩; rw [HL6.out]))
        go_ret
        exact ⟨retb (by first | rfl | simp), (hx5.trans hb9).trans hb6⟩
  have hE0 : decE (wtR T S c0) c1 = 0 := by rw [wt_E hs, hd]; rfl
  have HDE := Lib.hid hE0
  obtain ⟨hL1, hL2⟩ := wt_lf hs hE0
  have hC := wt_C hE0
  clear hd hE0
  rcases and1 (c1 == 3) with h3 | h3
  · rw [h3] at hC hL1
    rcases and1 (c1 == c0) with h4 | h4
    all_goals
      rw [h4] at hL1
      have HDC : Hid (decC (wtR T S c0) c1 = c1) := hC
      simp only [if_true, if_false, Bool.false_eq_true] at hL1
      have HLA := Lib.hid hL1
      have HLB := Lib.hid hL2
      have HLB1 : Hid (∀ q, q = 3 - S → lfN (decR (wtR T S c0) c1) q = T) := fun q hq => by rw [hq]; exact hL2
      clear hC hL1 hL2
      cases b
      all_goals
        first | (obtain rfl : S = 1 := hS) | (obtain rfl : S = 2 := hS)
        go_enter Tryd.func5, Tryd.ntmps5
        go_wp2_with (first | ((fail_if_success (have hzz := hb1)); go_at_call 8; refine (awake_any _ (HX.out.ext (by repeat (first | exact Ext.refl _ | refine Ext.setCell ?_ (by first | exact Nat.le_refl _ | (simp; done) | (simp; omega)) _ | refine Ext.drew ?_ | refine Ext.drewN ?_ _ | refine Ext.alloc ?_ _)))).mono ?_; rintro e w1 ⟨rfl, hb1⟩; have e1_0 : w1.cell? ⟨w.heap.size, 0, none⟩ = some (.int .u8 c0) := hb1.keep (Lib.cell_of_heap (heap_alloc_new w _) 0); have e1_1 : w1.cell? ⟨w.heap.size, 1, none⟩ = some (.int .u8 c1) := hb1.keep (Lib.cell_of_heap (heap_alloc_new w _) 1); have hne : w.heap.size ≠ w1.heap.size := (by have := hb1.size; simp only [World.alloc, Array.size_push] at this; omega); have hb1w : Ext w w1 := Ext.trans (Ext.alloc (Ext.refl w) _) hb1) | ((fail_if_success (have hzz := hb2)); go_at_call 9; refine (new_any T w1 hT0 hT1).mono ?_; rintro e w2 ⟨rfl, hr2, hb2⟩; have e2_0 : w2.cell? ⟨w.heap.size, 0, none⟩ = some (.int .u8 c0) := hb2.keep e1_0; have e2_1 : w2.cell? ⟨w.heap.size, 1, none⟩ = some (.int .u8 c1) := hb2.keep e1_1; have hx2 : Ext w w2 := hb1w.trans hb2) | ((fail_if_success (have hzz := hb3)); go_at_call 19; refine (left_any w1.heap.size _ _ _ hr2).mono ?_; rintro e w3 ⟨rfl, hb3⟩; rw [HL.out]; have hr3 := hr2.ext hb3; have e3_0 : w3.cell? ⟨w.heap.size, 0, none⟩ = some (.int .u8 c0) := hb3.keep e2_0; have e3_1 : w3.cell? ⟨w.heap.size, 1, none⟩ = some (.int .u8 c1) := hb3.keep e2_1; have hx3 := hx2.trans hb3) | ((fail_if_success (have hzz := ht4)); go_at_call 16; refine (ask_any w1.heap.size _ _ c0 _ hr3).mono ?_; rintro e w4 ⟨rfl, hr4, ht4⟩; rw [HAE.out]; rw [HAR.out] at hr4; have e4_0 : w4.cell? ⟨w.heap.size, 0, none⟩ = some (.int .u8 c0) := ht4.keep hne e3_0; have e4_1 : w4.cell? ⟨w.heap.size, 1, none⟩ = some (.int .u8 c1) := ht4.keep hne e3_1; have hx4 : Ext w w4 := ht4.then hx3 hb1w.size) | ((fail_if_success (have hzz := ht5)); go_at_call 11; refine (decide_any w1.heap.size _ c1 _ hr4 HSM.out).mono ?_; rintro e w5 ⟨rfl, hr5, ht5⟩; rw [HDE.out, HDC.out]; have e5_0 : w5.cell? ⟨w.heap.size, 0, none⟩ = some (.int .u8 c0) := ht5.keep hne e4_0; have e5_1 : w5.cell? ⟨w.heap.size, 1, none⟩ = some (.int .u8 c1) := ht5.keep hne e4_1; have hx5 : Ext w w5 := ht5.then hx4 hb1w.size) | ((fail_if_success (have hzz := hb6)); go_at_call 19; refine (left_any w1.heap.size _ _ _ hr5).mono ?_; rintro e w6 ⟨rfl, hb6⟩; rw [HLA.out]; have e6_0 := hb6.keep e5_0; have e6_1 := hb6.keep e5_1) | ((fail_if_success (have hzz := hb7)); go_at_call 19; refine (left_any w1.heap.size _ _ _ (hr5.ext hb6)).mono ?_; rintro e w7 ⟨rfl, hb7⟩; (first | rw [HLB.out] | rw [HLB1.out _ (by decide)]); have e7_0 := hb7.keep e6_0; have e7_1 := hb7.keep e6_1))
        go_ret
        exact ⟨retb (by first | rfl | simp), (hx5.trans hb6).trans hb7⟩
  · rw [h3] at hC hL1
    have HDC : Hid (decC (wtR T S c0) c1 = c0) := hC
    simp only [if_true] at hL1
    have HLA := Lib.hid hL1
    have HLB := Lib.hid hL2
    have HLB1 : Hid (∀ q, q = 3 - S → lfN (decR (wtR T S c0) c1) q = T) := fun q hq => by rw [hq]; exact hL2
    clear hC hL1 hL2
    cases b
    all_goals
      first | (obtain rfl : S = 1 := hS) | (obtain rfl : S = 2 := hS)
      go_enter Tryd.func5, Tryd.ntmps5
      go_wp2_with (first | ((fail_if_success (have hzz := hb1)); go_at_call 8; refine (awake_any _ (HX.out.ext (by repeat (first | exact Ext.refl _ | refine Ext.setCell ?_ (by first | exact Nat.le_refl _ | (simp; done) | (simp; omega)) _ | refine Ext.drew ?_ | refine Ext.drewN ?_ _ | refine Ext.alloc ?_ _)))).mono ?_; rintro e w1 ⟨rfl, hb1⟩; have e1_0 : w1.cell? ⟨w.heap.size, 0, none⟩ = some (.int .u8 c0) := hb1.keep (Lib.cell_of_heap (heap_alloc_new w _) 0); have e1_1 : w1.cell? ⟨w.heap.size, 1, none⟩ = some (.int .u8 c1) := hb1.keep (Lib.cell_of_heap (heap_alloc_new w _) 1); have hne : w.heap.size ≠ w1.heap.size := (by have := hb1.size; simp only [World.alloc, Array.size_push] at this; omega); have hb1w : Ext w w1 := Ext.trans (Ext.alloc (Ext.refl w) _) hb1) | ((fail_if_success (have hzz := hb2)); go_at_call 9; refine (new_any T w1 hT0 hT1).mono ?_; rintro e w2 ⟨rfl, hr2, hb2⟩; have e2_0 : w2.cell? ⟨w.heap.size, 0, none⟩ = some (.int .u8 c0) := hb2.keep e1_0; have e2_1 : w2.cell? ⟨w.heap.size, 1, none⟩ = some (.int .u8 c1) := hb2.keep e1_1; have hx2 : Ext w w2 := hb1w.trans hb2) | ((fail_if_success (have hzz := hb3)); go_at_call 19; refine (left_any w1.heap.size _ _ _ hr2).mono ?_; rintro e w3 ⟨rfl, hb3⟩; rw [HL.out]; have hr3 := hr2.ext hb3; have e3_0 : w3.cell? ⟨w.heap.size, 0, none⟩ = some (.int .u8 c0) := hb3.keep e2_0; have e3_1 : w3.cell? ⟨w.heap.size, 1, none⟩ = some (.int .u8 c1) := hb3.keep e2_1; have hx3 := hx2.trans hb3) | ((fail_if_success (have hzz := ht4)); go_at_call 16; refine (ask_any w1.heap.size _ _ c0 _ hr3).mono ?_; rintro e w4 ⟨rfl, hr4, ht4⟩; rw [HAE.out]; rw [HAR.out] at hr4; have e4_0 : w4.cell? ⟨w.heap.size, 0, none⟩ = some (.int .u8 c0) := ht4.keep hne e3_0; have e4_1 : w4.cell? ⟨w.heap.size, 1, none⟩ = some (.int .u8 c1) := ht4.keep hne e3_1; have hx4 : Ext w w4 := ht4.then hx3 hb1w.size) | ((fail_if_success (have hzz := ht5)); go_at_call 11; refine (decide_any w1.heap.size _ c1 _ hr4 HSM.out).mono ?_; rintro e w5 ⟨rfl, hr5, ht5⟩; rw [HDE.out, HDC.out]; have e5_0 : w5.cell? ⟨w.heap.size, 0, none⟩ = some (.int .u8 c0) := ht5.keep hne e4_0; have e5_1 : w5.cell? ⟨w.heap.size, 1, none⟩ = some (.int .u8 c1) := ht5.keep hne e4_1; have hx5 : Ext w w5 := ht5.then hx4 hb1w.size) | ((fail_if_success (have hzz := hb6)); go_at_call 19; refine (left_any w1.heap.size _ _ _ hr5).mono ?_; rintro e w6 ⟨rfl, hb6⟩; rw [HLA.out]; have e6_0 := hb6.keep e5_0; have e6_1 := hb6.keep e5_1) | ((fail_if_success (have hzz := hb7)); go_at_call 19; refine (left_any w1.heap.size _ _ _ (hr5.ext hb6)).mono ?_; rintro e w7 ⟨rfl, hb7⟩; (first | rw [HLB.out] | rw [HLB1.out _ (by decide)]); have e7_0 := hb7.keep e6_0; have e7_1 := hb7.keep e6_1))
      go_ret
      exact ⟨retb (by first | rfl | simp), (hx5.trans hb6).trans hb7⟩

end Go.Proofs.YtppoejhfemolfaaDoor

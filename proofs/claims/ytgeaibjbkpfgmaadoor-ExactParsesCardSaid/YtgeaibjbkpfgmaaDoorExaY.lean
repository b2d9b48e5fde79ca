/-
  Parse of the reference; the law ExactParses, walked.
-/
import Derived.Test.YtgeaibjbkpfgmaaDoorExaW
namespace Go.Proofs.YtgeaibjbkpfgmaaDoor
open Go.RowKit
set_option linter.unusedSimpArgs false

def rpOk (L : List UInt8) : Bool := (Lib.cut L [47]).2.2 && rdOk (cutA L) && rdOk (cutB L) && decide (txL (rdN (cutA L)) (rdN (cutB L)) = L)
def rpN (L : List UInt8) : Int := if rpOk L then rdN (cutA L) else 0
def rpD (L : List UInt8) : Int := if rpOk L then rdN (cutB L) else 0
def rpE (L : List UInt8) : Int := if rpOk L then 0 else 4
theorem dd_len : ∀ k u, u < 10 ^ (k + 1) → (Lib.decDigits u).length ≤ k + 1
  | 0, u, h => by
    have h : u < 10 := by simpa using h
    rw [Lib.decDigits, dif_pos h]; simp
  | k + 1, u, h => by
    by_cases h1 : u < 10
    · rw [Lib.decDigits, dif_pos h1]; simp
    · have := dd_len k (u / 10) (by rw [Nat.pow_succ] at h; omega)
      rw [Lib.decDigits, dif_neg h1, List.length_append, List.length_singleton]; omega
theorem dd_all (u : Nat) : (Lib.decDigits u).all isDg = true := by
  rw [List.all_eq_true]
  intro c hc
  simpa [isDg] using dig_all u c hc
theorem dd_lenOk {u : Nat} (h : u < 10 ^ 18) : lenOk (Lib.decDigits u) = true := by
  have h1 := dd_len 17 u h
  have h2 := Lib.nDigits_pos u
  rw [← Lib.decDigits_length] at h2
  simp [lenOk]; omega
theorem rd_itoa {n : Int} (h : -2147483648 ≤ n) (h' : n ≤ 2147483648) : rdN (Lib.itoa n) = n ∧ rdOk (Lib.itoa n) = true := by
  rcases Int.lt_or_le n 0 with hn | hn
  · obtain ⟨m, hm⟩ : ∃ m : Nat, n = -(m : Int) := ⟨n.natAbs, by omega⟩
    subst hm
    have hi := Lib.itoa_neg m (by omega)
    have g1 : rdNeg (Lib.itoa (-(m : Int))) = true := by rw [hi]; rfl
    have g2 : rdD (Lib.itoa (-(m : Int))) = Lib.decDigits m := by rw [rdD, g1, hi]; rfl
    have g3 : rdDk (Lib.itoa (-(m : Int))) = true := by rw [rdDk, g2, dd_lenOk (by omega), dd_all]; rfl
    have g4 : rdV (Lib.itoa (-(m : Int))) = -(m : Int) := by rw [rdV, g1, g2, dval_dd]; rfl
    exact ⟨by rw [rdN, g3, g4]; rfl, by rw [rdOk, g3, g4]; simp⟩
  · obtain ⟨m, rfl⟩ := Int.eq_ofNat_of_zero_le hn
    have hi := Lib.itoa_nonneg m
    have g1 : rdNeg (Lib.itoa (m : Int)) = false := by
      rw [hi, rdNeg]
      have hd := dig_all m
      have hne := dig_ne m
      generalize Lib.decDigits m = l at *
      cases l with
      | nil => exact absurd rfl hne
      | cons c r =>
        have hc := hd c (by simp)
        simp only [List.headD_cons, beq_eq_false_iff_ne]
        rintro rfl
        exact absurd hc (by decide)
    have g2 : rdD (Lib.itoa (m : Int)) = Lib.decDigits m := by rw [rdD, g1, hi]; rfl
    have g3 : rdDk (Lib.itoa (m : Int)) = true := by rw [rdDk, g2, dd_lenOk (by omega), dd_all]; rfl
    have g4 : rdV (Lib.itoa (m : Int)) = (m : Int) := by rw [rdV, g1, g2, dval_dd]; rfl
    exact ⟨by rw [rdN, g3, g4]; rfl, by rw [rdOk, g3, g4]; simp⟩
theorem tx_two {x y : Int} (h : validB x y = true) : (Lib.cut (txL x y) [47]).2.2 = true := by
  have e : txL x y = Lib.itoa x ++ 47 :: Lib.itoa y := by simp [txL, h]
  have hc := cut_at (Lib.itoa x) (Lib.itoa y) 47 (fun c hc => by
    rcases itoa_bytes x c hc with rfl | h1
    · decide
    · rintro rfl
      exact absurd h1 (by decide))
  rw [e, hc]
theorem rp_tx {x y : Int} (h : validB x y = true) : rpOk (txL x y) = true ∧ rdN (cutA (txL x y)) = x ∧ rdN (cutB (txL x y)) = y := by
  obtain ⟨p1, p2, p3, p4, p5⟩ := valid_parts h
  obtain ⟨c1, c2⟩ := tx_cut h
  obtain ⟨n1, n2⟩ := rd_itoa (n := x) (by omega) (by omega)
  obtain ⟨m1, m2⟩ := rd_itoa (n := y) (by omega) (by omega)
  refine ⟨?_, by rw [c1, n1], by rw [c2, m1]⟩
  simp only [rpOk, tx_two h, c1, c2, n1, n2, m1, m2, Bool.and_self, decide_true]
theorem rp_pr (L : List UInt8) : rpN L = prN L ∧ rpD L = prD L ∧ rpE L = prE L := by
  have fin : ∀ x y : Int, validB x y = true → txL x y = L → rpN L = prN L ∧ rpD L = prD L ∧ rpE L = prE L := fun x y hv e => by
    subst e
    obtain ⟨a1, a2, a3⟩ := pr_tx hv
    obtain ⟨b1, b2, b3⟩ := rp_tx hv
    rw [rpN, rpD, rpE, b1, b2, b3, a1, a2, a3]
    exact ⟨rfl, rfl, rfl⟩
  cases h1 : rpOk L
  · cases h2 : prOk L
    · rw [rpN, rpD, rpE, prN, prD, prE, h1, h2]; exact ⟨rfl, rfl, rfl⟩
    · simp only [prOk, Bool.and_eq_true, decide_eq_true_eq] at h2
      exact fin _ _ h2.1.2 h2.2
  · have h3 := h1
    simp only [rpOk, Bool.and_eq_true, decide_eq_true_eq] at h3
    have hv : validB (rdN (cutA L)) (rdN (cutB L)) = true := by
      cases hv : validB (rdN (cutA L)) (rdN (cutB L))
      · have e : L = [] := by rw [← h3.2, txL, hv]; rfl
        rw [e] at h3
        have : (Lib.cut ([] : List UInt8) [47]).2.2 = false := by decide +kernel
        rw [this] at h3
        exact absurd h3.1.1.1 (by decide)
      · rfl
    exact fin _ _ hv h3.2

set_option maxHeartbeats 8000000 in
theorem rparse_any (L : List UInt8) (hL : L.length ≤ 1000000) (w : World) :
    Calls Tryd.prog 46 #[.string ⟨L.toArray⟩] w fun e w' => e = .returned (.tuple #[.agg #[.int .i64 (rpN L), .int .i64 (rpD L)], .int .i64 (rpE L)]) ∧ Ext w w' := by
  obtain ⟨c1, c2⟩ := cut_len L
  cases ha : rdOk (cutA L) <;> cases hb : rdOk (cutB L)
  all_goals
    have XA := Lib.hid ha
    have XB := Lib.hid hb
  iterate 3
    · have HP : Hid (rpOk L = false) := by simp only [Hid, rpOk, ha, hb, Bool.and_false, Bool.false_and]
      clear ha hb
      cases h2 : (Lib.cut L [47]).2.2
      all_goals
        have X2 := Lib.hid h2
        clear h2
        go_enter Tryd.func46, Tryd.ntmps46
        go_wp2_with (first | ((fail_if_success (have hzz := hb1)); go_at_call 56; refine (rcut_any _ (by omega) _).mono ?_; rintro e w1 ⟨rfl, hb1⟩; (try rw [X2.out]); obtain ⟨hc1, hf1⟩ := hb1.cells; (try (have l1_0 : w.heap.size < w1.heap.size := hb1.lt (by first | (simp; done) | (simp; omega) | (simp [go_sem]; done) | (simp [go_sem]; omega) | omega))); (try (have m1_0 : w.heap.size ≤ w1.heap.size := Nat.le_of_lt l1_0))) | ((fail_if_success (have hzz := hb2)); go_at_call 57; refine (rread_any _ (by omega) _).mono ?_; rintro e w2 ⟨rfl, hb2⟩; obtain ⟨hc2, hf2⟩ := hb2.cells; (try (have l2_0 : w.heap.size < w2.heap.size := hb2.lt (by first | (simp; done) | (simp; omega) | (simp [go_sem]; done) | (simp [go_sem]; omega) | omega))); (try (have m2_0 : w.heap.size ≤ w2.heap.size := Nat.le_of_lt l2_0)); rw [XA.out]) | ((fail_if_success (have hzz := hb3)); go_at_call 57; refine (rread_any _ (by omega) _).mono ?_; rintro e w3 ⟨rfl, hb3⟩; obtain ⟨hc3, hf3⟩ := hb3.cells; (try (have l3_0 : w.heap.size < w3.heap.size := hb3.lt (by first | (simp; done) | (simp; omega) | (simp [go_sem]; done) | (simp [go_sem]; omega) | omega))); (try (have m3_0 : w.heap.size ≤ w3.heap.size := Nat.le_of_lt l3_0)); (try rw [XB.out])) | ((fail_if_success (have hzz := hb4)); go_at_call 44; refine (rtext_any _ _  _).mono ?_; rintro e w4 ⟨rfl, hb4⟩; obtain ⟨hc4, hf4⟩ := hb4.cells; (try (have l4_0 : w.heap.size < w4.heap.size := hb4.lt (by first | (simp; done) | (simp; omega) | (simp [go_sem]; done) | (simp [go_sem]; omega) | omega))); (try (have m4_0 : w.heap.size ≤ w4.heap.size := Nat.le_of_lt l4_0)); (try (have l4_1 : w3.heap.size < w4.heap.size := hb4.lt (by first | (simp; done) | (simp; omega) | (simp [go_sem]; done) | (simp [go_sem]; omega) | omega))); (try (have m4_1 : w3.heap.size ≤ w4.heap.size := Nat.le_of_lt l4_1)); (have q4_0_0 : w4.cell? ⟨w.heap.size, 0, none⟩ = some (.int .i64 0) := hb4.keep (by first | assumption | (simp [go_sem, *]; done))); (have q4_0_1 : w4.cell? ⟨w.heap.size, 1, none⟩ = some (.int .i64 0) := hb4.keep (by first | assumption | (simp [go_sem, *]; done))); (have q4_1_0 : w4.cell? ⟨w3.heap.size, 0, none⟩ = some (.int .i64 (rdN (cutA L))) := hb4.keep (by first | assumption | (simp [go_sem, *]; done))); (have q4_1_1 : w4.cell? ⟨w3.heap.size, 1, none⟩ = some (.int .i64 (rdN (cutB L))) := hb4.keep (by first | assumption | (simp [go_sem, *]; done))); (have r4_0_0 : w4.frozen? ⟨w.heap.size, 0, none⟩ = false := (hf4 _ _ (by first | (simp; done) | (simp; omega) | (simp [go_sem]; done) | (simp [go_sem]; omega) | omega)).trans (by first | assumption | (simp [go_sem, *]; done))); (have r4_0_1 : w4.frozen? ⟨w.heap.size, 1, none⟩ = false := (hf4 _ _ (by first | (simp; done) | (simp; omega) | (simp [go_sem]; done) | (simp [go_sem]; omega) | omega)).trans (by first | assumption | (simp [go_sem, *]; done))); (have r4_1_0 : w4.frozen? ⟨w3.heap.size, 0, none⟩ = false := (hf4 _ _ (by first | (simp; done) | (simp; omega) | (simp [go_sem]; done) | (simp [go_sem]; omega) | omega)).trans (by first | assumption | (simp [go_sem, *]; done))); (have r4_1_1 : w4.frozen? ⟨w3.heap.size, 1, none⟩ = false := (hf4 _ _ (by first | (simp; done) | (simp; omega) | (simp [go_sem]; done) | (simp [go_sem]; omega) | omega)).trans (by first | assumption | (simp [go_sem, *]; done))); clear hc4 hf4; rw [XT.out]))
        refine bodyPost_ret (v := .tuple #[.agg #[.int .i64 0, .int .i64 0], .int .i64 4]) (by simp [results, Tryd.results46, go_sem, *]) rfl ?_
        exact ⟨by rw [rpN, rpD, rpE, HP.out]; rfl, (by repeat (first | exact Ext.refl _ | refine Ext.setCell ?_ (by first | exact Nat.le_refl _ | (simp; done) | (simp; omega)) _ | refine Ext.drew ?_ | refine Ext.drewN ?_ _ | refine Ext.alloc ?_ _ | refine Ext.trans ?_ hb4 | refine Ext.trans ?_ hb3 | refine Ext.trans ?_ hb2 | refine Ext.trans ?_ hb1))⟩
  · cases h2 : (Lib.cut L [47]).2.2
    · have HP : Hid (rpOk L = false) := by simp only [Hid, rpOk, h2, Bool.false_and]
      have X2 := Lib.hid h2
      clear ha hb h2
      go_enter Tryd.func46, Tryd.ntmps46
      go_wp2_with (first | ((fail_if_success (have hzz := hb1)); go_at_call 56; refine (rcut_any _ (by omega) _).mono ?_; rintro e w1 ⟨rfl, hb1⟩; (try rw [X2.out]); obtain ⟨hc1, hf1⟩ := hb1.cells; (try (have l1_0 : w.heap.size < w1.heap.size := hb1.lt (by first | (simp; done) | (simp; omega) | (simp [go_sem]; done) | (simp [go_sem]; omega) | omega))); (try (have m1_0 : w.heap.size ≤ w1.heap.size := Nat.le_of_lt l1_0))) | ((fail_if_success (have hzz := hb2)); go_at_call 57; refine (rread_any _ (by omega) _).mono ?_; rintro e w2 ⟨rfl, hb2⟩; obtain ⟨hc2, hf2⟩ := hb2.cells; (try (have l2_0 : w.heap.size < w2.heap.size := hb2.lt (by first | (simp; done) | (simp; omega) | (simp [go_sem]; done) | (simp [go_sem]; omega) | omega))); (try (have m2_0 : w.heap.size ≤ w2.heap.size := Nat.le_of_lt l2_0)); rw [XA.out]) | ((fail_if_success (have hzz := hb3)); go_at_call 57; refine (rread_any _ (by omega) _).mono ?_; rintro e w3 ⟨rfl, hb3⟩; obtain ⟨hc3, hf3⟩ := hb3.cells; (try (have l3_0 : w.heap.size < w3.heap.size := hb3.lt (by first | (simp; done) | (simp; omega) | (simp [go_sem]; done) | (simp [go_sem]; omega) | omega))); (try (have m3_0 : w.heap.size ≤ w3.heap.size := Nat.le_of_lt l3_0)); (try rw [XB.out])) | ((fail_if_success (have hzz := hb4)); go_at_call 44; refine (rtext_any _ _  _).mono ?_; rintro e w4 ⟨rfl, hb4⟩; obtain ⟨hc4, hf4⟩ := hb4.cells; (try (have l4_0 : w.heap.size < w4.heap.size := hb4.lt (by first | (simp; done) | (simp; omega) | (simp [go_sem]; done) | (simp [go_sem]; omega) | omega))); (try (have m4_0 : w.heap.size ≤ w4.heap.size := Nat.le_of_lt l4_0)); (try (have l4_1 : w3.heap.size < w4.heap.size := hb4.lt (by first | (simp; done) | (simp; omega) | (simp [go_sem]; done) | (simp [go_sem]; omega) | omega))); (try (have m4_1 : w3.heap.size ≤ w4.heap.size := Nat.le_of_lt l4_1)); (have q4_0_0 : w4.cell? ⟨w.heap.size, 0, none⟩ = some (.int .i64 0) := hb4.keep (by first | assumption | (simp [go_sem, *]; done))); (have q4_0_1 : w4.cell? ⟨w.heap.size, 1, none⟩ = some (.int .i64 0) := hb4.keep (by first | assumption | (simp [go_sem, *]; done))); (have q4_1_0 : w4.cell? ⟨w3.heap.size, 0, none⟩ = some (.int .i64 (rdN (cutA L))) := hb4.keep (by first | assumption | (simp [go_sem, *]; done))); (have q4_1_1 : w4.cell? ⟨w3.heap.size, 1, none⟩ = some (.int .i64 (rdN (cutB L))) := hb4.keep (by first | assumption | (simp [go_sem, *]; done))); (have r4_0_0 : w4.frozen? ⟨w.heap.size, 0, none⟩ = false := (hf4 _ _ (by first | (simp; done) | (simp; omega) | (simp [go_sem]; done) | (simp [go_sem]; omega) | omega)).trans (by first | assumption | (simp [go_sem, *]; done))); (have r4_0_1 : w4.frozen? ⟨w.heap.size, 1, none⟩ = false := (hf4 _ _ (by first | (simp; done) | (simp; omega) | (simp [go_sem]; done) | (simp [go_sem]; omega) | omega)).trans (by first | assumption | (simp [go_sem, *]; done))); (have r4_1_0 : w4.frozen? ⟨w3.heap.size, 0, none⟩ = false := (hf4 _ _ (by first | (simp; done) | (simp; omega) | (simp [go_sem]; done) | (simp [go_sem]; omega) | omega)).trans (by first | assumption | (simp [go_sem, *]; done))); (have r4_1_1 : w4.frozen? ⟨w3.heap.size, 1, none⟩ = false := (hf4 _ _ (by first | (simp; done) | (simp; omega) | (simp [go_sem]; done) | (simp [go_sem]; omega) | omega)).trans (by first | assumption | (simp [go_sem, *]; done))); clear hc4 hf4; rw [XT.out]))
      refine bodyPost_ret (v := .tuple #[.agg #[.int .i64 0, .int .i64 0], .int .i64 4]) (by simp [results, Tryd.results46, go_sem, *]) rfl ?_
      exact ⟨by rw [rpN, rpD, rpE, HP.out]; rfl, (by repeat (first | exact Ext.refl _ | refine Ext.setCell ?_ (by first | exact Nat.le_refl _ | (simp; done) | (simp; omega)) _ | refine Ext.drew ?_ | refine Ext.drewN ?_ _ | refine Ext.alloc ?_ _ | refine Ext.trans ?_ hb4 | refine Ext.trans ?_ hb3 | refine Ext.trans ?_ hb2 | refine Ext.trans ?_ hb1))⟩
    · have X2 := Lib.hid h2
      rcases and1 (decide (txL (rdN (cutA L)) (rdN (cutB L)) = L)) with h4 | h4
      · have HP : Hid (rpOk L = false) := by simp only [Hid, rpOk, h2, ha, hb, h4, Bool.and_false]
        have hne : txL (rdN (cutA L)) (rdN (cutB L)) ≠ L := by simpa using h4
        obtain ⟨T, hT⟩ : ∃ T : List UInt8, txL (rdN (cutA L)) (rdN (cutB L)) = T := ⟨_, rfl⟩
        rw [hT] at hne
        have XT := Lib.hid hT
        have hne2 : ¬ (T = L) := hne
        have hne3 : (T == L) = false := by simpa using hne
        clear hT ha hb h2 h4
        go_enter Tryd.func46, Tryd.ntmps46
        go_wp2_with (first | ((fail_if_success (have hzz := hb1)); go_at_call 56; refine (rcut_any _ (by omega) _).mono ?_; rintro e w1 ⟨rfl, hb1⟩; (try rw [X2.out]); obtain ⟨hc1, hf1⟩ := hb1.cells; (try (have l1_0 : w.heap.size < w1.heap.size := hb1.lt (by first | (simp; done) | (simp; omega) | (simp [go_sem]; done) | (simp [go_sem]; omega) | omega))); (try (have m1_0 : w.heap.size ≤ w1.heap.size := Nat.le_of_lt l1_0))) | ((fail_if_success (have hzz := hb2)); go_at_call 57; refine (rread_any _ (by omega) _).mono ?_; rintro e w2 ⟨rfl, hb2⟩; obtain ⟨hc2, hf2⟩ := hb2.cells; (try (have l2_0 : w.heap.size < w2.heap.size := hb2.lt (by first | (simp; done) | (simp; omega) | (simp [go_sem]; done) | (simp [go_sem]; omega) | omega))); (try (have m2_0 : w.heap.size ≤ w2.heap.size := Nat.le_of_lt l2_0)); rw [XA.out]) | ((fail_if_success (have hzz := hb3)); go_at_call 57; refine (rread_any _ (by omega) _).mono ?_; rintro e w3 ⟨rfl, hb3⟩; obtain ⟨hc3, hf3⟩ := hb3.cells; (try (have l3_0 : w.heap.size < w3.heap.size := hb3.lt (by first | (simp; done) | (simp; omega) | (simp [go_sem]; done) | (simp [go_sem]; omega) | omega))); (try (have m3_0 : w.heap.size ≤ w3.heap.size := Nat.le_of_lt l3_0)); (try rw [XB.out])) | ((fail_if_success (have hzz := hb4)); go_at_call 44; refine (rtext_any _ _  _).mono ?_; rintro e w4 ⟨rfl, hb4⟩; obtain ⟨hc4, hf4⟩ := hb4.cells; (try (have l4_0 : w.heap.size < w4.heap.size := hb4.lt (by first | (simp; done) | (simp; omega) | (simp [go_sem]; done) | (simp [go_sem]; omega) | omega))); (try (have m4_0 : w.heap.size ≤ w4.heap.size := Nat.le_of_lt l4_0)); (try (have l4_1 : w3.heap.size < w4.heap.size := hb4.lt (by first | (simp; done) | (simp; omega) | (simp [go_sem]; done) | (simp [go_sem]; omega) | omega))); (try (have m4_1 : w3.heap.size ≤ w4.heap.size := Nat.le_of_lt l4_1)); (have q4_0_0 : w4.cell? ⟨w.heap.size, 0, none⟩ = some (.int .i64 0) := hb4.keep (by first | assumption | (simp [go_sem, *]; done))); (have q4_0_1 : w4.cell? ⟨w.heap.size, 1, none⟩ = some (.int .i64 0) := hb4.keep (by first | assumption | (simp [go_sem, *]; done))); (have q4_1_0 : w4.cell? ⟨w3.heap.size, 0, none⟩ = some (.int .i64 (rdN (cutA L))) := hb4.keep (by first | assumption | (simp [go_sem, *]; done))); (have q4_1_1 : w4.cell? ⟨w3.heap.size, 1, none⟩ = some (.int .i64 (rdN (cutB L))) := hb4.keep (by first | assumption | (simp [go_sem, *]; done))); (have r4_0_0 : w4.frozen? ⟨w.heap.size, 0, none⟩ = false := (hf4 _ _ (by first | (simp; done) | (simp; omega) | (simp [go_sem]; done) | (simp [go_sem]; omega) | omega)).trans (by first | assumption | (simp [go_sem, *]; done))); (have r4_0_1 : w4.frozen? ⟨w.heap.size, 1, none⟩ = false := (hf4 _ _ (by first | (simp; done) | (simp; omega) | (simp [go_sem]; done) | (simp [go_sem]; omega) | omega)).trans (by first | assumption | (simp [go_sem, *]; done))); (have r4_1_0 : w4.frozen? ⟨w3.heap.size, 0, none⟩ = false := (hf4 _ _ (by first | (simp; done) | (simp; omega) | (simp [go_sem]; done) | (simp [go_sem]; omega) | omega)).trans (by first | assumption | (simp [go_sem, *]; done))); (have r4_1_1 : w4.frozen? ⟨w3.heap.size, 1, none⟩ = false := (hf4 _ _ (by first | (simp; done) | (simp; omega) | (simp [go_sem]; done) | (simp [go_sem]; omega) | omega)).trans (by first | assumption | (simp [go_sem, *]; done))); clear hc4 hf4; rw [XT.out]))
        refine bodyPost_ret (v := .tuple #[.agg #[.int .i64 0, .int .i64 0], .int .i64 4]) (by simp [results, Tryd.results46, go_sem, *]) rfl ?_
        exact ⟨by rw [rpN, rpD, rpE, HP.out]; rfl, (by repeat (first | exact Ext.refl _ | refine Ext.setCell ?_ (by first | exact Nat.le_refl _ | (simp; done) | (simp; omega)) _ | refine Ext.drew ?_ | refine Ext.drewN ?_ _ | refine Ext.alloc ?_ _ | refine Ext.trans ?_ hb4 | refine Ext.trans ?_ hb3 | refine Ext.trans ?_ hb2 | refine Ext.trans ?_ hb1))⟩
      · have HP : Hid (rpOk L = true) := by simp only [Hid, rpOk, h2, ha, hb, h4, Bool.and_self]
        have XT : Hid (txL (rdN (cutA L)) (rdN (cutB L)) = L) := by simpa [Hid] using h4
        clear ha hb h2 h4
        go_enter Tryd.func46, Tryd.ntmps46
        go_wp2_with (first | ((fail_if_success (have hzz := hb1)); go_at_call 56; refine (rcut_any _ (by omega) _).mono ?_; rintro e w1 ⟨rfl, hb1⟩; (try rw [X2.out]); obtain ⟨hc1, hf1⟩ := hb1.cells; (try (have l1_0 : w.heap.size < w1.heap.size := hb1.lt (by first | (simp; done) | (simp; omega) | (simp [go_sem]; done) | (simp [go_sem]; omega) | omega))); (try (have m1_0 : w.heap.size ≤ w1.heap.size := Nat.le_of_lt l1_0))) | ((fail_if_success (have hzz := hb2)); go_at_call 57; refine (rread_any _ (by omega) _).mono ?_; rintro e w2 ⟨rfl, hb2⟩; obtain ⟨hc2, hf2⟩ := hb2.cells; (try (have l2_0 : w.heap.size < w2.heap.size := hb2.lt (by first | (simp; done) | (simp; omega) | (simp [go_sem]; done) | (simp [go_sem]; omega) | omega))); (try (have m2_0 : w.heap.size ≤ w2.heap.size := Nat.le_of_lt l2_0)); rw [XA.out]) | ((fail_if_success (have hzz := hb3)); go_at_call 57; refine (rread_any _ (by omega) _).mono ?_; rintro e w3 ⟨rfl, hb3⟩; obtain ⟨hc3, hf3⟩ := hb3.cells; (try (have l3_0 : w.heap.size < w3.heap.size := hb3.lt (by first | (simp; done) | (simp; omega) | (simp [go_sem]; done) | (simp [go_sem]; omega) | omega))); (try (have m3_0 : w.heap.size ≤ w3.heap.size := Nat.le_of_lt l3_0)); (try rw [XB.out])) | ((fail_if_success (have hzz := hb4)); go_at_call 44; refine (rtext_any _ _  _).mono ?_; rintro e w4 ⟨rfl, hb4⟩; obtain ⟨hc4, hf4⟩ := hb4.cells; (try (have l4_0 : w.heap.size < w4.heap.size := hb4.lt (by first | (simp; done) | (simp; omega) | (simp [go_sem]; done) | (simp [go_sem]; omega) | omega))); (try (have m4_0 : w.heap.size ≤ w4.heap.size := Nat.le_of_lt l4_0)); (try (have l4_1 : w3.heap.size < w4.heap.size := hb4.lt (by first | (simp; done) | (simp; omega) | (simp [go_sem]; done) | (simp [go_sem]; omega) | omega))); (try (have m4_1 : w3.heap.size ≤ w4.heap.size := Nat.le_of_lt l4_1)); (have q4_0_0 : w4.cell? ⟨w.heap.size, 0, none⟩ = some (.int .i64 0) := hb4.keep (by first | assumption | (simp [go_sem, *]; done))); (have q4_0_1 : w4.cell? ⟨w.heap.size, 1, none⟩ = some (.int .i64 0) := hb4.keep (by first | assumption | (simp [go_sem, *]; done))); (have q4_1_0 : w4.cell? ⟨w3.heap.size, 0, none⟩ = some (.int .i64 (rdN (cutA L))) := hb4.keep (by first | assumption | (simp [go_sem, *]; done))); (have q4_1_1 : w4.cell? ⟨w3.heap.size, 1, none⟩ = some (.int .i64 (rdN (cutB L))) := hb4.keep (by first | assumption | (simp [go_sem, *]; done))); (have r4_0_0 : w4.frozen? ⟨w.heap.size, 0, none⟩ = false := (hf4 _ _ (by first | (simp; done) | (simp; omega) | (simp [go_sem]; done) | (simp [go_sem]; omega) | omega)).trans (by first | assumption | (simp [go_sem, *]; done))); (have r4_0_1 : w4.frozen? ⟨w.heap.size, 1, none⟩ = false := (hf4 _ _ (by first | (simp; done) | (simp; omega) | (simp [go_sem]; done) | (simp [go_sem]; omega) | omega)).trans (by first | assumption | (simp [go_sem, *]; done))); (have r4_1_0 : w4.frozen? ⟨w3.heap.size, 0, none⟩ = false := (hf4 _ _ (by first | (simp; done) | (simp; omega) | (simp [go_sem]; done) | (simp [go_sem]; omega) | omega)).trans (by first | assumption | (simp [go_sem, *]; done))); (have r4_1_1 : w4.frozen? ⟨w3.heap.size, 1, none⟩ = false := (hf4 _ _ (by first | (simp; done) | (simp; omega) | (simp [go_sem]; done) | (simp [go_sem]; omega) | omega)).trans (by first | assumption | (simp [go_sem, *]; done))); clear hc4 hf4; rw [XT.out]))
        refine bodyPost_ret (v := .tuple #[.agg #[.int .i64 (rdN (cutA L)), .int .i64 (rdN (cutB L))], .int .i64 0]) (by simp [results, Tryd.results46, go_sem, *]) rfl ?_
        exact ⟨by rw [rpN, rpD, rpE, HP.out]; rfl, (by repeat (first | exact Ext.refl _ | refine Ext.setCell ?_ (by first | exact Nat.le_refl _ | (simp; done) | (simp; omega)) _ | refine Ext.drew ?_ | refine Ext.drewN ?_ _ | refine Ext.alloc ?_ _ | refine Ext.trans ?_ hb4 | refine Ext.trans ?_ hb3 | refine Ext.trans ?_ hb2 | refine Ext.trans ?_ hb1))⟩

set_option maxHeartbeats 8000000 in
theorem exactParses_list (L : List UInt8) (w : World) (hX : DX w) : Calls Tryd.prog 11 #[.string ⟨L.toArray⟩] w fun e w' => e = .returned (.bool true) ∧ Ext w w' := by
  have HX := Lib.hid hX
  clear hX
  have HP := Lib.hid (rp_pr L)
  by_cases hl : 200 < L.length
  · have hl1 : (200 : Int) < (L.length : Int) := by omega
    go_enter Tryd.func11, Tryd.ntmps11
    go_wp2_with (first | ((fail_if_success (have hzz := hb1)); go_at_call 12; refine (awake_any _ (HX.out.ext (by repeat (first | exact Ext.refl _ | refine Ext.alloc ?_ _ | refine Ext.trans ?_ hb1))).tab).mono ?_; rintro e w1 ⟨rfl, hb1⟩; obtain ⟨hc1, hf1⟩ := hb1.cells) | ((fail_if_success (have hzz := hb2)); go_at_call 45; refine (parse_any _ (by omega) _ (HX.out.ext (by repeat (first | exact Ext.refl _ | refine Ext.alloc ?_ _ | refine Ext.trans ?_ hb1)))).mono ?_; rintro e w2 ⟨rfl, hb2⟩; obtain ⟨hc2, hf2⟩ := hb2.cells) | ((fail_if_success (have hzz := hb3)); go_at_call 46; refine (rparse_any _ (by omega) _).mono ?_; rintro e w3 ⟨rfl, hb3⟩; obtain ⟨hc3, hf3⟩ := hb3.cells; (try (have l3_0 : w2.heap.size < w3.heap.size := hb3.lt (by first | (simp; done) | (simp; omega) | (simp [go_sem]; done) | (simp [go_sem]; omega) | omega))); (try (have m3_0 : w2.heap.size ≤ w3.heap.size := Nat.le_of_lt l3_0)); rw [HP.out.1, HP.out.2.1, HP.out.2.2]))
    go_ret
    exact ⟨rfl, (by repeat (first | exact Ext.refl _ | refine Ext.setCell ?_ (by first | exact Nat.le_refl _ | (simp; done) | (simp; omega)) _ | refine Ext.drew ?_ | refine Ext.drewN ?_ _ | refine Ext.alloc ?_ _ | refine Ext.trans ?_ hb3 | refine Ext.trans ?_ hb2 | refine Ext.trans ?_ hb1))⟩
  · have hl1 : ¬ ((200 : Int) < (L.length : Int)) := by omega
    go_enter Tryd.func11, Tryd.ntmps11
    go_wp2_with (first | ((fail_if_success (have hzz := hb1)); go_at_call 12; refine (awake_any _ (HX.out.ext (by repeat (first | exact Ext.refl _ | refine Ext.alloc ?_ _ | refine Ext.trans ?_ hb1))).tab).mono ?_; rintro e w1 ⟨rfl, hb1⟩; obtain ⟨hc1, hf1⟩ := hb1.cells) | ((fail_if_success (have hzz := hb2)); go_at_call 45; refine (parse_any _ (by omega) _ (HX.out.ext (by repeat (first | exact Ext.refl _ | refine Ext.alloc ?_ _ | refine Ext.trans ?_ hb1)))).mono ?_; rintro e w2 ⟨rfl, hb2⟩; obtain ⟨hc2, hf2⟩ := hb2.cells) | ((fail_if_success (have hzz := hb3)); go_at_call 46; refine (rparse_any _ (by omega) _).mono ?_; rintro e w3 ⟨rfl, hb3⟩; obtain ⟨hc3, hf3⟩ := hb3.cells; (try (have l3_0 : w2.heap.size < w3.heap.size := hb3.lt (by first | (simp; done) | (simp; omega) | (simp [go_sem]; done) | (simp [go_sem]; omega) | omega))); (try (have m3_0 : w2.heap.size ≤ w3.heap.size := Nat.le_of_lt l3_0)); rw [HP.out.1, HP.out.2.1, HP.out.2.2]))
    go_ret
    exact ⟨retb (by first | rfl | simp), (by repeat (first | exact Ext.refl _ | refine Ext.setCell ?_ (by first | exact Nat.le_refl _ | (simp; done) | (simp; omega)) _ | refine Ext.drew ?_ | refine Ext.drewN ?_ _ | refine Ext.alloc ?_ _ | refine Ext.trans ?_ hb3 | refine Ext.trans ?_ hb2 | refine Ext.trans ?_ hb1))⟩
theorem exactParses_any (s : ByteArray) (w : World) (hX : DX w) : Calls Tryd.prog 11 #[.string s] w fun e w' => e = .returned (.bool true) ∧ Ext w w' := by
  obtain ⟨⟨L⟩⟩ := s
  exact exactParses_list L w hX

end Go.Proofs.YtgeaibjbkpfgmaaDoor

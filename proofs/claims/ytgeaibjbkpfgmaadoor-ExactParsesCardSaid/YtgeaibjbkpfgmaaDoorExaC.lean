/-
  Contracts of the functions of layer 1 on numbers (program and reference), over the seat's own dump.
-/
import Derived.Test.YtgeaibjbkpfgmaaDoorExaB
namespace Go.Proofs.YtgeaibjbkpfgmaaDoor
open Go.RowKit
set_option linter.unusedSimpArgs false

/-- What the walk of Make is told of the two quotients. -/
theorem mk_parts {n d : Int} (hd : d ≠ 0) (hn1 : -9223372036854775807 ≤ n) (hn2 : n ≤ 9223372036854775807) (hd1 : -9223372036854775807 ≤ d) (hd2 : d ≤ 9223372036854775807) :
    ∃ g a b : Int, g = (gN n d : Int) ∧ 1 ≤ g ∧ g ≤ 9223372036854775807 ∧ n.tdiv g = a ∧ d.tdiv g = b ∧ -9223372036854775807 ≤ a ∧ a ≤ 9223372036854775807 ∧ -9223372036854775807 ≤ b ∧ b ≤ 9223372036854775807 ∧
      (d < 0 → b < 0 ∧ mkN n d = -a ∧ mkD n d = -b) ∧ (0 < d → 0 < b ∧ mkN n d = a ∧ mkD n d = b) := by
  have h1 := gN_pos (n := n) hd
  have h2 : gN n d ≤ d.natAbs := Nat.gcd_le_right _ (by omega)
  have ha := Int.natAbs_tdiv_le_natAbs n (gN n d : Int)
  have hb := Int.natAbs_tdiv_le_natAbs d (gN n d : Int)
  have e1 : n.tdiv (gN n d : Int) = n / (gN n d : Int) := Int.tdiv_eq_ediv_of_dvd (gN_dvd1 n d)
  have e2 : d.tdiv (gN n d : Int) = d / (gN n d : Int) := Int.tdiv_eq_ediv_of_dvd (gN_dvd2 n d)
  have hp := mkD_pos (n := n) hd
  have n1 : -n / (gN n d : Int) = -(n / (gN n d : Int)) := Int.neg_ediv_of_dvd (gN_dvd1 n d)
  have n2 : -d / (gN n d : Int) = -(d / (gN n d : Int)) := Int.neg_ediv_of_dvd (gN_dvd2 n d)
  refine ⟨_, _, _, rfl, by omega, by omega, rfl, rfl, by omega, by omega, by omega, by omega, ?_, ?_⟩
  · intro hlt
    have hD : mkD n d = -(d.tdiv (gN n d : Int)) := by rw [e2, ← n2]; unfold mkD; congr 1; omega
    have hN : mkN n d = -(n.tdiv (gN n d : Int)) := by rw [e1, ← n1]; unfold mkN; rw [if_pos hlt]
    exact ⟨by omega, hN, hD⟩
  · intro hlt
    have hD : mkD n d = d.tdiv (gN n d : Int) := by rw [e2]; unfold mkD; congr 1; omega
    have hN : mkN n d = n.tdiv (gN n d : Int) := by rw [e1]; unfold mkN; rw [if_neg (by omega)]
    exact ⟨by omega, hN, hD⟩
theorem mk_vals {n d : Int} (hd : (d == 0) = false) (hm : (n == least || d == least) = false) :
    mkV1 n d = (if decide (mkD n d ≤ 2147483648 ∧ -2147483648 ≤ mkN n d ∧ mkN n d ≤ 2147483648) then mkN n d else 0) ∧
    mkV2 n d = (if decide (mkD n d ≤ 2147483648 ∧ -2147483648 ≤ mkN n d ∧ mkN n d ≤ 2147483648) then mkD n d else 0) ∧
    mkE n d = (if decide (mkD n d ≤ 2147483648 ∧ -2147483648 ≤ mkN n d ∧ mkN n d ≤ 2147483648) then 0 else 2) := by
  unfold mkV1 mkV2 mkE mkOk
  rw [hd, hm]
  simp
theorem mk_zero {n d : Int} (hd : (d == 0) = true) : mkV1 n d = 0 ∧ mkV2 n d = 0 ∧ mkE n d = 1 := by
  simp [mkV1, mkV2, mkE, mkOk, hd]
theorem mk_least {n d : Int} (hd : (d == 0) = false) (hm : (n == least || d == least) = true) : mkV1 n d = 0 ∧ mkV2 n d = 0 ∧ mkE n d = 2 := by
  simp only [mkV1, mkV2, mkE, mkOk, hd, hm]; simp
theorem retr {a b c a' b' c' : Int} (h1 : a = a') (h2 : b = b') (h3 : c = c') : Ending.returned (.tuple #[.agg #[.int .i64 a, .int .i64 b], .int .i64 c]) = .returned (.tuple #[.agg #[.int .i64 a', .int .i64 b'], .int .i64 c']) := by rw [h1, h2, h3]

set_option maxHeartbeats 2000000 in
theorem make_any (n d : Int) (hn : -9223372036854775808 ≤ n) (hn' : n ≤ 9223372036854775807) (hd : -9223372036854775808 ≤ d) (hd' : d ≤ 9223372036854775807) (w : World) :
    Calls Tryd.prog 13 #[.int .i64 n, .int .i64 d] w fun e w' => e = .returned (.tuple #[.agg #[.int .i64 (mkV1 n d), .int .i64 (mkV2 n d)], .int .i64 (mkE n d)]) ∧ Ext w w' := by
  rcases and1 (d == 0) with h1 | h1
  · rcases and1 (n == least || d == least) with h2 | h2
    · obtain ⟨HV1, HV2, HV3⟩ := mk_vals h1 h2
      replace HV1 := Lib.hid HV1
      replace HV2 := Lib.hid HV2
      replace HV3 := Lib.hid HV3
      have HG : Hid (gcdv n d = (gN n d : Int)) := gcdv_gcd h2
      simp only [Bool.or_eq_false_iff] at h2
      obtain ⟨h3, h4⟩ := h2
      rw [eq_least] at h3 h4
      have n1 : -9223372036854775807 ≤ n := by simp at h3; omega
      have d1 : -9223372036854775807 ≤ d := by simp at h4; omega
      have d0 : d ≠ 0 := by simpa using h1
      obtain ⟨g, a, b, hg, hg1, hg2, ha, hb, ha1, ha2, hb1, hb2, hneg, hpos⟩ := mk_parts d0 n1 hn' d1 hd'
      rw [← hg] at HG
      clear hg
      have gz : (g == 0) = false := by simp; omega
      by_cases hs : d < 0
      · obtain ⟨hb0, hN, hD⟩ := hneg hs
        have HN := Lib.hid hN
        have HD := Lib.hid hD
        clear hN hD hneg hpos d0
        go_enter Tryd.func13, Tryd.ntmps13
        go_wp2_with (go_at_call 15; refine (gcd_any _ _ (by omega) (by omega) (by omega) (by omega) _).mono ?_; rintro e w1 ⟨rfl, hx1⟩; rw [HG.out]; obtain ⟨hc1, hf1⟩ := hx1.cells; have l1 : w.heap.size < w1.heap.size := hx1.lt (by simp))
        go_region
        go_wp2_with (go_at_call 47; refine (size_any _ (by omega) (by omega) _).mono ?_; rintro e w2 ⟨rfl, rfl⟩)
        all_goals
          first
            | (refine bodyPost_ret (v := .tuple #[.agg #[.int .i64 (-a), .int .i64 (-b)], .int .i64 0]) (by simp [results, Tryd.results13, go_sem, *]) rfl ?_
               exact ⟨retr (by rw [HV1.out, HN.out, HD.out, if_pos (decide_eq_true (by omega))]) (by rw [HV2.out, HN.out, HD.out, if_pos (decide_eq_true (by omega))]) (by rw [HV3.out, HN.out, HD.out, if_pos (decide_eq_true (by omega))]), (by repeat (first | exact ((Ext.refl _).alloc _).trans hx1 | refine Ext.setCell ?_ (Nat.le_refl _) _ | refine Ext.drew ?_ | refine Ext.alloc ?_ _))⟩)
            | (refine bodyPost_ret (v := .tuple #[.agg #[.int .i64 0, .int .i64 0], .int .i64 2]) (by simp [results, Tryd.results13, go_sem, *]) rfl ?_
               exact ⟨retr (by rw [HV1.out, HN.out, HD.out, if_neg (by rw [decide_eq_true_eq]; omega)]) (by rw [HV2.out, HN.out, HD.out, if_neg (by rw [decide_eq_true_eq]; omega)]) (by rw [HV3.out, HN.out, HD.out, if_neg (by rw [decide_eq_true_eq]; omega)]), (by repeat (first | exact ((Ext.refl _).alloc _).trans hx1 | refine Ext.setCell ?_ (Nat.le_refl _) _ | refine Ext.drew ?_ | refine Ext.alloc ?_ _))⟩)
      · obtain ⟨hb0, hN, hD⟩ := hpos (by omega)
        have HN := Lib.hid hN
        have HD := Lib.hid hD
        clear hN hD hneg hpos
        go_enter Tryd.func13, Tryd.ntmps13
        go_wp2_with (go_at_call 15; refine (gcd_any _ _ (by omega) (by omega) (by omega) (by omega) _).mono ?_; rintro e w1 ⟨rfl, hx1⟩; rw [HG.out]; obtain ⟨hc1, hf1⟩ := hx1.cells; have l1 : w.heap.size < w1.heap.size := hx1.lt (by simp))
        go_region
        go_wp2_with (go_at_call 47; refine (size_any _ (by omega) (by omega) _).mono ?_; rintro e w2 ⟨rfl, rfl⟩)
        all_goals
          first
            | (refine bodyPost_ret (v := .tuple #[.agg #[.int .i64 a, .int .i64 b], .int .i64 0]) (by simp [results, Tryd.results13, go_sem, *]) rfl ?_
               exact ⟨retr (by rw [HV1.out, HN.out, HD.out, if_pos (decide_eq_true (by omega))]) (by rw [HV2.out, HN.out, HD.out, if_pos (decide_eq_true (by omega))]) (by rw [HV3.out, HN.out, HD.out, if_pos (decide_eq_true (by omega))]), (by repeat (first | exact ((Ext.refl _).alloc _).trans hx1 | refine Ext.setCell ?_ (Nat.le_refl _) _ | refine Ext.drew ?_ | refine Ext.alloc ?_ _))⟩)
            | (refine bodyPost_ret (v := .tuple #[.agg #[.int .i64 0, .int .i64 0], .int .i64 2]) (by simp [results, Tryd.results13, go_sem, *]) rfl ?_
               exact ⟨retr (by rw [HV1.out, HN.out, HD.out, if_neg (by rw [decide_eq_true_eq]; omega)]) (by rw [HV2.out, HN.out, HD.out, if_neg (by rw [decide_eq_true_eq]; omega)]) (by rw [HV3.out, HN.out, HD.out, if_neg (by rw [decide_eq_true_eq]; omega)]), (by repeat (first | exact ((Ext.refl _).alloc _).trans hx1 | refine Ext.setCell ?_ (Nat.le_refl _) _ | refine Ext.drew ?_ | refine Ext.alloc ?_ _))⟩)
    · have HV := Lib.hid (mk_least h1 h2)
      have hc : (n == -9223372036854775808) = true ∨ ((n == -9223372036854775808) = false ∧ (d == -9223372036854775808) = true) := by
        rw [eq_least, eq_least] at h2
        cases h4 : (n == -9223372036854775808) <;> simp_all
      clear h2
      rcases hc with h2 | ⟨h2, h3⟩
      all_goals
        go_enter Tryd.func13, Tryd.ntmps13
        go_wp2
        refine bodyPost_ret (v := .tuple #[.agg #[.int .i64 0, .int .i64 0], .int .i64 2]) (by simp [results, Tryd.results13, go_sem, *]) rfl ?_
        exact ⟨retr HV.out.1.symm HV.out.2.1.symm HV.out.2.2.symm, (by repeat (first | exact Ext.refl _ | refine Ext.setCell ?_ (Nat.le_refl _) _ | refine Ext.alloc ?_ _))⟩
  · have HV := Lib.hid (mk_zero (n := n) h1)
    go_enter Tryd.func13, Tryd.ntmps13
    go_wp2
    refine bodyPost_ret (v := .tuple #[.agg #[.int .i64 0, .int .i64 0], .int .i64 1]) (by simp [results, Tryd.results13, go_sem, *]) rfl ?_
    exact ⟨retr HV.out.1.symm HV.out.2.1.symm HV.out.2.2.symm, (by repeat (first | exact Ext.refl _ | refine Ext.setCell ?_ (Nat.le_refl _) _ | refine Ext.alloc ?_ _))⟩

theorem gcdv_neg {n d : Int} (h3 : (n == -9223372036854775808) = false) (h4 : (d == -9223372036854775808) = false) (hn : n ≤ 9223372036854775807) (hd : d ≤ 9223372036854775807) : gcdv (-n) (-d) = gcdv n d := by
  have h1 : n ≠ -9223372036854775808 := by simpa using h3
  have h2 : d ≠ -9223372036854775808 := by simpa using h4
  have e1 : gcdv n d = (gN n d : Int) := gcdv_gcd (by simp [least, h1, h2])
  have e2 : gcdv (-n) (-d) = (gN (-n) (-d) : Int) := gcdv_gcd (by simp [least]; omega)
  rw [e1, e2, gN_neg]
theorem valid_mk {n d : Int} (hd : d ≠ 0) (hn1 : -9223372036854775807 ≤ n) (hn2 : n ≤ 9223372036854775807) :
    validB (mkN n d) (mkD n d) = decide (mkD n d ≤ 2147483648 ∧ -2147483648 ≤ mkN n d ∧ mkN n d ≤ 2147483648) := by
  have hp := mkD_pos (n := n) hd
  have h1 := mkD_le (n := n) hd
  have h2 := mkN_abs (n := n) hd
  have hg : gcdv (mkN n d) (mkD n d) = 1 := by
    rw [gcdv_gcd (by simp [least]; omega), mk_cop hd]; rfl
  simp [validB, rB, hg, hp]

set_option maxHeartbeats 2000000 in
theorem rmake_any (n d : Int) (hn : -9223372036854775808 ≤ n) (hn' : n ≤ 9223372036854775807) (hd : -9223372036854775808 ≤ d) (hd' : d ≤ 9223372036854775807) (w : World) :
    Calls Tryd.prog 14 #[.int .i64 n, .int .i64 d] w fun e w' => e = .returned (.tuple #[.agg #[.int .i64 (mkV1 n d), .int .i64 (mkV2 n d)], .int .i64 (mkE n d)]) ∧ Ext w w' := by
  rcases and1 (d == 0) with h1 | h1
  · rcases and1 (n == least || d == least) with h2 | h2
    · obtain ⟨HV1, HV2, HV3⟩ := mk_vals h1 h2
      replace HV1 := Lib.hid HV1
      replace HV2 := Lib.hid HV2
      replace HV3 := Lib.hid HV3
      have HG : Hid (gcdv n d = (gN n d : Int)) := gcdv_gcd h2
      simp only [Bool.or_eq_false_iff] at h2
      obtain ⟨h3, h4⟩ := h2
      rw [eq_least] at h3 h4
      have n1 : -9223372036854775807 ≤ n := by simp at h3; omega
      have d1 : -9223372036854775807 ≤ d := by simp at h4; omega
      have d0 : d ≠ 0 := by simpa using h1
      have HW := valid_mk d0 n1 hn'
      obtain ⟨g, a, b, hg, hg1, hg2, ha, hb, ha1, ha2, hb1, hb2, hneg, hpos⟩ := mk_parts d0 n1 hn' d1 hd'
      rw [← hg] at HG
      clear hg
      have gz : (g == 0) = false := by simp; omega
      by_cases hs : d < 0
      · obtain ⟨hb0, hN, hD⟩ := hneg hs
        have HN := Lib.hid hN
        have HD := Lib.hid hD
        have HG2 : Hid (gcdv (-n) (-d) = g) := by rw [← HG.out]; exact gcdv_neg h3 h4 hn' hd'
        have ha' : (-n).tdiv g = -a := by rw [Int.neg_tdiv, ha]
        have hb' : (-d).tdiv g = -b := by rw [Int.neg_tdiv, hb]
        rw [hN, hD] at HW
        rcases and1 (decide (-b ≤ 2147483648 ∧ -2147483648 ≤ -a ∧ -a ≤ 2147483648)) with hk | hk
        all_goals
          have HK := Lib.hid hk
          rw [hk] at HW
          replace HW := Lib.hid HW
          clear hN hD hneg hpos hk d0 ha hb
          go_enter Tryd.func14, Tryd.ntmps14
          go_wp2_with (go_at_call 16; refine (rgcd_any _ _ (by omega) (by omega) (by omega) (by omega) _).mono ?_; rintro e w1 ⟨rfl, hx1⟩; rw [HG2.out]; obtain ⟨hc1, hf1⟩ := hx1.cells; have l1 : w.heap.size < w1.heap.size := hx1.lt (by simp))
          go_region
          go_wp2_with (go_at_call 18; refine (rvalid_any _ _ _).mono ?_; rintro e w2 ⟨rfl, hx2⟩; rw [HW.out]; have hx3 := hx1.trans (Ext.trans (by repeat (first | exact Ext.refl _ | refine Ext.setCell ?_ (Nat.le_refl _) _ | refine Ext.drew ?_ | refine Ext.alloc ?_ _)) hx2); obtain ⟨hc3, hf3⟩ := hx3.cells; obtain ⟨hc2, hf2⟩ := hx2.cells; have l2 : w.heap.size < w2.heap.size := hx2.lt (by simp; omega); have l3 : w1.heap.size < w2.heap.size := hx2.lt (by simp))
          first
            | (refine bodyPost_ret (v := .tuple #[.agg #[.int .i64 (-a), .int .i64 (-b)], .int .i64 0]) (by simp [results, Tryd.results14, go_sem, *]) rfl ?_
               exact ⟨retr (by rw [HV1.out, HN.out, HD.out, HK.out]; rfl) (by rw [HV2.out, HN.out, HD.out, HK.out]; rfl) (by rw [HV3.out, HN.out, HD.out, HK.out]; rfl), (by repeat (first | exact ((Ext.refl _).alloc _).trans hx1 | refine Ext.trans ?_ hx2 | refine Ext.setCell ?_ (Nat.le_refl _) _ | refine Ext.setCell ?_ (Nat.le_of_lt l1) _ | refine Ext.drew ?_ | refine Ext.alloc ?_ _))⟩)
            | (refine bodyPost_ret (v := .tuple #[.agg #[.int .i64 0, .int .i64 0], .int .i64 2]) (by simp [results, Tryd.results14, go_sem, *]) rfl ?_
               exact ⟨retr (by rw [HV1.out, HN.out, HD.out, HK.out]; rfl) (by rw [HV2.out, HN.out, HD.out, HK.out]; rfl) (by rw [HV3.out, HN.out, HD.out, HK.out]; rfl), (by repeat (first | exact ((Ext.refl _).alloc _).trans hx1 | refine Ext.trans ?_ hx2 | refine Ext.setCell ?_ (Nat.le_refl _) _ | refine Ext.setCell ?_ (Nat.le_of_lt l1) _ | refine Ext.drew ?_ | refine Ext.alloc ?_ _))⟩)

      · obtain ⟨hb0, hN, hD⟩ := hpos (by omega)
        have HN := Lib.hid hN
        have HD := Lib.hid hD
        have HG2 : Hid (gcdv n d = g) := HG
        have ha' := ha
        have hb' := hb
        rw [hN, hD] at HW
        rcases and1 (decide (b ≤ 2147483648 ∧ -2147483648 ≤ a ∧ a ≤ 2147483648)) with hk | hk
        all_goals
          have HK := Lib.hid hk
          rw [hk] at HW
          replace HW := Lib.hid HW
          clear hN hD hneg hpos hk d0 ha hb
          go_enter Tryd.func14, Tryd.ntmps14
          go_wp2_with (go_at_call 16; refine (rgcd_any _ _ (by omega) (by omega) (by omega) (by omega) _).mono ?_; rintro e w1 ⟨rfl, hx1⟩; rw [HG2.out]; obtain ⟨hc1, hf1⟩ := hx1.cells; have l1 : w.heap.size < w1.heap.size := hx1.lt (by simp))
          go_region
          go_wp2_with (go_at_call 18; refine (rvalid_any _ _ _).mono ?_; rintro e w2 ⟨rfl, hx2⟩; rw [HW.out]; have hx3 := hx1.trans (Ext.trans (by repeat (first | exact Ext.refl _ | refine Ext.setCell ?_ (Nat.le_refl _) _ | refine Ext.drew ?_ | refine Ext.alloc ?_ _)) hx2); obtain ⟨hc3, hf3⟩ := hx3.cells; obtain ⟨hc2, hf2⟩ := hx2.cells; have l2 : w.heap.size < w2.heap.size := hx2.lt (by simp; omega); have l3 : w1.heap.size < w2.heap.size := hx2.lt (by simp))
          first
            | (refine bodyPost_ret (v := .tuple #[.agg #[.int .i64 (a), .int .i64 (b)], .int .i64 0]) (by simp [results, Tryd.results14, go_sem, *]) rfl ?_
               exact ⟨retr (by rw [HV1.out, HN.out, HD.out, HK.out]; rfl) (by rw [HV2.out, HN.out, HD.out, HK.out]; rfl) (by rw [HV3.out, HN.out, HD.out, HK.out]; rfl), (by repeat (first | exact ((Ext.refl _).alloc _).trans hx1 | refine Ext.trans ?_ hx2 | refine Ext.setCell ?_ (Nat.le_refl _) _ | refine Ext.setCell ?_ (Nat.le_of_lt l1) _ | refine Ext.drew ?_ | refine Ext.alloc ?_ _))⟩)
            | (refine bodyPost_ret (v := .tuple #[.agg #[.int .i64 0, .int .i64 0], .int .i64 2]) (by simp [results, Tryd.results14, go_sem, *]) rfl ?_
               exact ⟨retr (by rw [HV1.out, HN.out, HD.out, HK.out]; rfl) (by rw [HV2.out, HN.out, HD.out, HK.out]; rfl) (by rw [HV3.out, HN.out, HD.out, HK.out]; rfl), (by repeat (first | exact ((Ext.refl _).alloc _).trans hx1 | refine Ext.trans ?_ hx2 | refine Ext.setCell ?_ (Nat.le_refl _) _ | refine Ext.setCell ?_ (Nat.le_of_lt l1) _ | refine Ext.drew ?_ | refine Ext.alloc ?_ _))⟩)

    · have HV := Lib.hid (mk_least h1 h2)
      have hc : (n == -9223372036854775808) = true ∨ ((n == -9223372036854775808) = false ∧ (d == -9223372036854775808) = true) := by
        rw [eq_least, eq_least] at h2
        cases h4 : (n == -9223372036854775808) <;> simp_all
      clear h2
      rcases hc with h2 | ⟨h2, h3⟩
      all_goals
        go_enter Tryd.func14, Tryd.ntmps14
        go_wp2
        refine bodyPost_ret (v := .tuple #[.agg #[.int .i64 0, .int .i64 0], .int .i64 2]) (by simp [results, Tryd.results14, go_sem, *]) rfl ?_
        exact ⟨retr HV.out.1.symm HV.out.2.1.symm HV.out.2.2.symm, (by repeat (first | exact Ext.refl _ | refine Ext.setCell ?_ (Nat.le_refl _) _ | refine Ext.alloc ?_ _))⟩
  · have HV := Lib.hid (mk_zero (n := n) h1)
    go_enter Tryd.func14, Tryd.ntmps14
    go_wp2
    refine bodyPost_ret (v := .tuple #[.agg #[.int .i64 0, .int .i64 0], .int .i64 1]) (by simp [results, Tryd.results14, go_sem, *]) rfl ?_
    exact ⟨retr HV.out.1.symm HV.out.2.1.symm HV.out.2.2.symm, (by repeat (first | exact Ext.refl _ | refine Ext.setCell ?_ (Nat.le_refl _) _ | refine Ext.alloc ?_ _))⟩

end Go.Proofs.YtgeaibjbkpfgmaaDoor

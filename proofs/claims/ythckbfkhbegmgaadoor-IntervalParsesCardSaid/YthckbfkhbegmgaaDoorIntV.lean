/-
  Weak contracts of the reference of layer 2 (layer 29's Parse): any wide numbers; exact where the value fits.
-/
import Derived.Test.YthckbfkhbegmgaaDoorIntR
import Derived.Test.YthckbfkhbegmgaaDoorIntN
namespace Go.Proofs.YthckbfkhbegmgaaDoor
open Go.RowKit
set_option linter.unusedSimpArgs false

/-- A wide number: two parts in their ranges. -/
structure WW (hi lo : Int) : Prop where
  a1 : -9223372036854775808 ≤ hi
  a2 : hi ≤ 9223372036854775807
  b1 : 0 ≤ lo
  b2 : lo ≤ 18446744073709551615
theorem ww0 : WW 0 0 := ⟨by omega, by omega, by omega, by omega⟩
theorem decb (p : Prop) [Decidable p] : decide p = true ∨ decide p = false := by cases decide p <;> simp

set_option maxHeartbeats 4000000 in
theorem r2subw_any (h l h' l' : Int) (wa : WW h l) (wb : WW h' l') (w : World) :
    Calls Tryd.prog 37 #[.agg #[.int .i64 h, .int .u64 l], .agg #[.int .i64 h', .int .u64 l']] w fun e w' =>
      ∃ (x y : Int) (k : Bool), e = .returned (.tuple #[.agg #[.int .i64 x, .int .u64 y], .bool k]) ∧ WW x y ∧ (-170141183460469231731687303715884105728 ≤ vI h l - vI h' l' → vI h l - vI h' l' < 170141183460469231731687303715884105728 → k = true ∧ vI x y = vI h l - vI h' l') ∧ Ext w w' := by
  obtain ⟨a1, a2, b1, b2⟩ := wa
  obtain ⟨c1, c2, d1, d2⟩ := wb
  obtain ⟨U, hU⟩ : ∃ U : Int, IntKind.u64.wrap h = U := ⟨_, rfl⟩
  obtain ⟨V, hV⟩ : ∃ V : Int, IntKind.u64.wrap h' = V := ⟨_, rfl⟩
  obtain ⟨X, hX⟩ : ∃ X : Int, IntKind.u64.wrap (U - V) = X := ⟨_, rfl⟩
  obtain ⟨Y, hY⟩ : ∃ Y : Int, IntKind.u64.wrap (X - 1) = Y := ⟨_, rfl⟩
  obtain ⟨Z, hZ⟩ : ∃ Z : Int, IntKind.u64.wrap (l - l') = Z := ⟨_, rfl⟩
  obtain ⟨P, hP⟩ : ∃ P : Int, wrap64 X = P := ⟨_, rfl⟩
  obtain ⟨R, hR⟩ : ∃ R : Int, wrap64 Y = R := ⟨_, rfl⟩
  have hU' := hU; have hV' := hV; have hX' := hX; have hY' := hY; have hZ' := hZ; have hP' := hP; have hR' := hR
  rw [IntKind.wrap_u64] at hU' hV' hX' hY' hZ'
  rw [wrap64_eq, IntKind.wrap_i64] at hP' hR'
  rcases decb (l < l') with q1 | q1
  · have HA : Hid (WW R Z ∧ (-170141183460469231731687303715884105728 ≤ vI h l - vI h' l' → vI h l - vI h' l' < 170141183460469231731687303715884105728 → vI R Z = vI h l - vI h' l')) := by
      have := of_decide_eq_true q1
      refine ⟨⟨by omega, by omega, by omega, by omega⟩, ?_⟩
      unfold vI; omega
    have HB : (decide (h < 0) != decide (h' < 0)) = true → (decide (R < 0) != decide (h < 0)) = true → ¬ (-170141183460469231731687303715884105728 ≤ vI h l - vI h' l' ∧ vI h l - vI h' l' < 170141183460469231731687303715884105728) := by
      have := of_decide_eq_true q1
      intro e1 e2
      unfold vI
      by_cases g1 : h < 0 <;> by_cases g2 : h' < 0 <;> by_cases g3 : R < 0 <;> simp [g1, g2, g3] at e1 e2 <;> omega
    clear hU' hV' hX' hY' hZ' hP' hR'
    rcases decb (h < 0) with q2 | q2 <;> rcases decb (h' < 0) with q3 | q3 <;> rcases decb (R < 0) with q4 | q4
    all_goals
      have HC := Lib.hid HB
      rw [q2, q3, q4] at HC
      clear HB
      go_enter Tryd.func37, Tryd.ntmps37
      go_wp2
      first
        | (refine bodyPost_ret (v := .tuple #[.agg #[.int .i64 0, .int .u64 0], .bool false]) (by simp [results, Tryd.results37, go_sem, *]; done) rfl ?_
           exact ⟨0, 0, false, rfl, ww0, fun r1 r2 => (HC.out rfl rfl ⟨r1, r2⟩).elim, (by repeat (first | exact Ext.refl _ | refine Ext.setCell ?_ (by first | (simp; done) | (simp; omega)) _ | refine Ext.drew ?_ | refine Ext.drewN ?_ _ | refine Ext.alloc ?_ _))⟩)
        | (refine bodyPost_ret (v := .tuple #[.agg #[.int .i64 R, .int .u64 Z], .bool true]) (by simp [results, Tryd.results37, go_sem, *]; done) rfl ?_
           exact ⟨R, Z, true, rfl, HA.out.1, fun r1 r2 => ⟨rfl, HA.out.2 r1 r2⟩, (by repeat (first | exact Ext.refl _ | refine Ext.setCell ?_ (by first | (simp; done) | (simp; omega)) _ | refine Ext.drew ?_ | refine Ext.drewN ?_ _ | refine Ext.alloc ?_ _))⟩)
  · have HA : Hid (WW P Z ∧ (-170141183460469231731687303715884105728 ≤ vI h l - vI h' l' → vI h l - vI h' l' < 170141183460469231731687303715884105728 → vI P Z = vI h l - vI h' l')) := by
      have := of_decide_eq_false q1
      refine ⟨⟨by omega, by omega, by omega, by omega⟩, ?_⟩
      unfold vI; omega
    have HB : (decide (h < 0) != decide (h' < 0)) = true → (decide (P < 0) != decide (h < 0)) = true → ¬ (-170141183460469231731687303715884105728 ≤ vI h l - vI h' l' ∧ vI h l - vI h' l' < 170141183460469231731687303715884105728) := by
      have := of_decide_eq_false q1
      intro e1 e2
      unfold vI
      by_cases g1 : h < 0 <;> by_cases g2 : h' < 0 <;> by_cases g3 : P < 0 <;> simp [g1, g2, g3] at e1 e2 <;> omega
    clear hU' hV' hX' hY' hZ' hP' hR'
    rcases decb (h < 0) with q2 | q2 <;> rcases decb (h' < 0) with q3 | q3 <;> rcases decb (P < 0) with q4 | q4
    all_goals
      have HC := Lib.hid HB
      rw [q2, q3, q4] at HC
      clear HB
      go_enter Tryd.func37, Tryd.ntmps37
      go_wp2
      first
        | (refine bodyPost_ret (v := .tuple #[.agg #[.int .i64 0, .int .u64 0], .bool false]) (by simp [results, Tryd.results37, go_sem, *]; done) rfl ?_
           exact ⟨0, 0, false, rfl, ww0, fun r1 r2 => (HC.out rfl rfl ⟨r1, r2⟩).elim, (by repeat (first | exact Ext.refl _ | refine Ext.setCell ?_ (by first | (simp; done) | (simp; omega)) _ | refine Ext.drew ?_ | refine Ext.drewN ?_ _ | refine Ext.alloc ?_ _))⟩)
        | (refine bodyPost_ret (v := .tuple #[.agg #[.int .i64 P, .int .u64 Z], .bool true]) (by simp [results, Tryd.results37, go_sem, *]; done) rfl ?_
           exact ⟨P, Z, true, rfl, HA.out.1, fun r1 r2 => ⟨rfl, HA.out.2 r1 r2⟩, (by repeat (first | exact Ext.refl _ | refine Ext.setCell ?_ (by first | (simp; done) | (simp; omega)) _ | refine Ext.drew ?_ | refine Ext.drewN ?_ _ | refine Ext.alloc ?_ _))⟩)

end Go.Proofs.YthckbfkhbegmgaaDoor

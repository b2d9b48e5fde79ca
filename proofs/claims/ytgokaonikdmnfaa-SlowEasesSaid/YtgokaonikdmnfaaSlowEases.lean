/-
  The statement SlowEases: for every input the law returns true, and its arguments read afterwards as they read before. No condition.
-/
import Derived.Test.YtgokaonikdmnfaaSlowJ
import Derived.Test.YtgokaonikdmnfaaFin
namespace Go.Proofs.Ytgokaonikdmnfaa.slowEases
open Go.ChangeShapes Go.WideShapes Go.ChangeAt Go.RowKit Go.Joins Go.Deep
open Go.ChangeMaps (open_string shut_string)
set_option linter.unusedVariables false

theorem own : ownKnob Try.prog.godebug = none := by kernel_rfl
theorem laidOut : laidOutB Try.prog = true := by kernel_rfl

set_option maxRecDepth 100000 in
theorem lifted (os : Os) (started : os.Started) (H : Type) (enc : TypeId × Value → H) :
    ReturnsInHanded {} Try.checked os 5 .any (Rows.slowEasesSpec.pre6 enc Try.prog Try.f5 Rows.slowEasesRow.domain false) (Rows.slowEasesSpec.post enc Try.prog Try.f5 false true false false) := by
  refine returnsInHanded_of_change (C := Try.checked) own started (by kernel_rfl) Try.func5
    (ChangeSpec.witness6 (enc := enc) (C := Try.checked) false ⟨#[], #[.agg #[.int .i64 0, .int .i64 0, .int .i64 0, .int .i64 0, .int .i64 0, .int .i64 0, .int .i64 0], .agg #[.int .i64 0, .int .i64 0, .int .i64 0, .int .i64 0], .agg #[.int .u8 0, .int .u8 0, .int .u8 0, .int .u8 0]], []⟩ 8 (by kernel_rfl) (by kernel_rfl) (by kernel_rfl) (by kernel_rfl)) ?_
  intro W base args ds gs before hval0 hW hcnd _
  have hval : ∀ (j : Nat) t v, Try.f5.params[j]? = some t → args[j]? = some v → Value.okWide Try.prog W .any base t v := hval0
  have hW' := hW
  obtain ⟨p, q, hA0, hV, rfl, hfz, hnd⟩ := hW
  have hA : DataW.TrodAll enc Try.prog W 0 (fun _ => true) true Try.f5.params.toList args.toList ds p := hA0
  have hAk := hA0
  rw [Try.params5] at hA hval
  obtain ⟨v0, vs0, d0, ds0, p0, q0, hargs, rfl, rfl, h0, r0⟩ := trodAll_cons hA
  obtain ⟨v1, vs1, d1, ds1, p1, q1, rfl, rfl, rfl, h1, r1⟩ := trodAll_cons r0
  obtain ⟨v2, vs2, d2, ds2, p2, q2, rfl, rfl, rfl, h2, r2⟩ := trodAll_cons r1
  obtain ⟨rfl, rfl, rfl⟩ := trodAll_nil r2
  obtain rfl : args = #[v0, v1, v2] := by cases args; simp_all
  obtain ⟨rfl, rfl⟩ := trodVars_none hV
  obtain ⟨c0x0, c0x1, c0x2, c0x3, c0x4, c0x5, c0x6, y0x0, y0x1, y0x2, y0x3, y0x4, y0x5, y0x6, m0, rfl, rfl, rfl, g0x0, g0x1, g0x2, g0x3, g0x4, g0x5, g0x6⟩ := agg_open7 Try.underlying23 (by kernel_rfl) (by kernel_rfl) (hval 0 23 v0 rfl rfl) h0
  obtain ⟨a0x0, rfl, w0x0⟩ := int_field Try.underlying2 g0x0
  obtain ⟨a0x1, rfl, w0x1⟩ := int_field Try.underlying2 g0x1
  obtain ⟨a0x2, rfl, w0x2⟩ := int_field Try.underlying2 g0x2
  obtain ⟨a0x3, rfl, w0x3⟩ := int_field Try.underlying2 g0x3
  obtain ⟨a0x4, rfl, w0x4⟩ := int_field Try.underlying3 g0x4
  obtain ⟨a0x5, rfl, w0x5⟩ := int_field Try.underlying3 g0x5
  obtain ⟨a0x6, rfl, w0x6⟩ := int_field Try.underlying3 g0x6
  obtain ⟨c1x0, c1x1, c1x2, c1x3, y1x0, y1x1, y1x2, y1x3, m1, rfl, rfl, rfl, g1x0, g1x1, g1x2, g1x3⟩ := agg_open4 Try.underlying25 (by kernel_rfl) (by kernel_rfl) (hval 1 25 v1 rfl rfl) h1
  obtain ⟨a1x0, rfl, w1x0⟩ := int_field Try.underlying3 g1x0
  obtain ⟨a1x1, rfl, w1x1⟩ := int_field Try.underlying3 g1x1
  obtain ⟨a1x2, rfl, w1x2⟩ := int_field Try.underlying2 g1x2
  obtain ⟨a1x3, rfl, w1x3⟩ := int_field Try.underlying3 g1x3
  obtain ⟨c2x0, c2x1, c2x2, c2x3, y2x0, y2x1, y2x2, y2x3, m2, rfl, g2x0, g2x1, g2x2, g2x3⟩ := arr_open4 Try.underlying41 (by kernel_rfl) (by kernel_rfl) (hval 2 41 v2 rfl rfl) h2
  obtain ⟨a2x0, rfl, w2x0⟩ := int_field Try.underlying5 g2x0
  obtain ⟨a2x1, rfl, w2x1⟩ := int_field Try.underlying5 g2x1
  obtain ⟨a2x2, rfl, w2x2⟩ := int_field Try.underlying5 g2x2
  obtain ⟨a2x3, rfl, w2x3⟩ := int_field Try.underlying5 g2x3
  clear hA0 hval0
  refine (slowEases_any a0x0 a0x1 a0x2 a0x3 a0x4 a0x5 a0x6 a1x0 a1x1 a1x2 a1x3 a2x0 a2x1 a2x2 a2x3 (bounds_u8 w2x0) (bounds_u8 w2x1) (bounds_u8 w2x2) (bounds_u8 w2x3) W).mono fun e W' ⟨he, bel⟩ => ?_
  subst he
  exact ⟨_, rfl, _, _, _, [], _, [], hW', trodAll_mk1 (shut_bool Try.underlying4 _), below_trodAll laidOut bel (by kernel_rfl) hAk, rfl, bel.below.frame _, fun h => by cases h⟩

theorem over : Rows.slowEasesRow.holds Try.pinned (OpenSpec.ofChange Rows.slowEasesSpec) :=
  OpenClaim.holds_of_wide 5 Try.f5 rfl rfl rfl rfl rfl rfl rfl ⟨rfl, rfl, rfl, rfl, rfl⟩ rfl rfl rfl rfl rfl (by kernel_rfl) Try.func5 (by kernel_rfl)
    (of_decide_eq_true (by kernel_rfl)) (by unfold Func.isWrapper; first | (rw [if_pos (by decide +kernel)]; kernel_rfl) | (rw [if_neg (by decide +kernel)]; exact ⟨rfl, rfl⟩))
    (fun os started H enc _ => lifted os started H enc)

theorem proved : Rows.SlowEasesSaid := over
#print axioms proved
end Go.Proofs.Ytgokaonikdmnfaa.slowEases

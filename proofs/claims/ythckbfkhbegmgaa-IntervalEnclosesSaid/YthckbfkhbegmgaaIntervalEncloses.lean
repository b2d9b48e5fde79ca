/-
  The statement IntervalEncloses: for every input the law returns true, and its arguments read afterwards as they read before. No condition.
-/
import Derived.Test.YthckbfkhbegmgaaIntK
import Derived.Test.YthckbfkhbegmgaaFin
namespace Go.Proofs.Ythckbfkhbegmgaa.intervalEncloses
open Go.ChangeShapes Go.WideShapes Go.ChangeAt Go.RowKit Go.Joins Go.Deep
open Go.ChangeMaps (open_string shut_string)
set_option linter.unusedVariables false

theorem own : ownKnob Try.prog.godebug = none := by kernel_rfl
theorem laidOut : laidOutB Try.prog = true := by kernel_rfl

set_option maxRecDepth 100000 in
theorem lifted (os : Os) (started : os.Started) (H : Type) (enc : TypeId × Value → H) :
    ReturnsInHanded {} Try.checked os 9 .any (Rows.intervalEnclosesSpec.pre6 enc Try.prog Try.f9 Rows.intervalEnclosesRow.domain false) (Rows.intervalEnclosesSpec.post enc Try.prog Try.f9 false true false false) := by
  refine returnsInHanded_of_change (C := Try.checked) own started (by kernel_rfl) Try.func9
    (ChangeSpec.witness6 (enc := enc) (C := Try.checked) false ⟨#[], #[.agg #[.int .i64 0, .int .i64 0], .agg #[.int .i64 0, .int .i64 0], .agg #[.int .i64 0, .int .i64 0, .int .i64 0]], []⟩ 8 (by kernel_rfl) (by kernel_rfl) (by kernel_rfl) (by kernel_rfl)) ?_
  intro W base args ds gs before hval0 hW hcnd _
  have hval : ∀ (j : Nat) t v, Try.f9.params[j]? = some t → args[j]? = some v → Value.okWide Try.prog W .any base t v := hval0
  have hW' := hW
  obtain ⟨p, q, hA0, hV, rfl, hfz, hnd⟩ := hW
  have hA : DataW.TrodAll enc Try.prog W 0 (fun _ => true) true Try.f9.params.toList args.toList ds p := hA0
  have hAk := hA0
  rw [Try.params9] at hA hval
  obtain ⟨v0, vs0, d0, ds0, p0, q0, hargs, rfl, rfl, h0, r0⟩ := trodAll_cons hA
  obtain ⟨v1, vs1, d1, ds1, p1, q1, rfl, rfl, rfl, h1, r1⟩ := trodAll_cons r0
  obtain ⟨v2, vs2, d2, ds2, p2, q2, rfl, rfl, rfl, h2, r2⟩ := trodAll_cons r1
  obtain ⟨rfl, rfl, rfl⟩ := trodAll_nil r2
  obtain rfl : args = #[v0, v1, v2] := by cases args; simp_all
  obtain ⟨rfl, rfl⟩ := trodVars_none hV
  obtain ⟨c0x0, c0x1, y0x0, y0x1, m0, rfl, rfl, rfl, g0x0, g0x1⟩ := agg_open2 Try.underlying23 (by kernel_rfl) (by kernel_rfl) (hval 0 23 v0 rfl rfl) h0
  obtain ⟨a0x0, rfl, w0x0⟩ := int_field Try.underlying2 g0x0
  obtain ⟨a0x1, rfl, w0x1⟩ := int_field Try.underlying2 g0x1
  obtain ⟨c1x0, c1x1, y1x0, y1x1, m1, rfl, rfl, rfl, g1x0, g1x1⟩ := agg_open2 Try.underlying23 (by kernel_rfl) (by kernel_rfl) (hval 1 23 v1 rfl rfl) h1
  obtain ⟨a1x0, rfl, w1x0⟩ := int_field Try.underlying2 g1x0
  obtain ⟨a1x1, rfl, w1x1⟩ := int_field Try.underlying2 g1x1
  obtain ⟨c2x0, c2x1, c2x2, y2x0, y2x1, y2x2, m2, rfl, g2x0, g2x1, g2x2⟩ := arr_open3 Try.underlying35 (by kernel_rfl) (by kernel_rfl) (hval 2 35 v2 rfl rfl) h2
  obtain ⟨a2x0, rfl, w2x0⟩ := int_field Try.underlying2 g2x0
  obtain ⟨a2x1, rfl, w2x1⟩ := int_field Try.underlying2 g2x1
  obtain ⟨a2x2, rfl, w2x2⟩ := int_field Try.underlying2 g2x2
  clear hA0 hval0
  refine (intervalEncloses_any a0x0 a0x1 a1x0 a1x1 a2x0 a2x1 a2x2 (i64_bd w0x0).1 (i64_bd w0x0).2 (i64_bd w0x1).1 (i64_bd w0x1).2 (i64_bd w2x2).1 (i64_bd w2x2).2 W).mono fun e W' ⟨he, bel⟩ => ?_
  subst he
  exact ⟨_, rfl, _, _, _, [], _, [], hW', trodAll_mk1 (shut_bool Try.underlying4 _), below_trodAll laidOut bel (by kernel_rfl) hAk, rfl, bel.below.frame _, fun h => by cases h⟩

theorem over : Rows.intervalEnclosesRow.holds Try.pinned (OpenSpec.ofChange Rows.intervalEnclosesSpec) :=
  OpenClaim.holds_of_wide 9 Try.f9 rfl rfl rfl rfl rfl rfl rfl ⟨rfl, rfl, rfl, rfl, rfl⟩ rfl rfl rfl rfl rfl (by kernel_rfl) Try.func9 (by kernel_rfl)
    (of_decide_eq_true (by kernel_rfl)) (by unfold Func.isWrapper; first | (rw [if_pos (by decide +kernel)]; kernel_rfl) | (rw [if_neg (by decide +kernel)]; exact ⟨rfl, rfl⟩))
    (fun os started H enc _ => lifted os started H enc)

theorem proved : Rows.IntervalEnclosesSaid := over
#print axioms proved
end Go.Proofs.Ythckbfkhbegmgaa.intervalEncloses

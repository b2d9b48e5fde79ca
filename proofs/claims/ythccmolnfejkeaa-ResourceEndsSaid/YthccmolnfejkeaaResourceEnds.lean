/-
  The statement ResourceEnds: for every input the law returns true, and its arguments read afterwards as they read before. No condition.
-/
import Derived.Test.YthccmolnfejkeaaResK
import Derived.Test.YthccmolnfejkeaaResFin
namespace Go.Proofs.Ythccmolnfejkeaa.resourceEnds
open Go.ChangeShapes Go.WideShapes Go.ChangeAt Go.RowKit Go.Joins Go.Deep
open Go.ChangeMaps (open_string shut_string)
set_option linter.unusedVariables false

theorem own : ownKnob Try.prog.godebug = none := by kernel_rfl
theorem laidOut : laidOutB Try.prog = true := by kernel_rfl

set_option maxRecDepth 100000 in
theorem lifted (os : Os) (started : os.Started) (H : Type) (enc : TypeId × Value → H) :
    ReturnsInHanded {} Try.checked os 6 .any (Rows.resourceEndsSpec.pre6 enc Try.prog Try.f6 Rows.resourceEndsRow.domain false) (Rows.resourceEndsSpec.post enc Try.prog Try.f6 false true false false) := by
  refine returnsInHanded_of_change (C := Try.checked) own started (by kernel_rfl) Try.func6
    (ChangeSpec.witness6 (enc := enc) (C := Try.checked) false ⟨#[], #[.agg #[.slice none 0 0], .int .i64 0, .agg #[.int .i64 0, .int .i64 0]], []⟩ 8 (by kernel_rfl) (by kernel_rfl) (by kernel_rfl) (by kernel_rfl)) ?_
  intro W base args ds gs before hval0 hW hcnd _
  have hval : ∀ (j : Nat) t v, Try.f6.params[j]? = some t → args[j]? = some v → Value.okWide Try.prog W .any base t v := hval0
  have hW' := hW
  obtain ⟨p, q, hA0, hV, rfl, hfz, hnd⟩ := hW
  have hA : DataW.TrodAll enc Try.prog W 0 (fun _ => true) true Try.f6.params.toList args.toList ds p := hA0
  have hAk := hA0
  rw [Try.params6] at hA hval
  obtain ⟨v0, vs0, d0, ds0, p0, q0, hargs, rfl, rfl, h0, r0⟩ := trodAll_cons hA
  obtain ⟨v1, vs1, d1, ds1, p1, q1, rfl, rfl, rfl, h1, r1⟩ := trodAll_cons r0
  obtain ⟨v2, vs2, d2, ds2, p2, q2, rfl, rfl, rfl, h2, r2⟩ := trodAll_cons r1
  obtain ⟨rfl, rfl, rfl⟩ := trodAll_nil r2
  obtain rfl : args = #[v0, v1, v2] := by cases args; simp_all
  obtain ⟨rfl, rfl⟩ := trodVars_none hV
  obtain ⟨A0, n0, B0, L0, C0, Z0, b0, o0, G0, O0, c0, rfl, T0⟩ := tab_open Try.underlying24 (by kernel_rfl) (by kernel_rfl) Try.underlying22 Try.underlying39 Try.underlying2 (by kernel_rfl) (by kernel_rfl) (hval 0 24 v0 rfl rfl) h0
  obtain ⟨a1, rfl, rfl, rfl, w1⟩ := open_int Try.underlying3 (hval 1 3 v1 rfl rfl) h1
  obtain ⟨c2x0, c2x1, y2x0, y2x1, m2, rfl, g2x0, g2x1⟩ := arr_open2 Try.underlying30 (by kernel_rfl) (by kernel_rfl) (hval 2 30 v2 rfl rfl) h2
  obtain ⟨a2x0, rfl, w2x0⟩ := int_field Try.underlying2 g2x0
  obtain ⟨a2x1, rfl, w2x1⟩ := int_field Try.underlying2 g2x1
  clear hA0 hval0
  refine (resourceEnds_any W c0 a1 a2x0 a2x1 T0).mono fun e W' ⟨he, bel⟩ => ?_
  subst he
  exact ⟨_, rfl, _, _, _, [], _, [], hW', trodAll_mk1 (shut_bool Try.underlying4 _), below_trodAll laidOut bel (by kernel_rfl) hAk, rfl, bel.below.frame _, fun h => by cases h⟩

theorem over : Rows.resourceEndsRow.holds Try.pinned (OpenSpec.ofChange Rows.resourceEndsSpec) :=
  OpenClaim.holds_of_wide 6 Try.f6 rfl rfl rfl rfl rfl rfl rfl ⟨rfl, rfl, rfl, rfl, rfl⟩ rfl rfl rfl rfl rfl (by kernel_rfl) Try.func6 (by kernel_rfl)
    (of_decide_eq_true (by kernel_rfl)) (by unfold Func.isWrapper; first | (rw [if_pos (by decide +kernel)]; kernel_rfl) | (rw [if_neg (by decide +kernel)]; exact ⟨rfl, rfl⟩))
    (fun os started H enc _ => lifted os started H enc)

theorem proved : Rows.ResourceEndsSaid := over
#print axioms proved
end Go.Proofs.Ythccmolnfejkeaa.resourceEnds

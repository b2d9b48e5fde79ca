/-
  The statement TopMonotone: for every input the law returns true, and its arguments read afterwards as they read before. No condition.
-/
import Derived.Test.YtoemcpndmfimiaaMonL
import Derived.Test.YtoemcpndmfimiaaResFin
namespace Go.Proofs.Ytoemcpndmfimiaa.topMonotone
open Go.ChangeShapes Go.WideShapes Go.ChangeAt Go.RowKit Go.Joins Go.Deep
open Go.ChangeMaps (open_string shut_string)
set_option linter.unusedVariables false

theorem own : ownKnob Try.prog.godebug = none := by kernel_rfl
theorem laidOut : laidOutB Try.prog = true := by kernel_rfl

set_option maxRecDepth 100000 in
theorem lifted (os : Os) (started : os.Started) (H : Type) (enc : TypeId × Value → H) :
    ReturnsInHanded {} Try.checked os 3 .any (Rows.topMonotoneSpec.pre6 enc Try.prog Try.f3 Rows.topMonotoneRow.domain false) (Rows.topMonotoneSpec.post enc Try.prog Try.f3 false true false false) := by
  refine returnsInHanded_of_change (C := Try.checked) own started (by kernel_rfl) Try.func3
    (ChangeSpec.witness6 (enc := enc) (C := Try.checked) false ⟨#[], #[.agg #[.slice none 0 0], .agg #[.slice none 0 0], .agg #[.int .i64 0, .int .i64 0, .int .i64 0, .int .i64 0]], []⟩ 8 (by kernel_rfl) (by kernel_rfl) (by kernel_rfl) (by kernel_rfl)) ?_
  intro W base args ds gs before hval0 hW hcnd _
  have hval : ∀ (j : Nat) t v, Try.f3.params[j]? = some t → args[j]? = some v → Value.okWide Try.prog W .any base t v := hval0
  have hW' := hW
  obtain ⟨p, q, hA0, hV, rfl, hfz, hnd⟩ := hW
  have hA : DataW.TrodAll enc Try.prog W 0 (fun _ => true) true Try.f3.params.toList args.toList ds p := hA0
  have hAk := hA0
  rw [Try.params3] at hA hval
  obtain ⟨v0, vs0, d0, ds0, p0, q0, hargs, rfl, rfl, h0, r0⟩ := trodAll_cons hA
  obtain ⟨v1, vs1, d1, ds1, p1, q1, rfl, rfl, rfl, h1, r1⟩ := trodAll_cons r0
  obtain ⟨v2, vs2, d2, ds2, p2, q2, rfl, rfl, rfl, h2, r2⟩ := trodAll_cons r1
  obtain ⟨rfl, rfl, rfl⟩ := trodAll_nil r2
  obtain rfl : args = #[v0, v1, v2] := by cases args; simp_all
  obtain ⟨rfl, rfl⟩ := trodVars_none hV
  obtain ⟨A0, n0, B0, L0, C0, Z0, b0, o0, G0, O0, c0, rfl, T0⟩ := tab_open Try.underlying24 (by kernel_rfl) (by kernel_rfl) Try.underlying22 Try.underlying27 Try.underlying2 (by kernel_rfl) (by kernel_rfl) (hval 0 24 v0 rfl rfl) h0
  obtain ⟨A1, n1, B1, L1, C1, Z1, b1, o1, G1, O1, c1, rfl, T1⟩ := tab_open Try.underlying24 (by kernel_rfl) (by kernel_rfl) Try.underlying22 Try.underlying27 Try.underlying2 (by kernel_rfl) (by kernel_rfl) (hval 1 24 v1 rfl rfl) h1
  obtain ⟨c2x0, c2x1, c2x2, c2x3, y2x0, y2x1, y2x2, y2x3, m2, rfl, g2x0, g2x1, g2x2, g2x3⟩ := arr_open4 Try.underlying25 (by kernel_rfl) (by kernel_rfl) (hval 2 25 v2 rfl rfl) h2
  obtain ⟨a2x0, rfl, w2x0⟩ := int_field Try.underlying2 g2x0
  obtain ⟨a2x1, rfl, w2x1⟩ := int_field Try.underlying2 g2x1
  obtain ⟨a2x2, rfl, w2x2⟩ := int_field Try.underlying2 g2x2
  obtain ⟨a2x3, rfl, w2x3⟩ := int_field Try.underlying2 g2x3
  clear hA0 hval0
  refine (topMonotone_any W c0 T0 c1 T1 a2x0 a2x1 a2x2 a2x3).mono fun e W' ⟨he, bel⟩ => ?_
  subst he
  exact ⟨_, rfl, _, _, _, [], _, [], hW', trodAll_mk1 (shut_bool Try.underlying4 _), below_trodAll laidOut bel (by kernel_rfl) hAk, rfl, bel.below.frame _, fun h => by cases h⟩

theorem over : Rows.topMonotoneRow.holds Try.pinned (OpenSpec.ofChange Rows.topMonotoneSpec) :=
  OpenClaim.holds_of_wide 3 Try.f3 rfl rfl rfl rfl rfl rfl rfl ⟨rfl, rfl, rfl, rfl, rfl⟩ rfl rfl rfl rfl rfl (by kernel_rfl) Try.func3 (by kernel_rfl)
    (of_decide_eq_true (by kernel_rfl)) (by unfold Func.isWrapper; first | (rw [if_pos (by decide +kernel)]; kernel_rfl) | (rw [if_neg (by decide +kernel)]; exact ⟨rfl, rfl⟩))
    (fun os started H enc _ => lifted os started H enc)

theorem proved : Rows.TopMonotoneSaid := over
#print axioms proved
end Go.Proofs.Ytoemcpndmfimiaa.topMonotone

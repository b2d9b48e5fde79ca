/-
  The statement NotationPrints: for every input the law returns true, and its arguments read afterwards as they read before. No condition but the card's own: the listed variables of the library hold what the program's text lays in them (tied).
-/
import Derived.Test.YtpgacpkcchajmaaDoorNotT
import Derived.Test.YtpgacpkcchajmaaDoorNotFin
import Derived.Test.YtpgacpkcchajmaaDoorNotDoor
import Derived.Test.YtpgacpkcchajmaaDoorTie
import Derived.Test.YtpgacpkcchajmaaDoorCards
import Derived.SevenTiedAt
namespace Go.Proofs.YtpgacpkcchajmaaDoor.notationPrints
open Go.ChangeShapes Go.WideShapes Go.WideMaps Go.WideElems Go.ChangeAt Go.RowKit Go.Joins Go.Deep
open Go.ChangeMaps (open_string shut_string)
set_option linter.unusedVariables false

theorem own : ownKnob Tryd.prog.godebug = none := by kernel_rfl
theorem laidOut : laidOutB Tryd.prog = true := by kernel_rfl

set_option maxRecDepth 100000 in
theorem lifted (os : Os) (started : os.Started) (H : Type) (enc : TypeId × Value → H) :
      ReturnsInHanded {} Tryd.checked os 3 .any (fun w args => (Rows.notationPrintsSpec.pre enc Tryd.prog Tryd.f3 [] false w args ∧ laidMetH Tryd.prog Rows.notationPrintsRow.laid w) ∧ sizedMet enc Tryd.prog Tryd.f3 (OpenSpec.ofChange Rows.notationPrintsSpec) false w args) (Rows.notationPrintsSpec.post enc Tryd.prog Tryd.f3 false true false false) := by
  refine returnsInHanded_of_change_and (C := Tryd.checked) (X := fun w _ => laidMetH Tryd.prog Rows.notationPrintsRow.laid w) (fun _ _ _ hh h => h.of_heap hh) own started (by kernel_rfl) Tryd.func3
    (ChangeSpec.witness_shaped (enc := enc) (C := Tryd.checked) (os := os) (X := fun w _ => laidMetH Tryd.prog Rows.notationPrintsRow.laid w) false (World.doorLaid Tryd.prog doorFuel os) #[.agg #[.int .u8 0, .int .u8 0, .int .i64 0, .int .i64 0, .int .i64 0, .bool false, .int .u8 0, .int .i64 0, .int .i64 0, .int .i64 0, .bool false, .int .i64 0]] 8 rfl (World.shaped_of_RefB (by kernel_rfl) (by kernel_rfl)) (by kernel_rfl) (by kernel_rfl) (by kernel_rfl) (door_met_of_laid os _)) ?_
  intro W base args ds gs before hval0 hW _ _ hL _
  have hT := of_laid hL
  have hval : ∀ (j : Nat) t v, Tryd.f3.params[j]? = some t → args[j]? = some v → Value.okWide Tryd.prog W .any base t v := hval0
  have hW' := hW
  obtain ⟨p, q, hA0, hV, rfl, hfz, hnd⟩ := hW
  have hA : DataW.TrodAll enc Tryd.prog W 0 (fun _ => true) true Tryd.f3.params.toList args.toList ds p := hA0
  have hAk := hA0
  rw [Tryd.params3] at hA hval
  obtain ⟨v0, vs0, d0, ds0, p0, q0, hargs, rfl, rfl, h0, r0⟩ := trodAll_cons hA
  obtain ⟨rfl, rfl, rfl⟩ := trodAll_nil r0
  obtain rfl : args = #[v0] := by cases args; simp_all
  obtain ⟨rfl, rfl⟩ := trodVars_none hV
  obtain ⟨c0x0, c0x1, c0x2, c0x3, c0x4, c0x5, c0x6, c0x7, c0x8, c0x9, c0x10, c0x11, y0x0, y0x1, y0x2, y0x3, y0x4, y0x5, y0x6, y0x7, y0x8, y0x9, y0x10, y0x11, m0, rfl, rfl, rfl, g0x0, g0x1, g0x2, g0x3, g0x4, g0x5, g0x6, g0x7, g0x8, g0x9, g0x10, g0x11⟩ := agg_open12 Tryd.underlying26 (by kernel_rfl) (by kernel_rfl) (hval 0 26 v0 rfl rfl) h0
  obtain ⟨a0x0, rfl, w0x0⟩ := int_field Tryd.underlying22 g0x0
  obtain ⟨a0x1, rfl, w0x1⟩ := int_field Tryd.underlying23 g0x1
  obtain ⟨a0x2, rfl, w0x2⟩ := int_field Tryd.underlying3 g0x2
  obtain ⟨a0x3, rfl, w0x3⟩ := int_field Tryd.underlying3 g0x3
  obtain ⟨a0x4, rfl, w0x4⟩ := int_field Tryd.underlying3 g0x4
  obtain ⟨a0x5, rfl⟩ := bool_field Tryd.underlying4 g0x5
  obtain ⟨a0x6, rfl, w0x6⟩ := int_field Tryd.underlying24 g0x6
  obtain ⟨a0x7, rfl, w0x7⟩ := int_field Tryd.underlying3 g0x7
  obtain ⟨a0x8, rfl, w0x8⟩ := int_field Tryd.underlying3 g0x8
  obtain ⟨a0x9, rfl, w0x9⟩ := int_field Tryd.underlying3 g0x9
  obtain ⟨a0x10, rfl⟩ := bool_field Tryd.underlying4 g0x10
  obtain ⟨a0x11, rfl, w0x11⟩ := int_field Tryd.underlying3 g0x11
  clear hA0 hval0
  refine (notationPrints_any ⟨a0x0, a0x1, a0x2, a0x3, a0x4, a0x5, a0x6, a0x7, a0x8, a0x9, a0x10, a0x11⟩ ⟨u8_bd w0x0, u8_bd w0x1, u8_bd w0x6⟩ W hT).mono fun e W' ⟨he, bel⟩ => ?_
  subst he
  exact ⟨_, rfl, _, _, _, [], _, [], hW', trodAll_mk1 (shut_bool Tryd.underlying4 _), below_trodAll laidOut bel (by kernel_rfl) hAk, rfl, bel.below.frame _, fun h => by cases h⟩

theorem over : Rows.notationPrintsRow.holds Tryd.pinned (OpenSpec.ofChange Rows.notationPrintsSpec) :=
  OpenClaim.holds_of_wide 3 Tryd.f3 rfl rfl rfl rfl rfl rfl rfl ⟨rfl, rfl, rfl, rfl, rfl⟩ rfl rfl rfl rfl rfl (by kernel_rfl) Tryd.func3 (by kernel_rfl)
    (of_decide_eq_true (by kernel_rfl)) (by unfold Func.isWrapper; first | (rw [if_pos (by decide +kernel)]; kernel_rfl) | (rw [if_neg (by decide +kernel)]; exact ⟨rfl, rfl⟩))
    (fun os started H enc _ => lifted os started H enc)

theorem rowHolds : Rows.NotationPrintsSaid := over
theorem proved : Rows.NotationPrintsCardSaid :=
  Claim7.holds_tied_plain_at .later [] [.data, .data, .data] true (Rows.notationPrintsCard.stood.harness) Rows.notationPrintsCard.stood.looks
    rowHolds (fun _ h => by cases h) (by kernel_rfl) (fun _ h => by cases h) notationPrints_row_tie rfl ⟨rfl, rfl⟩ (by kernel_rfl) rfl
    (fun f fn hf hfn => by
      obtain rfl : f = 3 := Option.some.inj ((show Tryd.prog.funcNamed Rows.notationPrintsRow.func = some 3 by kernel_rfl).symm.trans hf) |>.symm
      obtain rfl : fn = Tryd.f3 := (Option.some.inj (Tryd.func3.symm.trans hfn)).symm
      exact ⟨by kernel_rfl, fun j t ht => by
        rw [Tryd.params3] at ht
        have hm : t ∈ [26] := by simpa using Array.mem_of_getElem? ht
        have hall : ([26].all fun u => !Tryd.prog.wantsStandIn u) = true := by kernel_rfl
        exact (show Tryd.prog.wantsStandIn t = false by simpa using List.all_eq_true.1 hall t hm)⟩)
    (by kernel_rfl)
#print axioms proved
end Go.Proofs.YtpgacpkcchajmaaDoor.notationPrints

/-
  The statement TopSymbols: for every input the law returns true, and its arguments read afterwards as they read before. No condition but the card's own: the listed variables of the library hold what the program's text lays in them (tied).
-/
import Derived.Test.YtohoehfebphgeaaDoorSymS
import Derived.Test.YtohoehfebphgeaaDoorSymFin
import Derived.Test.YtohoehfebphgeaaDoorSymDoor
import Derived.Test.YtohoehfebphgeaaDoorTie
import Derived.Test.YtohoehfebphgeaaDoorCards
import Derived.SevenTiedAt
namespace Go.Proofs.YtohoehfebphgeaaDoor.topSymbols
open Go.ChangeShapes Go.WideShapes Go.WideMaps Go.WideElems Go.ChangeAt Go.RowKit Go.Joins Go.Deep
open Go.ChangeMaps (open_string shut_string)
set_option linter.unusedVariables false

theorem own : ownKnob Tryd.prog.godebug = none := by kernel_rfl
theorem laidOut : laidOutB Tryd.prog = true := by kernel_rfl

set_option maxRecDepth 100000 in
theorem lifted (os : Os) (started : os.Started) (H : Type) (enc : TypeId × Value → H) :
      ReturnsInHanded {} Tryd.checked os 3 .any (fun w args => (Rows.topSymbolsSpec.pre enc Tryd.prog Tryd.f3 [] false w args ∧ laidMetH Tryd.prog Rows.topSymbolsRow.laid w) ∧ sizedMet enc Tryd.prog Tryd.f3 (OpenSpec.ofChange Rows.topSymbolsSpec) false w args) (Rows.topSymbolsSpec.post enc Tryd.prog Tryd.f3 false true false false) := by
  refine returnsInHanded_of_change_and (C := Tryd.checked) (X := fun w _ => laidMetH Tryd.prog Rows.topSymbolsRow.laid w) (fun _ _ _ hh h => h.of_heap hh) own started (by kernel_rfl) Tryd.func3
    (ChangeSpec.witness_shaped (enc := enc) (C := Tryd.checked) (os := os) (X := fun w _ => laidMetH Tryd.prog Rows.topSymbolsRow.laid w) false (World.doorLaid Tryd.prog doorFuel os) #[.agg #[.string ByteArray.empty, .int .i64 0, .int .i64 0, .int .i64 0, .int .i64 0, .int .i64 0, .int .i64 0, .int .i64 0, .bool false, .int .i64 0, .int .i64 0, .int .i64 0, .int .i64 0, .slice none 0 0], .agg #[.int .u8 0, .int .u8 0, .int .i64 0, .int .i64 0, .int .i64 0, .bool false, .int .u8 0, .int .i64 0, .int .i64 0, .int .i64 0, .bool false, .int .i64 0]] 8 rfl (World.shaped_of_RefB (by kernel_rfl) (by kernel_rfl)) (by kernel_rfl) (by kernel_rfl) (by kernel_rfl) (door_met_of_laid os _)) ?_
  intro W base args ds gs before hval0 hW _ _ hL _
  have hT := of_laid hL
  have hval : ∀ (j : Nat) t v, Tryd.f3.params[j]? = some t → args[j]? = some v → Value.okWide Tryd.prog W .any base t v := hval0
  have hW' := hW
  obtain ⟨p, q, hA0, hV, rfl, hfz, hnd⟩ := hW
  have hA : DataW.TrodAll enc Tryd.prog W 0 (fun _ => true) true Tryd.f3.params.toList args.toList ds p := hA0
  have hAk := hA0
  rw [Tryd.params3] at hA hval
  obtain ⟨v0, vs0, d0, ds0, p0, q0, hargs, rfl, rfl, h0, r0⟩ := trodAll_cons hA
  obtain ⟨v1, vs1, d1, ds1, p1, q1, rfl, rfl, rfl, h1, r1⟩ := trodAll_cons r0
  obtain ⟨rfl, rfl, rfl⟩ := trodAll_nil r1
  obtain rfl : args = #[v0, v1] := by cases args; simp_all
  obtain ⟨rfl, rfl⟩ := trodVars_none hV
  obtain ⟨c0x0, c0x1, c0x2, c0x3, c0x4, c0x5, c0x6, c0x7, c0x8, c0x9, c0x10, c0x11, c0x12, c0x13, y0x0, y0x1, y0x2, y0x3, y0x4, y0x5, y0x6, y0x7, y0x8, y0x9, y0x10, y0x11, y0x12, y0x13, m0, rfl, rfl, rfl, g0x0, g0x1, g0x2, g0x3, g0x4, g0x5, g0x6, g0x7, g0x8, g0x9, g0x10, g0x11, g0x12, g0x13⟩ := agg_open14 Tryd.underlying24 (by kernel_rfl) (by kernel_rfl) (hval 0 24 v0 rfl rfl) h0
  obtain ⟨a0x0, rfl, w0x0⟩ := str_field Tryd.underlying9 g0x0
  obtain ⟨a0x1, rfl, w0x1⟩ := int_field Tryd.underlying3 g0x1
  obtain ⟨a0x2, rfl, w0x2⟩ := int_field Tryd.underlying3 g0x2
  obtain ⟨a0x3, rfl, w0x3⟩ := int_field Tryd.underlying3 g0x3
  obtain ⟨a0x4, rfl, w0x4⟩ := int_field Tryd.underlying3 g0x4
  obtain ⟨a0x5, rfl, w0x5⟩ := int_field Tryd.underlying3 g0x5
  obtain ⟨a0x6, rfl, w0x6⟩ := int_field Tryd.underlying3 g0x6
  obtain ⟨a0x7, rfl, w0x7⟩ := int_field Tryd.underlying3 g0x7
  obtain ⟨a0x8, rfl⟩ := bool_field Tryd.underlying4 g0x8
  obtain ⟨a0x9, rfl, w0x9⟩ := int_field Tryd.underlying3 g0x9
  obtain ⟨a0x10, rfl, w0x10⟩ := int_field Tryd.underlying3 g0x10
  obtain ⟨a0x11, rfl, w0x11⟩ := int_field Tryd.underlying3 g0x11
  obtain ⟨a0x12, rfl, w0x12⟩ := int_field Tryd.underlying3 g0x12
  obtain ⟨A0, n0, C0, f0, b0, o0, rfl, T0⟩ := ph_open Tryd.underlying22 Tryd.underlying80 (by kernel_rfl) (by kernel_rfl) Tryd.underlying3 (by kernel_rfl) g0x13
  obtain ⟨c1x0, c1x1, c1x2, c1x3, c1x4, c1x5, c1x6, c1x7, c1x8, c1x9, c1x10, c1x11, y1x0, y1x1, y1x2, y1x3, y1x4, y1x5, y1x6, y1x7, y1x8, y1x9, y1x10, y1x11, m1, rfl, rfl, rfl, g1x0, g1x1, g1x2, g1x3, g1x4, g1x5, g1x6, g1x7, g1x8, g1x9, g1x10, g1x11⟩ := agg_open12 Tryd.underlying29 (by kernel_rfl) (by kernel_rfl) (hval 1 29 v1 rfl rfl) h1
  obtain ⟨a1x0, rfl, w1x0⟩ := int_field Tryd.underlying25 g1x0
  obtain ⟨a1x1, rfl, w1x1⟩ := int_field Tryd.underlying26 g1x1
  obtain ⟨a1x2, rfl, w1x2⟩ := int_field Tryd.underlying3 g1x2
  obtain ⟨a1x3, rfl, w1x3⟩ := int_field Tryd.underlying3 g1x3
  obtain ⟨a1x4, rfl, w1x4⟩ := int_field Tryd.underlying3 g1x4
  obtain ⟨a1x5, rfl⟩ := bool_field Tryd.underlying4 g1x5
  obtain ⟨a1x6, rfl, w1x6⟩ := int_field Tryd.underlying27 g1x6
  obtain ⟨a1x7, rfl, w1x7⟩ := int_field Tryd.underlying3 g1x7
  obtain ⟨a1x8, rfl, w1x8⟩ := int_field Tryd.underlying3 g1x8
  obtain ⟨a1x9, rfl, w1x9⟩ := int_field Tryd.underlying3 g1x9
  obtain ⟨a1x10, rfl⟩ := bool_field Tryd.underlying4 g1x10
  obtain ⟨a1x11, rfl, w1x11⟩ := int_field Tryd.underlying3 g1x11
  clear hA0 hval0
  refine (topSymbols_any ⟨a0x0, a0x1, a0x2, a0x3, a0x4, a0x5, a0x6, a0x7, a0x8, a0x9, a0x10, a0x11, a0x12, A0, n0, C0⟩ ⟨a1x0, a1x1, a1x2, a1x3, a1x4, a1x5, a1x6, a1x7, a1x8, a1x9, a1x10, a1x11⟩ ⟨u8_bd w1x0, u8_bd w1x1, u8_bd w1x6⟩ f0 b0 o0 w0x0 W T0 hT).mono fun e W' ⟨he, bel⟩ => ?_
  subst he
  exact ⟨_, rfl, _, _, _, [], _, [], hW', trodAll_mk1 (shut_bool Tryd.underlying4 _), below_trodAll laidOut bel (by kernel_rfl) hAk, rfl, bel.below.frame _, fun h => by cases h⟩

theorem over : Rows.topSymbolsRow.holds Tryd.pinned (OpenSpec.ofChange Rows.topSymbolsSpec) :=
  OpenClaim.holds_of_wide 3 Tryd.f3 rfl rfl rfl rfl rfl rfl rfl ⟨rfl, rfl, rfl, rfl, rfl⟩ rfl rfl rfl rfl rfl (by kernel_rfl) Tryd.func3 (by kernel_rfl)
    (of_decide_eq_true (by kernel_rfl)) (by unfold Func.isWrapper; first | (rw [if_pos (by decide +kernel)]; kernel_rfl) | (rw [if_neg (by decide +kernel)]; exact ⟨rfl, rfl⟩))
    (fun os started H enc _ => lifted os started H enc)

theorem rowHolds : Rows.TopSymbolsSaid := over
theorem proved : Rows.TopSymbolsCardSaid :=
  Claim7.holds_tied_plain_at .later [] [.data, .data, .data] true (Rows.topSymbolsCard.stood.harness) Rows.topSymbolsCard.stood.looks
    rowHolds (fun _ h => by cases h) (by kernel_rfl) (fun _ h => by cases h) topSymbols_row_tie rfl ⟨rfl, rfl⟩ (by kernel_rfl) rfl
    (fun f fn hf hfn => by
      obtain rfl : f = 3 := Option.some.inj ((show Tryd.prog.funcNamed Rows.topSymbolsRow.func = some 3 by kernel_rfl).symm.trans hf) |>.symm
      obtain rfl : fn = Tryd.f3 := (Option.some.inj (Tryd.func3.symm.trans hfn)).symm
      exact ⟨by kernel_rfl, fun j t ht => by
        rw [Tryd.params3] at ht
        have hm : t ∈ [24, 29] := by simpa using Array.mem_of_getElem? ht
        have hall : ([24, 29].all fun u => !Tryd.prog.wantsStandIn u) = true := by kernel_rfl
        exact (show Tryd.prog.wantsStandIn t = false by simpa using List.all_eq_true.1 hall t hm)⟩)
    (by kernel_rfl)
#print axioms proved
end Go.Proofs.YtohoehfebphgeaaDoor.topSymbols

/-
  The statement ReviewPlays: for every input the law returns true, and its arguments read afterwards as they read before. No condition but the card's own: the listed variables of the library hold what the program's text lays in them (tied).
-/
import Derived.Test.YtppoejhfemolfaaDoorRevO
import Derived.Test.YtppoejhfemolfaaDoorActFin
import Derived.Test.YtppoejhfemolfaaDoorRevDoor
import Derived.Test.YtppoejhfemolfaaDoorTie
import Derived.Test.YtppoejhfemolfaaDoorCards
import Derived.SevenTiedAt
namespace Go.Proofs.YtppoejhfemolfaaDoor.reviewPlays
open Go.ChangeShapes Go.WideShapes Go.WideMaps Go.WideElems Go.ChangeAt Go.RowKit Go.Joins Go.Deep
open Go.ChangeMaps (open_string shut_string)
set_option linter.unusedVariables false

theorem own : ownKnob Tryd.prog.godebug = none := by kernel_rfl
theorem laidOut : laidOutB Tryd.prog = true := by kernel_rfl

set_option maxRecDepth 100000 in
theorem lifted (os : Os) (started : os.Started) (H : Type) (enc : TypeId × Value → H) :
      ReturnsInHanded {} Tryd.checked os 3 .any (fun w args => (Rows.reviewPlaysSpec.pre enc Tryd.prog Tryd.f3 [] false w args ∧ laidMetH Tryd.prog Rows.reviewPlaysRow.laid w) ∧ sizedMet enc Tryd.prog Tryd.f3 (OpenSpec.ofChange Rows.reviewPlaysSpec) false w args) (Rows.reviewPlaysSpec.post enc Tryd.prog Tryd.f3 false true false false) := by
  refine returnsInHanded_of_change_and (C := Tryd.checked) (X := fun w _ => laidMetH Tryd.prog Rows.reviewPlaysRow.laid w) (fun _ _ _ hh h => h.of_heap hh) own started (by kernel_rfl) Tryd.func3
    (ChangeSpec.witness_shaped (enc := enc) (C := Tryd.checked) (os := os) (X := fun w _ => laidMetH Tryd.prog Rows.reviewPlaysRow.laid w) false (World.doorLaid Tryd.prog doorFuel os) #[.int .i64 0, .slice none 0 0] 8 rfl (World.shaped_of_RefB (by kernel_rfl) (by kernel_rfl)) (by kernel_rfl) (by kernel_rfl) (by kernel_rfl) (door_met_of_laid os _)) ?_
  intro W base args ds gs before hval0 hW _ _ hL _
  have hT := of_laid hL
  have hval : ∀ (j : Nat) t v, Tryd.f3.params[j]? = some t → args[j]? = some v → Value.okWide Tryd.prog W .any base t v := hval0
  have hW' := hW
  obtain ⟨p, q, hA0, hV, rfl, hfz, hnd⟩ := hW
  have hA : DataW.TrodAll enc Tryd.prog W 0 (fun _ => true) true Tryd.f3.params.toList args.toList ds p := hA0
  have hAk := hA0
  rw [Tryd.params3] at hA hval
  obtain ⟨v0, vs0, d0, ds0, p0, q0, hargs, rfl, rfl, h0, r0⟩ := trodAll_cons hA
  obtain ⟨v1, vs1, d1, ds1, p1, q1, rfl, rfl, rfl, h1, r1⟩ := trodAll_cons r0
  obtain ⟨rfl, rfl, rfl⟩ := trodAll_nil r1
  obtain rfl : args = #[v0, v1] := by cases args; simp_all
  obtain ⟨rfl, rfl⟩ := trodVars_none hV
  obtain ⟨a0, rfl, rfl, rfl, w0⟩ := open_int Tryd.underlying3 (hval 0 3 v0 rfl rfl) h0
  obtain ⟨A1, n1, C1, K1, S1, L1, b1, o1, rfl, T1⟩ := acts_open Tryd.underlying22 Tryd.underlying35 (by kernel_rfl) (by kernel_rfl) Tryd.underlying5 Tryd.underlying3 Tryd.underlying29 rfl rfl rfl (hval 1 22 v1 rfl rfl) h1
  clear hA0 hval0
  refine (reviewPlays_any a0 A1 n1 C1 K1 S1 L1 b1 o1 W T1 hT).mono fun e W' ⟨he, bel⟩ => ?_
  subst he
  exact ⟨_, rfl, _, _, _, [], _, [], hW', trodAll_mk1 (shut_bool Tryd.underlying4 _), below_trodAll laidOut bel (by kernel_rfl) hAk, rfl, bel.below.frame _, fun h => by cases h⟩

theorem over : Rows.reviewPlaysRow.holds Tryd.pinned (OpenSpec.ofChange Rows.reviewPlaysSpec) :=
  OpenClaim.holds_of_wide 3 Tryd.f3 rfl rfl rfl rfl rfl rfl rfl ⟨rfl, rfl, rfl, rfl, rfl⟩ rfl rfl rfl rfl rfl (by kernel_rfl) Tryd.func3 (by kernel_rfl)
    (of_decide_eq_true (by kernel_rfl)) (by unfold Func.isWrapper; first | (rw [if_pos (by decide +kernel)]; kernel_rfl) | (rw [if_neg (by decide +kernel)]; exact ⟨rfl, rfl⟩))
    (fun os started H enc _ => lifted os started H enc)

theorem rowHolds : Rows.ReviewPlaysSaid := over
theorem proved : Rows.ReviewPlaysCardSaid :=
  Claim7.holds_tied_plain_at .later [] [.data, .data, .data] true (Rows.reviewPlaysCard.stood.harness) Rows.reviewPlaysCard.stood.looks
    rowHolds (fun _ h => by cases h) (by kernel_rfl) (fun _ h => by cases h) reviewPlays_row_tie rfl ⟨rfl, rfl⟩ (by kernel_rfl) rfl
    (fun f fn hf hfn => by
      obtain rfl : f = 3 := Option.some.inj ((show Tryd.prog.funcNamed Rows.reviewPlaysRow.func = some 3 by kernel_rfl).symm.trans hf) |>.symm
      obtain rfl : fn = Tryd.f3 := (Option.some.inj (Tryd.func3.symm.trans hfn)).symm
      exact ⟨by kernel_rfl, fun j t ht => by
        rw [Tryd.params3] at ht
        have hm : t ∈ [3, 22] := by simpa using Array.mem_of_getElem? ht
        have hall : ([3, 22].all fun u => !Tryd.prog.wantsStandIn u) = true := by kernel_rfl
        exact (show Tryd.prog.wantsStandIn t = false by simpa using List.all_eq_true.1 hall t hm)⟩)
    (by kernel_rfl)
#print axioms proved
end Go.Proofs.YtppoejhfemolfaaDoor.reviewPlays

/-
  The law TopMonotone: its closure, its stops, what is left, in plain numbers.
-/
import Derived.Test.YtoemcpndmfimiaaMonH
namespace Go.Proofs.Ytoemcpndmfimiaa
open Go.RowKit
set_option linter.unusedSimpArgs false

/-- A number from 0 to m. -/
def remV (x m : Int) : Int := IntKind.i64.wrap ((IntKind.u64.wrap x).tmod (m + 1))
theorem rem_bd (x : Int) {m : Int} (h0 : 0 ≤ m) (h1 : m ≤ 1000000) : 0 ≤ remV x m ∧ remV x m ≤ m := by
  unfold remV
  have hU : 0 ≤ IntKind.u64.wrap x := by rw [IntKind.wrap_u64]; omega
  rw [Int.tmod_eq_emod_of_nonneg hU]
  have a := Int.emod_nonneg (IntKind.u64.wrap x) (b := m + 1) (by omega)
  have b := Int.emod_lt_of_pos (IntKind.u64.wrap x) (b := m + 1) (by omega)
  rw [IntWalk.i64_in _ (by omega)]
  omega

set_option maxHeartbeats 1000000 in
theorem rem_any (w : World) (x m : Int) (p : Nat) (hc : w.cell? ⟨p, 0, none⟩ = some (.int .i64 m)) (h0 : 0 ≤ m) (h1 : m ≤ 1000000) :
    Calls Try.prog 9 #[.int .i64 x, .pointer (some ⟨p, 0, none⟩)] w fun e w' => e = .returned (.int .i64 (remV x m)) ∧ w' = w := by
  have e2 : IntKind.u64.wrap (m + 1) = m + 1 := by rw [IntKind.wrap_u64]; omega
  have e3 : ¬ (m + 1 = 0) := by omega
  have e4 : IntKind.i64.wrap (m + 1) = m + 1 := IntWalk.i64_in _ (by omega)
  have HV : Hid (remV x m = IntKind.i64.wrap ((IntKind.u64.wrap x).tmod (m + 1))) := rfl
  go_enter Try.func9, Try.ntmps9
  go_wp2
  go_ret
  exact ⟨ret1 ((IntWalk.i64_left _).symm.trans HV.out.symm), rfl⟩
/-- The law's two stops. -/
def stF (p q s k : Int) (i j : Nat) : Int := if i = 0 then (if j = 0 then p else if j = 1 then q else k) else (if j = 0 then q else if j = 1 then s else k)
theorem stops_ok {L : Nat → Nat} {BL p q s k : Int} (h0 : 0 ≤ s) (h1 : s ≤ q) (h2 : q ≤ p) (h3 : p ≤ BL) (h4 : 0 ≤ k) (h5 : k ≤ (L 0 : Int)) {m : Nat} (hm : m ≤ 2) : StopsOk L BL m (stF p q s k) := by
  refine ⟨fun i hi => ?_, fun i hi => ?_, fun i hi => ?_, fun i hi => ?_⟩
  all_goals
    have hi2 : i = 0 ∨ i = 1 := by omega
    rcases hi2 with rfl | rfl
    all_goals (simp [stF]; try omega)
theorem StopsAt.upto {w : World} {A1 : Option Addr} {k b1 o1 m : Nat} {f : Nat → Nat → Int} (h : StopsAt w A1 k b1 o1 f) (hm : m ≤ k) : StopsAt w A1 m b1 o1 f :=
  ⟨fun g => h.top (by omega), fun i j hi hj => h.cell i j (by omega) hj⟩
section
variable {n : Nat} {L : Nat → Nat} {Z : Nat → Nat → Int} {p q s k : Int}
theorem left_down (hc : checkV n L Z = 0) (h0 : 0 ≤ s) (h1 : s ≤ q) (h2 : q ≤ p) (h3 : p ≤ ((n : Int) - 1) * 6) (h4 : 0 ≤ k) (h5 : k ≤ (L 0 : Int)) :
    leftV n L Z 6 (((n : Int) - 1) * 6) (stF p q s k) 0 = 60000 ∧ leftV n L Z 6 (((n : Int) - 1) * 6) (stF p q s k) 1 ≤ 60000 ∧
      leftV n L Z 6 (((n : Int) - 1) * 6) (stF p q s k) 2 ≤ leftV n L Z 6 (((n : Int) - 1) * 6) (stF p q s k) 1 ∧ 0 ≤ leftV n L Z 6 (((n : Int) - 1) * 6) (stF p q s k) 2 := by
  obtain ⟨BL, hBL⟩ : ∃ BL, BL = ((n : Int) - 1) * 6 := ⟨_, rfl⟩
  have hn := (check_facts hc).1
  have hF := (at_full hc (p := 6) (by omega) (by omega)).1
  rw [← hBL] at hF h3 ⊢
  have rp : ∀ x : Int, 0 ≤ x → x ≤ BL → AtR n L 6 x k := fun x h h' => ⟨by omega, by omega, h, by rw [← hBL]; exact h', h4, h5⟩
  have a1 := at_upto hc (rp s h0 (by omega)) (rp q (by omega) (by omega)) h1
  have a2 := at_upto hc (rp q (by omega) (by omega)) (rp p (by omega) h3) h2
  have a3 := at_downto hc (rp p (by omega) h3)
  have r0 : ∀ x : Int, 0 ≤ x → x ≤ BL → AtR n L 6 x 0 := fun x h h' => ⟨by omega, by omega, h, by rw [← hBL]; exact h', by omega, by omega⟩
  have a4 := at_upto hc (r0 p (by omega) h3) (r0 BL (by omega) (by omega)) h3
  have a5 := (@at_bd n L Z 6 s k).1
  have e1 : leftV n L Z 6 BL (stF p q s k) 1 = atV n L Z 6 BL 0 - (atV n L Z 6 p k - atV n L Z 6 q k) := rfl
  have e2 : leftV n L Z 6 BL (stF p q s k) 2 = leftV n L Z 6 BL (stF p q s k) 1 - (atV n L Z 6 q k - atV n L Z 6 s k) := rfl
  have e0 : leftV n L Z 6 BL (stF p q s k) 0 = atV n L Z 6 BL 0 := rfl
  rw [e0, e2, e1, hF]
  rw [hF] at a4
  omega
end
/-- What the two repaired tables say of one another. -/
theorem covers_least {n : Nat} {L L' : Nat → Nat} {R M T U : Nat → Nat → Int} (hL : L' 0 = L 0) (hT : Good n (L 0) R T) (hU : Good n (L' 0) M U) (hS : Stable n (L' 0) U) (hM : ∀ u w, u < n → w < L' 0 → R u w ≤ M u w) :
    ∀ u w, u < n → w < L' 0 → T u w ≤ U u w := by
  have hv : Vald n (L 0) U := by rw [← hL]; exact want_parts hS
  intro u w hu hw
  refine hT.least U hv (fun i j hi hj => ?_) u w hu (by rw [← hL]; exact hw)
  have h1 := hM i j hi (by rw [hL]; exact hj)
  have h2 := hU.lo i j hi (by rw [hL]; exact hj)
  omega

end Go.Proofs.Ytoemcpndmfimiaa

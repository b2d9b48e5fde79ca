/-
  Contracts of the small functions of layer 41 (from, between, Check of the program and of the reference), over the seat's own dump.
-/
import Derived.Test.YtgokaonikdmnfaaKit
namespace Go.Proofs.Ytgokaonikdmnfaa
open Go.RowKit

set_option maxHeartbeats 400000 in
theorem from_any (n lo hi : Int) (w : World) :
    Calls Try.prog 25 #[.int .i64 n, .int .i64 lo, .int .i64 hi] w fun e w' => e = .returned (.bool (rng n lo hi)) ∧ w = w' := by
  by_cases h1 : lo ≤ n <;> by_cases h2 : n ≤ hi
  all_goals
    have Hf : Hid (rng n lo hi = (decide (lo ≤ n) && decide (n ≤ hi))) := by simp [rng, Hid]
    go_enter Try.func25, Try.ntmps25
    go_wp2
    go_ret
    exact ⟨by rw [Hf.out]; simp [h1, h2], rfl⟩

set_option maxHeartbeats 400000 in
theorem between_any (n lo hi : Int) (w : World) :
    Calls Try.prog 26 #[.int .i64 n, .int .i64 lo, .int .i64 hi] w fun e w' => e = .returned (.bool (rng n lo hi)) ∧ w = w' := by
  by_cases h1 : lo ≤ n <;> by_cases h2 : n ≤ hi
  all_goals
    have Hf : Hid (rng n lo hi = (decide (lo ≤ n) && decide (n ≤ hi))) := by simp [rng, Hid]
    go_enter Try.func26, Try.ntmps26
    go_wp2
    go_ret
    exact ⟨by rw [Hf.out]; simp [h1, h2], rfl⟩

def pok (m po wk rv pe mx gr : Int) : Bool := rng m 0 600 && rng po 60 1000 && rng wk 0 600 && rng rv 0 600 && rng pe 0 10 && rng mx 0 50 && rng gr 0 10
def chk (m po wk rv pe mx gr : Int) : Int := if pok m po wk rv pe mx gr then 0 else 2
theorem chk_def (m po wk rv pe mx gr : Int) : chk m po wk rv pe mx gr = if rng m 0 600 && rng po 60 1000 && rng wk 0 600 && rng rv 0 600 && rng pe 0 10 && rng mx 0 50 && rng gr 0 10 then 0 else 2 := rfl

set_option maxHeartbeats 1000000 in
theorem check_any (m po wk rv pe mx gr : Int) (w : World) :
    Calls Try.prog 16 #[.agg #[.int .i64 m, .int .i64 po, .int .i64 wk, .int .i64 rv, .int .i64 pe, .int .i64 mx, .int .i64 gr]] w fun e w' => e = .returned (.int .i64 (chk m po wk rv pe mx gr)) ∧ Ext w w' := by
  have Hf := Lib.hid (chk_def m po wk rv pe mx gr)
  go_enter Try.func16, Try.ntmps16
  go_wp2_with (go_at_call 25; refine (from_any _ _ _ _).mono ?_; rintro e w' ⟨rfl, rfl⟩)
  all_goals
    go_ret
    refine ⟨?_, ?_⟩
    · rw [Hf.out]; simp_all
    · exact (Ext.refl _).alloc _

set_option maxHeartbeats 1000000 in
theorem rcheck_any (m po wk rv pe mx gr : Int) (w : World) :
    Calls Try.prog 17 #[.agg #[.int .i64 m, .int .i64 po, .int .i64 wk, .int .i64 rv, .int .i64 pe, .int .i64 mx, .int .i64 gr]] w fun e w' => e = .returned (.int .i64 (chk m po wk rv pe mx gr)) ∧ Ext w w' := by
  have Hf := Lib.hid (chk_def m po wk rv pe mx gr)
  go_enter Try.func17, Try.ntmps17
  go_wp2_with (go_at_call 26; refine (between_any _ _ _ _).mono ?_; rintro e w' ⟨rfl, rfl⟩)
  all_goals
    go_ret
    refine ⟨?_, ?_⟩
    · rw [Hf.out]; simp_all
    · exact (Ext.refl _).alloc _

end Go.Proofs.Ytgokaonikdmnfaa

/-
  The law TopMonotone returns true at all tables and numbers.
-/
import Derived.Test.YtoemcpndmfimiaaMonK
namespace Go.Proofs.Ytoemcpndmfimiaa
open Go.RowKit

theorem topMonotone_any (w : World) {A0 : Option Addr} {n : Nat} {A : Nat → Option Addr} {L C : Nat → Nat} {R : Nat → Nat → Int} {b off : Nat} {G O : Nat → Nat} (c0 : Nat) (T : TabAt w A0 n A L C R b off G O)
    {A1 : Option Addr} {n' : Nat} {A' : Nat → Option Addr} {L' C' : Nat → Nat} {R' : Nat → Nat → Int} {b' off' : Nat} {G' O' : Nat → Nat} (c1 : Nat) (T' : TabAt w A1 n' A' L' C' R' b' off' G' O') (x0 x1 x2 x3 : Int) :
    Calls Try.prog 3 #[.agg #[.slice A0 n c0], .agg #[.slice A1 n' c1], .agg #[.int .i64 x0, .int .i64 x1, .int .i64 x2, .int .i64 x3]] w fun e w' => e = .returned (.bool true) ∧ Ext w w' := by
  by_cases h : 8 < n ∨ 8 < n' ∨ (0 < n ∧ 6 < L 0)
  · exact mono_small w c0 T c1 T' x0 x1 x2 x3 h
  · by_cases hr : rendsV n L R = 0
    · have := shape_zero (rends_zero hr).1
      exact mono_main w c0 T c1 T' x0 x1 x2 x3 (by omega) (by omega) (by omega) (by omega) hr
    · exact mono_raw w c0 T c1 T' x0 x1 x2 x3 (by omega) (by omega) (by omega) hr

end Go.Proofs.Ytoemcpndmfimiaa

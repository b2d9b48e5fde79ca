/-
  Contracts of layer 2 (wide): word, made, Mul; and of layer 29: Times.
-/
import Derived.Test.YthckbfkhbegmgaaDoorIntE
import Derived.Test.YthckbfkhbegmgaaDoorShelf
import Derived.Laws.Bits64
namespace Go.Proofs.YthckbfkhbegmgaaDoor
open Go.RowKit
set_option linter.unusedSimpArgs false

def absI (n : Int) : Int := if n < 0 then -n else n
theorem absI_bd {n : Int} (h : -9223372036854775808 ≤ n) (h' : n ≤ 9223372036854775807) : 0 ≤ absI n ∧ absI n ≤ 9223372036854775808 := by unfold absI; split <;> omega
theorem not_nat (n : Nat) (h : n < 18446744073709551616) : 18446744073709551615 ^^^ n = 18446744073709551615 - n := by
  have e : (BitVec.allOnes 64 ^^^ BitVec.ofNat 64 n) = ~~~ (BitVec.ofNat 64 n) := BitVec.allOnes_xor
  have := congrArg BitVec.toNat e
  rw [BitVec.toNat_xor, BitVec.toNat_not, BitVec.toNat_allOnes, BitVec.toNat_ofNat, Nat.mod_eq_of_lt (show n < 2 ^ 64 by omega)] at this
  exact this
theorem not_int (n : Int) (h0 : 0 ≤ n) (h : n < 18446744073709551616) : bits .xor .u64 18446744073709551615 n = 18446744073709551615 - n := by
  obtain ⟨m, rfl⟩ := Int.eq_ofNat_of_zero_le h0
  have := bits_xor_u64_nat 18446744073709551615 m (by omega) (by omega)
  rw [not_nat m (by omega)] at this
  exact this.trans (by omega)
theorem retwb {a b c d : Int} (h : a = c) (h' : b = d) : Ending.returned (.tuple #[.agg #[.int .i64 a, .int .u64 b], .bool true]) = .returned (.tuple #[.agg #[.int .i64 c, .int .u64 d], .bool true]) := by rw [h, h']
def tmLo (a b n : Int) : Int := if vR a b then (if n < 0 then mdLo (b * n) (a * n) else mdLo (a * n) (b * n)) else 0
def tmHi (a b n : Int) : Int := if vR a b then (if n < 0 then mdHi (b * n) (a * n) else mdHi (a * n) (b * n)) else 0
def tmEr (a b n : Int) : Int := if vR a b then (if n < 0 then mdE (b * n) (a * n) else mdE (a * n) (b * n)) else 1

end Go.Proofs.YthckbfkhbegmgaaDoor

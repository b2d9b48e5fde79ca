/-
  Two arrays of four words compared.
-/
import Derived.Test.YthckbfkhbegmgaaDoorIntQ
import Derived.DeepKeys
namespace Go.Proofs.YthckbfkhbegmgaaDoor
open Go.RowKit
theorem kl1 (a : Int) (h : (Lit.int .u64 a).wf = true) : Tryd.prog.keyLits 1 37 [.int .u64 a] = some [.int .u64 a] := by
  unfold Program.keyLits
  rw [Tryd.underlying37]
  simp [h]
theorem kl4 (a0 a1 a2 a3 : Int) (h0 : (Lit.int .u64 a0).wf = true) (h1 : (Lit.int .u64 a1).wf = true) (h2 : (Lit.int .u64 a2).wf = true) (h3 : (Lit.int .u64 a3).wf = true) : Tryd.prog.keyLits 2 57 [.int .u64 a0, .int .u64 a1, .int .u64 a2, .int .u64 a3] = some [.int .u64 a0, .int .u64 a1, .int .u64 a2, .int .u64 a3] := by
  have e1 : Tryd.prog.cellsOf 57 = 4 := by kernel_rfl
  have e2 : Tryd.prog.cellsOf 37 = 1 := by kernel_rfl
  unfold Program.keyLits
  rw [Tryd.underlying57]
  simp only [e1, e2]
  simp [List.range, List.range.loop, kl1, h0, h1, h2, h3]
theorem arr4_eq (w : World) (a0 a1 a2 a3 b0 b1 b2 b3 : Int) (h0 : (Lit.int .u64 a0).wf = true) (h1 : (Lit.int .u64 a1).wf = true) (h2 : (Lit.int .u64 a2).wf = true) (h3 : (Lit.int .u64 a3).wf = true) (k0 : (Lit.int .u64 b0).wf = true) (k1 : (Lit.int .u64 b1).wf = true) (k2 : (Lit.int .u64 b2).wf = true) (k3 : (Lit.int .u64 b3).wf = true) :
    (Op.equalIn 10000 57 (.agg #[.int .u64 a0, .int .u64 a1, .int .u64 a2, .int .u64 a3]) (.agg #[.int .u64 b0, .int .u64 b1, .int .u64 b2, .int .u64 b3])).run Tryd.prog w = .ok (decide (a0 = b0 ∧ a1 = b1 ∧ a2 = b2 ∧ a3 = b3)) w := by
  have h := run_equalIn_deep (P := Tryd.prog) 9998 2 57 (by kernel_rfl)
  obtain ⟨r, hr, hi⟩ := h w 2 2 (.agg #[.int .u64 a0, .int .u64 a1, .int .u64 a2, .int .u64 a3]) (.agg #[.int .u64 b0, .int .u64 b1, .int .u64 b2, .int .u64 b3]) _ _ (by kernel_rfl) (by kernel_rfl) (kl4 a0 a1 a2 a3 h0 h1 h2 h3) (kl4 b0 b1 b2 b3 k0 k1 k2 k3)
  rw [hr]
  have : r = decide (a0 = b0 ∧ a1 = b1 ∧ a2 = b2 ∧ a3 = b3) := by
    have e : ([Lit.int .u64 a0, Lit.int .u64 a1, Lit.int .u64 a2, Lit.int .u64 a3] = [Lit.int .u64 b0, Lit.int .u64 b1, Lit.int .u64 b2, Lit.int .u64 b3]) ↔ (a0 = b0 ∧ a1 = b1 ∧ a2 = b2 ∧ a3 = b3) := by simp
    rw [e] at hi
    cases r
    · symm
      rw [decide_eq_false_iff_not]
      intro e
      have := hi.2 e
      cases this
    · symm
      rw [decide_eq_true_eq]
      exact hi.1 rfl
  rw [this]
end Go.Proofs.YthckbfkhbegmgaaDoor

/-
  The keys of TopRobin's maps; what its maps hold.
-/
import Derived.Test.YtdaidanpcehnnaaRobM
namespace Go.Proofs.Ytdaidanpcehnnaa
open Go.RowKit
open Go.Maps (Keyed IsMap atKey_put_same atKey_put_other)
open Go.WideMaps (KeyLaw)
set_option linter.unusedSimpArgs false

theorem laidOut0 : laidOutB Try.prog = true := by kernel_rfl
theorem lawPlace : KeyLaw Try.prog 43 := deep_law_laid laidOut0 (m := 2) (by omega) (of_decide_eq_true (by kernel_rfl)) (by kernel_rfl) (by rw [Try.underlying43])
theorem lawPair : KeyLaw Try.prog 44 := deep_law_laid laidOut0 (m := 2) (by omega) (of_decide_eq_true (by kernel_rfl)) (by kernel_rfl) (by rw [Try.underlying44])
theorem ktPlace : Try.prog.keyType 43 = true := by kernel_rfl
theorem ktPair : Try.prog.keyType 44 = true := by kernel_rfl
theorem cPlace : Try.prog.cellsOf 43 = 2 := by kernel_rfl
theorem cPair : Try.prog.cellsOf 44 = 2 := by kernel_rfl
theorem cInt : Try.prog.cellsOf 3 = 1 := by kernel_rfl
theorem cInt64 : Try.prog.cellsOf 2 = 1 := by kernel_rfl
theorem sizeP : ∃ m, Try.prog.types.size + 1 = m + 2 := ⟨Try.prog.types.size - 1, by have : 2 ≤ Try.prog.types.size := of_decide_eq_true (by kernel_rfl); omega⟩
theorem keyPlace {g d : Int} (hg : (Lit.int .i64 g).wf = true) (hd : (Lit.int .i64 d).wf = true) : ∃ kl, keyOf Try.prog 43 (.agg #[.int .i64 g, .int .i64 d]) = some kl := by
  obtain ⟨m, hm⟩ := sizeP
  unfold keyOf
  rw [Try.underlying43, hm]
  simp [ktPlace, Value.formed, Try.underlying43, cPlace, Value.cells, Program.keyLits, Try.underlying3, Try.underlying2, cInt, cInt64, hg, hd]
theorem keyPair {i j : Int} (hg : (Lit.int .i64 i).wf = true) (hd : (Lit.int .i64 j).wf = true) : ∃ kl, keyOf Try.prog 44 (.agg #[.int .i64 i, .int .i64 j]) = some kl := by
  obtain ⟨m, hm⟩ := sizeP
  unfold keyOf
  rw [Try.underlying44, hm]
  simp [ktPair, Value.formed, Try.underlying44, cPair, Value.cells, Program.keyLits, Try.underlying3, cInt, hg, hd, List.range, List.range.loop]
theorem zeroB (u : World) : (zeroValue 4).run Try.prog u = .ok (.bool false) u := by kernel_rfl
theorem zeroI (u : World) : (zeroValue 3).run Try.prog u = .ok (.int .i64 0) u := by kernel_rfl

end Go.Proofs.Ytdaidanpcehnnaa

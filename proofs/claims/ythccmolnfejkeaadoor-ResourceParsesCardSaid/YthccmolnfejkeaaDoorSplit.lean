/-
  strings.SplitAfter at line ends: the lines, each with its end, as cells of a new row.
-/
import Derived.Test.YthccmolnfejkeaaDoorKit
import Derived.Test.YthccmolnfejkeaaDoorShelf
import Derived.Lib.SplitLaws
namespace Go.Proofs.YthccmolnfejkeaaDoor
open Go.RowKit
set_option linter.unusedSimpArgs false

theorem cellsOf_at {xs : List ByteArray} {N j : Nat} {x : ByteArray} (h : xs[j]? = some x) : (Lib.cellsOf xs N)[j]? = some (.string x) := by
  have hj : j < xs.length := by
    rcases Nat.lt_or_ge j xs.length with h' | h'
    · exact h'
    · rw [List.getElem?_eq_none h'] at h; cases h
  unfold Lib.cellsOf
  rw [List.getElem?_toArray, List.getElem?_append_left (by simpa using hj), List.getElem?_map, h]
  rfl
def SplOK (L : List UInt8) (w : World) (e : Ending) (w' : World) : Prop :=
  e = .returned (.slice (some ⟨w.heap.size, 0, none⟩) (Lib.countB ⟨L.toArray⟩ ⟨#[10]⟩ + 1) (Lib.countB ⟨L.toArray⟩ ⟨#[10]⟩ + 1)) ∧ Ext w w' ∧
    ∀ j x, (Lib.splitB ⟨#[10]⟩ 1 (Lib.countB ⟨L.toArray⟩ ⟨#[10]⟩) ⟨L.toArray⟩)[j]? = some x → w'.cell? ⟨w.heap.size, j, none⟩ = some (.string x)

theorem splitAfter_any (L : List UInt8) (hL : L.length ≤ 1000000) (m : Int) (w : World) (hm : w.cell? ⟨1, 0, none⟩ = some (.int .i64 m)) :
    Calls Tryd.prog 28 #[.string ⟨L.toArray⟩, .string ⟨#[10]⟩] w (SplOK L w) := by
  have hsz : (⟨L.toArray⟩ : ByteArray).size = L.length := by simp [ByteArray.size]
  have hc : Lib.countB ⟨L.toArray⟩ ⟨#[10]⟩ ≤ (⟨L.toArray⟩ : ByteArray).size := Lib.countB_le ⟨#[10]⟩ (by decide) _ _ (Nat.le_refl _)
  have hl := Lib.splitB_all ⟨#[10]⟩ (by decide) 1 _ ⟨L.toArray⟩ rfl
  have HS : Hid (∀ w', Calls Tryd.prog 40 #[.string ⟨L.toArray⟩, .string ⟨#[10]⟩, .int .i64 1, .int .i64 (-1)] w w' → True) := fun _ _ => trivial
  have HG := Tryd.strings_genSplit ⟨L.toArray⟩ ⟨#[10]⟩ 1 (-1) (Lib.countB ⟨L.toArray⟩ ⟨#[10]⟩ + 1) m w (by rw [hsz]; omega) hm (by decide) (by decide) (by decide) (by decide) (by rw [if_pos (by decide)]; omega)
  rw [Nat.add_sub_cancel, hl] at HG
  have HG2 := Lib.hid HG
  clear HG hc hl HS hsz
  go_enter Tryd.func28, Tryd.ntmps28
  go_wp2_with (go_at_call 40; refine HG2.out.mono ?_; rintro e w1 ⟨rfl, rfl⟩)
  go_ret
  refine ⟨rfl, Ext.alloc (Ext.refl w) _, fun j x hx => ?_⟩
  exact (Lib.cell_of_heap (heap_alloc_new w _) j).trans (cellsOf_at hx)

end Go.Proofs.YthccmolnfejkeaaDoor

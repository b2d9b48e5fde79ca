/-
  Any line, its end taken off, and its words: what the program's Parse meets at any string (layer 31).
-/
import Derived.Test.YtaeblcgblmipaaaDoorCamO
namespace Go.Proofs.YtaeblcgblmipaaaDoor
open Go.RowKit
set_option linter.unusedSimpArgs false

theorem trim_len (L : List UInt8) : (Lib.trimSuffix L [10]).length ≤ L.length := by
  unfold Lib.trimSuffix
  split
  · simp
  · exact Nat.le_refl _
theorem trimg_any (L : List UInt8) (hL : L.length ≤ 1000000) (w : World) : Calls Tryd.prog 36 #[.string ⟨L.toArray⟩, .string ⟨#[10]⟩] w fun e w' => e = .returned (.string ⟨(Lib.trimSuffix L [10]).toArray⟩) ∧ w = w' := by
  have hs : (⟨L.toArray⟩ : ByteArray).size ≤ 9223372036854775807 := by
    have h1 : (⟨L.toArray⟩ : ByteArray).size = L.length := by simp [ByteArray.size]
    rw [h1]; omega
  have HT := Tryd.strings_TrimSuffix ⟨L.toArray⟩ ⟨#[10]⟩ w hs
  refine HT.mono ?_
  intro e w' he
  obtain ⟨h1, h2⟩ := he
  refine ⟨?_, h2.symm⟩
  rw [h1]
/-- The words of any text: as many as there are blanks, and one. -/
theorem splitg_any (L : List UInt8) (hL : L.length ≤ 1000000) (w : World) (h : DX w) : Calls Tryd.prog 35 #[.string ⟨L.toArray⟩, .string ⟨#[32]⟩] w fun e w' =>
    e = .returned (.slice (some ⟨w.heap.size, 0, none⟩) (Lib.countB ⟨L.toArray⟩ ⟨#[32]⟩ + 1) (Lib.countB ⟨L.toArray⟩ ⟨#[32]⟩ + 1)) ∧ Ext w w' ∧
      ∀ j, j < Lib.countB ⟨L.toArray⟩ ⟨#[32]⟩ + 1 → ∃ x : List UInt8, w'.cell? ⟨w.heap.size, j, none⟩ = some (.string ⟨x.toArray⟩) := by
  obtain ⟨m, hm⟩ := h.mx
  have hl := Lib.splitB_all ⟨#[32]⟩ (by decide) 0 _ ⟨L.toArray⟩ rfl
  refine (Tryd.strings_Split ⟨L.toArray⟩ ⟨#[32]⟩ m w (by simp [ByteArray.size]; omega) hm (by decide)).mono ?_
  rintro e w' ⟨rfl, rfl⟩
  refine ⟨rfl, Ext.alloc (Ext.refl w) _, fun j hj => ?_⟩
  obtain ⟨x, hx⟩ : ∃ x, (Lib.splitB ⟨#[32]⟩ 0 (Lib.countB ⟨L.toArray⟩ ⟨#[32]⟩) ⟨L.toArray⟩)[j]? = some x := ⟨_, List.getElem?_eq_getElem (by rw [hl]; exact hj)⟩
  refine ⟨x.data.toList, (Lib.cell_of_heap (heap_alloc_new w _) j).trans ?_⟩
  rw [List.getElem?_toArray, List.getElem?_map, hx]
  rfl

end Go.Proofs.YtaeblcgblmipaaaDoor

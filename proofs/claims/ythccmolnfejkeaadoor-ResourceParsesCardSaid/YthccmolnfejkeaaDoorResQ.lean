/-
  The memory of Parse (layer 37): a table that grows row by row, each row of its own length.
-/
import Derived.Test.YthccmolnfejkeaaDoorResE
namespace Go.Proofs.YthccmolnfejkeaaDoor
open Go.RowKit

def hdx (x : Nat × Nat × Nat) : Value := .slice (some ⟨x.1, 0, none⟩) x.2.1 x.2.2
/-- A table in the making: the box tb holds the slice of its rows, u of them are done, row i of the numbers f i, as many as its header says. -/
structure ParInv (w wr : World) (tb rb u : Nat) (rv vt : Value) (rs : List (Nat × Nat × Nat)) (f : Nat → Nat → Int) : Prop where
  ext : Ext w wr
  tnew : w.heap.size ≤ tb
  tne : tb ≠ rb
  rnew : w.heap.size ≤ rb
  tbox : wr.heap[tb]? = some (.cells #[vt] 24 (0, 0))
  rbox : wr.heap[rb]? = some (.cells #[rv] 24 (0, 0))
  own : wr.ownsRow w.heap.size 38 1 vt u (rs.map hdx)
  rows : ∀ i x, rs[i]? = some x → wr.ownsRow w.heap.size 2 1 (hdx x) x.2.1 (rowV x.2.1 (f i))
section
variable {w wo wr w1 : World} {tb rb u : Nat} {rv vt v' : Value} {rs : List (Nat × Nat × Nat)} {f : Nat → Nat → Int}
theorem ParInv.cell (h : ParInv w wr tb rb u rv vt rs f) : wr.cell? ⟨tb, 0, none⟩ = some vt ∧ wr.frozen? ⟨tb, 0, none⟩ = false := by
  have := h.tbox
  constructor <;> simp [World.cell?, World.frozen?, this]
theorem ParInv.rcell (h : ParInv w wr tb rb u rv vt rs f) : wr.cell? ⟨rb, 0, none⟩ = some rv ∧ wr.frozen? ⟨rb, 0, none⟩ = false := by
  have := h.rbox
  constructor <;> simp [World.cell?, World.frozen?, this]
theorem ParInv.grow (h : ParInv w wr tb rb u rv vt rs f) (x : Ext wr w1) : ParInv w w1 tb rb u rv vt rs f where
  ext := h.ext.trans x
  tnew := h.tnew
  tne := h.tne
  rnew := h.rnew
  tbox := (x.block tb (Array.getElem?_eq_some_iff.1 h.tbox).1).trans h.tbox
  rbox := (x.block rb (Array.getElem?_eq_some_iff.1 h.rbox).1).trans h.rbox
  own := own_ext h.own x
  rows := fun i y hy => own_ext (h.rows i y hy) x
/-- Behind the append of a header: the rows and the boxes are as they were. -/
theorem ParInv.appended (h : ParInv w wr tb rb u rv vt rs f) (hg : wr.grownBy w1 vt.ownBlock) :
    Ext w w1 ∧ w1.heap[tb]? = some (.cells #[vt] 24 (0, 0)) ∧ w1.heap[rb]? = some (.cells #[rv] 24 (0, 0)) ∧
      ∀ i x, rs[i]? = some x → w1.ownsRow w.heap.size 2 1 (hdx x) x.2.1 (rowV x.2.1 (f i)) := by
  have ht : some tb ≠ vt.ownBlock := by
    rcases own_ne_blk h.own h.tbox (by decide) with e | e
    · rw [e]; exact fun h => by cases h
    · exact fun h => e h.symm
  have hr : some rb ≠ vt.ownBlock := by
    rcases own_ne_blk h.own h.rbox (by decide) with e | e
    · rw [e]; exact fun h => by cases h
    · exact fun h => e h.symm
  refine ⟨ext_grown h.ext hg (own_row_ge h.own), (hg.block tb (Array.getElem?_eq_some_iff.1 h.tbox).1 ht).trans h.tbox, (hg.block rb (Array.getElem?_eq_some_iff.1 h.rbox).1 hr).trans h.rbox, fun i x hx => ?_⟩
  exact (h.rows i x hx).kept hg (own_ne (h.rows i x hx) h.own (by decide))
theorem ParInv.done (h : ParInv w wr tb rb u rv vt rs f) (hg : wr.grownBy w1 vt.ownBlock) {g k c : Nat} (hrow : wr.ownsRow w.heap.size 2 1 (hdx (g, k, c)) k (rowV k (f u)))
    (hown : w1.ownsRow w.heap.size 38 1 v' (u + 1) (rs.map hdx ++ [hdx (g, k, c)])) (hl : rs.length = u) :
    ParInv w (w1.setCell ⟨tb, 0, none⟩ v') tb rb (u + 1) rv v' (rs ++ [(g, k, c)]) f := by
  obtain ⟨h1, h2, h3, h4⟩ := h.appended hg
  have hs := grown_setCell w1 tb 0 v'
  refine ⟨h1.setCell h.tnew _, h.tnew, h.tne, h.rnew, ?_, ?_, ?_, fun i x hx => ?_⟩
  · simp [World.setCell, Array.getElem?_modify, h2]
  · rw [Below.heap_setCell _ _ _ _ (show rb ≠ tb from fun e => h.tne e.symm)]; exact h3
  · have := hown.kept hs (own_ne_blk hown h2 (by decide))
    simpa using this
  · have hrow1 := hrow.kept hg (own_ne hrow h.own (by decide))
    rcases Nat.lt_or_ge i u with hi | hi
    · rw [List.getElem?_append_left (by omega)] at hx
      exact (h4 i x hx).kept hs (own_ne_blk (h4 i x hx) h2 (by decide))
    · have hi2 : i = u := by
        have := (List.getElem?_eq_some_iff.1 hx).1
        simp at this; omega
      subst hi2
      rw [List.getElem?_append_right (by omega), hl] at hx
      simp at hx
      subst hx
      exact hrow1.kept hs (own_ne_blk hrow1 h2 (by decide))
theorem ParInv.rstore (h : ParInv w wr tb rb u rv vt rs f) (x : Value) : ParInv w (wr.setCell ⟨rb, 0, none⟩ x) tb rb u x vt rs f := by
  have hs := grown_setCell wr rb 0 x
  refine ⟨h.ext.setCell h.rnew _, h.tnew, h.tne, h.rnew, ?_, ?_, ?_, fun i y hy => ?_⟩
  · rw [Below.heap_setCell _ _ _ _ (show tb ≠ rb from h.tne)]; exact h.tbox
  · simp [World.setCell, Array.getElem?_modify, h.rbox]
  · exact h.own.kept hs (own_ne_blk h.own h.rbox (by decide))
  · exact (h.rows i y hy).kept hs (own_ne_blk (h.rows i y hy) h.rbox (by decide))
/-- The numbers of a row are the numbers of another function. -/
theorem ParInv.congr {g : Nat → Nat → Int} (h : ParInv w wr tb rb u rv vt rs f) (hl : rs.length = u) (hg : ∀ i j, i < u → f i j = g i j) : ParInv w wr tb rb u rv vt rs g where
  ext := h.ext
  tnew := h.tnew
  tne := h.tne
  rnew := h.rnew
  tbox := h.tbox
  rbox := h.rbox
  own := h.own
  rows := fun i x hx => by
    have hi : i < u := by have := (List.getElem?_eq_some_iff.1 hx).1; omega
    have : rowV x.2.1 (g i) = rowV x.2.1 (f i) := by
      unfold rowV
      refine List.map_congr_left fun j _ => ?_
      rw [hg i j hi]
    rw [this]
    exact h.rows i x hx
/-- The table that is done, as TabAt. -/
theorem ParInv.tab (h : ParInv w wr tb rb u rv vt rs f) (hl : rs.length = u) (hu' : u ≤ 9223372036854775807)
    (hk : ∀ i, i < u → (rs.getD i (0, 0, 0)).2.1 ≤ 9223372036854775807)
    (hw : ∀ i j, i < u → j < (rs.getD i (0, 0, 0)).2.1 → -9223372036854775808 ≤ f i j ∧ f i j ≤ 9223372036854775807) :
    ∃ A0 g c, vt = .slice A0 u c ∧ TabAt wr A0 u (fun i => some ⟨(rs.getD i (0, 0, 0)).1, 0, none⟩) (fun i => (rs.getD i (0, 0, 0)).2.1) (fun i => (rs.getD i (0, 0, 0)).2.2) f g 0 (fun i => (rs.getD i (0, 0, 0)).1) (fun _ => 0) := by
  have hx : ∀ i, i < u → rs[i]? = some (rs.getD i (0, 0, 0)) := fun i hi => by
    rw [List.getD_eq_getElem?_getD, List.getElem?_eq_getElem (by omega)]; rfl
  rcases h.own.2 with ⟨rfl, rfl⟩ | ⟨g, cap, cur, rfl, hb, hg, _⟩
  · exact ⟨none, 0, 0, rfl, hu', fun i hi => absurd hi (by omega), fun hi => absurd hi (by omega), fun i hi => absurd hi (by omega), fun i hi => absurd hi (by omega), fun i j hi => absurd hi (by omega), fun i j hi => absurd hi (by omega)⟩
  · refine ⟨_, g, cap, rfl, hu', hk, fun _ => ⟨rfl, (Array.getElem?_eq_some_iff.1 hg).1⟩, fun i hi => ?_, fun i hi hk0 => ⟨rfl, ?_⟩, fun i j hi hj => ?_, hw⟩
    · have := own_cell h.own (j := i) (u := hdx (rs.getD i (0, 0, 0))) (by rw [List.getElem?_map, hx i hi]; rfl)
      simpa [hdx] using this
    · obtain ⟨g', c', e, _, hlt⟩ := own_form (h.rows i _ (hx i hi)) hk0
      simp [hdx] at e
      rw [← e.1] at hlt; simpa using hlt
    · have := own_cell (h.rows i _ (hx i hi)) (j := j) (u := .int .i64 (f i j)) (by simp only [rowV, List.getElem?_map]; rw [List.getElem?_range hj]; rfl)
      simpa using this
end

end Go.Proofs.YthccmolnfejkeaaDoor

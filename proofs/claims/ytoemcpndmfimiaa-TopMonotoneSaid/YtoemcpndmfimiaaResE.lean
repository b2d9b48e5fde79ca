/-
  The memory of Linear (layer 37): a table that grows row by row.
-/
import Derived.Test.YtoemcpndmfimiaaResP
import Derived.Test.YtoemcpndmfimiaaMem
namespace Go.Proofs.Ytoemcpndmfimiaa
open Go.RowKit

def hdr (k : Nat) (x : Nat × Nat) : Value := .slice (some ⟨x.1, 0, none⟩) k x.2
def rowV (k : Nat) (f : Nat → Int) : List Value := (List.range k).map fun j => .int .i64 (f j)
/-- A table in the making: the box tb holds the slice of its rows, u of them are done, each k long, row i of the numbers f i. -/
structure LinInv (w wr : World) (tb rb k u : Nat) (rv vt : Value) (rs : List (Nat × Nat)) (f : Nat → Nat → Int) : Prop where
  ext : Ext w wr
  tnew : w.heap.size ≤ tb
  tne : tb ≠ rb
  rnew : w.heap.size ≤ rb
  tbox : wr.heap[tb]? = some (.cells #[vt] 24 (0, 0))
  rbox : wr.heap[rb]? = some (.cells #[rv] 24 (0, 0))
  own : wr.ownsRow w.heap.size 27 1 vt u (rs.map (hdr k))
  rows : ∀ i x, rs[i]? = some x → wr.ownsRow w.heap.size 2 1 (hdr k x) k (rowV k (f i))
section
variable {w wo wr w1 : World} {tb rb k u : Nat} {rv vt v' : Value} {rs : List (Nat × Nat)} {f : Nat → Nat → Int}
theorem LinInv.cell (h : LinInv w wr tb rb k u rv vt rs f) : wr.cell? ⟨tb, 0, none⟩ = some vt ∧ wr.frozen? ⟨tb, 0, none⟩ = false := by
  have := h.tbox
  constructor <;> simp [World.cell?, World.frozen?, this]
theorem LinInv.rcell (h : LinInv w wr tb rb k u rv vt rs f) : wr.cell? ⟨rb, 0, none⟩ = some rv ∧ wr.frozen? ⟨rb, 0, none⟩ = false := by
  have := h.rbox
  constructor <;> simp [World.cell?, World.frozen?, this]
theorem LinInv.grow (h : LinInv w wr tb rb k u rv vt rs f) (x : Ext wr w1) : LinInv w w1 tb rb k u rv vt rs f where
  ext := h.ext.trans x
  tnew := h.tnew
  tne := h.tne
  rnew := h.rnew
  tbox := (x.block tb (Array.getElem?_eq_some_iff.1 h.tbox).1).trans h.tbox
  rbox := (x.block rb (Array.getElem?_eq_some_iff.1 h.rbox).1).trans h.rbox
  own := own_ext h.own x
  rows := fun i y hy => own_ext (h.rows i y hy) x
/-- Behind the append of a header: the rows and the boxes are as they were. -/
theorem LinInv.appended (h : LinInv w wr tb rb k u rv vt rs f) (hg : wr.grownBy w1 vt.ownBlock) :
    Ext w w1 ∧ w1.heap[tb]? = some (.cells #[vt] 24 (0, 0)) ∧ w1.heap[rb]? = some (.cells #[rv] 24 (0, 0)) ∧
      ∀ i x, rs[i]? = some x → w1.ownsRow w.heap.size 2 1 (hdr k x) k (rowV k (f i)) := by
  have ht : some tb ≠ vt.ownBlock := by
    rcases own_ne_blk h.own h.tbox (by decide) with e | e
    · rw [e]; exact fun h => by cases h
    · exact fun h => e h.symm
  have hr : some rb ≠ vt.ownBlock := by
    rcases own_ne_blk h.own h.rbox (by decide) with e | e
    · rw [e]; exact fun h => by cases h
    · exact fun h => e h.symm
  refine ⟨ext_grown h.ext hg (own_row_ge h.own), (hg.block tb (Array.getElem?_eq_some_iff.1 h.tbox).1 ht).trans h.tbox, (hg.block rb (Array.getElem?_eq_some_iff.1 h.rbox).1 hr).trans h.rbox, fun i x hx => ?_⟩
  exact (h.rows i x hx).kept hg (own_ne (h.rows i x hx) h.own (by decide))
theorem LinInv.done (h : LinInv w wr tb rb k u rv vt rs f) (hg : wr.grownBy w1 vt.ownBlock) {g c : Nat} (hrow : wr.ownsRow w.heap.size 2 1 (hdr k (g, c)) k (rowV k (f u)))
    (hown : w1.ownsRow w.heap.size 27 1 v' (u + 1) (rs.map (hdr k) ++ [hdr k (g, c)])) (hl : rs.length = u) :
    LinInv w (w1.setCell ⟨tb, 0, none⟩ v') tb rb k (u + 1) rv v' (rs ++ [(g, c)]) f := by
  obtain ⟨h1, h2, h3, h4⟩ := h.appended hg
  have hs := grown_setCell w1 tb 0 v'
  refine ⟨h1.setCell h.tnew _, h.tnew, h.tne, h.rnew, ?_, ?_, ?_, fun i x hx => ?_⟩
  · simp [World.setCell, Array.getElem?_modify, h2]
  · rw [Below.heap_setCell _ _ _ _ (show rb ≠ tb from fun e => h.tne e.symm)]; exact h3
  · have := hown.kept hs (own_ne_blk hown h2 (by decide))
    simpa using this
  · have hrow1 := hrow.kept hg (own_ne hrow h.own (by decide))
    rcases Nat.lt_or_ge i u with hi | hi
    · rw [List.getElem?_append_left (by omega)] at hx
      exact (h4 i x hx).kept hs (own_ne_blk (h4 i x hx) h2 (by decide))
    · have hi2 : i = u := by
        have := (List.getElem?_eq_some_iff.1 hx).1
        simp at this; omega
      subst hi2
      rw [List.getElem?_append_right (by omega), hl] at hx
      simp at hx
      subst hx
      exact hrow1.kept hs (own_ne_blk hrow1 h2 (by decide))
theorem LinInv.rstore (h : LinInv w wr tb rb k u rv vt rs f) (x : Value) : LinInv w (wr.setCell ⟨rb, 0, none⟩ x) tb rb k u x vt rs f := by
  have hs := grown_setCell wr rb 0 x
  refine ⟨h.ext.setCell h.rnew _, h.tnew, h.tne, h.rnew, ?_, ?_, ?_, fun i y hy => ?_⟩
  · rw [Below.heap_setCell _ _ _ _ (show tb ≠ rb from h.tne)]; exact h.tbox
  · simp [World.setCell, Array.getElem?_modify, h.rbox]
  · exact h.own.kept hs (own_ne_blk h.own h.rbox (by decide))
  · exact (h.rows i y hy).kept hs (own_ne_blk (h.rows i y hy) h.rbox (by decide))
theorem two_new (w : World) (o1 o2 : Obj) : ((w.alloc o1).alloc o2).heap[w.heap.size + 1]? = some o2 ∧ ((w.alloc o1).alloc o2).heap[w.heap.size]? = some o1 := by
  have h1 := heap_alloc_new (w.alloc o1) o2
  rw [World.size_alloc] at h1
  exact ⟨h1, (Below.heap_alloc (w.alloc o1) o2 w.heap.size (by simp)).trans (heap_alloc_new w o1)⟩
/-- The table that is done, as TabAt. -/
theorem LinInv.tab (h : LinInv w wr tb rb k u rv vt rs f) (hl : rs.length = u) (hu : 0 < u) (hu' : u ≤ 9223372036854775807) (hk : k ≤ 9223372036854775807)
    (hw : ∀ i j, i < u → j < k → -9223372036854775808 ≤ f i j ∧ f i j ≤ 9223372036854775807) :
    ∃ g c, vt = .slice (some ⟨g, 0, none⟩) u c ∧ TabAt wr (some ⟨g, 0, none⟩) u (fun i => some ⟨(rs.getD i (0, 0)).1, 0, none⟩) (fun _ => k) (fun i => (rs.getD i (0, 0)).2) f g 0 (fun i => (rs.getD i (0, 0)).1) (fun _ => 0) := by
  obtain ⟨g, c, rfl, hg, hgl⟩ := own_form h.own hu
  have hx : ∀ i, i < u → rs[i]? = some (rs.getD i (0, 0)) := fun i hi => by
    rw [List.getD_eq_getElem?_getD, List.getElem?_eq_getElem (by omega)]; rfl
  refine ⟨g, c, rfl, hu', fun _ _ => hk, fun _ => ⟨rfl, hgl⟩, fun i hi => ?_, fun i hi hk0 => ⟨rfl, ?_⟩, fun i j hi hj => ?_, hw⟩
  · have := own_cell h.own (j := i) (u := hdr k (rs.getD i (0, 0))) (by rw [List.getElem?_map, hx i hi]; rfl)
    simpa [hdr] using this
  · obtain ⟨g', c', e, _, hlt⟩ := own_form (h.rows i _ (hx i hi)) hk0
    simp [hdr] at e
    rw [← e.1] at hlt; simpa using hlt
  · have := own_cell (h.rows i _ (hx i hi)) (j := j) (u := .int .i64 (f i j)) (by simp [rowV, hj])
    simpa using this
end

end Go.Proofs.Ytoemcpndmfimiaa

/-
  The memory of the law TopRobin as one relation, and what each of its writes leaves.
-/
import Derived.Test.YtdaidanpcehnnaaRobO
namespace Go.Proofs.Ytdaidanpcehnnaa
open Go.RowKit
set_option linter.unusedSimpArgs false

theorem own_ne_map {w : World} {base : Nat} {e : TypeId} {size : Nat} {v : Value} {n : Nat} {xs : List Value} {b clock : Nat} {es : Array MapEntry} (h : w.ownsRow base e size v n xs) (hm : w.heap[b]? = some (.map es clock)) : v.ownBlock ≠ some b := by
  rcases h.2 with ⟨rfl, _⟩ | ⟨g, cap, cur, rfl, _, hg, _⟩
  · exact fun h => by cases h
  · intro he
    have hgg : g = b := by simpa [Value.ownBlock] using he
    subst hgg
    rw [hg] at hm
    cases hm
theorem BusyAt.map {w : World} {bm k : Nat} {l : List Fx} {ds gr : Nat → Int} (h : BusyAt w bm k l ds gr) : ∃ es clock, w.heap[bm]? = some (.map es clock) := by
  obtain ⟨D, ⟨es, clock, h1, _⟩, _⟩ := h
  exact ⟨es, clock, h1⟩
theorem MetAt.map {w : World} {bm k : Nat} {l : List Fx} (h : MetAt w bm k l) : ∃ es clock, w.heap[bm]? = some (.map es clock) := by
  obtain ⟨D, ⟨es, clock, h1, _⟩, _⟩ := h
  exact ⟨es, clock, h1⟩
def intsV (L : List Int) : List Value := L.map (Value.int .i64)
/-- The rows of days: their headers in block tb, each row in a block of its own. -/
structure DaysIs (w : World) (base tb n : Nat) (vs : Nat → Value) (L : Nat → List Int) : Prop where
  row : w.rowIs tb 45 n vs
  own : ∀ t, t < n → w.ownsRow base 2 1 (vs t) (L t).length (intsV (L t))
  apart : ∀ s t, s < n → t < n → s ≠ t → (vs s).ownBlock = none ∨ (vs s).ownBlock ≠ (vs t).ownBlock
theorem DaysIs.of_blocks {w w' : World} {base tb n : Nat} {vs : Nat → Value} {L : Nat → List Int} (h : DaysIs w base tb n vs L) {row : Option Nat} (hg : w.grownBy w' row) (h1 : some tb ≠ row) (h2 : ∀ t, t < n → (vs t).ownBlock = none ∨ (vs t).ownBlock ≠ row) : DaysIs w' base tb n vs L :=
  ⟨h.row.of_block (hg.block tb h.row.lt h1), fun t ht => (h.own t ht).kept hg (h2 t ht), h.apart⟩
theorem DaysIs.ext {w w' : World} {base tb n : Nat} {vs : Nat → Value} {L : Nat → List Int} (h : DaysIs w base tb n vs L) (x : Ext w w') : DaysIs w' base tb n vs L :=
  ⟨rowIs_ext h.row x, fun t ht => own_ext (h.own t ht) x, h.apart⟩
theorem row_blk {w : World} {b : Nat} {t : TypeId} {n : Nat} {f : Nat → Value} (h : w.rowIs b t n f) : ∃ c, w.heap[b]? = some (.cells c t (0, 0)) := by
  obtain ⟨c, hb, _⟩ := h
  exact ⟨c, hb⟩
theorem own_ne_row {w : World} {base : Nat} {e t : TypeId} {size : Nat} {v : Value} {k b n : Nat} {xs : List Value} {f : Nat → Value} (h : w.ownsRow base e size v k xs) (hr : w.rowIs b t n f) (hne : e ≠ t) : v.ownBlock = none ∨ v.ownBlock ≠ some b := by
  obtain ⟨c, hb⟩ := row_blk hr
  exact own_ne_blk h hb hne
theorem row_ne_map {w : World} {b n m clock : Nat} {t : TypeId} {f : Nat → Value} {es : Array MapEntry} (h : w.rowIs b t n f) (hm : w.heap[m]? = some (.map es clock)) : b ≠ m := fun e => by
  obtain ⟨c, hb⟩ := row_blk h
  rw [e, hm] at hb
  cases hb

/-- All of it: behind wp, the maps in m1 and m2, the headers of the days in tb. -/
structure Rob (wp w : World) (m1 m2 tb n k1 k2 : Nat) (l : List Fx) (ds gr : Nat → Int) (L : Nat → List Int) : Prop where
  ext : Ext wp w
  n1 : wp.heap.size ≤ m1
  n2 : wp.heap.size ≤ m2
  n3 : wp.heap.size ≤ tb
  ne : m1 ≠ m2
  busy : BusyAt w m1 k1 l ds gr
  met : MetAt w m2 k2 l
  days : ∃ vs, DaysIs w wp.heap.size tb n vs L
section
variable {wp w w' w1 : World} {m1 m2 tb n k1 k2 : Nat} {l : List Fx} {ds gr : Nat → Int} {L : Nat → List Int}
theorem Rob.grow (h : Rob wp w m1 m2 tb n k1 k2 l ds gr L) (x : Ext w w') : Rob wp w' m1 m2 tb n k1 k2 l ds gr L := by
  obtain ⟨vs, hd⟩ := h.days
  exact ⟨h.ext.trans x, h.n1, h.n2, h.n3, h.ne, h.busy.ext x, h.met.ext x, vs, hd.ext x⟩
theorem Rob.busyPut (h : Rob wp w m1 m2 tb n k1 k2 l ds gr L) (hg : w.grownBy w' (some m1)) (hb : BusyAt w' m1 (k1 + 1) l ds gr) : Rob wp w' m1 m2 tb n (k1 + 1) k2 l ds gr L := by
  obtain ⟨vs, hd⟩ := h.days
  obtain ⟨es, clock, hm⟩ := h.busy.map
  refine ⟨ext_grown h.ext hg (fun k e => by cases e; exact h.n1), h.n1, h.n2, h.n3, h.ne, hb, h.met.of_block (hg.block _ h.met.lt (fun e => h.ne (Option.some.inj e).symm)), vs, hd.of_blocks hg (fun e => row_ne_map hd.row hm (Option.some.inj e)) (fun t ht => .inr (own_ne_map (hd.own t ht) hm))⟩
theorem Rob.metPut (h : Rob wp w m1 m2 tb n k1 k2 l ds gr L) (hg : w.grownBy w' (some m2)) (hb : MetAt w' m2 (k2 + 1) l) : Rob wp w' m1 m2 tb n k1 (k2 + 1) l ds gr L := by
  obtain ⟨vs, hd⟩ := h.days
  obtain ⟨es, clock, hm⟩ := h.met.map
  refine ⟨ext_grown h.ext hg (fun k e => by cases e; exact h.n2), h.n1, h.n2, h.n3, h.ne, h.busy.of_block (hg.block _ h.busy.lt (fun e => h.ne (Option.some.inj e))), hb, vs, hd.of_blocks hg (fun e => row_ne_map hd.row hm (Option.some.inj e)) (fun t ht => .inr (own_ne_map (hd.own t ht) hm))⟩
def addTo (L : Nat → List Int) (a : Nat) (x : Int) : Nat → List Int := fun t => if t = a then L t ++ [x] else L t
/-- A day more for team a: behind the append and the store of its header. -/
theorem Rob.dayPut (h : Rob wp w m1 m2 tb n k1 k2 l ds gr L) {vs : Nat → Value} (hd : DaysIs w wp.heap.size tb n vs L) {a g cap : Nat} {x : Int} (ha : a < n)
    (hown : w1.ownsRow wp.heap.size 2 1 (.slice (some ⟨g, 0, none⟩) ((L a).length + 1) cap) ((L a).length + 1) (intsV (L a ++ [x]))) (hg : w.grownBy w1 (vs a).ownBlock) (hat : (vs a).ownBlock = some g ∨ g = w.heap.size) :
    Rob wp (w1.setCell ⟨tb, a, none⟩ (.slice (some ⟨g, 0, none⟩) ((L a).length + 1) cap)) m1 m2 tb n k1 k2 l ds gr (addTo L a x) := by
  obtain ⟨es1, c1, hm1⟩ := h.busy.map
  obtain ⟨es2, c2, hm2⟩ := h.met.map
  have ho := hd.own a ha
  have hbt : some tb ≠ (vs a).ownBlock := by
    rcases own_ne_row ho hd.row (by decide) with e | e
    · rw [e]; exact fun h => by cases h
    · exact fun h => e h.symm
  have hr1 : w1.rowIs tb 45 n vs := hd.row.of_block (hg.block tb hd.row.lt hbt)
  have hs := grown_setCell w1 tb a (.slice (some ⟨g, 0, none⟩) ((L a).length + 1) cap)
  have hb1 : w1.heap[m1]? = w.heap[m1]? := hg.block _ h.busy.lt (fun e => own_ne_map ho hm1 e.symm)
  have hb2 : w1.heap[m2]? = w.heap[m2]? := hg.block _ h.met.lt (fun e => own_ne_map ho hm2 e.symm)
  have hn1 : m1 ≠ tb := fun e => row_ne_map hd.row hm1 e.symm
  have hn2 : m2 ≠ tb := fun e => row_ne_map hd.row hm2 e.symm
  refine ⟨(ext_grown h.ext hg (own_row_ge ho)).setCell h.n3 _, h.n1, h.n2, h.n3, h.ne, h.busy.of_block ((Below.heap_setCell _ _ _ _ hn1).trans hb1), h.met.of_block ((Below.heap_setCell _ _ _ _ hn2).trans hb2),
    fun t => if t = a then .slice (some ⟨g, 0, none⟩) ((L a).length + 1) cap else vs t, ?_, fun t ht => ?_, fun s t hs' ht hne => ?_⟩
  · exact hr1.set a _
  · by_cases e : t = a
    · subst e
      have h1 : addTo L t x t = L t ++ [x] := if_pos rfl
      rw [h1, if_pos rfl]
      have h2 : (L t ++ [x]).length = (L t).length + 1 := by simp
      rw [h2]
      exact hown.kept hs (own_ne_row hown hr1 (by decide))
    · have h1 : addTo L a x t = L t := if_neg e
      rw [h1, if_neg e]
      have hk := (hd.own t ht).kept hg (hd.apart t a ht ha e)
      exact hk.kept hs (own_ne_row hk hr1 (by decide))
  · have key : ∀ t, t < n → t ≠ a → (vs t).ownBlock ≠ some g := fun t ht hta e => by
      rcases hat with hat | hat
      · rcases hd.apart t a ht ha hta with e1 | e1
        · rw [e1] at e; cases e
        · exact e1 (e.trans hat.symm)
      · have := ((hd.own t ht).lt g e).2
        omega
    by_cases e : s = a
    · subst e
      rw [if_pos rfl, if_neg (fun e => hne e.symm)]
      exact .inr (fun e => key t ht (fun e => hne e.symm) e.symm)
    · rw [if_neg e]
      by_cases e' : t = a
      · subst e'
        rw [if_pos rfl]
        exact .inr (key s hs' e)
      · rw [if_neg e']
        exact hd.apart s t hs' ht hne
end

end Go.Proofs.Ytdaidanpcehnnaa

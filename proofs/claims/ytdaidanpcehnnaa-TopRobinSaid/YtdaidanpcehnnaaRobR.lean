/-
  A day laid on a team's row, and what the rows say in the end.
-/
import Derived.Test.YtdaidanpcehnnaaRobQ
import Derived.Test.YtdaidanpcehnnaaRobA
namespace Go.Proofs.Ytdaidanpcehnnaa
open Go.RowKit
set_option linter.unusedSimpArgs false

theorem infoI64 : (Try.prog.info? 2).map (fun i => (i.zero, i.size, i.bytes)) = some (some (.int .i64 0), 1, 8) := by kernel_rfl
theorem day_next {wp w w7 w1 : World} {m1 m2 tb n k1 k2 : Nat} {l : List Fx} {ds gr : Nat → Int} {L : Nat → List Int} {vs : Nat → Value} {a g cap b : Nat} {y : Int} {cs : Array Value}
    (h : Rob wp w m1 m2 tb n k1 k2 l ds gr L) (hd : DaysIs w wp.heap.size tb n vs L) (x : Ext w w7) (ha : a < n) (hb : w.heap[b]? = some (.cells cs 41 (0, 0)))
    (hown : w1.ownsRow wp.heap.size 2 1 (.slice (some ⟨g, 0, none⟩) ((L a).length + 1) cap) ((L a).length + 1) (intsV (L a) ++ [.int .i64 y])) (hg : w7.grownBy w1 (vs a).ownBlock) (hat : (vs a).ownBlock = some g ∨ g = w7.heap.size) :
    w1.rowIs tb 45 n vs ∧ w1.heap[b]? = some (.cells cs 41 (0, 0)) ∧ b ≠ tb ∧ Rob wp (w1.setCell ⟨tb, a, none⟩ (.slice (some ⟨g, 0, none⟩) ((L a).length + 1) cap)) m1 m2 tb n k1 k2 l ds gr (addTo L a y) ∧
      (w1.setCell ⟨tb, a, none⟩ (.slice (some ⟨g, 0, none⟩) ((L a).length + 1) cap)).heap[b]? = some (.cells cs 41 (0, 0)) := by
  have hd7 := hd.ext x
  have ho := hd7.own a ha
  have hbt : some tb ≠ (vs a).ownBlock := by
    rcases own_ne_row ho hd7.row (by decide) with e | e
    · rw [e]; exact fun h => by cases h
    · exact fun h => e h.symm
  have hb7 : w7.heap[b]? = some (.cells cs 41 (0, 0)) := (x.block _ (Array.getElem?_eq_some_iff.1 hb).1).trans hb
  have hbo : some b ≠ (vs a).ownBlock := by
    rcases own_ne_blk ho hb7 (by decide) with e | e
    · rw [e]; exact fun h => by cases h
    · exact fun h => e h.symm
  have hbtb : b ≠ tb := fun e => by
    obtain ⟨c, hc⟩ := row_blk hd.row
    rw [e, hc] at hb
    injection hb with h1
    injection h1 with _ h2
    exact absurd h2 (by decide)
  have hb1 := (hg.block _ (Array.getElem?_eq_some_iff.1 hb7).1 hbo).trans hb7
  have hown' : w1.ownsRow wp.heap.size 2 1 (.slice (some ⟨g, 0, none⟩) ((L a).length + 1) cap) ((L a).length + 1) (intsV (L a ++ [y])) := by
    unfold intsV
    rw [List.map_append]
    exact hown
  exact ⟨hd7.row.of_block (hg.block tb hd7.row.lt hbt), hb1, hbtb, Rob.dayPut (h.grow x) hd7 ha hown' hg hat, (Below.heap_setCell _ _ _ _ hbtb).trans hb1⟩
theorem day_both {l : List Fx} {ds : Nat → Int} {i h a : Nat} {y : Int} (hh : homeOf l i = h) (ha : awayOf l i = a) (hne : h ≠ a) (hd : ds i = y) : addTo (addTo (fun t => dayL l ds t i) h y) a y = fun t => dayL l ds t (i + 1) := by
  funext t
  simp only [addTo, dayL, hasTeam, hh, ha, hd]
  by_cases e1 : t = h
  · subst e1
    simp [hne]
  · by_cases e2 : t = a
    · subst e2
      simp [e1]
    · have f1 : ¬ h = t := fun e => e1 e.symm
      have f2 : ¬ a = t := fun e => e2 e.symm
      simp [e1, e2, f1, f2]
theorem addTo_len (L : Nat → List Int) (a : Nat) (y : Int) (t : Nat) {b : Nat} (h : ∀ t, (L t).length ≤ b) : (addTo L a y t).length ≤ b + 1 := by
  have := h t
  unfold addTo
  split <;> simp <;> omega
theorem nums_of {w : World} {base : Nat} {v : Value} {L : List Int} (h : w.ownsRow base 2 1 v L.length (intsV L)) : NumsAt w v L.length (fun j => L.getD j 0) := by
  refine ⟨?_⟩
  by_cases hz : 0 < L.length
  · obtain ⟨g, c, rfl, _, hg⟩ := own_form h hz
    refine ⟨some ⟨g, 0, none⟩, c, rfl, fun _ => ⟨g, 0, rfl, hg, fun j hj => ?_⟩⟩
    rw [Nat.zero_add]
    refine own_cell h ?_
    unfold intsV
    rw [List.getElem?_map, List.getElem?_eq_getElem hj, List.getD_eq_getElem?_getD, List.getElem?_eq_getElem hj]
    rfl
  · rcases h.2 with ⟨rfl, hz'⟩ | ⟨g, cap, cur, rfl, _⟩
    · rw [hz']
      exact ⟨none, 0, rfl, fun h => absurd h (by omega)⟩
    · exact ⟨_, _, rfl, fun h => absurd h hz⟩
theorem gap_of {L : List Int} {R : Int} (h : L.Pairwise (fun a b => a + R + 1 ≤ b)) (j : Nat) (hj : j + 1 < L.length) : L.getD j 0 + R < L.getD (j + 1) 0 := by
  have := List.pairwise_iff_getElem.1 h j (j + 1) (by omega) hj (by omega)
  rw [List.getD_eq_getElem?_getD, List.getD_eq_getElem?_getD, List.getElem?_eq_getElem (by omega), List.getElem?_eq_getElem hj]
  simp only [Option.getD_some]
  omega
theorem getD_mem {L : List Int} {j : Nat} (hj : j < L.length) : L.getD j 0 ∈ L := by
  rw [List.getD_eq_getElem?_getD, List.getElem?_eq_getElem hj]
  exact List.getElem_mem hj

end Go.Proofs.Ytdaidanpcehnnaa

/-
  A season that came in, opened: its two numbers and its list of grounds.
-/
import Derived.Test.YtdaidanpcehnnaaFin
import Derived.Deep.Slices
import Derived.Deep.Fields
import Derived.ChangeSame
namespace Go.Proofs.Ytdaidanpcehnnaa
open Go.ChangeShapes Go.WideShapes Go.ChangeAt Go.RowKit Go.Joins Go.Deep

section
variable {H : Type} {enc : TypeId × Value → H} {P : Program} {w : World} {base : Nat} {held : Bool}
theorem addr_cell {a : Addr} {j : Nat} {v : Value} (h : w.cell? (a.add j) = some v) : w.cell? ⟨a.block, a.off + j, none⟩ = some v := by
  obtain ⟨b, off, spot⟩ := a
  by_cases hj : j = 0
  · subst hj
    have hs : spot = none := by
      have := World.cell?_spot h
      simpa [Addr.add] using this
    subst hs
    simpa [Addr.add] using h
  · have e : (⟨b, off, spot⟩ : Addr).add j = ⟨b, off + j, none⟩ := by unfold Addr.add; simp [hj]
    rwa [e] at h
theorem addr_form {a : Addr} {v : Value} (h : w.cell? (a.add 0) = some v) : a = ⟨a.block, a.off, none⟩ ∧ a.block < w.heap.size := by
  obtain ⟨b, off, spot⟩ := a
  have hs : spot = none := by
    have := World.cell?_spot h
    simpa [Addr.add] using this
  subst hs
  exact ⟨rfl, cell_lt (by simpa [Addr.add] using h)⟩
def numAt (w : World) (a : Addr) : Int := match w.cell? a with
  | some (.int _ x) => x
  | _ => 0
theorem sea_open {r : Reach} {b0 : Nat} {t q : TypeId} {f0 f1 f2 : Field} {v : Value} {d : DataW H} {p : List MemPlace} (hs : P.underlying t = some (.struct #[f0, f1, f2])) (hone : oneCellFields P #[f0, f1, f2] = true) (hC : P.cellsOf t = 3)
    (t0 : P.underlying f0.type = some (.int .i64)) (t1 : P.underlying f1.type = some (.int .i64)) (t2 : P.underlying f2.type = some (.slice q)) (hq : P.underlying q = some (.int .i64)) (cq : P.cellsOf q = 1)
    (hv : Value.okWide P w r b0 t v) (h : DataW.Trod enc P w base (fun _ => true) held t v d p) :
    ∃ (F R : Int) (A : Option Addr) (n c : Nat) (f : Nat → Int), v = .agg #[.int .i64 F, .int .i64 R, .slice A n c] ∧ n ≤ 9223372036854775807 ∧
      (0 < n → ∃ b o, A = some ⟨b, o, none⟩ ∧ b < w.heap.size ∧ ∀ j, j < n → w.cell? ⟨b, o + j, none⟩ = some (.int .i64 (f j))) := by
  obtain ⟨v0, v1, v2, y0, y1, y2, m, rfl, _, _, g0, g1, g2⟩ := agg_open3 hs hone hC hv h
  obtain ⟨F, rfl, _⟩ := int_field t0 g0
  obtain ⟨R, rfl, _⟩ := int_field t1 g1
  rcases open_slice1 t2 cq g2 with ⟨hcs, _⟩ | ⟨a, len, cap, m', n', V, D, Pl, hcs, _, hl, hm, hmm, _, hx⟩
  · obtain rfl : v2 = .slice none 0 0 := by simpa using hcs
    exact ⟨F, R, none, 0, 0, fun _ => 0, rfl, by omega, fun h => absurd h (by omega)⟩
  · obtain rfl : v2 = .slice (some a) len cap := by simpa using hcs
    have hmc : m' = cap := by simpa using hmm
    unfold maxLen at hm
    refine ⟨F, R, some a, len, cap, fun j => numAt w (a.add j), rfl, by omega, fun h0 => ?_⟩
    have hz : ∀ j, j < len → w.cell? (a.add j) = some (.int .i64 (numAt w (a.add j))) := fun j hj => by
      obtain ⟨h1, h2⟩ := hx j (by omega)
      obtain ⟨x, hx', _⟩ := int_field hq h2
      rw [hx'] at h1
      have h3 : numAt w (a.add j) = x := by unfold numAt; rw [h1]
      rw [h3]; exact h1
    have h1 := addr_form (hz 0 h0)
    exact ⟨a.block, a.off, by rw [← h1.1], h1.2, fun j hj => addr_cell (hz j hj)⟩
end

end Go.Proofs.Ytdaidanpcehnnaa

/-
  A table that came in, opened: what it holds in memory (TabAt).
-/
import Derived.Test.YtoemcpndmfimiaaResP
import Derived.Test.YtoemcpndmfimiaaFin
import Derived.Deep.Matrix
namespace Go.Proofs.Ytoemcpndmfimiaa
open Go.ChangeShapes Go.WideShapes Go.ChangeAt Go.RowKit Go.Joins Go.Deep

section
variable {H : Type} {enc : TypeId × Value → H} {P : Program} {w : World} {base : Nat} {held : Bool}
theorem addr_cell {a : Addr} {j : Nat} {v : Value} (h : w.cell? (a.add j) = some v) : w.cell? ⟨a.block, a.off + j, none⟩ = some v := by
  obtain ⟨b, off, spot⟩ := a
  by_cases hj : j = 0
  · subst hj
    have hs : spot = none := by
      have := World.cell?_spot h
      simpa [Addr.add] using this
    subst hs
    simpa [Addr.add] using h
  · have e : (⟨b, off, spot⟩ : Addr).add j = ⟨b, off + j, none⟩ := by unfold Addr.add; simp [hj]
    rwa [e] at h
theorem addr_form {a : Addr} {v : Value} (h : w.cell? (a.add 0) = some v) : a = ⟨a.block, a.off, none⟩ ∧ a.block < w.heap.size := by
  obtain ⟨b, off, spot⟩ := a
  have hs : spot = none := by
    have := World.cell?_spot h
    simpa [Addr.add] using this
  subst hs
  exact ⟨rfl, cell_lt (by simpa [Addr.add] using h)⟩
theorem tab_open {r : Reach} {b0 : Nat} {t e q : TypeId} {f0 : Field} {v : Value} {d : DataW H} {p : List MemPlace} (hs : P.underlying t = some (.struct #[f0])) (hone : oneCellFields P #[f0] = true) (hC : P.cellsOf t = 1)
    (ht : P.underlying f0.type = some (.slice e)) (he : P.underlying e = some (.slice q)) (hq : P.underlying q = some (.int .i64)) (ce : P.cellsOf e = 1) (cq : P.cellsOf q = 1)
    (hv : Value.okWide P w r b0 t v) (h : DataW.Trod enc P w base (fun _ => true) held t v d p) :
    ∃ (A0 : Option Addr) (n : Nat) (A : Nat → Option Addr) (L C : Nat → Nat) (Z : Nat → Nat → Int) (b off : Nat) (G O : Nat → Nat) (c0 : Nat), v = .agg #[.slice A0 n c0] ∧ TabAt w A0 n A L C Z b off G O := by
  obtain ⟨cs, rfl, hsz⟩ := okWide_struct hs hv
  obtain ⟨l⟩ := cs
  match l, hsz.trans hC with
  | [x0], _ =>
    obtain ⟨fuel, hf⟩ := h
    obtain ⟨xs, m, _, _, _, hlen, hg⟩ := DataW.trod_struct hs hf
    obtain ⟨o0, k0⟩ := hone_of hone 0 f0 rfl
    match xs, hlen with
    | [y0], _ =>
      have h0 : DataW.trod enc P w base (fun _ => true) held m f0.type [x0] = some y0 := by simpa [Value.cells, o0, k0] using hg 0 f0 rfl
      rcases open_int_rows ht he hq ce cq h0 with ⟨hcs, _⟩ | ⟨a, len, cap, A, L, C, Z, hcs, _, hl, hm, _, hrow⟩
      · obtain rfl : x0 = .slice none 0 0 := by simpa using hcs
        exact ⟨none, 0, fun _ => none, fun _ => 0, fun _ => 0, fun _ _ => 0, 0, 0, fun _ => 0, fun _ => 0, 0, rfl, ⟨by omega, fun _ h => absurd h (by omega), fun h => absurd h (by omega), fun _ h => absurd h (by omega), fun _ h => absurd h (by omega), fun _ _ h => absurd h (by omega), fun _ _ h => absurd h (by omega)⟩⟩
      · obtain rfl : x0 = .slice (some a) len cap := by simpa using hcs
        unfold maxLen at hm
        refine ⟨some a, len, A, L, C, fun i j => (Z i).getD j 0, a.block, a.off, fun i => ((A i).getD ⟨0, 0, none⟩).block, fun i => ((A i).getD ⟨0, 0, none⟩).off, cap, rfl, ?_⟩
        have hr : ∀ i, i < len → w.cell? ⟨a.block, a.off + i, none⟩ = some (.slice (A i) (L i) (C i)) := fun i hi => addr_cell (hrow i (by omega)).1
        have hz : ∀ i j, i < len → j < L i → ∃ a', A i = some a' ∧ w.cell? (a'.add j) = some (.int .i64 ((Z i).getD j 0)) := fun i j hi hj => by
          obtain ⟨_, hLC, _, _, _, hnone, hcell⟩ := hrow i (by omega)
          cases hA : A i with
          | none => have := hnone hA; omega
          | some a' => exact ⟨a', rfl, (hcell a' hA).2 j (by omega)⟩
        refine ⟨by omega, fun i hi => ?_, fun h => ?_, hr, fun i hi hj => ?_, fun i j hi hj => ?_, fun i j hi hj => ?_⟩
        · obtain ⟨_, h1, h2, _⟩ := hrow i (by omega)
          unfold maxLen at h2; omega
        · have h1 := addr_form (hrow 0 (by omega)).1
          exact ⟨by rw [h1.1], h1.2⟩
        · obtain ⟨a', hA, hc⟩ := hz i 0 hi hj
          have h1 := addr_form hc
          simp only [hA, Option.getD_some]
          exact ⟨by rw [h1.1], h1.2⟩
        · obtain ⟨a', hA, hc⟩ := hz i j hi hj
          simp only [hA, Option.getD_some]
          exact addr_cell hc
        · obtain ⟨_, hLC, _, hlen, hwf, _, _⟩ := hrow i (by omega)
          have hjl : j < (Z i).length := by omega
          have : (Z i).getD j 0 ∈ Z i := by rw [List.getD_eq_getElem?_getD, List.getElem?_eq_getElem hjl]; simp
          exact i64_bd (hwf _ this)
end

end Go.Proofs.Ytoemcpndmfimiaa

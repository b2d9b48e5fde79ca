/-
  A list of reviews that came in, opened: what it holds in memory (RvAt).
-/
import Derived.Test.YtpeabgfolpgfjaaRvU
import Derived.Test.YtpeabgfolpgfjaaFin
import Derived.Deep.Slices
import Derived.Deep.Fields
import Derived.ChangeSame
namespace Go.Proofs.Ytpeabgfolpgfjaa
open Go.ChangeShapes Go.WideShapes Go.ChangeAt Go.RowKit Go.Joins Go.Deep

section
variable {H : Type} {enc : TypeId × Value → H} {P : Program} {w : World} {base : Nat} {held : Bool}
theorem rv_cell {a : Addr} {j : Nat} {v : Value} (h : w.cell? (a.add j) = some v) : w.cell? ⟨a.block, a.off + j, none⟩ = some v := by
  obtain ⟨b, off, spot⟩ := a
  by_cases hj : j = 0
  · subst hj
    have hs : spot = none := by
      have := World.cell?_spot h
      simpa [Addr.add] using this
    subst hs
    simpa [Addr.add] using h
  · have e : (⟨b, off, spot⟩ : Addr).add j = ⟨b, off + j, none⟩ := by unfold Addr.add; simp [hj]
    rwa [e] at h
theorem rv_form {a : Addr} {v : Value} (h : w.cell? (a.add 0) = some v) : a = ⟨a.block, a.off, none⟩ ∧ a.block < w.heap.size := by
  obtain ⟨b, off, spot⟩ := a
  have hs : spot = none := by
    have := World.cell?_spot h
    simpa [Addr.add] using this
  subst hs
  exact ⟨rfl, cell_lt (by simpa [Addr.add] using h)⟩
def rvNum (w : World) (a : Addr) : Int := match w.cell? a with
  | some (.int _ x) => x
  | _ => 0
def rvBool (w : World) (a : Addr) : Bool := match w.cell? a with
  | some (.bool x) => x
  | _ => false
theorem rv_open {r : Reach} {b0 : Nat} {t e qb qc : TypeId} {f0 f1 f2 : Field} {v : Value} {d : DataW H} {p : List MemPlace} (ht : P.underlying t = some (.slice e)) (he : P.underlying e = some (.struct #[f0, f1, f2]))
    (hone : oneCellFields P #[f0, f1, f2] = true) (hC : P.cellsOf e = 3) (hqb : P.underlying qb = some .bool) (hqc : P.underlying qc = some (.int .u8)) (t0 : f0.type = qb) (t1 : f1.type = qb) (t2 : f2.type = qc)
    (hv : Value.okWide P w r b0 t v) (h : DataW.Trod enc P w base (fun _ => true) held t v d p) :
    ∃ (A0 : Option Addr) (n C : Nat) (S O : Nat → Bool) (V : Nat → Int) (b off : Nat), v = .slice A0 n C ∧ n ≤ C ∧ RvAt w A0 n S O V b off := by
  obtain ⟨a, len, cap, rfl⟩ := okWide_slice ht hv
  obtain ⟨fuel, hfu⟩ := h
  rcases open_slice ht hfu with ⟨hcs, _⟩ | ⟨a', len', cap', m, n', D, Pl, hcs, _, hl, hm, hmm, _, hi⟩
  · have hcs' : (Value.slice a len cap) = .slice none 0 0 := by simpa [Value.cells] using hcs
    cases hcs'
    exact ⟨none, 0, 0, fun _ => false, fun _ => false, fun _ => 0, 0, 0, rfl, Nat.le_refl _, ⟨by omega, fun h => absurd h (by omega), fun _ h => absurd h (by omega), fun _ h => absurd h (by omega)⟩⟩
  · have hcs' : (Value.slice a len cap) = .slice (some a') len' cap' := by simpa [Value.cells] using hcs
    cases hcs'
    have hmc : m = cap := by simpa using hmm
    unfold maxLen at hm
    have hz : ∀ i, i < len → ∃ (x y : Bool) (z : Int), w.cell? (a'.add (i * 3)) = some (.bool x) ∧ w.cell? (a'.add (i * 3 + 1)) = some (.bool y) ∧ w.cell? (a'.add (i * 3 + 2)) = some (.int .u8 z) ∧ (0 ≤ z ∧ z ≤ 255) := by
      intro i hil
      obtain ⟨cs', hc, ht'⟩ := hi i (by omega)
      rw [hC] at hc
      obtain ⟨ys, k', _, _, hlen, hyl, hfs⟩ := DataW.trod_struct he ht'
      obtain ⟨_, hcl, hat⟩ := World.cells?_some hc
      have hone3 : ∀ j (hj : j < 3) (fj : Field), (#[f0, f1, f2] : Array Field)[j]? = some fj → ∃ y, w.cell? (a'.add (i * 3 + j)) = some y ∧ ∃ u, DataW.trod enc P w base (fun _ => true) held k' fj.type [y] = some u := by
        intro j hj fj hfj
        obtain ⟨ho, hk⟩ := hone_of hone j fj hfj
        have hcell := hat j hj
        have h1 := hfs j fj hfj
        rw [ho, hk] at h1
        have hone' : (cs'.drop j).take 1 = [cs'[j]'(by omega)] := by
          rw [List.drop_eq_getElem_cons (by omega)]
          rfl
        rw [hone'] at h1
        have hys : ys[j]? = some (ys[j]'(by rw [hyl]; exact hj)) := List.getElem?_eq_getElem _
        exact ⟨_, by rw [← Go.Deep.add_add, hcell, List.getElem?_eq_getElem (by omega)], _, h1.trans hys⟩
      obtain ⟨y0, c0, u0, d0⟩ := hone3 0 (by omega) f0 rfl
      obtain ⟨y1, c1, u1, d1⟩ := hone3 1 (by omega) f1 rfl
      obtain ⟨y2, c2, u2, d2⟩ := hone3 2 (by omega) f2 rfl
      rw [t0] at d0
      rw [t1] at d1
      rw [t2] at d2
      obtain ⟨x, rfl⟩ := bool_field hqb d0
      obtain ⟨y, rfl⟩ := bool_field hqb d1
      obtain ⟨z, rfl, wz⟩ := int_field hqc d2
      exact ⟨x, y, z, by simpa using c0, c1, c2, bounds_u8 wz⟩
    have hn : ∀ {u : Addr} {k : IntKind} {x : Int}, w.cell? u = some (.int k x) → rvNum w u = x := fun h => by unfold rvNum; rw [h]
    have hnb : ∀ {u : Addr} {x : Bool}, w.cell? u = some (.bool x) → rvBool w u = x := fun h => by unfold rvBool; rw [h]
    refine ⟨some a', len, cap, fun i => rvBool w (a'.add (i * 3)), fun i => rvBool w (a'.add (i * 3 + 1)), fun i => rvNum w (a'.add (i * 3 + 2)), a'.block, a'.off, rfl, by omega, ⟨by omega, fun h0 => ?_, fun i hil => ?_, fun i hil => ?_⟩⟩
    · obtain ⟨x, y, z, hx, _⟩ := hz 0 h0
      have h1 := rv_form (by simpa using hx)
      exact ⟨by rw [h1.1], h1.2⟩
    · obtain ⟨x, y, z, hx, hy, hz', _⟩ := hz i hil
      simp only [hnb hx, hnb hy, hn hz']
      have e0 := rv_cell hx
      have e1 := rv_cell hy
      have e2 := rv_cell hz'
      rw [← Nat.add_assoc] at e1 e2
      exact ⟨e0, e1, e2⟩
    · obtain ⟨x, y, z, hx, hy, hz', bz⟩ := hz i hil
      simp only [hn hz']
      exact bz
end

end Go.Proofs.Ytpeabgfolpgfjaa

/-
  A list of observations that came in, opened: what it holds in memory (SeenAt).
-/
import Derived.Test.YtaeblcgblmipaaaDoorCamA
import Derived.Test.YtaeblcgblmipaaaDoorFin
import Derived.Deep.Slices
import Derived.Deep.Fields
import Derived.ChangeSame
namespace Go.Proofs.YtaeblcgblmipaaaDoor
open Go.ChangeShapes Go.WideShapes Go.ChangeAt Go.RowKit Go.Joins Go.Deep

section
variable {H : Type} {enc : TypeId × Value → H} {P : Program} {w : World} {base : Nat} {held : Bool}
theorem addr_cell {a : Addr} {j : Nat} {v : Value} (h : w.cell? (a.add j) = some v) : w.cell? ⟨a.block, a.off + j, none⟩ = some v := by
  obtain ⟨b, off, spot⟩ := a
  by_cases hj : j = 0
  · subst hj
    have hs : spot = none := by
      have := World.cell?_spot h
      simpa [Addr.add] using this
    subst hs
    simpa [Addr.add] using h
  · have e : (⟨b, off, spot⟩ : Addr).add j = ⟨b, off + j, none⟩ := by unfold Addr.add; simp [hj]
    rwa [e] at h
theorem addr_form {a : Addr} {v : Value} (h : w.cell? (a.add 0) = some v) : a = ⟨a.block, a.off, none⟩ ∧ a.block < w.heap.size := by
  obtain ⟨b, off, spot⟩ := a
  have hs : spot = none := by
    have := World.cell?_spot h
    simpa [Addr.add] using this
  subst hs
  exact ⟨rfl, cell_lt (by simpa [Addr.add] using h)⟩
def numAt (w : World) (a : Addr) : Int := match w.cell? a with
  | some (.int _ x) => x
  | _ => 0
theorem seen_open {r : Reach} {b0 : Nat} {t e q : TypeId} {f0 f1 f2 f3 f4 : Field} {v : Value} {d : DataW H} {p : List MemPlace} (ht : P.underlying t = some (.slice e)) (he : P.underlying e = some (.struct #[f0, f1, f2, f3, f4]))
    (hone : oneCellFields P #[f0, f1, f2, f3, f4] = true) (hC : P.cellsOf e = 5) (hq : P.underlying q = some (.int .i64)) (hf : (#[f0, f1, f2, f3, f4] : Array Field).toList.all (fun f => f.type == q) = true)
    (hv : Value.okWide P w r b0 t v) (h : DataW.Trod enc P w base (fun _ => true) held t v d p) :
    ∃ (A0 : Option Addr) (n C : Nat) (f : Nat → Nat → Int) (b off : Nat), v = .slice A0 n C ∧ SeenAt w A0 n f b off ∧ n ≤ C ∧ (A0 = none → C = 0) := by
  obtain ⟨a, len, cap, rfl⟩ := okWide_slice ht hv
  obtain ⟨fuel, hfu⟩ := h
  rcases open_slice ht hfu with ⟨hcs, _⟩ | ⟨a', len', cap', m, n', D, Pl, hcs, _, hl, hm, hmm, _, hi⟩
  · have hcs' : (Value.slice a len cap) = .slice none 0 0 := by simpa [Value.cells] using hcs
    cases hcs'
    exact ⟨none, 0, 0, fun _ _ => 0, 0, 0, rfl, ⟨by omega, fun h => absurd h (by omega), fun _ _ h => absurd h (by omega), fun _ _ h => absurd h (by omega)⟩, Nat.le_refl _, fun _ => rfl⟩
  · have hcs' : (Value.slice a len cap) = .slice (some a') len' cap' := by simpa [Value.cells] using hcs
    cases hcs'
    have hmc : m = cap := by simpa using hmm
    unfold maxLen at hm
    have hz : ∀ i j, i < len → j < 5 → ∃ x : Int, w.cell? (a'.add (i * 5 + j)) = some (.int .i64 x) ∧ (Lit.int .i64 x).wf = true := by
      intro i j hil hj
      obtain ⟨cs', hc, ht'⟩ := hi i (by omega)
      rw [hC] at hc
      obtain ⟨ys, k', _, _, hlen, hyl, hfs⟩ := DataW.trod_struct he ht'
      obtain ⟨_, hcl, hat⟩ := World.cells?_some hc
      obtain ⟨fj, hfj⟩ : ∃ fj, (#[f0, f1, f2, f3, f4] : Array Field)[j]? = some fj := ⟨(#[f0, f1, f2, f3, f4] : Array Field)[j], Array.getElem?_eq_getElem hj⟩
      have hty : fj.type = q := by
        have := List.all_eq_true.1 hf fj (Array.mem_def.1 (Array.mem_of_getElem? hfj))
        simpa using this
      obtain ⟨ho, hk⟩ := hone_of hone j fj hfj
      have hcell := hat j hj
      have h1 := hfs j fj hfj
      rw [ho, hk] at h1
      have hone' : (cs'.drop j).take 1 = [cs'[j]'(by omega)] := by
        rw [List.drop_eq_getElem_cons (by omega)]
        rfl
      rw [hone', hty] at h1
      have hys : ys[j]? = some (ys[j]'(by rw [hyl]; exact hj)) := List.getElem?_eq_getElem _
      obtain ⟨x, hx, wx⟩ := int_field hq (h1.trans hys)
      refine ⟨x, ?_, wx⟩
      rw [← Go.Deep.add_add, hcell, List.getElem?_eq_getElem (by omega), hx]
    refine ⟨some a', len, cap, fun i j => numAt w (a'.add (i * 5 + j)), a'.block, a'.off, rfl, ⟨by omega, fun h0 => ?_, fun i j hil hj => ?_, fun i j hil hj => ?_⟩, hl, fun h => by cases h⟩
    · obtain ⟨x, hx, _⟩ := hz 0 0 h0 (by omega)
      have h1 := addr_form (by simpa using hx)
      exact ⟨by rw [h1.1], h1.2⟩
    · obtain ⟨x, hx, _⟩ := hz i j hil hj
      have h2 : numAt w (a'.add (i * 5 + j)) = x := by unfold numAt; rw [hx]
      simp only [h2]
      have := addr_cell hx
      rwa [← Nat.add_assoc] at this
    · obtain ⟨x, hx, wx⟩ := hz i j hil hj
      have h2 : numAt w (a'.add (i * 5 + j)) = x := by unfold numAt; rw [hx]
      simp only [h2]
      exact i64_bd wx
end

end Go.Proofs.YtaeblcgblmipaaaDoor

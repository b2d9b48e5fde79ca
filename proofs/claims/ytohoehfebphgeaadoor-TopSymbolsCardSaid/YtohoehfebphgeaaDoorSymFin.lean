/-
  Rules that came in, opened: a name, numbers, and the powerplays in memory (PhAt).
-/
import Derived.Test.YtohoehfebphgeaaDoorNotFin
import Derived.Test.YtohoehfebphgeaaDoorSymI
namespace Go.Proofs.YtohoehfebphgeaaDoor
open Go.ChangeShapes Go.WideShapes Go.ChangeAt Go.RowKit Go.Joins Go.Deep
set_option linter.unusedVariables false

section
variable {H : Type} {enc : TypeId × Value → H} {P : Program} {w : World} {base : Nat} {spare : Nat → Bool} {held : Bool}

theorem agg_open14 {r : Reach} {b0 : Nat} {t : TypeId} {f0 f1 f2 f3 f4 f5 f6 f7 f8 f9 f10 f11 f12 f13 : Field} {v : Value} {d : DataW H} {p : List MemPlace} (hs : P.underlying t = some (.struct #[f0, f1, f2, f3, f4, f5, f6, f7, f8, f9, f10, f11, f12, f13])) (hone : oneCellFields P #[f0, f1, f2, f3, f4, f5, f6, f7, f8, f9, f10, f11, f12, f13] = true) (hC : P.cellsOf t = 14)
    (hv : Value.okWide P w r b0 t v) (h : DataW.Trod enc P w base spare held t v d p) :
    ∃ (v0 v1 v2 v3 v4 v5 v6 v7 v8 v9 v10 v11 v12 v13 : Value) (y0 y1 y2 y3 y4 y5 y6 y7 y8 y9 y10 y11 y12 y13 : DataW H × List MemPlace) (n : Nat), v = .agg #[v0, v1, v2, v3, v4, v5, v6, v7, v8, v9, v10, v11, v12, v13] ∧ d = .agg [y0.1, y1.1, y2.1, y3.1, y4.1, y5.1, y6.1, y7.1, y8.1, y9.1, y10.1, y11.1, y12.1, y13.1] ∧ p = y0.2 ++ (y1.2 ++ (y2.2 ++ (y3.2 ++ (y4.2 ++ (y5.2 ++ (y6.2 ++ (y7.2 ++ (y8.2 ++ (y9.2 ++ (y10.2 ++ (y11.2 ++ (y12.2 ++ (y13.2))))))))))))) ∧
      DataW.trod enc P w base spare held n f0.type [v0] = some y0 ∧ DataW.trod enc P w base spare held n f1.type [v1] = some y1 ∧ DataW.trod enc P w base spare held n f2.type [v2] = some y2 ∧ DataW.trod enc P w base spare held n f3.type [v3] = some y3 ∧ DataW.trod enc P w base spare held n f4.type [v4] = some y4 ∧ DataW.trod enc P w base spare held n f5.type [v5] = some y5 ∧ DataW.trod enc P w base spare held n f6.type [v6] = some y6 ∧ DataW.trod enc P w base spare held n f7.type [v7] = some y7 ∧ DataW.trod enc P w base spare held n f8.type [v8] = some y8 ∧ DataW.trod enc P w base spare held n f9.type [v9] = some y9 ∧ DataW.trod enc P w base spare held n f10.type [v10] = some y10 ∧ DataW.trod enc P w base spare held n f11.type [v11] = some y11 ∧ DataW.trod enc P w base spare held n f12.type [v12] = some y12 ∧ DataW.trod enc P w base spare held n f13.type [v13] = some y13 := by
  obtain ⟨cs, rfl, hsz⟩ := okWide_struct hs hv
  obtain ⟨l⟩ := cs
  match l, hsz.trans hC with
  | [c0, c1, c2, c3, c4, c5, c6, c7, c8, c9, c10, c11, c12, c13], _ =>
    obtain ⟨fuel, hf⟩ := h
    obtain ⟨xs, n, _, hx, _, hlen, hg⟩ := DataW.trod_struct hs hf
    obtain ⟨o0, k0⟩ := hone_of hone 0 f0 rfl
    obtain ⟨o1, k1⟩ := hone_of hone 1 f1 rfl
    obtain ⟨o2, k2⟩ := hone_of hone 2 f2 rfl
    obtain ⟨o3, k3⟩ := hone_of hone 3 f3 rfl
    obtain ⟨o4, k4⟩ := hone_of hone 4 f4 rfl
    obtain ⟨o5, k5⟩ := hone_of hone 5 f5 rfl
    obtain ⟨o6, k6⟩ := hone_of hone 6 f6 rfl
    obtain ⟨o7, k7⟩ := hone_of hone 7 f7 rfl
    obtain ⟨o8, k8⟩ := hone_of hone 8 f8 rfl
    obtain ⟨o9, k9⟩ := hone_of hone 9 f9 rfl
    obtain ⟨o10, k10⟩ := hone_of hone 10 f10 rfl
    obtain ⟨o11, k11⟩ := hone_of hone 11 f11 rfl
    obtain ⟨o12, k12⟩ := hone_of hone 12 f12 rfl
    obtain ⟨o13, k13⟩ := hone_of hone 13 f13 rfl
    match xs, hlen with
    | [y0, y1, y2, y3, y4, y5, y6, y7, y8, y9, y10, y11, y12, y13], _ =>
      simp only [Prod.mk.injEq] at hx
      exact ⟨c0, c1, c2, c3, c4, c5, c6, c7, c8, c9, c10, c11, c12, c13, y0, y1, y2, y3, y4, y5, y6, y7, y8, y9, y10, y11, y12, y13, n, rfl, by simpa using hx.1, by simpa using hx.2, by simpa [Value.cells, o0, k0] using hg 0 f0 rfl, by simpa [Value.cells, o1, k1] using hg 1 f1 rfl, by simpa [Value.cells, o2, k2] using hg 2 f2 rfl, by simpa [Value.cells, o3, k3] using hg 3 f3 rfl, by simpa [Value.cells, o4, k4] using hg 4 f4 rfl, by simpa [Value.cells, o5, k5] using hg 5 f5 rfl, by simpa [Value.cells, o6, k6] using hg 6 f6 rfl, by simpa [Value.cells, o7, k7] using hg 7 f7 rfl, by simpa [Value.cells, o8, k8] using hg 8 f8 rfl, by simpa [Value.cells, o9, k9] using hg 9 f9 rfl, by simpa [Value.cells, o10, k10] using hg 10 f10 rfl, by simpa [Value.cells, o11, k11] using hg 11 f11 rfl, by simpa [Value.cells, o12, k12] using hg 12 f12 rfl, by simpa [Value.cells, o13, k13] using hg 13 f13 rfl⟩

theorem sy_cell {a : Addr} {j : Nat} {v : Value} (h : w.cell? (a.add j) = some v) : w.cell? ⟨a.block, a.off + j, none⟩ = some v := by
  obtain ⟨b, off, spot⟩ := a
  by_cases hj : j = 0
  · subst hj
    have hs : spot = none := by
      have := World.cell?_spot h
      simpa [Addr.add] using this
    subst hs
    simpa [Addr.add] using h
  · have e : (⟨b, off, spot⟩ : Addr).add j = ⟨b, off + j, none⟩ := by unfold Addr.add; simp [hj]
    rwa [e] at h
theorem sy_form {a : Addr} {v : Value} (h : w.cell? (a.add 0) = some v) : a = ⟨a.block, a.off, none⟩ ∧ a.block < w.heap.size := by
  obtain ⟨b, off, spot⟩ := a
  have hs : spot = none := by
    have := World.cell?_spot h
    simpa [Addr.add] using this
  subst hs
  exact ⟨rfl, cell_lt (by simpa [Addr.add] using h)⟩
def sy_num (w : World) (a : Addr) : Int := match w.cell? a with
  | some (.int _ x) => x
  | _ => 0
theorem ph_open {m0 : Nat} {t e q : TypeId} {f0 f1 f2 : Field} {x : Value} {y : DataW H × List MemPlace} (ht : P.underlying t = some (.slice e)) (he : P.underlying e = some (.struct #[f0, f1, f2]))
    (hone : oneCellFields P #[f0, f1, f2] = true) (hC : P.cellsOf e = 3) (hq : P.underlying q = some (.int .i64)) (hf : (#[f0, f1, f2] : Array Field).toList.all (fun f => f.type == q) = true)
    (h : DataW.trod enc P w base (fun _ => true) held m0 t [x] = some y) :
    ∃ (A0 : Option Addr) (n C : Nat) (f : Nat → Nat → Int) (b off : Nat), x = .slice A0 n C ∧ PhAt w A0 n f b off := by
  rcases open_slice ht h with ⟨hcs, _⟩ | ⟨a', len', cap', m, n', D, Pl, hcs, _, hl, hm, hmm, _, hi⟩
  · obtain rfl : x = .slice none 0 0 := by simpa using hcs
    exact ⟨none, 0, 0, fun _ _ => 0, 0, 0, rfl, ⟨by omega, fun h => absurd h (by omega), fun _ _ h => absurd h (by omega)⟩⟩
  · obtain rfl : x = .slice (some a') len' cap' := by simpa using hcs
    have hmc : m = cap' := by simpa using hmm
    unfold maxLen at hm
    have hz : ∀ i j, i < len' → j < 3 → ∃ z : Int, w.cell? (a'.add (i * 3 + j)) = some (.int .i64 z) := by
      intro i j hil hj
      obtain ⟨cs', hc, ht'⟩ := hi i (by omega)
      rw [hC] at hc
      obtain ⟨ys, k', _, _, hlen, hyl, hfs⟩ := DataW.trod_struct he ht'
      obtain ⟨_, hcl, hat⟩ := World.cells?_some hc
      obtain ⟨fj, hfj⟩ : ∃ fj, (#[f0, f1, f2] : Array Field)[j]? = some fj := ⟨(#[f0, f1, f2] : Array Field)[j], Array.getElem?_eq_getElem hj⟩
      have hty : fj.type = q := by
        have := List.all_eq_true.1 hf fj (Array.mem_def.1 (Array.mem_of_getElem? hfj))
        simpa using this
      obtain ⟨ho, hk⟩ := hone_of hone j fj hfj
      have hcell := hat j hj
      have h1 := hfs j fj hfj
      rw [ho, hk] at h1
      have hone' : (cs'.drop j).take 1 = [cs'[j]'(by omega)] := by
        rw [List.drop_eq_getElem_cons (by omega)]
        rfl
      rw [hone', hty] at h1
      have hys : ys[j]? = some (ys[j]'(by rw [hyl]; exact hj)) := List.getElem?_eq_getElem _
      obtain ⟨z, hx, wx⟩ := int_field hq (h1.trans hys)
      refine ⟨z, ?_⟩
      rw [← Go.Deep.add_add, hcell, List.getElem?_eq_getElem (by omega), hx]
    refine ⟨some a', len', cap', fun i j => sy_num w (a'.add (i * 3 + j)), a'.block, a'.off, rfl, ⟨by omega, fun h0 => ?_, fun i j hil hj => ?_⟩⟩
    · obtain ⟨z, hx⟩ := hz 0 0 h0 (by omega)
      have h1 := sy_form (by simpa using hx)
      exact ⟨by rw [h1.1], h1.2⟩
    · obtain ⟨z, hx⟩ := hz i j hil hj
      have h2 : sy_num w (a'.add (i * 3 + j)) = z := by unfold sy_num; rw [hx]
      simp only [h2]
      have := sy_cell hx
      rwa [← Nat.add_assoc] at this
theorem str_field {n : Nat} {t : TypeId} {v : Value} {y : DataW H × List MemPlace} (ht : P.underlying t = some .string) (h : DataW.trod enc P w base spare held n t [v] = some y) : ∃ L : List UInt8, v = .string ⟨L.toArray⟩ ∧ L.length ≤ 9223372036854775807 := by
  obtain ⟨s, h1, _, h3⟩ := DataW.trod_string ht h
  obtain ⟨⟨L⟩⟩ := s
  refine ⟨L, by simpa using h1, ?_⟩
  unfold maxLen at h3
  exact h3
end

end Go.Proofs.YtohoehfebphgeaaDoor

/-
  A list of deliveries that came in, opened: what it holds in memory (DlsAt).
-/
import Derived.Test.YtpgacpkcchajmaaDoorNotK
import Derived.Test.YtpgacpkcchajmaaDoorNotFin
import Derived.Deep.Slices
import Derived.Deep.Fields
import Derived.ChangeSame
namespace Go.Proofs.YtpgacpkcchajmaaDoor
open Go.ChangeShapes Go.WideShapes Go.ChangeAt Go.RowKit Go.Joins Go.Deep

section
variable {H : Type} {enc : TypeId × Value → H} {P : Program} {w : World} {base : Nat} {held : Bool}
theorem addr_cell {a : Addr} {j : Nat} {v : Value} (h : w.cell? (a.add j) = some v) : w.cell? ⟨a.block, a.off + j, none⟩ = some v := by
  obtain ⟨b, off, spot⟩ := a
  by_cases hj : j = 0
  · subst hj
    have hs : spot = none := by
      have := World.cell?_spot h
      simpa [Addr.add] using this
    subst hs
    simpa [Addr.add] using h
  · have e : (⟨b, off, spot⟩ : Addr).add j = ⟨b, off + j, none⟩ := by unfold Addr.add; simp [hj]
    rwa [e] at h
theorem addr_form {a : Addr} {v : Value} (h : w.cell? (a.add 0) = some v) : a = ⟨a.block, a.off, none⟩ ∧ a.block < w.heap.size := by
  obtain ⟨b, off, spot⟩ := a
  have hs : spot = none := by
    have := World.cell?_spot h
    simpa [Addr.add] using this
  subst hs
  exact ⟨rfl, cell_lt (by simpa [Addr.add] using h)⟩
def numAt (w : World) (a : Addr) : Int := match w.cell? a with
  | some (.int _ x) => x
  | _ => 0
theorem dls_open {r : Reach} {b0 : Nat} {t e : TypeId} {f0 f1 f2 f3 f4 f5 f6 f7 f8 f9 f10 f11 : Field} {v : Value} {d : DataW H} {p : List MemPlace} (ht : P.underlying t = some (.slice e)) (he : P.underlying e = some (.struct #[f0, f1, f2, f3, f4, f5, f6, f7, f8, f9, f10, f11]))
    (hone : oneCellFields P #[f0, f1, f2, f3, f4, f5, f6, f7, f8, f9, f10, f11] = true) (hC : P.cellsOf e = 12) (k0 : P.underlying f0.type = some (.int .u8)) (k1 : P.underlying f1.type = some (.int .u8)) (k2 : P.underlying f2.type = some (.int .i64)) (k3 : P.underlying f3.type = some (.int .i64)) (k4 : P.underlying f4.type = some (.int .i64)) (k5 : P.underlying f5.type = some (.bool)) (k6 : P.underlying f6.type = some (.int .u8)) (k7 : P.underlying f7.type = some (.int .i64)) (k8 : P.underlying f8.type = some (.int .i64)) (k9 : P.underlying f9.type = some (.int .i64)) (k10 : P.underlying f10.type = some (.bool)) (k11 : P.underlying f11.type = some (.int .i64))
    (hv : Value.okWide P w r b0 t v) (h : DataW.Trod enc P w base (fun _ => true) held t v d p) :
    ∃ (A0 : Option Addr) (n C : Nat) (f : Nat → Dl) (b off : Nat), v = .slice A0 n C ∧ DlsAt w A0 n f b off ∧ n ≤ C ∧ (A0 = none → C = 0) := by
  obtain ⟨a, len, cap, rfl⟩ := okWide_slice ht hv
  obtain ⟨fuel, hfu⟩ := h
  rcases open_slice ht hfu with ⟨hcs, _⟩ | ⟨a', len', cap', m, n', D, Pl, hcs, _, hl, hm, hmm, _, hi⟩
  · have hcs' : (Value.slice a len cap) = .slice none 0 0 := by simpa [Value.cells] using hcs
    cases hcs'
    exact ⟨none, 0, 0, fun _ => ⟨0, 0, 0, 0, 0, false, 0, 0, 0, 0, false, 0⟩, 0, 0, rfl, ⟨by omega, fun h => absurd h (by omega), fun _ h => absurd h (by omega), fun _ h => absurd h (by omega)⟩, Nat.le_refl _, fun _ => rfl⟩
  · have hcs' : (Value.slice a len cap) = .slice (some a') len' cap' := by simpa [Value.cells] using hcs
    cases hcs'
    have hmc : m = cap := by simpa using hmm
    unfold maxLen at hm
    have hz : ∀ i, i < len → ∃ D : Dl, D.Wf ∧ w.cell? (a'.add (i * 12 + 0)) = some (.int .u8 D.ty) ∧ w.cell? (a'.add (i * 12 + 1)) = some (.int .u8 D.so) ∧ w.cell? (a'.add (i * 12 + 2)) = some (.int .i64 D.ru) ∧ w.cell? (a'.add (i * 12 + 3)) = some (.int .i64 D.sh) ∧ w.cell? (a'.add (i * 12 + 4)) = some (.int .i64 D.bo) ∧ w.cell? (a'.add (i * 12 + 5)) = some (.bool D.cr) ∧ w.cell? (a'.add (i * 12 + 6)) = some (.int .u8 D.ho) ∧ w.cell? (a'.add (i * 12 + 7)) = some (.int .i64 D.vi) ∧ w.cell? (a'.add (i * 12 + 8)) = some (.int .i64 D.fi) ∧ w.cell? (a'.add (i * 12 + 9)) = some (.int .i64 D.se) ∧ w.cell? (a'.add (i * 12 + 10)) = some (.bool D.su) ∧ w.cell? (a'.add (i * 12 + 11)) = some (.int .i64 D.sc) := by
      intro i hil
      obtain ⟨cs', hc, ht'⟩ := hi i (by omega)
      rw [hC] at hc
      obtain ⟨ys, k', _, _, hlen, hyl, hfs⟩ := DataW.trod_struct he ht'
      obtain ⟨_, hcl, hat⟩ := World.cells?_some hc
      have hat' := fun j (hj : j < 12) => hat j hj
      obtain ⟨o0, q0⟩ := hone_of hone 0 f0 rfl
      obtain ⟨o1, q1⟩ := hone_of hone 1 f1 rfl
      obtain ⟨o2, q2⟩ := hone_of hone 2 f2 rfl
      obtain ⟨o3, q3⟩ := hone_of hone 3 f3 rfl
      obtain ⟨o4, q4⟩ := hone_of hone 4 f4 rfl
      obtain ⟨o5, q5⟩ := hone_of hone 5 f5 rfl
      obtain ⟨o6, q6⟩ := hone_of hone 6 f6 rfl
      obtain ⟨o7, q7⟩ := hone_of hone 7 f7 rfl
      obtain ⟨o8, q8⟩ := hone_of hone 8 f8 rfl
      obtain ⟨o9, q9⟩ := hone_of hone 9 f9 rfl
      obtain ⟨o10, q10⟩ := hone_of hone 10 f10 rfl
      obtain ⟨o11, q11⟩ := hone_of hone 11 f11 rfl
      match cs', hcl with
      | [c0, c1, c2, c3, c4, c5, c6, c7, c8, c9, c10, c11], _ =>
      match ys, hyl with
      | [y0, y1, y2, y3, y4, y5, y6, y7, y8, y9, y10, y11], _ =>
      obtain ⟨x0, rfl, w0⟩ := int_field k0 (show DataW.trod enc P w base _ held _ f0.type [c0] = some y0 from by simpa [o0, q0] using hfs 0 f0 rfl)
      obtain ⟨x1, rfl, w1⟩ := int_field k1 (show DataW.trod enc P w base _ held _ f1.type [c1] = some y1 from by simpa [o1, q1] using hfs 1 f1 rfl)
      obtain ⟨x2, rfl, w2⟩ := int_field k2 (show DataW.trod enc P w base _ held _ f2.type [c2] = some y2 from by simpa [o2, q2] using hfs 2 f2 rfl)
      obtain ⟨x3, rfl, w3⟩ := int_field k3 (show DataW.trod enc P w base _ held _ f3.type [c3] = some y3 from by simpa [o3, q3] using hfs 3 f3 rfl)
      obtain ⟨x4, rfl, w4⟩ := int_field k4 (show DataW.trod enc P w base _ held _ f4.type [c4] = some y4 from by simpa [o4, q4] using hfs 4 f4 rfl)
      obtain ⟨x5, rfl⟩ := bool_field k5 (show DataW.trod enc P w base _ held _ f5.type [c5] = some y5 from by simpa [o5, q5] using hfs 5 f5 rfl)
      obtain ⟨x6, rfl, w6⟩ := int_field k6 (show DataW.trod enc P w base _ held _ f6.type [c6] = some y6 from by simpa [o6, q6] using hfs 6 f6 rfl)
      obtain ⟨x7, rfl, w7⟩ := int_field k7 (show DataW.trod enc P w base _ held _ f7.type [c7] = some y7 from by simpa [o7, q7] using hfs 7 f7 rfl)
      obtain ⟨x8, rfl, w8⟩ := int_field k8 (show DataW.trod enc P w base _ held _ f8.type [c8] = some y8 from by simpa [o8, q8] using hfs 8 f8 rfl)
      obtain ⟨x9, rfl, w9⟩ := int_field k9 (show DataW.trod enc P w base _ held _ f9.type [c9] = some y9 from by simpa [o9, q9] using hfs 9 f9 rfl)
      obtain ⟨x10, rfl⟩ := bool_field k10 (show DataW.trod enc P w base _ held _ f10.type [c10] = some y10 from by simpa [o10, q10] using hfs 10 f10 rfl)
      obtain ⟨x11, rfl, w11⟩ := int_field k11 (show DataW.trod enc P w base _ held _ f11.type [c11] = some y11 from by simpa [o11, q11] using hfs 11 f11 rfl)
      have ha := fun j (hj : j < 12) => (Go.Deep.add_add a' (i * 12) j) ▸ hat' j hj
      exact ⟨⟨x0, x1, x2, x3, x4, x5, x6, x7, x8, x9, x10, x11⟩, ⟨u8_bd w0, u8_bd w1, u8_bd w6⟩, ha 0 (by omega), ha 1 (by omega), ha 2 (by omega), ha 3 (by omega), ha 4 (by omega), ha 5 (by omega), ha 6 (by omega), ha 7 (by omega), ha 8 (by omega), ha 9 (by omega), ha 10 (by omega), ha 11 (by omega)⟩
    have hf : ∃ f : Nat → Dl, ∀ i, i < len → (f i).Wf ∧ w.cell? (a'.add (i * 12 + 0)) = some (.int .u8 (f i).ty) ∧ w.cell? (a'.add (i * 12 + 1)) = some (.int .u8 (f i).so) ∧ w.cell? (a'.add (i * 12 + 2)) = some (.int .i64 (f i).ru) ∧ w.cell? (a'.add (i * 12 + 3)) = some (.int .i64 (f i).sh) ∧ w.cell? (a'.add (i * 12 + 4)) = some (.int .i64 (f i).bo) ∧ w.cell? (a'.add (i * 12 + 5)) = some (.bool (f i).cr) ∧ w.cell? (a'.add (i * 12 + 6)) = some (.int .u8 (f i).ho) ∧ w.cell? (a'.add (i * 12 + 7)) = some (.int .i64 (f i).vi) ∧ w.cell? (a'.add (i * 12 + 8)) = some (.int .i64 (f i).fi) ∧ w.cell? (a'.add (i * 12 + 9)) = some (.int .i64 (f i).se) ∧ w.cell? (a'.add (i * 12 + 10)) = some (.bool (f i).su) ∧ w.cell? (a'.add (i * 12 + 11)) = some (.int .i64 (f i).sc) := by
      refine ⟨fun i => if h : i < len then (hz i h).choose else ⟨0, 0, 0, 0, 0, false, 0, 0, 0, 0, false, 0⟩, fun i hi => ?_⟩
      simp only [dif_pos hi]
      exact (hz i hi).choose_spec
    obtain ⟨f, hf⟩ := hf
    refine ⟨some a', len, cap, f, a'.block, a'.off, rfl, ⟨by omega, fun h0 => ?_, fun i hil => ?_, fun i hil => (hf i hil).1⟩, hl, fun h => by cases h⟩
    · obtain ⟨_, hx, _⟩ := hf 0 h0
      have h1 := addr_form (by simpa using hx)
      exact ⟨by rw [h1.1], h1.2⟩
    · obtain ⟨_, h0, h1, h2, h3, h4, h5, h6, h7, h8, h9, h10, h11⟩ := hf i hil
      have g := fun {j : Nat} {u : Value} (hx : w.cell? (a'.add (i * 12 + j)) = some u) => (show w.cell? ⟨a'.block, a'.off + i * 12 + j, none⟩ = some u from by have := addr_cell hx; rwa [← Nat.add_assoc] at this)
      exact ⟨g h0, g h1, g h2, g h3, g h4, g h5, g h6, g h7, g h8, g h9, g h10, g h11⟩
end

end Go.Proofs.YtpgacpkcchajmaaDoor

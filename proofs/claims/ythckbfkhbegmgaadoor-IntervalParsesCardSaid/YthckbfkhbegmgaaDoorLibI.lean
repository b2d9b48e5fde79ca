/-
  What the library's contracts ask of a world, carried from world to world; strings.Cut at two dots and strconv.ParseInt at base 10.
-/
import Derived.Test.YthckbfkhbegmgaaDoorNumF
import Derived.Test.YthckbfkhbegmgaaDoorShelf
import Derived.Lib.AtoiErrMem
namespace Go.Proofs.YthckbfkhbegmgaaDoor
open Go.RowKit
set_option linter.unusedSimpArgs false

structure DX (w : World) : Prop where
  tab : TX w
  mx : ∃ m : Int, w.cell? ⟨1, 0, none⟩ = some (.int .i64 m)
  es : ∃ (t : TypeId) (p : Value), w.cell? ⟨2, 0, none⟩ = some (.iface t p)
  er : ∃ (t : TypeId) (p : Value), w.cell? ⟨3, 0, none⟩ = some (.iface t p)
theorem DX.ext {w w' : World} (h : DX w) (e : Ext w w') : DX w' := by
  obtain ⟨h1, ⟨m, h2⟩, ⟨t, p, h3⟩, ⟨t', p', h4⟩⟩ := h
  exact ⟨h1.ext e, ⟨m, e.keep h2⟩, ⟨t, p, e.keep h3⟩, ⟨t', p', e.keep h4⟩⟩
theorem cut2_any (L : List UInt8) (hL : L.length < 4294967281) (w : World) (h : DX w) :
    Calls Tryd.prog 18 #[.string ⟨L.toArray⟩, .string ⟨#[46, 46]⟩] w fun e w' =>
      e = .returned (.tuple #[.string ⟨(Lib.cut L [46, 46]).1.toArray⟩, .string ⟨(Lib.cut L [46, 46]).2.1.toArray⟩, .bool (Lib.cut L [46, 46]).2.2]) ∧ Ext w w' := by
  obtain ⟨m, hm⟩ := h.mx
  refine (Tryd.strings_Cut ⟨L.toArray⟩ ⟨#[46, 46]⟩ m w (by simpa [ByteArray.size] using hL) hm).mono ?_
  rintro e w' ⟨rfl, n, rfl⟩
  exact ⟨by simp, (Ext.refl _).drewN n⟩
theorem pint_ok (L : List UInt8) (v : Int) (hL : L.length ≤ 281474976710656) (hv : Lib.parseIntB 64 L = .ok v) (w : World) :
    Calls Tryd.prog 19 #[.string ⟨L.toArray⟩, .int .i64 10, .int .i64 64] w fun e w' => e = .returned (.tuple #[.int .i64 v, .nilIface]) ∧ Ext w w' := by
  refine (Tryd.strconv_ParseInt_10_at64_ok ⟨L.toArray⟩ (by simp [ByteArray.size]; omega) v (by simpa using hv) w).mono ?_
  rintro e w' ⟨rfl, hw⟩
  refine ⟨rfl, ?_⟩
  rcases hw with rfl | ⟨t, rfl⟩
  · exact Ext.refl _
  · exact Lib.bytesWorld_below _ _ _
theorem pint_bad (L : List UInt8) (hL : L.length ≤ 281474976710656) (hv : numOk L = false) (w : World) (h : DX w) :
    Calls Tryd.prog 19 #[.string ⟨L.toArray⟩, .int .i64 10, .int .i64 64] w fun e w' =>
      ∃ N, e = .returned (.tuple #[.int .i64 (numV L), .iface 79 (.pointer (some ⟨N, 0, none⟩))]) ∧ Ext w w' := by
  obtain ⟨t, p, h3⟩ := h.es
  obtain ⟨t', p', h4⟩ := h.er
  unfold numOk at hv
  unfold numV
  cases hp : Lib.parseIntB 64 L with
  | ok v => rw [hp] at hv; cases hv
  | range =>
    refine (Tryd.strconv_ParseInt_10_at64_range ⟨L.toArray⟩ (by simpa [ByteArray.size] using hL) (by simpa using hp) (.iface t' p') w h4 (Or.inr ⟨t', p', rfl⟩)).mono ?_
    rintro e w' ⟨N, rfl, -, -, hb⟩
    exact ⟨N, by simp, hb⟩
  | _ =>
    refine (Tryd.strconv_ParseInt_10_at64_syntax ⟨L.toArray⟩ (by simpa [ByteArray.size] using hL) (by simpa using hp) (.iface t p) w h3 (Or.inr ⟨t, p, rfl⟩)).mono ?_
    rintro e w' ⟨N, rfl, -, -, hb⟩
    exact ⟨N, rfl, hb⟩

end Go.Proofs.YthckbfkhbegmgaaDoor

/-
  The text of a table (layer 37), in plain lists; a builder that stands behind an older world.
-/
import Derived.Test.YthccmolnfejkeaaDoorResD
import Derived.Test.YthccmolnfejkeaaDoorLin
import Derived.Test.YthccmolnfejkeaaDoorBld
namespace Go.Proofs.YthccmolnfejkeaaDoor
open Go.RowKit
set_option linter.unusedSimpArgs false

def hdrT (o k : Int) : List UInt8 := [82, 69, 83, 79, 85, 82, 67, 69, 32] ++ (Lib.itoa o ++ (32 :: (Lib.itoa k ++ [10])))
noncomputable def txR (n : Nat) (L : Nat → Nat) (Z : Nat → Nat → Int) : List UInt8 := if shapeV n L Z = 0 then hdrT (ovV n) (wkV n L) ++ tabTo L Z n else []
theorem txR_no {n : Nat} {L : Nat → Nat} {Z : Nat → Nat → Int} (h : shapeV n L Z ≠ 0) : txR n L Z = [] := by unfold txR; rw [if_neg h]
theorem txR_yes {n : Nat} {L : Nat → Nat} {Z : Nat → Nat → Int} (h : shapeV n L Z = 0) : txR n L Z = hdrT (ovV n) (wkV n L) ++ tabTo L Z n := by unfold txR; rw [if_pos h]
theorem itoa_any (n : Int) (h0 : -9223372036854775808 ≤ n) (h1 : n ≤ 9223372036854775807) (w : World) (h : TX w) :
    Calls Tryd.prog 17 #[.int .i64 n] w fun e w' => e = .returned (.string ⟨(Lib.itoa n).toArray⟩) ∧ Ext w w' := by
  refine (Tryd.strconv_Itoa n h0 h1 w h).mono ?_
  rintro e w' ⟨rfl, k, os, rfl⟩
  exact ⟨rfl, Lib.below_grow w.heap.size w (Nat.le_refl _) k os⟩
/-- A builder in its block b, which is younger than the world w; nothing else of w has turned. -/
structure TxB (w : World) (b : Nat) (l : List UInt8) (wi : World) : Prop where
  ext : Ext w wi
  bld : BldAt b l wi
  hb : w.heap.size ≤ b
  lt : b < wi.heap.size
theorem TxB.step {w : World} {b : Nat} {l l' : List UInt8} {wi w' : World} (h : TxB w b l wi) (h1 : BldAt b l' w') (h2 : Below b wi w') : TxB w b l' w' :=
  ⟨Below.trans h.ext (Below.mono h2 h.hb), h1, h.hb, Nat.lt_of_lt_of_le h.lt (Below.size h2)⟩
theorem TxB.grow {w : World} {b : Nat} {l : List UInt8} {wi w' : World} (h : TxB w b l wi) (x : Ext wi w') : TxB w b l w' :=
  ⟨h.ext.trans x, h.bld.ext x, h.hb, x.lt h.lt⟩
theorem wbyte_tb {w : World} {b : Nat} {l : List UInt8} {wi : World} (c : UInt8) (h : TxB w b l wi) (hlen : l.length ≤ 140737488355327) :
    Calls Tryd.prog 20 #[.pointer (some ⟨b, 0, none⟩), .int .u8 c.toNat] wi fun e w' => e = .returned .nilIface ∧ TxB w b (l ++ [c]) w' := by
  refine (wbyte_any b l c wi h.bld hlen h.lt).mono ?_
  rintro e w' ⟨rfl, h1, h2, h3⟩
  exact ⟨rfl, h.step h1 h2⟩
theorem wstr_tb {w : World} {b : Nat} {l : List UInt8} {wi : World} (s : List UInt8) (h : TxB w b l wi) (hlen : l.length + s.length ≤ 140737488355328) :
    Calls Tryd.prog 16 #[.pointer (some ⟨b, 0, none⟩), .string ⟨s.toArray⟩] wi fun e w' => e = .returned (.tuple #[.int .i64 s.length, .nilIface]) ∧ TxB w b (l ++ s) w' := by
  refine (wstr_any b l s wi h.bld hlen h.lt).mono ?_
  rintro e w' ⟨rfl, h1, h2, h3⟩
  exact ⟨rfl, h.step h1 h2⟩
theorem fmt_tb {w : World} {b : Nat} {l : List UInt8} {wi : World} (n : Int) (hn : -9223372036854775808 ≤ n ∧ n ≤ 9223372036854775807) (h : TxB w b l wi) (hX : TX w) :
    Calls Tryd.prog 21 #[.int .i64 n, .int .i64 10] wi fun e w' => e = .returned (.string ⟨(Lib.itoa n).toArray⟩) ∧ TxB w b l w' := by
  refine (fmt_any n hn.1 hn.2 wi (hX.ext h.ext)).mono ?_
  rintro e w' ⟨rfl, x⟩
  exact ⟨rfl, h.grow x⟩
theorem tabTo_len (L : Nat → Nat) (Z : Nat → Nat → Int) {n : Nat} (hL : ∀ i, i < n → L i ≤ 12) (h : ∀ i j, i < n → j < L i → -9223372036854775808 ≤ Z i j ∧ Z i j ≤ 9223372036854775807) : ∀ k, k ≤ n → (tabTo L Z k).length ≤ k * 265
  | 0, _ => by simp [tabTo]
  | k + 1, hk => by
    have h1 := tabTo_len L Z hL h k (by omega)
    have h2 := lineTo_len (Z k) (k := L k) (fun j hj => h k j (by omega) hj) (L k) (Nat.le_refl _)
    have h3 := hL k (by omega)
    simp only [tabTo, List.length_append, List.length_cons, List.length_nil]
    omega
theorem hdr_len {o k : Int} (ho : 0 ≤ o ∧ o ≤ 100) (hk : 0 ≤ k ∧ k ≤ 100) : (hdrT o k).length ≤ 60 := by
  have h1 := Lib.itoa_length_le o (by omega) (by omega)
  have h2 := Lib.itoa_length_le k (by omega) (by omega)
  simp only [hdrT, List.length_append, List.length_cons, List.length_nil]
  omega

end Go.Proofs.YthccmolnfejkeaaDoor

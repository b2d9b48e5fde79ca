/-
  Parse of layer 37 (reference), at any string.
-/
import Derived.Test.YthccmolnfejkeaaDoorResV
import Derived.Test.YthccmolnfejkeaaDoorResU
import Derived.Test.YthccmolnfejkeaaDoorResF
namespace Go.Proofs.YthccmolnfejkeaaDoor
open Go.RowKit
set_option linter.unusedSimpArgs false

def TrR (s R : List UInt8) (u : Nat) (L' : Nat → Nat) (Z' : Nat → Nat → Int) : Prop := ∀ n L Z, IsR s n L Z → u ≤ n ∧ R = lnF L Z (n - u) u ∧ Agr u L' Z' L Z
def TrW (s R : List UInt8) (u : Nat) (X : List UInt8) (left : Bool) (j : Nat) (q : Nat → Int) : Prop := ∀ n L Z, IsR s n L Z → u < n ∧ cut2 10 R = lnF L Z (n - (u + 1)) (u + 1) ∧ j ≤ L u ∧ left = decide (j < L u) ∧ (j < L u → X = wFrom (Z u) (L u - j) j) ∧ ∀ i, i < j → q i = Z u i
theorem TrR.start (s : List UInt8) (L' : Nat → Nat) (Z' : Nat → Nat → Int) : TrR s (cut2 10 s) 0 L' Z' := fun n L Z h => ⟨by omega, h.body, fun i hi => absurd hi (by omega)⟩
theorem TrR.row {s R : List UInt8} {u : Nat} {L' : Nat → Nat} {Z' : Nat → Nat → Int} (h : TrR s R u L' Z') (hR : R ≠ []) (q : Nat → Int) : TrW s R u (cut1 10 R) true 0 q := fun n L Z hT => by
  obtain ⟨h1, h2, h3⟩ := h n L Z hT
  have hf := hT.facts
  have hlt : u < n := by
    rcases Nat.lt_or_ge u n with h | h
    · exact h
    · rw [show n - u = 0 by omega] at h2
      exact absurd h2 hR
  have hL := hf.2.2.2.2.1 u hlt
  rw [show n - u = n - (u + 1) + 1 by omega] at h2
  obtain ⟨c1, c2⟩ := lnF_cut L Z (n - (u + 1)) u
  refine ⟨hlt, by rw [h2, c2], by omega, ?_, fun _ => by rw [h2, c1, Nat.sub_zero, line_wFrom _ (by omega)], fun i hi => absurd hi (by omega)⟩
  have : 0 < L u := by omega
  simp [this]
theorem TrW.step {s R X : List UInt8} {u j : Nat} {q : Nat → Int} (h : TrW s R u X true j q) : TrW s R u (cut2 32 X) (cut3 32 X) (j + 1) (setQ q j (rdN (cut1 32 X))) := fun n L Z hT => by
  obtain ⟨h1, h2, h3, h4, h5, h6⟩ := h n L Z hT
  have hj : j < L u := by simpa using h4.symm
  have hX := h5 hj
  obtain ⟨m, hm⟩ : ∃ m, L u - j = m + 1 := ⟨L u - j - 1, by omega⟩
  rw [hm] at hX
  obtain ⟨c1, c2, c3⟩ := wFrom_cut (Z u) m j
  have hz := hT.facts.2.2.2.2.2 u j h1 hj
  refine ⟨h1, h2, by omega, ?_, fun h => ?_, fun i hi => ?_⟩
  · rw [hX, c3]
    by_cases h0 : 0 < m
    · have : j + 1 < L u := by omega
      simp [h0, this]
    · have : ¬ j + 1 < L u := by omega
      simp [h0, this]
  · rw [hX, c2, show L u - (j + 1) = m by omega]
  · unfold setQ
    split
    · rename_i he
      subst he
      rw [hX, c1]
      exact (rd_itoa (by omega) (by omega)).1
    · exact h6 i (by omega)
theorem TrW.done {s R X : List UInt8} {u j : Nat} {q : Nat → Int} {left : Bool} {rs : List (Nat × Nat × Nat)} {f : Nat → Nat → Int} (h : TrW s R u X left j q) (hr : TrR s R u (Lr rs) f) (hl : rs.length = u) (hend : left = false ∨ 10 < j) {g c : Nat} : TrR s (cut2 10 R) (u + 1) (Lr (rs ++ [(g, j, c)])) (setZ f u q) := fun n L Z hT => by
  obtain ⟨h1, h2, h3, h4, h5, h6⟩ := h n L Z hT
  obtain ⟨r1, r2, r3⟩ := hr n L Z hT
  have hf := hT.facts
  have hL := hf.2.2.2.2.1 u h1
  have hj : j = L u := by
    rcases hend with he | he
    · rw [he] at h4
      have : ¬ j < L u := by simpa using h4.symm
      omega
    · omega
  exact ⟨by omega, h2, r3.snoc hl hj (fun i hi => h6 i (by omega))⟩
theorem TrR.all {s R : List UInt8} {u : Nat} {L' : Nat → Nat} {Z' : Nat → Nat → Int} (h : TrR s R u L' Z') (hend : R = [] ∨ 91 < u) : ∀ n L Z, IsR s n L Z → u = n ∧ Agr n L' Z' L Z := fun n L Z hT => by
  obtain ⟨h1, h2, h3⟩ := h n L Z hT
  have hf := hT.facts
  have hu : u = n := by
    rcases hend with he | he
    · rcases Nat.lt_or_ge u n with h | h
      · rw [he, show n - u = n - (u + 1) + 1 by omega] at h2
        exact absurd h2.symm (lnF_ne _ _ _ _)
      · omega
    · omega
  subst hu
  exact ⟨rfl, h3⟩
theorem cut2_lt {R : List UInt8} (h : R ≠ []) : (cut2 10 R).length < R.length := by
  have h0 : 0 < R.length := by
    cases R with
    | nil => exact absurd rfl h
    | cons a l => simp
  unfold cut2 Lib.cut
  split
  · simp; omega
  · simpa using h0
def strL : Value → Nat
  | .string b => b.size
  | _ => 0
def rowL : Value → Nat
  | .slice _ n _ => n
  | _ => 0

set_option maxHeartbeats 16000000 in
set_option maxRecDepth 20000 in
theorem rparse_any (s : List UInt8) (hs : s.length ≤ 100000) (w : World) :
    Calls Tryd.prog 11 #[.string ⟨s.toArray⟩] w (ParOK s w) := by
  obtain ⟨i0, hi, hz0, hz1, hz2⟩ := info_parts infoI
  obtain ⟨i1, hi1, hy0, hy1, hy2⟩ := info_parts infoR
  have hbl := cut2_le 10 s
  have HT0 := Lib.hid (TrR.start s (Lr []) (fun _ _ => 0))
  obtain ⟨B, hB⟩ : ∃ B : List UInt8, cut2 10 s = B := ⟨_, rfl⟩
  rw [hB] at hbl HT0
  have HB := Lib.hid hB
  have hB1 : B.length ≤ 100000 := by omega
  clear hB hbl
  go_enter Tryd.func11, Tryd.ntmps11
  go_wp2_with (first | (go_at_call 32; refine (rcut_any 10 s (by omega) _).mono ?_; rintro e w1 ⟨rfl, hb1⟩; rw [HB.out]))
  have ht0 : w.heap.size < w1.heap.size := hb1.lt (by simp)
  go_loopw [5] (fun r wr => ∃ (u : Nat) (vt : Value) (rs : List (Nat × Nat × Nat)) (f : Nat → Nat → Int) (R : List UInt8), u ≤ 92 ∧ r = .string ⟨R.toArray⟩ ∧ R.length ≤ 100000 ∧ rs.length = u ∧ ParInv w wr w1.heap.size w.heap.size u (.slice none 0 0) vt rs f ∧ RWf u rs f ∧ TrR s R u (Lr rs) f) (fun r _ => strL r)
  case atStart =>
    refine ⟨0, .slice none 0 0, [], fun _ _ => 0, B, by omega, rfl, hB1, rfl, ⟨(by repeat (first | exact Ext.refl _ | refine Ext.setCell ?_ (by first | exact Nat.le_refl _ | (simp; done) | (simp; omega)) _ | refine Ext.drew ?_ | refine Ext.drewN ?_ _ | refine Ext.alloc ?_ _ | refine Ext.trans ?_ hb1)), by omega, by omega, Nat.le_refl _, heap_alloc_new w1 _, ?_, World.ownsRow_nil _ _ _ _, by simp⟩, fun i hi => absurd hi (by omega), HT0.out⟩
    exact (Below.heap_alloc w1 _ _ ht0).trans ((hb1.block _ (by simp)).trans (heap_alloc_new w _))
  case round =>
    obtain ⟨u, vt, rs, f, R, hu, rfl, hRl, hl, hI, hwf, htr⟩ := hrel
    have HI := Lib.hid hI
    have HWF := Lib.hid hwf
    have HTR := Lib.hid htr
    have hEw := hI.ext
    clear hwf htr
    obtain ⟨c1, c2⟩ := hI.cell
    rcases own_len_form hI.own with ⟨A1, C1, rfl⟩
    by_cases hgo : R ≠ [] ∧ ¬ 91 < u
    · obtain ⟨hR, hu91⟩ := hgo
      have hx91 : ((u : Int) ≤ 91) := by omega
      have hne : R.isEmpty = false := by simpa using hR
      have HW0 := Lib.hid (HTR.out.row hR (fun _ => 0))
      have hml := cut2_lt hR
      have h1l := cut1_le 10 R
      obtain ⟨l0, hl0⟩ : ∃ l : List UInt8, cut1 10 R = l := ⟨_, rfl⟩
      obtain ⟨R1, hR1⟩ : ∃ l : List UInt8, cut2 10 R = l := ⟨_, rfl⟩
      rw [hl0] at h1l HW0
      rw [hR1] at hml
      have HL0 := Lib.hid hl0
      have HR1 := Lib.hid hR1
      clear hl0 hR1 hI
      go_wp2_with (go_at_call 32; refine (rcut_any 10 R (by omega) _).mono ?_; rintro e w3 ⟨rfl, hb3⟩; rw [HL0.out, HR1.out])
      go_loopw [8, 11, 12] (fun x v lf wi => ∃ (j : Nat) (g : Nat → Int) (X : List UInt8) (left : Bool), j ≤ 11 ∧ x = .string ⟨X.toArray⟩ ∧ X.length ≤ 100000 ∧ lf = .bool left ∧ (left = false → 0 < j) ∧ wi.ownsRow w3.heap.size 2 1 v j (rowV j g) ∧ (∃ A2 C2, v = .slice A2 j C2) ∧ (∀ p, p < j → -9223372036854775808 ≤ g p ∧ g p ≤ 9223372036854775807) ∧ TrW s R u X left j g ∧ Ext w3 wi) (fun _ v _ _ => 11 - rowL v)
      case atStart => exact ⟨0, fun _ => 0, l0, true, by omega, rfl, by omega, rfl, fun h => (by cases h), World.ownsRow_nil _ _ _ _, ⟨none, 0, rfl⟩, fun p hp => absurd hp (by omega), HW0.out, Ext.refl _⟩
      case round =>
        obtain ⟨j, g, X, left, hj11, rfl, hXl, rfl, hlj, hown, ⟨A2, C2, rfl⟩, hgb, htw, hE3⟩ := hrel
        have HOW := Lib.hid hown
        have HGB := Lib.hid hgb
        have HTW := Lib.hid htw
        clear hgb htw
        by_cases hin : left = true ∧ ¬ 10 < j
        · obtain ⟨rfl, hj10⟩ := hin
          have hj10' : (j : Int) ≤ 10 := by omega
          have h3l := cut1_le 32 X
          have h4l := cut2_le 32 X
          have HTn := Lib.hid HTW.out.step
          obtain ⟨W, hW⟩ : ∃ l : List UInt8, cut1 32 X = l := ⟨_, rfl⟩
          obtain ⟨X1, hX1⟩ : ∃ l : List UInt8, cut2 32 X = l := ⟨_, rfl⟩
          obtain ⟨lf1, hlf⟩ : ∃ l : Bool, cut3 32 X = l := ⟨_, rfl⟩
          rw [hW] at h3l HTn
          rw [hX1] at h4l HTn
          rw [hlf] at HTn
          have HW := Lib.hid hW
          have HX1 := Lib.hid hX1
          have HLF := Lib.hid hlf
          have hvb := rd_bd W
          obtain ⟨v, hv⟩ : ∃ v : Int, rdN W = v := ⟨_, rfl⟩
          rw [hv] at hvb HTn
          have HV := Lib.hid hv
          clear hW hX1 hv hlf hown hlj
          go_wp2_with (first | (go_at_call 32; refine (rcut_any 32 X (by omega) _).mono ?_; rintro e w4 ⟨rfl, hb4⟩; rw [HW.out, HX1.out, HLF.out]) | (go_at_call 33; refine (rread_any W (by omega) _).mono ?_; rintro e w5 ⟨rfl, hb5⟩; rw [HV.out]; have HOW4 := Lib.hid (own_ext HOW.out (hb4.trans hb5))) | (at_builtin; refine wpList_append_own _ rfl _ _ 38 rfl w3.heap.size 2 i0 (.int .i64 0) 1 8 Tryd.underlying38 hi hz0 hz1 hz2 rfl (by decide) _ _ _ rfl (HOW4.out.alloc _) ⟨w5.heap.size, 0, none⟩ 1 1 [.int .i64 v] rfl rfl ?c1 ?c2 ?c3 ?c4 ?c5 ?_))
          case c1 => exact cell_one_new _ _ _
          case c2 => intro x hx; simp at hx; subst hx; rfl
          case c3 => unfold maxLen; omega
          case c4 => omega
          case c5 => have := ((hE3.trans hb4).trans hb5).size; simp; omega
          intro v' w6 hown' hgrow _
          have hX6 := ext_grown (((hE3.trans hb4).trans hb5).alloc _) hgrow (own_row_ge HOW4.out)
          rw [rowV_set] at hown'
          have hfrm := own_len_form hown'
          have HO5 := Lib.hid hown'
          obtain ⟨A3, C3, rfl⟩ := hfrm
          clear hgrow hown'
          go_wp2
          go_roundw
          case rel => exact ⟨j + 1, setQ g j v, X1, lf1, by omega, rfl, by omega, rfl, fun _ => by omega, HO5.out, ⟨_, _, rfl⟩, fun p hp => by (unfold setQ; split; exact hvb; exact HGB.out p (by omega)), HTn.out, hX6⟩
          case measure => simp [rowL]; omega
        · have hend : left = false ∨ 10 < j := by
            cases left
            · exact Or.inl rfl
            · exact Or.inr (Decidable.byContradiction fun h2 => hin ⟨rfl, h2⟩)
          have hj0 : 0 < j := by
            rcases hend with h | h
            · exact hlj h
            · omega
          have hend2 : left = false ∨ (left = true ∧ 10 < j) := by
            cases left
            · exact Or.inl rfl
            · exact Or.inr ⟨rfl, Decidable.byContradiction fun h2 => hin ⟨rfl, h2⟩⟩
          obtain ⟨gr, c, hvr, hgr, hgl⟩ := own_form hown hj0
          cases hvr
          have hJ := HI.out.grow (hb3.trans hE3)
          have HJ := Lib.hid hJ
          obtain ⟨c1, c2⟩ := hJ.cell
          have hOwn := Lib.hid hJ.own
          have HTD : Hid (TrR s R1 (u + 1) (Lr (rs ++ [(gr, j, C2)])) (setZ f u g)) := by
            have := HTW.out.done HTR.out hl hend (g := gr) (c := C2)
            rwa [HR1.out] at this
          have HWD := Lib.hid (HWF.out.snoc hl (g := gr) (c := C2) (by omega) (by omega) HGB.out)
          clear hJ hin hend hlj
          rcases hend2 with rfl | ⟨rfl, h10⟩
          · go_wp2_with (at_builtin; refine wpList_append_own _ rfl _ _ 22 rfl w.heap.size 38 i1 (.slice none 0 0) 1 24 Tryd.underlying22 hi1 hy0 hy1 hy2 rfl (by decide) _ _ _ rfl (hOwn.out.alloc _) ⟨wr.heap.size, 0, none⟩ 1 1 [.slice (some ⟨gr, 0, none⟩) j C2] rfl rfl ?d1 ?d2 ?d3 ?d4 ?d5 ?_)
            case d1 => exact cell_one_new _ _ _
            case d2 => intro x hx; simp at hx; subst hx; rfl
            case d3 => unfold maxLen; omega
            case d4 => omega
            case d5 => have := (hEw.trans (hb3.trans hE3)).size; simp; omega
            intro v' w6 hown' hgrow _
            have hK := HJ.out.grow ((Ext.refl wr).alloc (.cells #[.slice (some ⟨gr, 0, none⟩) j C2] 38))
            obtain ⟨hE1, ht1, hr1, _⟩ := hK.appended hgrow
            have q1 : w6.cell? ⟨w1.heap.size, 0, none⟩ = some (.slice A1 u C1) := by simp [World.cell?, ht1]
            have q2 : w6.frozen? ⟨w1.heap.size, 0, none⟩ = false := by simp [World.frozen?, ht1]
            obtain ⟨g1, cc1, hv1, _, _⟩ := own_form hown' (by omega)
            rw [hv1] at hown' ⊢
            have hL := (hK.congr (g := setZ f u g) hl (fun i p hi => by rw [setZ_old hi])).done hgrow (g := gr) (k := j) (c := C2) (by rw [setZ_new]; exact own_ext (own_base HOW.out (by have := (hEw.trans hb3).size; omega)) ((Ext.refl _).alloc _)) hown' hl
            have HL := Lib.hid hL
            clear hL hK hgrow hown hv1 ht1 hr1
            go_wp2
            go_roundw
            case rel => exact ⟨u + 1, _, rs ++ [(gr, j, C2)], setZ f u g, R1, by omega, rfl, by omega, by simp [hl], HL.out, HWD.out, HTD.out⟩
            case measure => simp [strL, ByteArray.size]; omega
          · have hj10' : ¬ ((j : Int) ≤ 10) := by omega
            go_wp2_with (at_builtin; refine wpList_append_own _ rfl _ _ 22 rfl w.heap.size 38 i1 (.slice none 0 0) 1 24 Tryd.underlying22 hi1 hy0 hy1 hy2 rfl (by decide) _ _ _ rfl (hOwn.out.alloc _) ⟨wr.heap.size, 0, none⟩ 1 1 [.slice (some ⟨gr, 0, none⟩) j C2] rfl rfl ?e1 ?e2 ?e3 ?e4 ?e5 ?_)
            try case e1 => exact cell_one_new _ _ _
            try case e2 => first | rfl | (intro x hx; simp at hx; subst hx; rfl)
            try case e3 => first | (unfold maxLen; omega) | omega
            try case e4 => omega
            try case e5 => have := (hEw.trans (hb3.trans hE3)).size; simp; omega
            intro v' w6 hown' hgrow _
            have hK := HJ.out.grow ((Ext.refl wr).alloc (.cells #[.slice (some ⟨gr, 0, none⟩) j C2] 38))
            obtain ⟨hE1, ht1, hr1, _⟩ := hK.appended hgrow
            have q1 : w6.cell? ⟨w1.heap.size, 0, none⟩ = some (.slice A1 u C1) := by simp [World.cell?, ht1]
            have q2 : w6.frozen? ⟨w1.heap.size, 0, none⟩ = false := by simp [World.frozen?, ht1]
            obtain ⟨g1, cc1, hv1, _, _⟩ := own_form hown' (by omega)
            rw [hv1] at hown' ⊢
            have hL := (hK.congr (g := setZ f u g) hl (fun i p hi => by rw [setZ_old hi])).done hgrow (g := gr) (k := j) (c := C2) (by rw [setZ_new]; exact own_ext (own_base HOW.out (by have := (hEw.trans hb3).size; omega)) ((Ext.refl _).alloc _)) hown' hl
            have HL := Lib.hid hL
            clear hL hK hgrow hown hv1 ht1 hr1
            go_wp2
            go_roundw
            case rel => exact ⟨u + 1, _, rs ++ [(gr, j, C2)], setZ f u g, R1, by omega, rfl, by omega, by simp [hl], HL.out, HWD.out, HTD.out⟩
            case measure => simp [strL, ByteArray.size]; omega
    · have hend : R = [] ∨ 91 < u := by
        by_cases h1 : R = []
        · exact Or.inl h1
        · exact Or.inr (Decidable.byContradiction fun h2 => hgo ⟨h1, h2⟩)
      have HALL := Lib.hid (HTR.out.all hend)
      have hcases : (R = [] ∨ (R ≠ [] ∧ 91 < u)) := by
        rcases hend with h | h
        · exact Or.inl h
        · by_cases h1 : R = []
          · exact Or.inl h1
          · exact Or.inr ⟨h1, h⟩
      obtain ⟨A0, gt, ct, hvt, hT⟩ := hI.tab hl (by omega) (fun i hi => by have := (HWF.out i hi).1; unfold Lr at this; omega) (fun i j hi hj => (HWF.out i hi).2.2 j hj)
      cases hvt
      have HT := Lib.hid hT
      obtain ⟨r1, r2⟩ := hI.rcell
      obtain ⟨E, hE⟩ : ∃ E, shapeV u (Lr rs) f = E := ⟨_, rfl⟩
      clear hI hgo hend
      by_cases hE0 : E = 0
      · subst hE0
        have hsz := shape_zero hE
        have hR0 : R = [] := by
          rcases hcases with h | ⟨_, h⟩
          · exact h
          · omega
        subst hR0
        have HTX := Lib.hid (txR_yes hE)
        have HEq := Lib.hid hE
        clear hcases hsz
        by_cases hTL : hdrT (ovV u) (wkV u (Lr rs)) ++ tabTo (Lr rs) f u = s
        · have HIS : Hid (IsR s u (Lr rs) f) := ⟨hE, hTL⟩
          have HTL := Lib.hid hTL
          clear hE hTL
          go_wp2_with (go_at_call 8; refine (rtext_any _ _ HT.out).mono ?_; rintro e w5 ⟨rfl, hb5⟩; (have hT5 : txR u (Lr rs) f = s := HTX.out.trans HTL.out); (have hS5 : shapeV u (Lr rs) f = 0 := HEq.out); unfold Lr at hT5 hS5; rw [hT5, hS5]; clear hT5 hS5; have k1 := hb5.keep c1; have k2 := hb5.keep r1; have k3 := (hb5.cells.2 _ _ (cell_lt r1)).trans r2)
          refine bodyPost_ret (v := .tuple #[.agg #[.slice A1 u C1], .int .i64 0]) (by simp [results, Tryd.results11, go_sem, *]) rfl ?_
          obtain ⟨A0', g', c', e', hT'⟩ := ((HI.out.grow hb5).rstore (.slice A1 u C1)).tab hl (by omega) (fun i hi => by have := (HWF.out i hi).1; unfold Lr at this; omega) (fun i j hi hj => (HWF.out i hi).2.2 j hj)
          cases e'
          exact ⟨Ext.setCell (hEw.trans hb5) (Nat.le_refl _) _, Or.inr ⟨_, u, _, _, Lr rs, _, f, _, _, _, _, rfl, hT', HIS.out, HALL.out⟩⟩
        · have HBAD : Hid (BadR s) := fun n L1 Z1 h1 => by
            obtain ⟨rfl, hag⟩ := HALL.out n L1 Z1 h1
            exact hTL (h1.congr hag).2
          obtain ⟨T, hT2⟩ : ∃ T : List UInt8, hdrT (ovV u) (wkV u (Lr rs)) ++ tabTo (Lr rs) f u = T := ⟨_, rfl⟩
          rw [hT2] at hTL
          have HT2 := Lib.hid hT2
          have hne1 : (T == s) = false := by simpa using hTL
          have hne2 : (T != s) = true := by simp only [bne, hne1, Bool.not_false]
          clear hE hT2
          go_wp2_with (go_at_call 8; refine (rtext_any _ _ HT.out).mono ?_; rintro e w5 ⟨rfl, hb5⟩; (have hT5 : txR u (Lr rs) f = T := HTX.out.trans HT2.out); (have hS5 : shapeV u (Lr rs) f = 0 := HEq.out); unfold Lr at hT5 hS5; rw [hT5, hS5]; clear hT5 hS5; have k1 := hb5.keep c1; have k2 := hb5.keep r1; have k3 := (hb5.cells.2 _ _ (cell_lt r1)).trans r2)
          refine bodyPost_ret (v := .tuple #[.agg #[.slice none 0 0], .int .i64 4]) (by simp [results, Tryd.results11, go_sem, *]) rfl ?_
          exact ⟨Ext.setCell (hEw.trans hb5) (Nat.le_refl _) _, Or.inl ⟨rfl, HBAD.out⟩⟩
      · have HBAD : Hid (BadR s) := fun n L1 Z1 h1 => by
          obtain ⟨rfl, hag⟩ := HALL.out n L1 Z1 h1
          rw [(h1.congr hag).1] at hE
          exact hE0 hE.symm
        have HEq := Lib.hid hE
        have hE1 : (E != 0) = true := by simpa using hE0
        clear hE
        rcases hcases with rfl | ⟨hr1, hr2⟩
        rotate_left
        have hne : R.isEmpty = false := by simpa using hr1
        have hx91 : ¬ ((u : Int) ≤ 91) := by omega
        all_goals
          go_wp2_with (go_at_call 8; refine (rtext_any _ _ HT.out).mono ?_; rintro e w5 ⟨rfl, hb5⟩; (have hS5 : shapeV u (Lr rs) f = E := HEq.out); unfold Lr at hS5; rw [hS5]; clear hS5; have k1 := hb5.keep c1; have k2 := hb5.keep r1; have k3 := (hb5.cells.2 _ _ (cell_lt r1)).trans r2)
          refine bodyPost_ret (v := .tuple #[.agg #[.slice none 0 0], .int .i64 4]) (by simp [results, Tryd.results11, go_sem, *]) rfl ?_
          exact ⟨Ext.setCell (hEw.trans hb5) (Nat.le_refl _) _, Or.inl ⟨rfl, HBAD.out⟩⟩

end Go.Proofs.YthccmolnfejkeaaDoor

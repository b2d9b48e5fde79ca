/-
  Parse of layer 31 (reference), at any string.
-/
import Derived.Test.YtaeblcgblmipaaaDoorCamS
import Derived.Test.YtaeblcgblmipaaaDoorRRead
namespace Go.Proofs.YtaeblcgblmipaaaDoor
open Go.RowKit
set_option linter.unusedSimpArgs false

theorem cut1_le (x : UInt8) (L : List UInt8) : (cut1 x L).length ≤ L.length := by
  unfold cut1 Lib.cut
  split <;> simp <;> omega
theorem cut2_le (x : UInt8) (L : List UInt8) : (cut2 x L).length ≤ L.length := by
  unfold cut2 Lib.cut
  split <;> simp
/-- Words p, p + 1, .. (m of them), blanks between them. -/
def wFrom (G : Nat → Int) : Nat → Nat → List UInt8
  | 0, _ => []
  | 1, p => Lib.itoa (G p)
  | m + 2, p => Lib.itoa (G p) ++ 32 :: wFrom G (m + 1) (p + 1)
theorem line_wFrom (G : Nat → Int) : lineTo G 5 = wFrom G 5 0 := by rw [line_flat]; rfl
theorem wFrom_cut (G : Nat → Int) : ∀ p, p < 5 → cut1 32 (wFrom G (5 - p) p) = Lib.itoa (G p) ∧ cut2 32 (wFrom G (5 - p) p) = wFrom G (5 - (p + 1)) (p + 1) := by
  have hc : ∀ m p, cut1 32 (wFrom G (m + 2) p) = Lib.itoa (G p) ∧ cut2 32 (wFrom G (m + 2) p) = wFrom G (m + 1) (p + 1) := fun m p => by
    have := cut_at (Lib.itoa (G p)) (wFrom G (m + 1) (p + 1)) 32 (num_bytes _)
    unfold cut1 cut2
    rw [wFrom, this]
    exact ⟨rfl, rfl⟩
  have h1 : cut1 32 (wFrom G 1 4) = Lib.itoa (G 4) ∧ cut2 32 (wFrom G 1 4) = wFrom G 0 5 := by
    have := cut_none (Lib.itoa (G 4)) 32 (num_bytes _)
    show (Lib.cut (Lib.itoa (G 4)) [32]).1 = _ ∧ (Lib.cut (Lib.itoa (G 4)) [32]).2.1 = _
    rw [this]
    exact ⟨rfl, rfl⟩
  intro p hp
  match p, hp with
  | 0, _ => exact hc 3 0
  | 1, _ => exact hc 2 1
  | 2, _ => exact hc 1 2
  | 3, _ => exact hc 0 3
  | 4, _ => exact h1
theorem ln_cut (F : Nat → Nat → Int) (m k : Nat) : cut1 10 (lnFrom F (m + 1) k) = lineTo (F k) 5 ∧ cut2 10 (lnFrom F (m + 1) k) = lnFrom F m (k + 1) := by
  have := cut_at (lineTo (F k) 5) (lnFrom F m (k + 1)) 10 (line_bytes _ _)
  unfold cut1 cut2
  rw [lnFrom, this]
  exact ⟨rfl, rfl⟩
theorem ln_ne (F : Nat → Nat → Int) (m k : Nat) : lnFrom F (m + 1) k ≠ [] := by simp [lnFrom]
/-- The valid lists with a text. -/
def IsT (L : List UInt8) (n : Nat) (F : Nat → Nat → Int) : Prop := ckE n F = 0 ∧ textTo F n = L
/-- What is read so far, and the rest. -/
def Trk (L R : List UInt8) (j : Nat) (f : Nat → Nat → Int) : Prop := ∀ n F, IsT L n F → j ≤ n ∧ R = lnFrom F (n - j) j ∧ ∀ i p, i < j → p < 5 → f i p = F i p
theorem Trk.start (L : List UInt8) (f : Nat → Nat → Int) : Trk L L 0 f := fun n F h => ⟨by omega, by rw [Nat.sub_zero, ← textTo_all, h.2], fun i p hi _ => absurd hi (by omega)⟩
/-- One line: what is read of it, and the rest. -/
def TrkW (l X : List UInt8) (p : Nat) (g : Nat → Int) : Prop := ∀ G : Nat → Int, (∀ i, i < 5 → -300000 ≤ G i ∧ G i ≤ 300000) → l = lineTo G 5 → X = wFrom G (5 - p) p ∧ ∀ i, i < p → g i = G i
theorem TrkW.start (l : List UInt8) (g : Nat → Int) : TrkW l l 0 g := fun G _ h => ⟨by rw [Nat.sub_zero, ← line_wFrom, h], fun i hi => absurd hi (by omega)⟩
theorem TrkW.step {l X : List UInt8} {p : Nat} {g : Nat → Int} (h : TrkW l X p g) (hp : p < 5) : TrkW l (cut2 32 X) (p + 1) (updC g p (rdN (cut1 32 X))) := fun G hG hl => by
  obtain ⟨h1, h2⟩ := h G hG hl
  obtain ⟨c1, c2⟩ := wFrom_cut G p hp
  have hb := hG p hp
  refine ⟨by rw [h1, c2], fun i hi => ?_⟩
  unfold updC
  split
  · rename_i he
    subst he
    rw [h1, c1]
    exact (rd_itoa (by omega) (by omega)).1
  · exact h2 i (by omega)
theorem Trk.step {L R : List UInt8} {j : Nat} {f : Nat → Nat → Int} {g : Nat → Int} {X : List UInt8} (h : Trk L R j f) (hR : R ≠ []) (hW : TrkW (cut1 10 R) X 5 g) : Trk L (cut2 10 R) (j + 1) (addS f j g) := fun n F hT => by
  obtain ⟨h1, h2, h3⟩ := h n F hT
  have hlt : j < n := by
    rcases Nat.lt_or_ge j n with h | h
    · exact h
    · rw [show n - j = 0 by omega] at h2
      exact absurd h2 hR
  rw [show n - j = n - (j + 1) + 1 by omega] at h2
  obtain ⟨c1, c2⟩ := ln_cut F (n - (j + 1)) j
  have hg := (hW (F j) (fun i hi => seen_bd hT.1 hlt hi) (by rw [h2, c1])).2
  refine ⟨by omega, by rw [h2, c2], fun i p hi hp => ?_⟩
  unfold addS
  split
  · rename_i he
    subst he
    exact hg p hp
  · exact h3 i p (by omega) hp
/-- At the end: the text of a valid list has been read as that list. -/
theorem Trk.all {L R : List UInt8} {j : Nat} {f : Nat → Nat → Int} (h : Trk L R j f) (hend : R = [] ∨ 64 < j) {n : Nat} {F : Nat → Nat → Int} (hT : IsT L n F) : j = n ∧ ∀ i p, i < n → p < 5 → f i p = F i p := by
  obtain ⟨h1, h2, h3⟩ := h n F hT
  have hn := ck_le hT.1
  have hj : j = n := by
    rcases hend with he | he
    · rcases Nat.lt_or_ge j n with h | h
      · rw [he, show n - j = n - (j + 1) + 1 by omega] at h2
        exact absurd h2.symm (ln_ne _ _ _)
      · omega
    · omega
  subst hj
  exact ⟨rfl, h3⟩
theorem textTo_congr {f g : Nat → Nat → Int} : ∀ n, (∀ i p, i < n → p < 5 → f i p = g i p) → textTo f n = textTo g n
  | 0, _ => rfl
  | n + 1, h => by
    have h1 := textTo_congr n (fun i p hi hp => h i p (by omega) hp)
    have h2 : lineTo (f n) 5 = lineTo (g n) 5 := by
      rw [line_flat, line_flat, h n 0 (by omega) (by omega), h n 1 (by omega) (by omega), h n 2 (by omega) (by omega), h n 3 (by omega) (by omega), h n 4 (by omega) (by omega)]
    rw [textTo, textTo, h1, h2]
theorem ckE_congr {n : Nat} {f g : Nat → Nat → Int} (h : ∀ i p, i < n → p < 5 → f i p = g i p) : ckE n f = ckE n g := ck_congr (fun i hi => by
  refine ⟨?_, ?_⟩
  · unfold seenR
    rw [h i 0 hi (by omega), h i 1 hi (by omega), h i 2 hi (by omega), h i 3 hi (by omega), h i 4 hi (by omega)]
  · unfold seenO
    rw [h i 0 hi (by omega)]
    by_cases h0 : 0 < i
    · rw [h (i - 1) 0 (by omega) (by omega)]
    · simp [h0])
/-- What the reference's Parse returns at L. -/
def RpOK (L : List UInt8) (w : World) (e : Ending) (w' : World) : Prop :=
  Ext w w' ∧ ((e = .returned (.tuple #[.slice none 0 0, .int .i64 4]) ∧ BadT L) ∨
    ∃ v g j f, e = .returned (.tuple #[v, .int .i64 0]) ∧ SeenV w' v j f g 0 ∧ IsT L j f ∧ ∀ n F, IsT L n F → j = n ∧ ∀ i p, i < n → p < 5 → f i p = F i p)
def lenV : Value → Nat
  | .slice _ n _ => n
  | _ => 0

set_option maxHeartbeats 16000000 in
set_option maxRecDepth 20000 in
theorem rparse_any (L : List UInt8) (hl' : L.length ≤ 100000) (w : World) :
    Calls Tryd.prog 25 #[.string ⟨L.toArray⟩] w (RpOK L w) := by
  go_enter Tryd.func25, Tryd.ntmps25
  go_wp2
  go_loopw [4, 5] (fun v r wr => ∃ (j : Nat) (A1 : Option Addr) (C1 : Nat) (f : Nat → Nat → Int) (R : List UInt8), j ≤ 65 ∧ v = .slice A1 j C1 ∧ r = .string ⟨R.toArray⟩ ∧ wr.ownsRow w.heap.size 33 5 (.slice A1 j C1) j (seenL j f) ∧ SWf j f ∧ R.length ≤ 100000 ∧ Trk L R j f ∧ Ext w wr) (fun v _ _ => 66 - lenV v)
  case atStart => exact ⟨0, none, 0, fun _ _ => 0, L, by omega, rfl, rfl, by simpa [seenL] using World.ownsRow_nil _ _ _ _, fun i j hi _ => absurd hi (by omega), hl', Trk.start _ _, Ext.refl _⟩
  case round =>
    obtain ⟨j, A1, C1, f, R, hj65, rfl, rfl, hown, hwf, hRl, htr, hE⟩ := hrel
    have HO := Lib.hid hown
    have HWF := Lib.hid hwf
    have HTR := Lib.hid htr
    clear hown hwf htr
    by_cases hgo : R ≠ [] ∧ ¬ 64 < j
    · obtain ⟨hR, hj⟩ := hgo
      have hj64 : ¬ ((64 : Int) < (j : Int)) := by omega
      have hj64' : (j : Int) ≤ 64 := by omega
      have hne : R.isEmpty = false := by simpa using hR
      have h1l := cut1_le 10 R
      have h2l := cut2_le 10 R
      obtain ⟨l0, hl0⟩ : ∃ l : List UInt8, cut1 10 R = l := ⟨_, rfl⟩
      obtain ⟨R1, hR1⟩ : ∃ l : List UInt8, cut2 10 R = l := ⟨_, rfl⟩
      rw [hl0] at h1l
      rw [hR1] at h2l
      have HL0 := Lib.hid hl0
      have HR1 := Lib.hid hR1
      have HNE := Lib.hid hR
      clear hl0 hR1
      go_wp2_with (go_at_call 38; refine (rcut_any 10 R (by omega) _).mono ?_; rintro e w1 ⟨rfl, hb1⟩; rw [HL0.out, HR1.out])
      go_loopw [6, 31] (fun x i wi => ∃ (p : Nat) (g : Nat → Int) (X : List UInt8), p ≤ 5 ∧ i = .int .i64 p ∧ x = .string ⟨X.toArray⟩ ∧ X.length ≤ 100000 ∧ wi.heap[w1.heap.size]? = some (.cells (bxC g p) 59 (0, 0)) ∧ (∀ q, -9223372036854775808 ≤ g q ∧ g q ≤ 9223372036854775807) ∧ TrkW l0 X p g ∧ Ext w1 wi) (fun _ i _ => 5 - (intOf i).toNat)
      case atStart => exact ⟨0, fun _ => 0, l0, by omega, rfl, rfl, by omega, heap_alloc_new w1 _, fun p => ⟨by show (-9223372036854775808 : Int) ≤ 0; decide, by show (0 : Int) ≤ 9223372036854775807; decide⟩, TrkW.start _ _, (by repeat (first | exact Ext.refl _ | refine Ext.setCell ?_ (by first | exact Nat.le_refl _ | (simp; done) | (simp; omega)) _ | refine Ext.drew ?_ | refine Ext.drewN ?_ _ | refine Ext.alloc ?_ _))⟩
      case round =>
        obtain ⟨p, g, X, hp5, rfl, rfl, hXl, hbox, hgb, htw, hE2⟩ := hrel
        have HBX := Lib.hid hbox
        have HGB := Lib.hid hgb
        have HTW := Lib.hid htw
        clear hgb htw
        by_cases hp : p < 5
        · have hlb : w1.heap.size < wr.heap.size := (Array.getElem?_eq_some_iff.1 hbox).1
          clear hbox
          have h3l := cut1_le 32 X
          have h4l := cut2_le 32 X
          have HTn := Lib.hid (HTW.out.step hp)
          obtain ⟨W, hW⟩ : ∃ l : List UInt8, cut1 32 X = l := ⟨_, rfl⟩
          obtain ⟨X1, hX1⟩ : ∃ l : List UInt8, cut2 32 X = l := ⟨_, rfl⟩
          rw [hW] at h3l HTn
          rw [hX1] at h4l HTn
          have HW := Lib.hid hW
          have HX1 := Lib.hid hX1
          have hvb := rd_bd W
          obtain ⟨v, hv⟩ : ∃ v : Int, rdN W = v := ⟨_, rfl⟩
          rw [hv] at hvb HTn
          have HV := Lib.hid hv
          clear hW hX1 hv
          go_wp2_with (first | (go_at_call 38; refine (rcut_any 32 X (by omega) _).mono ?_; rintro e w2 ⟨rfl, hb2⟩; rw [HW.out, HX1.out]) | (go_at_call 39; refine (rread_any W (by omega) _).mono ?_; rintro e w3 ⟨rfl, hb3⟩; rw [HV.out]; have hB3 := ((hb2.trans hb3).block _ hlb).trans HBX.out; have cz : w3.cell? ⟨w1.heap.size, p, none⟩ = some (.int .i64 0) := (Lib.cell_of_heap hB3 p).trans (bxC_at g p hp); have fz := frozen_of_row w3 w1.heap.size p _ _ hB3; have HB3 := Lib.hid hB3; clear hB3))
          go_roundw
          case rel => exact ⟨p + 1, updC g p v, X1, by omega, by go_num, rfl, by omega, by rw [← bxC_upd g v p hp]; exact bx_set HB3.out p _, fun i => by (unfold updC; split; exact hvb; exact HGB.out i), HTn.out, (by repeat (first | exact Ext.refl _ | refine Ext.setCell ?_ (by first | exact Nat.le_refl _ | (simp; done) | (simp; omega)) _ | refine Ext.drew ?_ | refine Ext.drewN ?_ _ | refine Ext.alloc ?_ _ | exact hE2.trans (hb2.trans hb3)))⟩
          case measure => simp [intOf]; omega
        · obtain rfl : p = 5 := by omega
          have g0 : wr.cell? ⟨w1.heap.size, 0, none⟩ = some (.int .i64 (g 0)) := Lib.cell_of_heap hbox 0
          have g1 : wr.cell? ⟨w1.heap.size, 1, none⟩ = some (.int .i64 (g 1)) := Lib.cell_of_heap hbox 1
          have g2 : wr.cell? ⟨w1.heap.size, 2, none⟩ = some (.int .i64 (g 2)) := Lib.cell_of_heap hbox 2
          have g3 : wr.cell? ⟨w1.heap.size, 3, none⟩ = some (.int .i64 (g 3)) := Lib.cell_of_heap hbox 3
          have g4 : wr.cell? ⟨w1.heap.size, 4, none⟩ = some (.int .i64 (g 4)) := Lib.cell_of_heap hbox 4
          clear hbox
          have HOr := Lib.hid (own_ext HO.out (hb1.trans hE2))
          have HT2 : Hid (Trk L R1 (j + 1) (addS f j g)) := by
            have := HTR.out.step HNE.out (X := X) (g := g) (by rw [HL0.out]; exact HTW.out)
            rwa [HR1.out] at this
          go_wp2_with (at_builtin; refine append_seen _ rfl _ _ rfl w.heap.size _ _ _ rfl (HOr.out.alloc _) ⟨wr.heap.size, 0, none⟩ 1 _ [.int .i64 (g 0), .int .i64 (g 1), .int .i64 (g 2), .int .i64 (g 3), .int .i64 (g 4)] rfl rfl ?c1 ?c2 ?c3 ?c4 ?c5 ?_)
          case c1 => exact cells_new5 _ _ _ _ _ _ _
          case c2 => intro u hu; simp at hu; rcases hu with rfl | rfl | rfl | rfl | rfl <;> rfl
          case c3 => unfold maxLen; omega
          case c4 => omega
          case c5 => have := ((hE.trans hb1).trans hE2).size; simp; omega
          intro v' w4 hown' hgrow _
          rw [addS_cells] at hown'
          have hE4 : Ext w w4 := ext_grown (((hE.trans hb1).trans hE2).alloc _) hgrow (own_row_ge HOr.out)
          rcases hown'.2 with ⟨_, h0⟩ | ⟨gg, cap, cur, rfl, _⟩
          · omega
          · have HO4 := Lib.hid hown'
            clear hown'
            go_wp2
            go_roundw
            case rel => exact ⟨j + 1, some ⟨gg, 0, none⟩, cap, addS f j g, R1, by omega, rfl, rfl, HO4.out, addS_wf HWF.out (fun i _ => HGB.out i), by omega, HT2.out, hE4⟩
            case measure => simp [lenV]; omega
    · have hend : R = [] ∨ 64 < j := by
        by_cases h1 : R = []
        · exact Or.inl h1
        · exact Or.inr (Decidable.byContradiction fun h2 => hgo ⟨h1, h2⟩)
      have HEND := Lib.hid hend
      obtain ⟨g, hg⟩ := seenV_own HO.out (by omega) HWF.out
      have HG := Lib.hid hg
      obtain ⟨A0', C', he, hT, _⟩ := hg.ex
      cases he
      have hcases : (R = [] ∨ (R ≠ [] ∧ (64 : Int) < (j : Int))) := by
        rcases hend with h | h
        · exact Or.inl h
        · by_cases h1 : R = []
          · exact Or.inl h1
          · exact Or.inr ⟨h1, by omega⟩
      clear hg hgo hend
      rcases and1 (ckE j f == 0) with hc | hc
      · have HBAD : Hid (BadT L) := fun n F h1 h2 => by
          obtain ⟨rfl, hag⟩ := HTR.out.all HEND.out ⟨h1, h2⟩
          rw [ckE_congr hag, h1] at hc
          cases hc
        obtain ⟨E, hEq⟩ : ∃ E : Int, ckE j f = E := ⟨_, rfl⟩
        rw [hEq] at hc
        have HE := Lib.hid hEq
        have hE1 : (E != 0) = true := by simp only [bne, hc, Bool.not_false]
        clear hEq
        rcases hcases with rfl | ⟨h1, h2⟩
        · go_wp2_with (go_at_call 23; refine (rtext_any _ _ _ f _ _ _ hT).mono ?_; rintro e w5 ⟨rfl, hb5⟩; rw [HE.out])
          go_ret2
          exact ⟨hE.trans hb5, Or.inl ⟨rfl, HBAD.out⟩⟩
        · have hne : R.isEmpty = false := by simpa using h1
          have h3 : ¬ ((j : Int) ≤ 64) := by omega
          go_wp2_with (go_at_call 23; refine (rtext_any _ _ _ f _ _ _ hT).mono ?_; rintro e w5 ⟨rfl, hb5⟩; rw [HE.out])
          go_ret2
          exact ⟨hE.trans hb5, Or.inl ⟨rfl, HBAD.out⟩⟩
      · have hc0 : ckE j f = 0 := by simpa using hc
        have hj64 := ck_le hc0
        have hR0 : R = [] := by
          rcases hcases with h | ⟨_, h⟩
          · exact h
          · omega
        clear hcases
        subst hR0
        have HE := Lib.hid hc0
        have HT := Lib.hid (tx_yes hc)
        by_cases hTL : textTo f j = L
        · have HTL := Lib.hid hTL
          clear hc hc0 hTL
          go_wp2_with (go_at_call 23; refine (rtext_any _ _ _ f _ _ _ hT).mono ?_; rintro e w5 ⟨rfl, hb5⟩; rw [HT.out, HE.out, HTL.out])
          go_ret2
          exact ⟨hE.trans hb5, Or.inr ⟨_, g, j, f, rfl, HG.out.ext hb5, ⟨HE.out, HTL.out⟩, fun n F h => HTR.out.all (Or.inl rfl) h⟩⟩
        · have HBAD : Hid (BadT L) := fun n F h1 h2 => by
            obtain ⟨rfl, hag⟩ := HTR.out.all HEND.out ⟨h1, h2⟩
            exact hTL ((textTo_congr _ hag).trans h2)
          obtain ⟨T, hT2⟩ : ∃ T : List UInt8, textTo f j = T := ⟨_, rfl⟩
          rw [hT2] at hTL
          have HT2 := Lib.hid hT2
          have hne1 : (T == L) = false := by simpa using hTL
          have hne2 : (T != L) = true := by simp only [bne, hne1, Bool.not_false]
          clear hc hc0 hT2
          go_wp2_with (go_at_call 23; refine (rtext_any _ _ _ f _ _ _ hT).mono ?_; rintro e w5 ⟨rfl, hb5⟩; rw [HT.out, HE.out, HT2.out])
          go_ret2
          exact ⟨hE.trans hb5, Or.inl ⟨rfl, HBAD.out⟩⟩

end Go.Proofs.YtaeblcgblmipaaaDoor

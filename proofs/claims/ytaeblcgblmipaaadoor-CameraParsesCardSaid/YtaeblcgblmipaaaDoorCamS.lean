/-
  Parse of layer 31 (program) at a string that is the text of no valid list.
-/
import Derived.Test.YtaeblcgblmipaaaDoorCamR
import Derived.Lib.ParseIntBTie
namespace Go.Proofs.YtaeblcgblmipaaaDoor
open Go.RowKit
set_option linter.unusedSimpArgs false

theorem spl_sz (sep : ByteArray) (sv : Nat) : ∀ (k : Nat) (s : ByteArray), ∀ x ∈ Lib.splitB sep sv k s, x.size ≤ s.size
  | 0, s, x, h => by
    rw [Lib.splitB_zero, List.mem_singleton] at h
    rw [h]; exact Nat.le_refl _
  | k + 1, s, x, h => by
    unfold Lib.splitB at h
    split at h
    · rw [List.mem_singleton] at h
      rw [h]; exact Nat.le_refl _
    · rcases List.mem_cons.1 h with h | h
      · rw [h, ByteArray.size_extract]; omega
      · have h1 := spl_sz sep sv k _ x h
        rw [ByteArray.size_extract] at h1
        omega
theorem len_of (x : ByteArray) {n : Nat} (h : x.size ≤ n) : x.data.toList.length ≤ n := by
  rw [Array.length_toList]
  exact h
/-- The pieces, each of them some text no longer than the whole. -/
theorem splAfter_some {L : List UInt8} {w w' : World} {e : Ending} (h : SplOK L w e w') : ∃ N, e = .returned (.slice (some ⟨w.heap.size, 0, none⟩) N N) ∧ N ≤ L.length + 1 ∧ Ext w w' ∧
    ∀ j, j < N → ∃ x : List UInt8, x.length ≤ L.length ∧ w'.cell? ⟨w.heap.size, j, none⟩ = some (.string ⟨x.toArray⟩) := by
  obtain ⟨rfl, hb, hc⟩ := h
  have hsz : (⟨L.toArray⟩ : ByteArray).size = L.length := by simp [ByteArray.size]
  have hcn : Lib.countB ⟨L.toArray⟩ ⟨#[10]⟩ ≤ (⟨L.toArray⟩ : ByteArray).size := Lib.countB_le ⟨#[10]⟩ (by decide) _ _ (Nat.le_refl _)
  have hl := Lib.splitB_all ⟨#[10]⟩ (by decide) 1 _ ⟨L.toArray⟩ rfl
  refine ⟨_, rfl, by omega, hb, fun j hj => ?_⟩
  have hj' : j < (Lib.splitB ⟨#[10]⟩ 1 (Lib.countB ⟨L.toArray⟩ ⟨#[10]⟩) ⟨L.toArray⟩).length := by rw [hl]; exact hj
  have hs := spl_sz _ _ _ _ _ (List.getElem_mem hj')
  refine ⟨((Lib.splitB ⟨#[10]⟩ 1 (Lib.countB ⟨L.toArray⟩ ⟨#[10]⟩) ⟨L.toArray⟩)[j]).data.toList, ?_, ?_⟩
  · rw [hsz] at hs
    exact len_of _ hs
  · exact hc j _ (List.getElem?_eq_getElem hj')
theorem splg_some (L : List UInt8) (hL : L.length ≤ 1000000) (w : World) (h : DX w) : Calls Tryd.prog 35 #[.string ⟨L.toArray⟩, .string ⟨#[32]⟩] w fun e w' =>
    ∃ N, e = .returned (.slice (some ⟨w.heap.size, 0, none⟩) N N) ∧ N ≤ L.length + 1 ∧ Ext w w' ∧ ∀ j, j < N → ∃ x : List UInt8, x.length ≤ L.length ∧ w'.cell? ⟨w.heap.size, j, none⟩ = some (.string ⟨x.toArray⟩) := by
  obtain ⟨m, hm⟩ := h.mx
  have hl := Lib.splitB_all ⟨#[32]⟩ (by decide) 0 _ ⟨L.toArray⟩ rfl
  have hsz : (⟨L.toArray⟩ : ByteArray).size = L.length := by simp [ByteArray.size]
  have hcn : Lib.countB ⟨L.toArray⟩ ⟨#[32]⟩ ≤ (⟨L.toArray⟩ : ByteArray).size := Lib.countB_le ⟨#[32]⟩ (by decide) _ _ (Nat.le_refl _)
  refine (Tryd.strings_Split ⟨L.toArray⟩ ⟨#[32]⟩ m w (by rw [hsz]; omega) hm (by decide)).mono ?_
  rintro e w' ⟨rfl, rfl⟩
  refine ⟨_, rfl, by omega, Ext.alloc (Ext.refl w) _, fun j hj => ?_⟩
  have hj' : j < (Lib.splitB ⟨#[32]⟩ 0 (Lib.countB ⟨L.toArray⟩ ⟨#[32]⟩) ⟨L.toArray⟩).length := by rw [hl]; exact hj
  have hs := spl_sz _ _ _ _ _ (List.getElem_mem hj')
  refine ⟨((Lib.splitB ⟨#[32]⟩ 0 (Lib.countB ⟨L.toArray⟩ ⟨#[32]⟩) ⟨L.toArray⟩)[j]).data.toList, by rw [hsz] at hs; exact len_of _ hs, (Lib.cell_of_heap (heap_alloc_new w _) j).trans ?_⟩
  rw [List.getElem?_toArray, List.getElem?_map, List.getElem?_eq_getElem hj']
  rfl
theorem num_yes {l : List UInt8} (h : numOk l = true) : Lib.parseIntB 64 l = .ok (numV l) ∧ -9223372036854775808 ≤ numV l ∧ numV l ≤ 9223372036854775807 := by
  have h1 : Lib.parseIntB 64 l = .ok (numV l) := by
    unfold numOk at h
    unfold numV
    revert h
    cases Lib.parseIntB 64 l <;> intro h <;> first | rfl | cases h
  have := Lib.parseIntB_bounds h1
  exact ⟨h1, by omega, by omega⟩
def updC (g : Nat → Int) (m : Nat) (v : Int) : Nat → Int := fun i => if i = m then v else g i
theorem bxC_upd (g : Nat → Int) (v : Int) : ∀ j, j < 5 → (bxC g j).setIfInBounds j (.int .i64 v) = bxC (updC g j v) (j + 1)
  | 0, _ => rfl
  | 1, _ => rfl
  | 2, _ => rfl
  | 3, _ => rfl
  | 4, _ => rfl
  | j + 5, h => by omega
/-- One observation behind the others. -/
def addS (f : Nat → Nat → Int) (k : Nat) (g : Nat → Int) : Nat → Nat → Int := fun i j => if i = k then g j else f i j
theorem addS_at (f : Nat → Nat → Int) (k : Nat) (g : Nat → Int) (j : Nat) : addS f k g k j = g j := by simp [addS]
theorem addS_cells (f : Nat → Nat → Int) (k : Nat) (g : Nat → Int) : seenL k f ++ [.int .i64 (g 0), .int .i64 (g 1), .int .i64 (g 2), .int .i64 (g 3), .int .i64 (g 4)] = seenL (k + 1) (addS f k g) := by
  rw [← seenL_snoc, addS_at, addS_at, addS_at, addS_at, addS_at, seenL_congr (f := f) (g := addS f k g)]
  intro i j hi _
  simp [addS, Nat.ne_of_lt hi]
theorem addS_wf {f : Nat → Nat → Int} {k : Nat} {g : Nat → Int} (h : SWf k f) (hg : ∀ j, j < 5 → -9223372036854775808 ≤ g j ∧ g j ≤ 9223372036854775807) : SWf (k + 1) (addS f k g) := fun i j hi hj => by
  unfold addS
  split
  · exact hg j hj
  · exact h i j (by omega) hj

def BadT (L : List UInt8) : Prop := ∀ n f, ckE n f = 0 → textTo f n ≠ L

set_option maxHeartbeats 16000000 in
set_option maxRecDepth 20000 in
theorem parse_bad (L : List UInt8) (hl' : L.length ≤ 100000) (hbad : BadT L) (w : World) (hX : DX w) :
    Calls Tryd.prog 24 #[.string ⟨L.toArray⟩] w fun e w' => e = .returned (.tuple #[.slice none 0 0, .int .i64 4]) ∧ Ext w w' := by
  have HX := Lib.hid hX
  have HB := Lib.hid hbad
  obtain ⟨m, hm⟩ := hX.mx
  clear hX hbad
  go_enter Tryd.func24, Tryd.ntmps24
  go_wp2_with (go_at_call 34; refine (splitAfter_any L (by omega) m _ hm).mono ?_; rintro e w1 hs1; obtain ⟨N, rfl, hN, hb1, hc1⟩ := splAfter_some hs1; have HC1 := Lib.hid hc1; clear hc1 hs1)
  obtain ⟨q, hq⟩ : ∃ q, w.heap.size = q := ⟨_, rfl⟩
  rw [hq]
  have HQ := Lib.hid hq
  clear hq
  go_loopw [4, 17] (fun v i wr => ∃ (k j : Nat) (A1 : Option Addr) (C1 : Nat) (f : Nat → Nat → Int), k ≤ N ∧ j ≤ 65 ∧ i = .int .i64 k ∧ v = .slice A1 j C1 ∧ wr.ownsRow w1.heap.size 33 5 (.slice A1 j C1) j (seenL j f) ∧ SWf j f ∧ Ext w1 wr) (fun _ i _ => N - (intOf i).toNat)
  case atStart => exact ⟨0, 0, none, 0, fun _ _ => 0, by omega, by omega, rfl, rfl, by simpa [seenL] using World.ownsRow_nil _ _ _ _, fun i j hi _ => absurd hi (by omega), Ext.refl _⟩
  case round =>
    obtain ⟨k, j, A1, C1, f, hk, hj65, rfl, rfl, hown, hwf, hE⟩ := hrel
    have HO := Lib.hid hown
    have HWF := Lib.hid hwf
    clear hown hwf
    by_cases hlt : k < N
    · obtain ⟨x, hxl, hx⟩ := HC1.out k hlt
      rw [HQ.out] at hx
      have cl := hE.keep hx
      clear hx
      by_cases hx0 : x = []
      · subst hx0
        go_wp2
        go_roundw
        case rel => exact ⟨k + 1, j, A1, C1, f, by omega, hj65, by go_num, rfl, HO.out, HWF.out, hE⟩
        case measure => simp [intOf]; omega
      · have hne : x.isEmpty = false := by simpa using hx0
        have hne2 : ¬ (x = []) := hx0
        have hyl := trim_len x
        obtain ⟨y, hy⟩ : ∃ y : List UInt8, Lib.trimSuffix x [10] = y := ⟨_, rfl⟩
        have HY := Lib.hid hy
        rw [hy] at hyl
        have hy1 : y.length ≤ 1000000 := by omega
        clear hy hx0
        have HXr : Hid (DX wr) := HX.out.ext (hb1.trans hE)
        go_wp2_with (go_at_call 36; refine (trimg_any x (by omega) _).mono ?_; rintro e w' ⟨rfl, rfl⟩; rw [HY.out])
        go_at_call 35
        refine (splg_some y hy1 _ HXr.out).mono ?_
        rintro e w2 hs2
        obtain ⟨M, rfl, hM, hb2, hc2⟩ := hs2
        have HC2 := Lib.hid hc2
        clear hc2
        by_cases hM5 : M = 5
        · subst hM5
          by_cases hj64 : 64 < j
          · have hj64' : (64 : Int) < (j : Int) := by omega
            go_wp2
            go_ret2
            exact ⟨rfl, (hb1.trans hE).trans hb2⟩
          · have hj64' : ¬ ((64 : Int) < (j : Int)) := by omega
            go_wp2
            go_loopw [34] (fun i wi => ∃ (m : Nat) (g : Nat → Int), m ≤ 5 ∧ i = .int .i64 m ∧ wi.heap[w2.heap.size]? = some (.cells (bxC g m) 59 (0, 0)) ∧ (∀ p, -9223372036854775808 ≤ g p ∧ g p ≤ 9223372036854775807) ∧ Ext w2 wi) (fun i _ => 5 - (intOf i).toNat)
            case atStart => exact ⟨0, fun _ => 0, by omega, rfl, heap_alloc_new w2 _, fun p => ⟨by show (-9223372036854775808 : Int) ≤ 0; decide, by show (0 : Int) ≤ 9223372036854775807; decide⟩, (by repeat (first | exact Ext.refl _ | refine Ext.setCell ?_ (by first | exact Nat.le_refl _ | (simp; done) | (simp; omega)) _ | refine Ext.drew ?_ | refine Ext.drewN ?_ _ | refine Ext.alloc ?_ _))⟩
            case round =>
              obtain ⟨p, g, hp5, rfl, hbox, hgb, hE2⟩ := hrel
              have HBX := Lib.hid hbox
              have HGB := Lib.hid hgb
              clear hgb
              by_cases hp : p < 5
              · obtain ⟨W, hWl, hW⟩ := HC2.out p hp
                have cw := hE2.keep hW
                clear hW
                have hlb : w2.heap.size < wr.heap.size := (Array.getElem?_eq_some_iff.1 hbox).1
                clear hbox
                rcases and1 (numOk W) with hnm | hnm
                · have HNM := Lib.hid hnm
                  clear hnm
                  go_wp2_with (go_at_call 37; refine (pint_bad W (by omega) HNM.out _ ((HXr.out.ext hb2).ext hE2)).mono ?_; rintro e w3 hp3; obtain ⟨P, rfl, hb3⟩ := hp3)
                  go_ret2
                  exact ⟨rfl, ((hb1.trans hE).trans hb2).trans (hE2.trans hb3)⟩
                · obtain ⟨hn1, hn2, hn3⟩ := num_yes hnm
                  obtain ⟨v, hv⟩ : ∃ v : Int, numV W = v := ⟨_, rfl⟩
                  rw [hv] at hn1 hn2 hn3
                  have HP := Lib.hid hn1
                  clear hn1 hv hnm
                  go_wp2_with (go_at_call 37; refine (pint_ok W v (by omega) HP.out _).mono ?_; rintro e w3 ⟨rfl, hb3⟩; have hB3 := (hb3.block _ hlb).trans HBX.out; have cz : w3.cell? ⟨w2.heap.size, p, none⟩ = some (.int .i64 0) := (Lib.cell_of_heap hB3 p).trans (bxC_at g p hp); have fz := frozen_of_row w3 w2.heap.size p _ _ hB3; have HB3 := Lib.hid hB3; clear hB3)
                  go_roundw
                  case rel => exact ⟨p + 1, updC g p v, by omega, by go_num, by rw [← bxC_upd g v p hp]; exact bx_set HB3.out p _, fun i => by (unfold updC; split; exact ⟨hn2, hn3⟩; exact HGB.out i), (by repeat (first | exact Ext.refl _ | refine Ext.setCell ?_ (by first | exact Nat.le_refl _ | (simp; done) | (simp; omega)) _ | refine Ext.drew ?_ | refine Ext.drewN ?_ _ | refine Ext.alloc ?_ _ | exact hE2.trans hb3))⟩
                  case measure => simp [intOf]; omega
              · obtain rfl : p = 5 := by omega
                have g0 : wr.cell? ⟨w2.heap.size, 0, none⟩ = some (.int .i64 (g 0)) := Lib.cell_of_heap hbox 0
                have g1 : wr.cell? ⟨w2.heap.size, 1, none⟩ = some (.int .i64 (g 1)) := Lib.cell_of_heap hbox 1
                have g2 : wr.cell? ⟨w2.heap.size, 2, none⟩ = some (.int .i64 (g 2)) := Lib.cell_of_heap hbox 2
                have g3 : wr.cell? ⟨w2.heap.size, 3, none⟩ = some (.int .i64 (g 3)) := Lib.cell_of_heap hbox 3
                have g4 : wr.cell? ⟨w2.heap.size, 4, none⟩ = some (.int .i64 (g 4)) := Lib.cell_of_heap hbox 4
                clear hbox
                have HOr := Lib.hid (own_ext HO.out (hb2.trans hE2))
                go_wp2_with (at_builtin; refine append_seen _ rfl _ _ rfl w1.heap.size _ _ _ rfl (HOr.out.alloc _) ⟨wr.heap.size, 0, none⟩ 1 _ [.int .i64 (g 0), .int .i64 (g 1), .int .i64 (g 2), .int .i64 (g 3), .int .i64 (g 4)] rfl rfl ?c1 ?c2 ?c3 ?c4 ?c5 ?_)
                case c1 => exact cells_new5 _ _ _ _ _ _ _
                case c2 => intro u hu; simp at hu; rcases hu with rfl | rfl | rfl | rfl | rfl <;> rfl
                case c3 => unfold maxLen; omega
                case c4 => omega
                case c5 => have := ((hE.trans hb2).trans hE2).size; simp; omega
                intro v' w4 hown' hgrow _
                rw [addS_cells] at hown'
                have hE4 : Ext w1 w4 := ext_grown (((hE.trans hb2).trans hE2).alloc _) hgrow (own_row_ge HOr.out)
                rcases hown'.2 with ⟨_, h0⟩ | ⟨gg, cap, cur, rfl, _⟩
                · omega
                · have HO4 := Lib.hid hown'
                  clear hown'
                  go_wp2
                  go_roundw
                  case rel => exact ⟨k + 1, j + 1, some ⟨gg, 0, none⟩, cap, addS f j g, by omega, by omega, by go_num, rfl, HO4.out, addS_wf HWF.out (fun i _ => HGB.out i), hE4⟩
                  case measure => simp [intOf]; omega
        · have hm5 : ¬ ((M : Int) = 5) := by omega
          go_wp2
          go_ret2
          exact ⟨rfl, (hb1.trans hE).trans hb2⟩
    · obtain rfl : k = N := by omega
      obtain ⟨g, hg⟩ := seenV_own HO.out (by omega) HWF.out
      have HG := Lib.hid hg
      obtain ⟨A0', C', he, hT, _⟩ := hg.ex
      cases he
      clear hg
      rcases and1 (ckE j f == 0) with hc | hc
      · obtain ⟨E, hEq⟩ : ∃ E : Int, ckE j f = E := ⟨_, rfl⟩
        rw [hEq] at hc
        have HE := Lib.hid hEq
        have hE1 : (E != 0) = true := by simp only [bne, hc, Bool.not_false]
        clear hEq
        go_wp2_with (go_at_call 22; refine (text_any _ _ _ f _ _ _ hT (HX.out.tab.ext (hb1.trans hE))).mono ?_; rintro e w5 ⟨rfl, hb5⟩; rw [HE.out])
        go_ret2
        exact ⟨rfl, (hb1.trans hE).trans hb5⟩
      · have hc0 : ckE j f = 0 := by simpa using hc
        have HE := Lib.hid hc0
        have HT := Lib.hid (tx_yes hc)
        have hne := HB.out j f hc0
        obtain ⟨T, hT2⟩ : ∃ T : List UInt8, textTo f j = T := ⟨_, rfl⟩
        rw [hT2] at hne
        have HT2 := Lib.hid hT2
        have hne1 : (T == L) = false := by simpa using hne
        have hne2 : (T != L) = true := by simp only [bne, hne1, Bool.not_false]
        clear hc hc0 hT2
        go_wp2_with (go_at_call 22; refine (text_any _ _ _ f _ _ _ hT (HX.out.tab.ext (hb1.trans hE))).mono ?_; rintro e w5 ⟨rfl, hb5⟩; rw [HT.out, HE.out, HT2.out])
        go_ret2
        exact ⟨rfl, (hb1.trans hE).trans hb5⟩

end Go.Proofs.YtaeblcgblmipaaaDoor

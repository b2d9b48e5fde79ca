/-
  Parse of layer 37 (program), at any string.
-/
import Derived.Test.YthccmolnfejkeaaDoorResV
import Derived.Test.YthccmolnfejkeaaDoorResT
import Derived.Test.YthccmolnfejkeaaDoorResF
namespace Go.Proofs.YthccmolnfejkeaaDoor
open Go.RowKit
set_option linter.unusedSimpArgs false

set_option maxHeartbeats 16000000 in
set_option maxRecDepth 20000 in
theorem parse_any (s : List UInt8) (hs : s.length ≤ 100000) (w : World) (hX : DX w) :
    Calls Tryd.prog 9 #[.string ⟨s.toArray⟩] w (ParOK s w) := by
  obtain ⟨i0, hi, hz0, hz1, hz2⟩ := info_parts infoI
  obtain ⟨i1, hi1, hy0, hy1, hy2⟩ := info_parts infoR
  have HX := Lib.hid hX
  clear hX
  have hbl := cut2_le 10 s
  obtain ⟨B, hB⟩ : ∃ B : List UInt8, cut2 10 s = B := ⟨_, rfl⟩
  rw [hB] at hbl
  have HB := Lib.hid hB
  have hB1 : B.length ≤ 100000 := by omega
  clear hB hbl
  go_enter Tryd.func9, Tryd.ntmps9
  go_wp2_with (first | (go_at_call 27; refine (cutl_any s (by omega) _ (HX.out.ext (by repeat (first | exact Ext.refl _ | refine Ext.setCell ?_ (by first | exact Nat.le_refl _ | (simp; done) | (simp; omega)) _ | refine Ext.drew ?_ | refine Ext.drewN ?_ _ | refine Ext.alloc ?_ _)))).mono ?_; rintro e w1 ⟨rfl, hb1⟩; rw [HB.out]) | (go_at_call 28; refine (splitAfter_fn B hB1 _ (HX.out.ext (by repeat (first | exact Ext.refl _ | refine Ext.setCell ?_ (by first | exact Nat.le_refl _ | (simp; done) | (simp; omega)) _ | refine Ext.drew ?_ | refine Ext.drewN ?_ _ | refine Ext.alloc ?_ _ | refine Ext.trans ?_ hb1)))).mono ?_; rintro e w2 hs2; obtain ⟨rfl, hb2, cs, hq2, hc2⟩ := hs2; have HC2 := Lib.hid hc2; clear hc2))
  obtain ⟨N, hN⟩ : ∃ N, pcN B = N := ⟨_, rfl⟩
  rw [hN]
  have HN := Lib.hid hN
  have hNl : N ≤ 100002 := by
    rw [← hN]
    have hsz : (⟨B.toArray⟩ : ByteArray).size = B.length := by simp [ByteArray.size]
    have hcn : Lib.countB ⟨B.toArray⟩ ⟨#[10]⟩ ≤ (⟨B.toArray⟩ : ByteArray).size := Lib.countB_le ⟨#[10]⟩ (by decide) _ _ (Nat.le_refl _)
    unfold pcN; omega
  have HNS : Hid (N = pcN (cut2 10 s)) := by rw [Hid, HB.out]; exact hN.symm
  clear hN
  have ht0 : w.heap.size < w1.heap.size := hb1.lt (by simp)
  have hqs : (w1.alloc (.cells #[.slice none 0 0] 24)).heap.size = w1.heap.size + 1 := by simp
  rw [hqs] at hq2
  have hEb : Ext w w2 := (by repeat (first | exact Ext.refl _ | refine Ext.setCell ?_ (by first | exact Nat.le_refl _ | (simp; done) | (simp; omega)) _ | refine Ext.drew ?_ | refine Ext.drewN ?_ _ | refine Ext.alloc ?_ _ | refine Ext.trans ?_ hb2 | refine Ext.trans ?_ hb1))
  go_loopw [26] (fun i wr => ∃ (k u : Nat) (vt : Value) (rs : List (Nat × Nat × Nat)) (f : Nat → Nat → Int), k ≤ N ∧ u ≤ 91 ∧ i = .int .i64 k ∧ rs.length = u ∧ ParInv w wr w1.heap.size w.heap.size u (.slice none 0 0) vt rs f ∧ RWf u rs f ∧ TrP s k u (Lr rs) f ∧ wr.heap[w1.heap.size + 1]? = some (.cells cs 9 (0, 0))) (fun i _ => N - (intOf i).toNat)
  case atStart =>
    refine ⟨0, 0, .slice none 0 0, [], fun _ _ => 0, by omega, by omega, rfl, rfl, ⟨hEb, by omega, by omega, Nat.le_refl _, ?_, ?_, World.ownsRow_nil _ _ _ _, by simp⟩, fun i hi => absurd hi (by omega), TrP.start _ _ _, hq2⟩
    · exact (hb2.block _ (by simp)).trans (heap_alloc_new w1 _)
    · exact (hb2.block _ (by simp; omega)).trans ((Below.heap_alloc w1 _ _ ht0).trans ((hb1.block _ (by simp)).trans (heap_alloc_new w _)))
  case round =>
    obtain ⟨k, u, vt, rs, f, hk, hu, rfl, hl, hI, hwf, htr, hpc⟩ := hrel
    have HPC := Lib.hid hpc
    have hEw := hI.ext
    have hEW := Lib.hid hEw
    clear hpc
    have HI := Lib.hid hI
    have HWF := Lib.hid hwf
    have HTR := Lib.hid htr
    clear hwf htr
    by_cases hlt : k < N
    · obtain ⟨hxl, hxc⟩ := HC2.out k (by rw [HN.out]; exact hlt)
      have cl := (Lib.cell_of_heap HPC.out k).trans hxc
      have hql : w1.heap.size + 1 < wr.heap.size := (Array.getElem?_eq_some_iff.1 HPC.out).1
      clear hxc hI
      have HK : Hid (k < pcN (cut2 10 s)) := by rw [Hid, ← HNS.out]; exact hlt
      obtain ⟨x, hx⟩ : ∃ x, pcs B k = x := ⟨_, rfl⟩
      rw [hx] at hxl cl
      have HXP : Hid (pcs (cut2 10 s) k = x) := by rw [Hid, HB.out]; exact hx
      clear hx
      by_cases hx0 : x = []
      · subst hx0
        have HT1 := Lib.hid (HTR.out.empty HK.out HXP.out)
        go_wp2
        go_roundw
        case rel => exact ⟨k + 1, u, vt, rs, f, by omega, hu, by go_num, hl, HI.out, HWF.out, HT1.out, HPC.out⟩
        case measure => simp [intOf]; omega
      · have hne : x.isEmpty = false := by simpa using hx0
        have HQ0 := Lib.hid (HTR.out.row HK.out (by rw [HXP.out]; exact hx0) (fun _ => 0))
        have hyl := trim_len x
        obtain ⟨y, hy⟩ : ∃ y : List UInt8, Lib.trimSuffix x [10] = y := ⟨_, rfl⟩
        rw [hy] at hyl
        have hyy : y.length ≤ 100000 := by omega
        have HY := Lib.hid hy
        have HYP : Hid (Lib.trimSuffix (pcs (cut2 10 s) k) [10] = y) := by rw [Hid, HXP.out]; exact hy
        have HXr : Hid (DX wr) := HX.out.ext hEw
        clear hy
        go_wp2_with (first | (go_at_call 30; refine (trim_fn x hxl _).mono ?_; rintro e w' ⟨rfl, rfl⟩; rw [HY.out]) | (go_at_call 29; refine (split_fn y hyy _ HXr.out).mono ?_; rintro e w3 ⟨rfl, hb3, hM, hc3⟩; have HC3 := Lib.hid hc3; clear hc3))
        obtain ⟨M, hMq⟩ : ∃ M, wdN y = M := ⟨_, rfl⟩
        rw [hMq] at hM ⊢
        have HM := Lib.hid hMq
        have HMY : Hid (M = wdN (Lib.trimSuffix (pcs (cut2 10 s) k) [10])) := by rw [Hid, HYP.out]; exact hMq.symm
        have hM0 : 0 < M := by rw [← hMq]; unfold wdN; omega
        clear hMq
        go_loopw [10, 36] (fun v i wi => ∃ (j : Nat) (g : Nat → Int), j ≤ M ∧ j ≤ 11 ∧ i = .int .i64 j ∧ wi.ownsRow w3.heap.size 2 1 v j (rowV j g) ∧ (∀ p, p < j → -9223372036854775808 ≤ g p ∧ g p ≤ 9223372036854775807) ∧ TrQ s k j g ∧ Ext w3 wi) (fun _ i _ => M - (intOf i).toNat)
        case atStart => exact ⟨0, fun _ => 0, by omega, by omega, rfl, World.ownsRow_nil _ _ _ _, fun p hp => absurd hp (by omega), HQ0.out, Ext.refl _⟩
        case round =>
          obtain ⟨j, g, hj, hj11, rfl, hown, hgb, htq, hE3⟩ := hrel
          have HOW := Lib.hid hown
          have HGB := Lib.hid hgb
          have HTQ := Lib.hid htq
          clear hgb htq
          by_cases hjM : j < M
          · obtain ⟨hWl, hWc⟩ := HC3.out j (by rw [HM.out]; exact hjM)
            have cw := hE3.keep hWc
            clear hWc
            have HJW : Hid (j < wdN (Lib.trimSuffix (pcs (cut2 10 s) k) [10])) := by rw [Hid, ← HMY.out]; exact hjM
            obtain ⟨W, hW⟩ : ∃ W, wds y j = W := ⟨_, rfl⟩
            rw [hW] at hWl cw
            have HWP : Hid (wds (Lib.trimSuffix (pcs (cut2 10 s) k) [10]) j = W) := by rw [Hid, HYP.out]; exact hW
            have HXi : Hid (DX wr) := HXr.out.ext (hb3.trans hE3)
            clear hW
            rcases own_len_form hown with ⟨A2, C2, rfl⟩
            rcases and1 (numOk W) with hnm | hnm
            · have HNM := Lib.hid hnm
              have HBAD := Lib.hid (HTQ.out.bad_num HJW.out (by rw [HWP.out]; exact hnm))
              clear hnm hown
              obtain ⟨q1, q2⟩ := (HI.out.grow (hb3.trans hE3)).rcell
              go_wp2_with (go_at_call 31; refine (pint_bad W (by omega) HNM.out _ HXi.out).mono ?_; rintro e w4 hp4; obtain ⟨P, rfl, hb4⟩ := hp4; have q3 : w4.cell? ⟨w.heap.size, 0, none⟩ = some (.slice none 0 0) := hb4.keep q1; have q4 : w4.frozen? ⟨w.heap.size, 0, none⟩ = false := (hb4.cells.2 _ _ (cell_lt q1)).trans q2)
              refine bodyPost_ret (v := .tuple #[.agg #[.slice none 0 0], .int .i64 4]) (by simp [results, Tryd.results9, go_sem, *]) rfl ?_
              exact ⟨Ext.setCell ((hEw.trans hb3).trans (hE3.trans hb4)) (Nat.le_refl _) _, Or.inl ⟨rfl, HBAD.out⟩⟩
            · obtain ⟨hn1, hn2, hn3⟩ := num_yes hnm
              obtain ⟨v, hv⟩ : ∃ v : Int, numV W = v := ⟨_, rfl⟩
              rw [hv] at hn1 hn2 hn3
              have HP := Lib.hid hn1
              have HSt := Lib.hid (HTQ.out.step (v := v) (by rw [HWP.out]; exact hn1))
              clear hn1 hv hnm
              by_cases hj10 : 10 < j
              · have hj10' : (10 : Int) < (j : Int) := by omega
                have HBAD := Lib.hid (HTQ.out.bad_len HJW.out hj10)
                clear hown
                obtain ⟨q1, q2⟩ := (HI.out.grow (hb3.trans hE3)).rcell
                go_wp2_with (go_at_call 31; refine (pint_ok W v (by omega) HP.out _).mono ?_; rintro e w4 ⟨rfl, hb4⟩; have q3 : w4.cell? ⟨w.heap.size, 0, none⟩ = some (.slice none 0 0) := hb4.keep q1; have q4 : w4.frozen? ⟨w.heap.size, 0, none⟩ = false := (hb4.cells.2 _ _ (cell_lt q1)).trans q2)
                refine bodyPost_ret (v := .tuple #[.agg #[.slice none 0 0], .int .i64 4]) (by simp [results, Tryd.results9, go_sem, *]) rfl ?_
                exact ⟨Ext.setCell ((hEw.trans hb3).trans (hE3.trans hb4)) (Nat.le_refl _) _, Or.inl ⟨rfl, HBAD.out⟩⟩
              · have hj10' : ¬ ((10 : Int) < (j : Int)) := by omega
                clear hown
                go_wp2_with (first | (go_at_call 31; refine (pint_ok W v (by omega) HP.out _).mono ?_; rintro e w4 ⟨rfl, hb4⟩; have HOW4 := Lib.hid (own_ext HOW.out hb4)) | (at_builtin; refine wpList_append_own _ rfl _ _ 38 rfl w3.heap.size 2 i0 (.int .i64 0) 1 8 Tryd.underlying38 hi hz0 hz1 hz2 rfl (by decide) _ _ _ rfl (HOW4.out.alloc _) ⟨w4.heap.size, 0, none⟩ 1 1 [.int .i64 v] rfl rfl ?c1 ?c2 ?c3 ?c4 ?c5 ?_))
                case c1 => exact cell_one_new _ _ _
                case c2 => intro x hx; simp at hx; subst hx; rfl
                case c3 => unfold maxLen; omega
                case c4 => omega
                case c5 => have := (hE3.trans hb4).size; simp; omega
                intro v' w5 hown' hgrow _
                have hX5 := ext_grown ((hE3.trans hb4).alloc _) hgrow (own_row_ge HOW4.out)
                rw [rowV_set] at hown'
                have HO5 := Lib.hid hown'
                clear hgrow hown'
                go_wp2
                go_roundw
                case rel => exact ⟨j + 1, setQ g j v, by omega, by omega, by go_num, HO5.out, fun p hp => by (unfold setQ; split; exact ⟨hn2, hn3⟩; exact HGB.out p (by omega)), HSt.out, hX5⟩
                case measure => simp [intOf]; omega
          · obtain rfl : j = M := by omega
            obtain ⟨gr, c, rfl, hgr, hgl⟩ := own_form hown (by omega)
            have hJ := HI.out.grow (hb3.trans hE3)
            have HJ := Lib.hid hJ
            obtain ⟨c1, c2⟩ := hJ.cell
            obtain ⟨r1, r2⟩ := hJ.rcell
            have hOwn := Lib.hid hJ.own
            have HTD := Lib.hid (HTR.out.done hl (g := gr) (c := c) HTQ.out HMY.out)
            have HWD := Lib.hid (HWF.out.snoc hl (g := gr) (c := c) (by omega) (by omega) HGB.out)
            clear hJ
            go_wp2_with (at_builtin; refine wpList_append_own _ rfl _ _ 22 rfl w.heap.size 38 i1 (.slice none 0 0) 1 24 Tryd.underlying22 hi1 hy0 hy1 hy2 rfl (by decide) _ _ _ rfl (hOwn.out.alloc _) ⟨wr.heap.size, 0, none⟩ 1 1 [.slice (some ⟨gr, 0, none⟩) j c] rfl rfl ?d1 ?d2 ?d3 ?d4 ?d5 ?_)
            case d1 => exact cell_one_new _ _ _
            case d2 => intro x hx; simp at hx; subst hx; rfl
            case d3 => unfold maxLen; omega
            case d4 => omega
            case d5 => have := (hEw.trans (hb3.trans hE3)).size; simp; omega
            intro v' w5 hown' hgrow _
            have hK := HJ.out.grow ((Ext.refl wr).alloc (.cells #[.slice (some ⟨gr, 0, none⟩) j c] 38))
            obtain ⟨hE1, ht1, hr1, _⟩ := hK.appended hgrow
            have q1 : w5.cell? ⟨w1.heap.size, 0, none⟩ = some vt := by simp [World.cell?, ht1]
            have q2 : w5.frozen? ⟨w1.heap.size, 0, none⟩ = false := by simp [World.frozen?, ht1]
            obtain ⟨g1, cc1, hv1, _, _⟩ := own_form hown' (by omega)
            rw [hv1] at hown' ⊢
            have hL := (hK.congr (g := setZ f u g) hl (fun i p hi => by rw [setZ_old hi])).done hgrow (g := gr) (k := j) (c := c) (by rw [setZ_new]; exact own_ext (own_base HOW.out (by have := (hEw.trans hb3).size; omega)) ((Ext.refl _).alloc _)) hown' hl
            have HL := Lib.hid hL
            have HP5 : Hid ((w5.setCell ⟨w1.heap.size, 0, none⟩ (.slice (some ⟨g1, 0, none⟩) (u + 1) cc1)).heap[w1.heap.size + 1]? = some (.cells cs 9 (0, 0))) := by
              have p1 : ((wr.alloc (.cells #[.slice (some ⟨gr, 0, none⟩) j c] 38))).heap[w1.heap.size + 1]? = some (.cells cs 9 (0, 0)) := (((hb3.trans hE3).alloc _).block _ hql).trans HPC.out
              have p2 : some (w1.heap.size + 1) ≠ vt.ownBlock := by
                rcases own_ne_blk hK.own p1 (by decide) with e | e
                · rw [e]; exact fun h => by cases h
                · exact fun h => e h.symm
              rw [Hid, Below.heap_setCell _ _ _ _ (show w1.heap.size + 1 ≠ w1.heap.size by omega)]
              exact (hgrow.block _ (Array.getElem?_eq_some_iff.1 p1).1 p2).trans p1
            clear hK hgrow hown hv1 ht1 hr1 hL
            by_cases h91 : 91 < u + 1
            · have hx91 : (91 : Int) < ((u + 1 : Nat) : Int) := by omega
              have hx92 : (91 : Int) < (u : Int) + 1 := by omega
              have HBAD := Lib.hid (HTD.out.bad_many h91)
              obtain ⟨z1, z2⟩ := HL.out.cell
              obtain ⟨y1, y2⟩ := HL.out.rcell
              go_wp2
              refine bodyPost_ret (v := .tuple #[.agg #[.slice none 0 0], .int .i64 4]) (by simp [results, Tryd.results9, go_sem, *]) rfl ?_
              exact ⟨Ext.setCell HL.out.ext (Nat.le_refl _) _, Or.inl ⟨rfl, HBAD.out⟩⟩
            · have hx91 : ¬ (91 : Int) < ((u + 1 : Nat) : Int) := by omega
              have hx92 : ¬ (91 : Int) < (u : Int) + 1 := by omega
              obtain ⟨z1, z2⟩ := HL.out.cell
              go_wp2
              go_roundw
              case rel => exact ⟨k + 1, u + 1, _, rs ++ [(gr, j, c)], setZ f u g, by omega, by omega, by go_num, by simp [hl], HL.out, HWD.out, HTD.out, HP5.out⟩
              case measure => simp [intOf]; omega
    · obtain rfl : k = N := by omega
      have HALL := Lib.hid (HTR.out.all HNS.out)
      obtain ⟨A0, gt, ct, hvt, hT⟩ := hI.tab hl (by omega) (fun i hi => by have := (HWF.out i hi).1; unfold Lr at this; omega) (fun i j hi hj => (HWF.out i hi).2.2 j hj)
      subst hvt
      have HT := Lib.hid hT
      obtain ⟨c1, c2⟩ := hI.cell
      obtain ⟨r1, r2⟩ := hI.rcell
      have hshE : ∃ E, shapeV u (Lr rs) f = E := ⟨_, rfl⟩
      obtain ⟨E, hE⟩ := hshE
      clear hI
      by_cases hE0 : E = 0
      · subst hE0
        have HTX := Lib.hid (txR_yes hE)
        have HEq := Lib.hid hE
        by_cases hTL : hdrT (ovV u) (wkV u (Lr rs)) ++ tabTo (Lr rs) f u = s
        · have HIS : Hid (IsR s u (Lr rs) f) := ⟨hE, hTL⟩
          have HTL := Lib.hid hTL
          clear hE hTL
          go_wp2_with (go_at_call 7; refine (text_any _ _ HT.out (HX.out.tab.ext hEw)).mono ?_; rintro e w5 ⟨rfl, hb5⟩; (have hT5 : txR u (Lr rs) f = s := HTX.out.trans HTL.out); (have hS5 : shapeV u (Lr rs) f = 0 := HEq.out); unfold Lr at hT5 hS5; rw [hT5, hS5]; clear hT5 hS5; have k1 := hb5.keep c1; have k2 := hb5.keep r1; have k3 := (hb5.cells.2 _ _ (cell_lt r1)).trans r2)
          refine bodyPost_ret (v := .tuple #[.agg #[.slice A0 u ct], .int .i64 0]) (by simp [results, Tryd.results9, go_sem, *]) rfl ?_
          obtain ⟨A0', g', c', e', hT'⟩ := ((HI.out.grow hb5).rstore (.slice A0 u ct)).tab hl (by omega) (fun i hi => by have := (HWF.out i hi).1; unfold Lr at this; omega) (fun i j hi hj => (HWF.out i hi).2.2 j hj)
          cases e'
          exact ⟨Ext.setCell (hEw.trans hb5) (Nat.le_refl _) _, Or.inr ⟨_, u, _, _, Lr rs, _, f, _, _, _, _, rfl, hT', HIS.out, HALL.out⟩⟩
        · have HBAD : Hid (BadR s) := fun n L1 Z1 h1 => by
            obtain ⟨rfl, hag⟩ := HALL.out n L1 Z1 h1
            exact hTL (h1.congr hag).2
          obtain ⟨T, hT2⟩ : ∃ T : List UInt8, hdrT (ovV u) (wkV u (Lr rs)) ++ tabTo (Lr rs) f u = T := ⟨_, rfl⟩
          rw [hT2] at hTL
          have HT2 := Lib.hid hT2
          have hne1 : (T == s) = false := by simpa using hTL
          have hne2 : (T != s) = true := by simp only [bne, hne1, Bool.not_false]
          clear hE hT2
          go_wp2_with (go_at_call 7; refine (text_any _ _ HT.out (HX.out.tab.ext hEw)).mono ?_; rintro e w5 ⟨rfl, hb5⟩; (have hT5 : txR u (Lr rs) f = T := HTX.out.trans HT2.out); (have hS5 : shapeV u (Lr rs) f = 0 := HEq.out); unfold Lr at hT5 hS5; rw [hT5, hS5]; clear hT5 hS5; have k1 := hb5.keep c1; have k2 := hb5.keep r1; have k3 := (hb5.cells.2 _ _ (cell_lt r1)).trans r2)
          refine bodyPost_ret (v := .tuple #[.agg #[.slice none 0 0], .int .i64 4]) (by simp [results, Tryd.results9, go_sem, *]) rfl ?_
          exact ⟨Ext.setCell (hEw.trans hb5) (Nat.le_refl _) _, Or.inl ⟨rfl, HBAD.out⟩⟩
      · have HBAD : Hid (BadR s) := fun n L1 Z1 h1 => by
          obtain ⟨rfl, hag⟩ := HALL.out n L1 Z1 h1
          rw [(h1.congr hag).1] at hE
          exact hE0 hE.symm
        have HEq := Lib.hid hE
        have hE1 : (E != 0) = true := by simpa using hE0
        clear hE
        go_wp2_with (go_at_call 7; refine (text_any _ _ HT.out (HX.out.tab.ext hEw)).mono ?_; rintro e w5 ⟨rfl, hb5⟩; (have hS5 : shapeV u (Lr rs) f = E := HEq.out); unfold Lr at hS5; rw [hS5]; clear hS5; have k1 := hb5.keep c1; have k2 := hb5.keep r1; have k3 := (hb5.cells.2 _ _ (cell_lt r1)).trans r2)
        refine bodyPost_ret (v := .tuple #[.agg #[.slice none 0 0], .int .i64 4]) (by simp [results, Tryd.results9, go_sem, *]) rfl ?_
        exact ⟨Ext.setCell (hEw.trans hb5) (Nat.le_refl _) _, Or.inl ⟨rfl, HBAD.out⟩⟩

end Go.Proofs.YthccmolnfejkeaaDoor

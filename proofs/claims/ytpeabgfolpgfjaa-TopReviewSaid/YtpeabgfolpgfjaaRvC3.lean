/-
  A copy of the state of an innings (scorebook/field.own).
-/
import Derived.Test.YtpeabgfolpgfjaaRvB
import Derived.Deep.DeepCutAuto
namespace Go.Proofs.Ytpeabgfolpgfjaa
open Go.RowKit Go.Lib
set_option linter.unusedSimpArgs false

set_option maxHeartbeats 8000000 in
theorem fown (w : World) (I : In) (h0 h1 h2 h3 h4 : Value) (hg : I.good) (hA : InAt w I h0 h1 h2 h3 h4) :
    Calls Try.prog 74 #[.agg (inC I h0 h1 h2 h3 h4)] w fun e w' => ∃ k0 k1 k2 k3 k4, e = .returned (.agg (inC I k0 k1 k2 k3 k4)) ∧ InOwn w.heap.size w' I k0 k1 k2 k3 k4 ∧ Ext w w' := by
  obtain ⟨l0, l1, l2, l3, l4, hnn⟩ := hA
  have HNN := Lib.hid hnn
  clear hnn
  have L0 := Lib.hid l0
  have L1 := Lib.hid l1
  have L2 := Lib.hid l2
  have L3 := Lib.hid l3
  have L4 := Lib.hid l4
  have HG := Lib.hid hg
  clear l0 l1 l2 l3 l4 hg
  simp only [inC]
  go_enter Try.func74, Try.ntmps74
  go_upto_region 2 with (go_at_call 30; refine (sclone_st _ _ I.bat (L0.out.ext (by repeat (first | exact Ext.refl _ | refine Ext.drew ?_ | refine Ext.drewN ?_ _ | refine Ext.alloc ?_ _))) HG.out.n0 HG.out.o0).mono ?_; rintro e w1 ⟨k0, rfl, hown0, hb1, _⟩; obtain ⟨a0, d0, rfl⟩ := list_sl (own_list hown0); have hx1 : Ext (w.alloc (.cells #[.int .i64 1, .int .i64 0, .int .i64 0, .int .i64 0, .int .i64 0, .int .i64 0, .int .i64 0, .int .i64 0, .int .i64 0, .int .i64 0, .int .i64 I.c, .int .i64 I.k, .int .i64 I.s, .int .i64 I.o, h0, .int .i64 I.bw, h1, h2, .bool I.fr, h3, .bool false, .int .i64 I.age, .int .i64 I.kp, .int .i64 0, h4, .int .i64 I.ra, .int .i64 I.rb, .int .u8 0] 34)) w1 := (Ext.trans (by repeat (first | exact Ext.refl _ | refine Ext.drew ?_ | refine Ext.drewN ?_ _ | refine Ext.alloc ?_ _)) hb1); have hblk1 := (hx1.block w.heap.size (by simp)).trans (heap_alloc_new w (.cells #[.int .i64 1, .int .i64 0, .int .i64 0, .int .i64 0, .int .i64 0, .int .i64 0, .int .i64 0, .int .i64 0, .int .i64 0, .int .i64 0, .int .i64 I.c, .int .i64 I.k, .int .i64 I.s, .int .i64 I.o, h0, .int .i64 I.bw, h1, h2, .bool I.fr, h3, .bool false, .int .i64 I.age, .int .i64 I.kp, .int .i64 0, h4, .int .i64 I.ra, .int .i64 I.rb, .int .u8 0] 34)); have c14 := Lib.cell_of_heap hblk1 14; have z14 := Lib.frozen_of_heap hblk1 14; simp only [List.getElem?_toArray, List.getElem?_cons_succ, List.getElem?_cons_zero] at c14; have hz1 := ((show Ext ((w.alloc (.cells #[.int .i64 1, .int .i64 0, .int .i64 0, .int .i64 0, .int .i64 0, .int .i64 0, .int .i64 0, .int .i64 0, .int .i64 0, .int .i64 0, .int .i64 I.c, .int .i64 I.k, .int .i64 I.s, .int .i64 I.o, h0, .int .i64 I.bw, h1, h2, .bool I.fr, h3, .bool false, .int .i64 I.age, .int .i64 I.kp, .int .i64 0, h4, .int .i64 I.ra, .int .i64 I.rb, .int .u8 0] 34)).alloc (.cells #[.int .i64 0, .int .i64 0, .int .i64 0, .int .i64 0, .int .i64 0, .int .i64 0, .int .i64 0, .int .i64 0, .int .i64 0, .int .i64 0, .int .i64 0, .int .i64 0, .int .i64 0, .int .i64 0, .slice none 0 0, .int .i64 0, .slice none 0 0, .slice none 0 0, .bool false, .slice none 0 0, .bool false, .int .i64 0, .int .i64 0, .int .i64 0, .slice none 0 0, .int .i64 0, .int .i64 0, .int .u8 0] 34 (0, 0))) w1 from Ext.trans (by repeat (first | exact Ext.refl _ | refine Ext.drew ?_ | refine Ext.drewN ?_ _ | refine Ext.alloc ?_ _)) hb1).block (w.heap.size + 1) (by simp)).trans (show ((w.alloc (.cells #[.int .i64 1, .int .i64 0, .int .i64 0, .int .i64 0, .int .i64 0, .int .i64 0, .int .i64 0, .int .i64 0, .int .i64 0, .int .i64 0, .int .i64 I.c, .int .i64 I.k, .int .i64 I.s, .int .i64 I.o, h0, .int .i64 I.bw, h1, h2, .bool I.fr, h3, .bool false, .int .i64 I.age, .int .i64 I.kp, .int .i64 0, h4, .int .i64 I.ra, .int .i64 I.rb, .int .u8 0] 34)).alloc (.cells #[.int .i64 0, .int .i64 0, .int .i64 0, .int .i64 0, .int .i64 0, .int .i64 0, .int .i64 0, .int .i64 0, .int .i64 0, .int .i64 0, .int .i64 0, .int .i64 0, .int .i64 0, .int .i64 0, .slice none 0 0, .int .i64 0, .slice none 0 0, .slice none 0 0, .bool false, .slice none 0 0, .bool false, .int .i64 0, .int .i64 0, .int .i64 0, .slice none 0 0, .int .i64 0, .int .i64 0, .int .u8 0] 34 (0, 0))).heap[w.heap.size + 1]? = some (.cells #[.int .i64 0, .int .i64 0, .int .i64 0, .int .i64 0, .int .i64 0, .int .i64 0, .int .i64 0, .int .i64 0, .int .i64 0, .int .i64 0, .int .i64 0, .int .i64 0, .int .i64 0, .int .i64 0, .slice none 0 0, .int .i64 0, .slice none 0 0, .slice none 0 0, .bool false, .slice none 0 0, .bool false, .int .i64 0, .int .i64 0, .int .i64 0, .slice none 0 0, .int .i64 0, .int .i64 0, .int .u8 0] 34 (0, 0)) by have := heap_alloc_new (w.alloc (.cells #[.int .i64 1, .int .i64 0, .int .i64 0, .int .i64 0, .int .i64 0, .int .i64 0, .int .i64 0, .int .i64 0, .int .i64 0, .int .i64 0, .int .i64 I.c, .int .i64 I.k, .int .i64 I.s, .int .i64 I.o, h0, .int .i64 I.bw, h1, h2, .bool I.fr, h3, .bool false, .int .i64 I.age, .int .i64 I.kp, .int .i64 0, h4, .int .i64 I.ra, .int .i64 I.rb, .int .u8 0] 34)) (.cells #[.int .i64 0, .int .i64 0, .int .i64 0, .int .i64 0, .int .i64 0, .int .i64 0, .int .i64 0, .int .i64 0, .int .i64 0, .int .i64 0, .int .i64 0, .int .i64 0, .int .i64 0, .int .i64 0, .slice none 0 0, .int .i64 0, .slice none 0 0, .slice none 0 0, .bool false, .slice none 0 0, .bool false, .int .i64 0, .int .i64 0, .int .i64 0, .slice none 0 0, .int .i64 0, .int .i64 0, .int .u8 0] 34 (0, 0)); simpa using this))
  have hblk := cell_put hblk1 14 (.slice a0 I.bat.length d0)
  have o0 := own_put (own_up hown0 (b' := w.heap.size) (by simp; omega)) hblk1 (by decide) 14 (.slice a0 I.bat.length d0)
  have hx : Ext w (w1.setCell ⟨w.heap.size, 14, none⟩ (.slice a0 I.bat.length d0)) := (Ext.trans ((Ext.refl w).alloc _) hx1).setCell (p := ⟨w.heap.size, 14, none⟩) (Nat.le_refl _) _
  simp only [List.setIfInBounds_toArray, List.set_cons_zero, List.set_cons_succ] at hblk
  have hz := (Below.heap_setCell w1 ⟨w.heap.size, 14, none⟩ (.slice a0 I.bat.length d0) (w.heap.size + 1) (by simp)).trans hz1
  generalize w1.setCell ⟨w.heap.size, 14, none⟩ (.slice a0 I.bat.length d0) = w2 at hblk o0 hx hz ⊢
  clear hown0 hx1 hblk1 c14 z14 hb1 hz1
  have c16 := Lib.cell_of_heap hblk 16; have c17 := Lib.cell_of_heap hblk 17
  simp only [List.getElem?_toArray, List.getElem?_cons_succ, List.getElem?_cons_zero] at c16 c17
  have HO0 := Lib.hid o0
  have HB := Lib.hid hblk
  have HX := Lib.hid hx
  have HZ := Lib.hid hz
  have lz := (Array.getElem?_eq_some_iff.1 hz).1
  have lp := cell_lt c16
  clear o0 hblk hx hz
  go_cut [] (fun wx => ∃ a1 d1 a2 d2, wx.heap[w.heap.size]? = some (.cells #[.int .i64 1, .int .i64 0, .int .i64 0, .int .i64 0, .int .i64 0, .int .i64 0, .int .i64 0, .int .i64 0, .int .i64 0, .int .i64 0, .int .i64 I.c, .int .i64 I.k, .int .i64 I.s, .int .i64 I.o, .slice a0 I.bat.length d0, .int .i64 I.bw, .slice a1 I.bl.length d1, .slice a2 I.bf.length d2, .bool I.fr, h3, .bool false, .int .i64 I.age, .int .i64 I.kp, .int .i64 0, h4, .int .i64 I.ra, .int .i64 I.rb, .int .u8 0] 34 (0, 0)) ∧ wx.heap[w.heap.size + 1]? = some (.cells #[.int .i64 0, .int .i64 0, .int .i64 0, .int .i64 0, .int .i64 0, .int .i64 0, .int .i64 0, .int .i64 0, .int .i64 0, .int .i64 0, .int .i64 0, .int .i64 0, .int .i64 0, .int .i64 0, .slice none 0 0, .int .i64 0, .slice none 0 0, .slice none 0 0, .bool false, .slice none 0 0, .bool false, .int .i64 0, .int .i64 0, .int .i64 0, .slice none 0 0, .int .i64 0, .int .i64 0, .int .u8 0] 34 (0, 0)) ∧ wx.ownsRow w.heap.size 92 1 (.slice a0 I.bat.length d0) I.bat.length I.bat ∧ wx.ownsRow w.heap.size 3 1 (.slice a1 I.bl.length d1) I.bl.length I.bl ∧ wx.ownsRow w.heap.size 3 1 (.slice a2 I.bf.length d2) I.bf.length I.bf ∧ Ext w wx ∧ (h1 = .slice none 0 0 → (.slice a1 I.bl.length d1 : Value) = .slice none 0 0))
  case first =>
    refine wp_region_held_drew (S := (fun _ => True)) (by kernel_rfl) (by trivial) (fun hHeld => ?_)
    refine wpAnyH_take (i := 0) (v := ?v33) rfl (by kernel_rfl) (by kernel_rfl) (by kernel_rfl) (fun _ _ _ h => h) (Or.inl ⟨by rfl, ?y33⟩) (by assumption) ?r33
    case y33 => ((intro w hSw; (try dsimp only at hSw); go_simp; (first | done | with_reducible rfl)))
    (try simp only [List.getElem_toArray, List.getElem_cons_succ, List.getElem_cons_zero, Act.put, List.setIfInBounds_toArray, List.set_cons_zero, List.set_cons_succ])
    refine wpAnyH_take (i := 3) (v := ?v34) rfl (by kernel_rfl) (by kernel_rfl) (by kernel_rfl) (fun _ _ _ h => h) (Or.inl ⟨by rfl, ?y34⟩) (by assumption) ?r34
    case y34 => ((intro w hSw; (try dsimp only at hSw); go_simp; (first | done | with_reducible rfl)))
    (try simp only [List.getElem_toArray, List.getElem_cons_succ, List.getElem_cons_zero, Act.put, List.setIfInBounds_toArray, List.set_cons_zero, List.set_cons_succ])
    refine wpAnyH_ready (rs := [1, 4]) (by kernel_rfl) (by simp) ?_
    refine AllReadyH.cons rfl (fun K hK => ?_) (AllReadyH.cons rfl (fun K hK => ?_) (AllReadyH.nil))
    · skip
      go_simp
      skip
      refine hK.out _ _ (by first | (dsimp only; simp [go_sem, *]; done) | (simp [go_sem, *])) (fun hHeld => ?_)
      clear hK K
      (try simp only [List.getElem_toArray, List.getElem_cons_succ, List.getElem_cons_zero, Act.put, List.setIfInBounds_toArray, List.set_cons_zero, List.set_cons_succ])
      refine wpAnyH_ready (rs := [2, 4]) (by kernel_rfl) (by simp) ?_
      refine AllReadyH.cons rfl (fun K hK => ?_) (AllReadyH.cons rfl (fun K hK => ?_) (AllReadyH.nil))
      · skip
        go_simp
        (go_at_call 31; refine (sclone_int _ _ I.bl (L1.out.ext (HX.out.trans (by repeat (first | exact Ext.refl _ | refine Ext.drew ?_ | refine Ext.drewN ?_ _ | refine Ext.alloc ?_ _)))) HG.out.n1 HG.out.o1).mono ?_; rintro e w3 ⟨kq, rfl, hownq, hbq, hnq⟩; obtain ⟨a1, d1, rfl⟩ := list_sl (own_list hownq); have HN1 := Lib.hid hnq; clear hnq; have hxq : Ext w2 w3 := (Ext.trans (by repeat (first | exact Ext.refl _ | refine Ext.drew ?_ | refine Ext.drewN ?_ _ | refine Ext.alloc ?_ _)) hbq); have hblkq := (hxq.block w.heap.size lp).trans HB.out; have hzq := (hxq.block (w.heap.size + 1) lz).trans HZ.out; have e16 := Lib.cell_of_heap hblkq 16; have e17 := Lib.cell_of_heap hblkq 17; simp only [List.getElem?_toArray, List.getElem?_cons_succ, List.getElem?_cons_zero] at e16 e17; have HP1 := Lib.hid (own_up hownq (b' := w.heap.size) (by have := HX.out.size; simp; omega)); have HX3 := Lib.hid (HX.out.trans hxq); have HQ0 := Lib.hid (own_ext HO0.out hxq); have HB3 := Lib.hid hblkq; have HZ3 := Lib.hid hzq; have lz3 := (Array.getElem?_eq_some_iff.1 hzq).1; have lp3 := cell_lt e16; clear hownq hbq hblkq hxq hzq)
        refine hK.out _ _ (by first | (dsimp only; simp [go_sem, *]; done) | (simp [go_sem, *])) (fun hHeld => ?_)
        clear hK K
        (try simp only [List.getElem_toArray, List.getElem_cons_succ, List.getElem_cons_zero, Act.put, List.setIfInBounds_toArray, List.set_cons_zero, List.set_cons_succ])
        refine wpAnyH_ready (rs := [4]) (by kernel_rfl) (by simp) ?_
        refine AllReadyH.cons rfl (fun K hK => ?_) AllReadyH.nil
        go_simp
        skip
        refine hK.out _ _ (by first | (dsimp only; simp [go_sem, *]; done) | (simp [go_sem, *])) (fun hHeld => ?_)
        clear hK K
        (try simp only [List.getElem_toArray, List.getElem_cons_succ, List.getElem_cons_zero, Act.put, List.setIfInBounds_toArray, List.set_cons_zero, List.set_cons_succ])
        refine wpAnyH_take (i := 6) (v := ?v35) rfl (by kernel_rfl) (by kernel_rfl) (by kernel_rfl) (fun _ _ _ h => h) (Or.inl ⟨by rfl, ?y35⟩) (by assumption) ?r35
        case y35 => ((intro w hSw; (try dsimp only at hSw); go_simp; (first | done | with_reducible rfl)))
        (try simp only [List.getElem_toArray, List.getElem_cons_succ, List.getElem_cons_zero, Act.put, List.setIfInBounds_toArray, List.set_cons_zero, List.set_cons_succ])
        refine wpAnyH_ready (rs := [5]) (by kernel_rfl) (by simp) ?_
        refine AllReadyH.cons rfl (fun K hK => ?_) AllReadyH.nil
        go_simp
        (go_at_call 31; refine (sclone_int _ _ I.bf (L2.out.ext (HX3.out.trans (by repeat (first | exact Ext.refl _ | refine Ext.drew ?_ | refine Ext.drewN ?_ _ | refine Ext.alloc ?_ _)))) HG.out.n2 HG.out.o2).mono ?_; rintro e w4 ⟨kq, rfl, hownq, hbq, hnq⟩; obtain ⟨a2, d2, rfl⟩ := list_sl (own_list hownq); clear hnq; have hxq : Ext w3 w4 := (Ext.trans (by repeat (first | exact Ext.refl _ | refine Ext.drew ?_ | refine Ext.drewN ?_ _ | refine Ext.alloc ?_ _)) hbq); have hblkq := (hxq.block w.heap.size lp3).trans HB3.out; have hzq := (hxq.block (w.heap.size + 1) lz3).trans HZ3.out; have e16 := Lib.cell_of_heap hblkq 16; have e17 := Lib.cell_of_heap hblkq 17; simp only [List.getElem?_toArray, List.getElem?_cons_succ, List.getElem?_cons_zero] at e16 e17; have HP2 := Lib.hid (own_up hownq (b' := w.heap.size) (by have := HX3.out.size; simp; omega)); have z16 := Lib.frozen_of_heap hblkq 16; have z17 := Lib.frozen_of_heap hblkq 17; have HX4 := Lib.hid (HX3.out.trans hxq); have HR0 := Lib.hid (own_ext HQ0.out hxq); have HR1 := Lib.hid (own_ext HP1.out hxq); have HR2 := HP2; have HB4 := Lib.hid hblkq; have HZ4 := Lib.hid hzq; clear hownq hbq hblkq hxq hzq)
        refine hK.out _ _ (by first | (dsimp only; simp [go_sem, *]; done) | (simp [go_sem, *])) (fun hHeld => ?_)
        clear hK K
        (try simp only [List.getElem_toArray, List.getElem_cons_succ, List.getElem_cons_zero, Act.put, List.setIfInBounds_toArray, List.set_cons_zero, List.set_cons_succ])
        refine wpAnyH_ready (rs := [7]) (by kernel_rfl) (by simp) ?_
        refine AllReadyH.cons rfl (fun K hK => ?_) AllReadyH.nil
        go_simp
        skip
        refine hK.out _ _ (by first | (dsimp only; simp [go_sem, *]; done) | (simp [go_sem, *])) (fun hHeld => ?_)
        clear hK K
        (try simp only [List.getElem_toArray, List.getElem_cons_succ, List.getElem_cons_zero, Act.put, List.setIfInBounds_toArray, List.set_cons_zero, List.set_cons_succ])
        refine wpAnyH_take (i := 8) (v := ?v36) rfl (by kernel_rfl) (by kernel_rfl) (by kernel_rfl) (fun _ _ _ h => h) (Or.inl ⟨by rfl, ?y36⟩) (by assumption) ?r36
        case y36 => ((intro w hSw; (try dsimp only at hSw); go_simp; (first | done | with_reducible rfl)))
        (try simp only [List.getElem_toArray, List.getElem_cons_succ, List.getElem_cons_zero, Act.put, List.setIfInBounds_toArray, List.set_cons_zero, List.set_cons_succ])
        refine wpAnyH_ready (rs := [9]) (by kernel_rfl) (by simp) ?_
        refine AllReadyH.cons rfl (fun K hK => ?_) AllReadyH.nil
        go_simp
        skip
        refine hK.out _ _ (by first | (dsimp only; simp [go_sem, *]; done) | (simp [go_sem, *])) (fun hHeld => ?_)
        clear hK K
        (try simp only [List.getElem_toArray, List.getElem_cons_succ, List.getElem_cons_zero, Act.put, List.setIfInBounds_toArray, List.set_cons_zero, List.set_cons_succ])
        refine wpAnyH_done (by kernel_rfl) ?_ _
        go_wp2_with fail
        go_meet
        have q1 := cell_put HB4.out 16 (.slice a1 I.bl.length d1)
        have q2 := cell_put q1 17 (.slice a2 I.bf.length d2)
        have r0 := own_put (own_put HR0.out HB4.out (by decide) 16 (.slice a1 I.bl.length d1)) q1 (by decide) 17 (.slice a2 I.bf.length d2)
        have r1 := own_put (own_put HR1.out HB4.out (by decide) 16 (.slice a1 I.bl.length d1)) q1 (by decide) 17 (.slice a2 I.bf.length d2)
        have r2 := own_put (own_put HR2.out HB4.out (by decide) 16 (.slice a1 I.bl.length d1)) q1 (by decide) 17 (.slice a2 I.bf.length d2)
        simp only [List.setIfInBounds_toArray, List.set_cons_zero, List.set_cons_succ] at q2
        have qz := (Below.heap_setCell (w4.setCell ⟨w.heap.size, 16, none⟩ (.slice a1 I.bl.length d1)) ⟨w.heap.size, 17, none⟩ (.slice a2 I.bf.length d2) (w.heap.size + 1) (by simp)).trans ((Below.heap_setCell w4 ⟨w.heap.size, 16, none⟩ (.slice a1 I.bl.length d1) (w.heap.size + 1) (by simp)).trans HZ4.out)
        exact ⟨a1, d1, a2, d2, q2, qz, r0, r1, r2, (HX4.out.setCell (p := ⟨w.heap.size, 16, none⟩) (Nat.le_refl _) _).setCell (p := ⟨w.heap.size, 17, none⟩) (Nat.le_refl _) _, HN1.out⟩
      · skip
        go_simp
        skip
        refine hK.out _ _ (by first | (dsimp only; simp [go_sem, *]; done) | (simp [go_sem, *])) (fun hHeld => ?_)
        clear hK K
        (try simp only [List.getElem_toArray, List.getElem_cons_succ, List.getElem_cons_zero, Act.put, List.setIfInBounds_toArray, List.set_cons_zero, List.set_cons_succ])
        refine wpAnyH_ready (rs := [2]) (by kernel_rfl) (by simp) ?_
        refine AllReadyH.cons rfl (fun K hK => ?_) AllReadyH.nil
        go_simp
        (go_at_call 31; refine (sclone_int _ _ I.bl (L1.out.ext (HX.out.trans (by repeat (first | exact Ext.refl _ | refine Ext.drew ?_ | refine Ext.drewN ?_ _ | refine Ext.alloc ?_ _)))) HG.out.n1 HG.out.o1).mono ?_; rintro e w3 ⟨kq, rfl, hownq, hbq, hnq⟩; obtain ⟨a1, d1, rfl⟩ := list_sl (own_list hownq); have HN1 := Lib.hid hnq; clear hnq; have hxq : Ext w2 w3 := (Ext.trans (by repeat (first | exact Ext.refl _ | refine Ext.drew ?_ | refine Ext.drewN ?_ _ | refine Ext.alloc ?_ _)) hbq); have hblkq := (hxq.block w.heap.size lp).trans HB.out; have hzq := (hxq.block (w.heap.size + 1) lz).trans HZ.out; have e16 := Lib.cell_of_heap hblkq 16; have e17 := Lib.cell_of_heap hblkq 17; simp only [List.getElem?_toArray, List.getElem?_cons_succ, List.getElem?_cons_zero] at e16 e17; have HP1 := Lib.hid (own_up hownq (b' := w.heap.size) (by have := HX.out.size; simp; omega)); have HX3 := Lib.hid (HX.out.trans hxq); have HQ0 := Lib.hid (own_ext HO0.out hxq); have HB3 := Lib.hid hblkq; have HZ3 := Lib.hid hzq; have lz3 := (Array.getElem?_eq_some_iff.1 hzq).1; have lp3 := cell_lt e16; clear hownq hbq hblkq hxq hzq)
        refine hK.out _ _ (by first | (dsimp only; simp [go_sem, *]; done) | (simp [go_sem, *])) (fun hHeld => ?_)
        clear hK K
        (try simp only [List.getElem_toArray, List.getElem_cons_succ, List.getElem_cons_zero, Act.put, List.setIfInBounds_toArray, List.set_cons_zero, List.set_cons_succ])
        refine wpAnyH_take (i := 6) (v := ?v37) rfl (by kernel_rfl) (by kernel_rfl) (by kernel_rfl) (fun _ _ _ h => h) (Or.inl ⟨by rfl, ?y37⟩) (by assumption) ?r37
        case y37 => ((intro w hSw; (try dsimp only at hSw); go_simp; (first | done | with_reducible rfl)))
        (try simp only [List.getElem_toArray, List.getElem_cons_succ, List.getElem_cons_zero, Act.put, List.setIfInBounds_toArray, List.set_cons_zero, List.set_cons_succ])
        refine wpAnyH_ready (rs := [5]) (by kernel_rfl) (by simp) ?_
        refine AllReadyH.cons rfl (fun K hK => ?_) AllReadyH.nil
        go_simp
        (go_at_call 31; refine (sclone_int _ _ I.bf (L2.out.ext (HX3.out.trans (by repeat (first | exact Ext.refl _ | refine Ext.drew ?_ | refine Ext.drewN ?_ _ | refine Ext.alloc ?_ _)))) HG.out.n2 HG.out.o2).mono ?_; rintro e w4 ⟨kq, rfl, hownq, hbq, hnq⟩; obtain ⟨a2, d2, rfl⟩ := list_sl (own_list hownq); clear hnq; have hxq : Ext w3 w4 := (Ext.trans (by repeat (first | exact Ext.refl _ | refine Ext.drew ?_ | refine Ext.drewN ?_ _ | refine Ext.alloc ?_ _)) hbq); have hblkq := (hxq.block w.heap.size lp3).trans HB3.out; have hzq := (hxq.block (w.heap.size + 1) lz3).trans HZ3.out; have e16 := Lib.cell_of_heap hblkq 16; have e17 := Lib.cell_of_heap hblkq 17; simp only [List.getElem?_toArray, List.getElem?_cons_succ, List.getElem?_cons_zero] at e16 e17; have HP2 := Lib.hid (own_up hownq (b' := w.heap.size) (by have := HX3.out.size; simp; omega)); have z16 := Lib.frozen_of_heap hblkq 16; have z17 := Lib.frozen_of_heap hblkq 17; have HX4 := Lib.hid (HX3.out.trans hxq); have HR0 := Lib.hid (own_ext HQ0.out hxq); have HR1 := Lib.hid (own_ext HP1.out hxq); have HR2 := HP2; have HB4 := Lib.hid hblkq; have HZ4 := Lib.hid hzq; clear hownq hbq hblkq hxq hzq)
        refine hK.out _ _ (by first | (dsimp only; simp [go_sem, *]; done) | (simp [go_sem, *])) (fun hHeld => ?_)
        clear hK K
        (try simp only [List.getElem_toArray, List.getElem_cons_succ, List.getElem_cons_zero, Act.put, List.setIfInBounds_toArray, List.set_cons_zero, List.set_cons_succ])
        refine wpAnyH_ready (rs := [7]) (by kernel_rfl) (by simp) ?_
        refine AllReadyH.cons rfl (fun K hK => ?_) AllReadyH.nil
        go_simp
        skip
        refine hK.out _ _ (by first | (dsimp only; simp [go_sem, *]; done) | (simp [go_sem, *])) (fun hHeld => ?_)
        clear hK K
        (try simp only [List.getElem_toArray, List.getElem_cons_succ, List.getElem_cons_zero, Act.put, List.setIfInBounds_toArray, List.set_cons_zero, List.set_cons_succ])
        refine wpAnyH_take (i := 8) (v := ?v38) rfl (by kernel_rfl) (by kernel_rfl) (by kernel_rfl) (fun _ _ _ h => h) (Or.inl ⟨by rfl, ?y38⟩) (by assumption) ?r38
        case y38 => ((intro w hSw; (try dsimp only at hSw); go_simp; (first | done | with_reducible rfl)))
        (try simp only [List.getElem_toArray, List.getElem_cons_succ, List.getElem_cons_zero, Act.put, List.setIfInBounds_toArray, List.set_cons_zero, List.set_cons_succ])
        refine wpAnyH_ready (rs := [9]) (by kernel_rfl) (by simp) ?_
        refine AllReadyH.cons rfl (fun K hK => ?_) AllReadyH.nil
        go_simp
        skip
        refine hK.out _ _ (by first | (dsimp only; simp [go_sem, *]; done) | (simp [go_sem, *])) (fun hHeld => ?_)
        clear hK K
        (try simp only [List.getElem_toArray, List.getElem_cons_succ, List.getElem_cons_zero, Act.put, List.setIfInBounds_toArray, List.set_cons_zero, List.set_cons_succ])
        refine wpAnyH_done (by kernel_rfl) ?_ _
        go_wp2_with fail
        go_meet
        have q1 := cell_put HB4.out 16 (.slice a1 I.bl.length d1)
        have q2 := cell_put q1 17 (.slice a2 I.bf.length d2)
        have r0 := own_put (own_put HR0.out HB4.out (by decide) 16 (.slice a1 I.bl.length d1)) q1 (by decide) 17 (.slice a2 I.bf.length d2)
        have r1 := own_put (own_put HR1.out HB4.out (by decide) 16 (.slice a1 I.bl.length d1)) q1 (by decide) 17 (.slice a2 I.bf.length d2)
        have r2 := own_put (own_put HR2.out HB4.out (by decide) 16 (.slice a1 I.bl.length d1)) q1 (by decide) 17 (.slice a2 I.bf.length d2)
        simp only [List.setIfInBounds_toArray, List.set_cons_zero, List.set_cons_succ] at q2
        have qz := (Below.heap_setCell (w4.setCell ⟨w.heap.size, 16, none⟩ (.slice a1 I.bl.length d1)) ⟨w.heap.size, 17, none⟩ (.slice a2 I.bf.length d2) (w.heap.size + 1) (by simp)).trans ((Below.heap_setCell w4 ⟨w.heap.size, 16, none⟩ (.slice a1 I.bl.length d1) (w.heap.size + 1) (by simp)).trans HZ4.out)
        exact ⟨a1, d1, a2, d2, q2, qz, r0, r1, r2, (HX4.out.setCell (p := ⟨w.heap.size, 16, none⟩) (Nat.le_refl _) _).setCell (p := ⟨w.heap.size, 17, none⟩) (Nat.le_refl _) _, HN1.out⟩
    · skip
      go_simp
      skip
      refine hK.out _ _ (by first | (dsimp only; simp [go_sem, *]; done) | (simp [go_sem, *])) (fun hHeld => ?_)
      clear hK K
      (try simp only [List.getElem_toArray, List.getElem_cons_succ, List.getElem_cons_zero, Act.put, List.setIfInBounds_toArray, List.set_cons_zero, List.set_cons_succ])
      refine wpAnyH_ready (rs := [1]) (by kernel_rfl) (by simp) ?_
      refine AllReadyH.cons rfl (fun K hK => ?_) AllReadyH.nil
      go_simp
      skip
      refine hK.out _ _ (by first | (dsimp only; simp [go_sem, *]; done) | (simp [go_sem, *])) (fun hHeld => ?_)
      clear hK K
      (try simp only [List.getElem_toArray, List.getElem_cons_succ, List.getElem_cons_zero, Act.put, List.setIfInBounds_toArray, List.set_cons_zero, List.set_cons_succ])
      refine wpAnyH_ready (rs := [2]) (by kernel_rfl) (by simp) ?_
      refine AllReadyH.cons rfl (fun K hK => ?_) AllReadyH.nil
      go_simp
      (go_at_call 31; refine (sclone_int _ _ I.bl (L1.out.ext (HX.out.trans (by repeat (first | exact Ext.refl _ | refine Ext.drew ?_ | refine Ext.drewN ?_ _ | refine Ext.alloc ?_ _)))) HG.out.n1 HG.out.o1).mono ?_; rintro e w3 ⟨kq, rfl, hownq, hbq, hnq⟩; obtain ⟨a1, d1, rfl⟩ := list_sl (own_list hownq); have HN1 := Lib.hid hnq; clear hnq; have hxq : Ext w2 w3 := (Ext.trans (by repeat (first | exact Ext.refl _ | refine Ext.drew ?_ | refine Ext.drewN ?_ _ | refine Ext.alloc ?_ _)) hbq); have hblkq := (hxq.block w.heap.size lp).trans HB.out; have hzq := (hxq.block (w.heap.size + 1) lz).trans HZ.out; have e16 := Lib.cell_of_heap hblkq 16; have e17 := Lib.cell_of_heap hblkq 17; simp only [List.getElem?_toArray, List.getElem?_cons_succ, List.getElem?_cons_zero] at e16 e17; have HP1 := Lib.hid (own_up hownq (b' := w.heap.size) (by have := HX.out.size; simp; omega)); have HX3 := Lib.hid (HX.out.trans hxq); have HQ0 := Lib.hid (own_ext HO0.out hxq); have HB3 := Lib.hid hblkq; have HZ3 := Lib.hid hzq; have lz3 := (Array.getElem?_eq_some_iff.1 hzq).1; have lp3 := cell_lt e16; clear hownq hbq hblkq hxq hzq)
      refine hK.out _ _ (by first | (dsimp only; simp [go_sem, *]; done) | (simp [go_sem, *])) (fun hHeld => ?_)
      clear hK K
      (try simp only [List.getElem_toArray, List.getElem_cons_succ, List.getElem_cons_zero, Act.put, List.setIfInBounds_toArray, List.set_cons_zero, List.set_cons_succ])
      refine wpAnyH_take (i := 6) (v := ?v39) rfl (by kernel_rfl) (by kernel_rfl) (by kernel_rfl) (fun _ _ _ h => h) (Or.inl ⟨by rfl, ?y39⟩) (by assumption) ?r39
      case y39 => ((intro w hSw; (try dsimp only at hSw); go_simp; (first | done | with_reducible rfl)))
      (try simp only [List.getElem_toArray, List.getElem_cons_succ, List.getElem_cons_zero, Act.put, List.setIfInBounds_toArray, List.set_cons_zero, List.set_cons_succ])
      refine wpAnyH_ready (rs := [5]) (by kernel_rfl) (by simp) ?_
      refine AllReadyH.cons rfl (fun K hK => ?_) AllReadyH.nil
      go_simp
      (go_at_call 31; refine (sclone_int _ _ I.bf (L2.out.ext (HX3.out.trans (by repeat (first | exact Ext.refl _ | refine Ext.drew ?_ | refine Ext.drewN ?_ _ | refine Ext.alloc ?_ _)))) HG.out.n2 HG.out.o2).mono ?_; rintro e w4 ⟨kq, rfl, hownq, hbq, hnq⟩; obtain ⟨a2, d2, rfl⟩ := list_sl (own_list hownq); clear hnq; have hxq : Ext w3 w4 := (Ext.trans (by repeat (first | exact Ext.refl _ | refine Ext.drew ?_ | refine Ext.drewN ?_ _ | refine Ext.alloc ?_ _)) hbq); have hblkq := (hxq.block w.heap.size lp3).trans HB3.out; have hzq := (hxq.block (w.heap.size + 1) lz3).trans HZ3.out; have e16 := Lib.cell_of_heap hblkq 16; have e17 := Lib.cell_of_heap hblkq 17; simp only [List.getElem?_toArray, List.getElem?_cons_succ, List.getElem?_cons_zero] at e16 e17; have HP2 := Lib.hid (own_up hownq (b' := w.heap.size) (by have := HX3.out.size; simp; omega)); have z16 := Lib.frozen_of_heap hblkq 16; have z17 := Lib.frozen_of_heap hblkq 17; have HX4 := Lib.hid (HX3.out.trans hxq); have HR0 := Lib.hid (own_ext HQ0.out hxq); have HR1 := Lib.hid (own_ext HP1.out hxq); have HR2 := HP2; have HB4 := Lib.hid hblkq; have HZ4 := Lib.hid hzq; clear hownq hbq hblkq hxq hzq)
      refine hK.out _ _ (by first | (dsimp only; simp [go_sem, *]; done) | (simp [go_sem, *])) (fun hHeld => ?_)
      clear hK K
      (try simp only [List.getElem_toArray, List.getElem_cons_succ, List.getElem_cons_zero, Act.put, List.setIfInBounds_toArray, List.set_cons_zero, List.set_cons_succ])
      refine wpAnyH_ready (rs := [7]) (by kernel_rfl) (by simp) ?_
      refine AllReadyH.cons rfl (fun K hK => ?_) AllReadyH.nil
      go_simp
      skip
      refine hK.out _ _ (by first | (dsimp only; simp [go_sem, *]; done) | (simp [go_sem, *])) (fun hHeld => ?_)
      clear hK K
      (try simp only [List.getElem_toArray, List.getElem_cons_succ, List.getElem_cons_zero, Act.put, List.setIfInBounds_toArray, List.set_cons_zero, List.set_cons_succ])
      refine wpAnyH_take (i := 8) (v := ?v40) rfl (by kernel_rfl) (by kernel_rfl) (by kernel_rfl) (fun _ _ _ h => h) (Or.inl ⟨by rfl, ?y40⟩) (by assumption) ?r40
      case y40 => ((intro w hSw; (try dsimp only at hSw); go_simp; (first | done | with_reducible rfl)))
      (try simp only [List.getElem_toArray, List.getElem_cons_succ, List.getElem_cons_zero, Act.put, List.setIfInBounds_toArray, List.set_cons_zero, List.set_cons_succ])
      refine wpAnyH_ready (rs := [9]) (by kernel_rfl) (by simp) ?_
      refine AllReadyH.cons rfl (fun K hK => ?_) AllReadyH.nil
      go_simp
      skip
      refine hK.out _ _ (by first | (dsimp only; simp [go_sem, *]; done) | (simp [go_sem, *])) (fun hHeld => ?_)
      clear hK K
      (try simp only [List.getElem_toArray, List.getElem_cons_succ, List.getElem_cons_zero, Act.put, List.setIfInBounds_toArray, List.set_cons_zero, List.set_cons_succ])
      refine wpAnyH_done (by kernel_rfl) ?_ _
      go_wp2_with fail
      go_meet
      have q1 := cell_put HB4.out 16 (.slice a1 I.bl.length d1)
      have q2 := cell_put q1 17 (.slice a2 I.bf.length d2)
      have r0 := own_put (own_put HR0.out HB4.out (by decide) 16 (.slice a1 I.bl.length d1)) q1 (by decide) 17 (.slice a2 I.bf.length d2)
      have r1 := own_put (own_put HR1.out HB4.out (by decide) 16 (.slice a1 I.bl.length d1)) q1 (by decide) 17 (.slice a2 I.bf.length d2)
      have r2 := own_put (own_put HR2.out HB4.out (by decide) 16 (.slice a1 I.bl.length d1)) q1 (by decide) 17 (.slice a2 I.bf.length d2)
      simp only [List.setIfInBounds_toArray, List.set_cons_zero, List.set_cons_succ] at q2
      have qz := (Below.heap_setCell (w4.setCell ⟨w.heap.size, 16, none⟩ (.slice a1 I.bl.length d1)) ⟨w.heap.size, 17, none⟩ (.slice a2 I.bf.length d2) (w.heap.size + 1) (by simp)).trans ((Below.heap_setCell w4 ⟨w.heap.size, 16, none⟩ (.slice a1 I.bl.length d1) (w.heap.size + 1) (by simp)).trans HZ4.out)
      exact ⟨a1, d1, a2, d2, q2, qz, r0, r1, r2, (HX4.out.setCell (p := ⟨w.heap.size, 16, none⟩) (Nat.le_refl _) _).setCell (p := ⟨w.heap.size, 17, none⟩) (Nat.le_refl _) _, HN1.out⟩
  case rest =>
  obtain ⟨a1, d1, a2, d2, hblk, hz, o0, o1, o2, hx, hn1⟩ := hcut
  have HN1 := Lib.hid hn1
  clear hn1
  obtain ⟨w5, rfl⟩ : ∃ w5, w5 = wc := ⟨_, rfl⟩
  have c19 := Lib.cell_of_heap hblk 19; have c24 := Lib.cell_of_heap hblk 24
  simp only [List.getElem?_toArray, List.getElem?_cons_succ, List.getElem?_cons_zero] at c19 c24
  have HO0 := Lib.hid o0; have HO1 := Lib.hid o1; have HO2 := Lib.hid o2
  have HB := Lib.hid hblk
  have HX := Lib.hid hx
  have HZ := Lib.hid hz
  have lz := (Array.getElem?_eq_some_iff.1 hz).1
  have lp := cell_lt c19
  clear o0 o1 o2 hblk hx hz
  go_upto_region 3 with fail
  go_cut [] (fun wx => ∃ a3 d3 a4 d4, wx.heap[w.heap.size]? = some (.cells #[.int .i64 1, .int .i64 0, .int .i64 0, .int .i64 0, .int .i64 0, .int .i64 0, .int .i64 0, .int .i64 0, .int .i64 0, .int .i64 0, .int .i64 I.c, .int .i64 I.k, .int .i64 I.s, .int .i64 I.o, .slice a0 I.bat.length d0, .int .i64 I.bw, .slice a1 I.bl.length d1, .slice a2 I.bf.length d2, .bool I.fr, .slice a3 I.bd.length d3, .bool false, .int .i64 I.age, .int .i64 I.kp, .int .i64 0, .slice a4 I.sb.length d4, .int .i64 I.ra, .int .i64 I.rb, .int .u8 0] 34 (0, 0)) ∧ wx.heap[w.heap.size + 1]? = some (.cells #[.int .i64 0, .int .i64 0, .int .i64 0, .int .i64 0, .int .i64 0, .int .i64 0, .int .i64 0, .int .i64 0, .int .i64 0, .int .i64 0, .int .i64 0, .int .i64 0, .int .i64 0, .int .i64 0, .slice none 0 0, .int .i64 0, .slice none 0 0, .slice none 0 0, .bool false, .slice none 0 0, .bool false, .int .i64 0, .int .i64 0, .int .i64 0, .slice none 0 0, .int .i64 0, .int .i64 0, .int .u8 0] 34 (0, 0)) ∧ wx.ownsRow w.heap.size 92 1 (.slice a0 I.bat.length d0) I.bat.length I.bat ∧ wx.ownsRow w.heap.size 3 1 (.slice a1 I.bl.length d1) I.bl.length I.bl ∧ wx.ownsRow w.heap.size 3 1 (.slice a2 I.bf.length d2) I.bf.length I.bf ∧ wx.ownsRow w.heap.size 3 1 (.slice a3 I.bd.length d3) I.bd.length I.bd ∧ wx.ownsRow w.heap.size 4 1 (.slice a4 I.sb.length d4) I.sb.length I.sb ∧ Ext w wx ∧ (Value.ownBlock (.slice a1 I.bl.length d1) = none ∨ Value.ownBlock (.slice a1 I.bl.length d1) ≠ Value.ownBlock (.slice a3 I.bd.length d3)) ∧ (Value.ownBlock (.slice a2 I.bf.length d2) = none ∨ Value.ownBlock (.slice a2 I.bf.length d2) ≠ Value.ownBlock (.slice a3 I.bd.length d3)))
  case first =>
    refine wp_region_held_drew (S := (fun _ => True)) (by kernel_rfl) (by trivial) (fun hHeld => ?_)
    refine wpAnyH_take (i := 0) (v := ?v41) rfl (by kernel_rfl) (by kernel_rfl) (by kernel_rfl) (fun _ _ _ h => h) (Or.inl ⟨by rfl, ?y41⟩) (by assumption) ?r41
    case y41 => ((intro w hSw; (try dsimp only at hSw); go_simp; (first | done | with_reducible rfl)))
    (try simp only [List.getElem_toArray, List.getElem_cons_succ, List.getElem_cons_zero, Act.put, List.setIfInBounds_toArray, List.set_cons_zero, List.set_cons_succ])
    refine wpAnyH_take (i := 3) (v := ?v42) rfl (by kernel_rfl) (by kernel_rfl) (by kernel_rfl) (fun _ _ _ h => h) (Or.inl ⟨by rfl, ?y42⟩) (by assumption) ?r42
    case y42 => ((intro w hSw; (try dsimp only at hSw); go_simp; (first | done | with_reducible rfl)))
    (try simp only [List.getElem_toArray, List.getElem_cons_succ, List.getElem_cons_zero, Act.put, List.setIfInBounds_toArray, List.set_cons_zero, List.set_cons_succ])
    refine wpAnyH_ready (rs := [1, 4]) (by kernel_rfl) (by simp) ?_
    refine AllReadyH.cons rfl (fun K hK => ?_) (AllReadyH.cons rfl (fun K hK => ?_) (AllReadyH.nil))
    · skip
      go_simp
      skip
      refine hK.out _ _ (by first | (dsimp only; simp [go_sem, *]; done) | (simp [go_sem, *])) (fun hHeld => ?_)
      clear hK K
      (try simp only [List.getElem_toArray, List.getElem_cons_succ, List.getElem_cons_zero, Act.put, List.setIfInBounds_toArray, List.set_cons_zero, List.set_cons_succ])
      refine wpAnyH_ready (rs := [2, 4]) (by kernel_rfl) (by simp) ?_
      refine AllReadyH.cons rfl (fun K hK => ?_) (AllReadyH.cons rfl (fun K hK => ?_) (AllReadyH.nil))
      · skip
        go_simp
        (go_at_call 31; refine (sclone_int _ _ I.bd (L3.out.ext (HX.out.trans (by repeat (first | exact Ext.refl _ | refine Ext.drew ?_ | refine Ext.drewN ?_ _ | refine Ext.alloc ?_ _)))) HG.out.n3 HG.out.o3).mono ?_; rintro e w3 ⟨kq, rfl, hownq, hbq, hnq⟩; obtain ⟨a3, d3, rfl⟩ := list_sl (own_list hownq); have HD1 := Lib.hid (own_apart HO1.out hownq (by have := (show Ext w5 _ from (by repeat (first | exact Ext.refl _ | refine Ext.drew ?_ | refine Ext.drewN ?_ _ | refine Ext.alloc ?_ _))).size; exact this)); have HD2 := Lib.hid (own_apart HO2.out hownq (by have := (show Ext w5 _ from (by repeat (first | exact Ext.refl _ | refine Ext.drew ?_ | refine Ext.drewN ?_ _ | refine Ext.alloc ?_ _))).size; exact this)); clear hnq; have hxq : Ext w5 w3 := (Ext.trans (by repeat (first | exact Ext.refl _ | refine Ext.drew ?_ | refine Ext.drewN ?_ _ | refine Ext.alloc ?_ _)) hbq); have hblkq := (hxq.block w.heap.size lp).trans HB.out; have hzq := (hxq.block (w.heap.size + 1) lz).trans HZ.out; have e19 := Lib.cell_of_heap hblkq 19; have e24 := Lib.cell_of_heap hblkq 24; simp only [List.getElem?_toArray, List.getElem?_cons_succ, List.getElem?_cons_zero] at e19 e24; have HP3 := Lib.hid (own_up hownq (b' := w.heap.size) (by have := HX.out.size; simp; omega)); have HX3 := Lib.hid (HX.out.trans hxq); have HQ0 := Lib.hid (own_ext HO0.out hxq); have HQ1 := Lib.hid (own_ext HO1.out hxq); have HQ2 := Lib.hid (own_ext HO2.out hxq); have HB3 := Lib.hid hblkq; have HZ3 := Lib.hid hzq; have lz3 := (Array.getElem?_eq_some_iff.1 hzq).1; have lp3 := cell_lt e19; clear hownq hbq hblkq hxq hzq)
        refine hK.out _ _ (by first | (dsimp only; simp [go_sem, *]; done) | (simp [go_sem, *])) (fun hHeld => ?_)
        clear hK K
        (try simp only [List.getElem_toArray, List.getElem_cons_succ, List.getElem_cons_zero, Act.put, List.setIfInBounds_toArray, List.set_cons_zero, List.set_cons_succ])
        refine wpAnyH_ready (rs := [4]) (by kernel_rfl) (by simp) ?_
        refine AllReadyH.cons rfl (fun K hK => ?_) AllReadyH.nil
        go_simp
        skip
        refine hK.out _ _ (by first | (dsimp only; simp [go_sem, *]; done) | (simp [go_sem, *])) (fun hHeld => ?_)
        clear hK K
        (try simp only [List.getElem_toArray, List.getElem_cons_succ, List.getElem_cons_zero, Act.put, List.setIfInBounds_toArray, List.set_cons_zero, List.set_cons_succ])
        refine wpAnyH_take (i := 6) (v := ?v43) rfl (by kernel_rfl) (by kernel_rfl) (by kernel_rfl) (fun _ _ _ h => h) (Or.inl ⟨by rfl, ?y43⟩) (by assumption) ?r43
        case y43 => ((intro w hSw; (try dsimp only at hSw); go_simp; (first | done | with_reducible rfl)))
        (try simp only [List.getElem_toArray, List.getElem_cons_succ, List.getElem_cons_zero, Act.put, List.setIfInBounds_toArray, List.set_cons_zero, List.set_cons_succ])
        refine wpAnyH_ready (rs := [5]) (by kernel_rfl) (by simp) ?_
        refine AllReadyH.cons rfl (fun K hK => ?_) AllReadyH.nil
        go_simp
        (go_at_call 32; refine (sclone_bool _ _ I.sb (L4.out.ext (HX3.out.trans (by repeat (first | exact Ext.refl _ | refine Ext.drew ?_ | refine Ext.drewN ?_ _ | refine Ext.alloc ?_ _)))) HG.out.n4 HG.out.o4).mono ?_; rintro e w4 ⟨kq, rfl, hownq, hbq, hnq⟩; obtain ⟨a4, d4, rfl⟩ := list_sl (own_list hownq); clear hnq; have hxq : Ext w3 w4 := (Ext.trans (by repeat (first | exact Ext.refl _ | refine Ext.drew ?_ | refine Ext.drewN ?_ _ | refine Ext.alloc ?_ _)) hbq); have hblkq := (hxq.block w.heap.size lp3).trans HB3.out; have hzq := (hxq.block (w.heap.size + 1) lz3).trans HZ3.out; have e19 := Lib.cell_of_heap hblkq 19; have e24 := Lib.cell_of_heap hblkq 24; simp only [List.getElem?_toArray, List.getElem?_cons_succ, List.getElem?_cons_zero] at e19 e24; have HP4 := Lib.hid (own_up hownq (b' := w.heap.size) (by have := HX3.out.size; simp; omega)); have z19 := Lib.frozen_of_heap hblkq 19; have z24 := Lib.frozen_of_heap hblkq 24; have HX4 := Lib.hid (HX3.out.trans hxq); have HR0 := Lib.hid (own_ext HQ0.out hxq); have HR1 := Lib.hid (own_ext HQ1.out hxq); have HR2 := Lib.hid (own_ext HQ2.out hxq); have HR3 := Lib.hid (own_ext HP3.out hxq); have HR4 := HP4; have HB4 := Lib.hid hblkq; have HZ4 := Lib.hid hzq; clear hownq hbq hblkq hxq hzq)
        refine hK.out _ _ (by first | (dsimp only; simp [go_sem, *]; done) | (simp [go_sem, *])) (fun hHeld => ?_)
        clear hK K
        (try simp only [List.getElem_toArray, List.getElem_cons_succ, List.getElem_cons_zero, Act.put, List.setIfInBounds_toArray, List.set_cons_zero, List.set_cons_succ])
        refine wpAnyH_ready (rs := [7]) (by kernel_rfl) (by simp) ?_
        refine AllReadyH.cons rfl (fun K hK => ?_) AllReadyH.nil
        go_simp
        skip
        refine hK.out _ _ (by first | (dsimp only; simp [go_sem, *]; done) | (simp [go_sem, *])) (fun hHeld => ?_)
        clear hK K
        (try simp only [List.getElem_toArray, List.getElem_cons_succ, List.getElem_cons_zero, Act.put, List.setIfInBounds_toArray, List.set_cons_zero, List.set_cons_succ])
        refine wpAnyH_take (i := 8) (v := ?v44) rfl (by kernel_rfl) (by kernel_rfl) (by kernel_rfl) (fun _ _ _ h => h) (Or.inl ⟨by rfl, ?y44⟩) (by assumption) ?r44
        case y44 => ((intro w hSw; (try dsimp only at hSw); go_simp; (first | done | with_reducible rfl)))
        (try simp only [List.getElem_toArray, List.getElem_cons_succ, List.getElem_cons_zero, Act.put, List.setIfInBounds_toArray, List.set_cons_zero, List.set_cons_succ])
        refine wpAnyH_ready (rs := [9]) (by kernel_rfl) (by simp) ?_
        refine AllReadyH.cons rfl (fun K hK => ?_) AllReadyH.nil
        go_simp
        skip
        refine hK.out _ _ (by first | (dsimp only; simp [go_sem, *]; done) | (simp [go_sem, *])) (fun hHeld => ?_)
        clear hK K
        (try simp only [List.getElem_toArray, List.getElem_cons_succ, List.getElem_cons_zero, Act.put, List.setIfInBounds_toArray, List.set_cons_zero, List.set_cons_succ])
        refine wpAnyH_done (by kernel_rfl) ?_ _
        go_wp2_with fail
        go_meet
        have q1 := cell_put HB4.out 19 (.slice a3 I.bd.length d3)
        have q2 := cell_put q1 24 (.slice a4 I.sb.length d4)
        have r0 := own_put (own_put HR0.out HB4.out (by decide) 19 (.slice a3 I.bd.length d3)) q1 (by decide) 24 (.slice a4 I.sb.length d4)
        have r1 := own_put (own_put HR1.out HB4.out (by decide) 19 (.slice a3 I.bd.length d3)) q1 (by decide) 24 (.slice a4 I.sb.length d4)
        have r2 := own_put (own_put HR2.out HB4.out (by decide) 19 (.slice a3 I.bd.length d3)) q1 (by decide) 24 (.slice a4 I.sb.length d4)
        have r3 := own_put (own_put HR3.out HB4.out (by decide) 19 (.slice a3 I.bd.length d3)) q1 (by decide) 24 (.slice a4 I.sb.length d4)
        have r4 := own_put (own_put HR4.out HB4.out (by decide) 19 (.slice a3 I.bd.length d3)) q1 (by decide) 24 (.slice a4 I.sb.length d4)
        simp only [List.setIfInBounds_toArray, List.set_cons_zero, List.set_cons_succ] at q2
        have qz := (Below.heap_setCell (w4.setCell ⟨w.heap.size, 19, none⟩ (.slice a3 I.bd.length d3)) ⟨w.heap.size, 24, none⟩ (.slice a4 I.sb.length d4) (w.heap.size + 1) (by simp)).trans ((Below.heap_setCell w4 ⟨w.heap.size, 19, none⟩ (.slice a3 I.bd.length d3) (w.heap.size + 1) (by simp)).trans HZ4.out)
        exact ⟨a3, d3, a4, d4, q2, qz, r0, r1, r2, r3, r4, (HX4.out.setCell (p := ⟨w.heap.size, 19, none⟩) (Nat.le_refl _) _).setCell (p := ⟨w.heap.size, 24, none⟩) (Nat.le_refl _) _, HD1.out, HD2.out⟩
      · skip
        go_simp
        skip
        refine hK.out _ _ (by first | (dsimp only; simp [go_sem, *]; done) | (simp [go_sem, *])) (fun hHeld => ?_)
        clear hK K
        (try simp only [List.getElem_toArray, List.getElem_cons_succ, List.getElem_cons_zero, Act.put, List.setIfInBounds_toArray, List.set_cons_zero, List.set_cons_succ])
        refine wpAnyH_ready (rs := [2]) (by kernel_rfl) (by simp) ?_
        refine AllReadyH.cons rfl (fun K hK => ?_) AllReadyH.nil
        go_simp
        (go_at_call 31; refine (sclone_int _ _ I.bd (L3.out.ext (HX.out.trans (by repeat (first | exact Ext.refl _ | refine Ext.drew ?_ | refine Ext.drewN ?_ _ | refine Ext.alloc ?_ _)))) HG.out.n3 HG.out.o3).mono ?_; rintro e w3 ⟨kq, rfl, hownq, hbq, hnq⟩; obtain ⟨a3, d3, rfl⟩ := list_sl (own_list hownq); have HD1 := Lib.hid (own_apart HO1.out hownq (by have := (show Ext w5 _ from (by repeat (first | exact Ext.refl _ | refine Ext.drew ?_ | refine Ext.drewN ?_ _ | refine Ext.alloc ?_ _))).size; exact this)); have HD2 := Lib.hid (own_apart HO2.out hownq (by have := (show Ext w5 _ from (by repeat (first | exact Ext.refl _ | refine Ext.drew ?_ | refine Ext.drewN ?_ _ | refine Ext.alloc ?_ _))).size; exact this)); clear hnq; have hxq : Ext w5 w3 := (Ext.trans (by repeat (first | exact Ext.refl _ | refine Ext.drew ?_ | refine Ext.drewN ?_ _ | refine Ext.alloc ?_ _)) hbq); have hblkq := (hxq.block w.heap.size lp).trans HB.out; have hzq := (hxq.block (w.heap.size + 1) lz).trans HZ.out; have e19 := Lib.cell_of_heap hblkq 19; have e24 := Lib.cell_of_heap hblkq 24; simp only [List.getElem?_toArray, List.getElem?_cons_succ, List.getElem?_cons_zero] at e19 e24; have HP3 := Lib.hid (own_up hownq (b' := w.heap.size) (by have := HX.out.size; simp; omega)); have HX3 := Lib.hid (HX.out.trans hxq); have HQ0 := Lib.hid (own_ext HO0.out hxq); have HQ1 := Lib.hid (own_ext HO1.out hxq); have HQ2 := Lib.hid (own_ext HO2.out hxq); have HB3 := Lib.hid hblkq; have HZ3 := Lib.hid hzq; have lz3 := (Array.getElem?_eq_some_iff.1 hzq).1; have lp3 := cell_lt e19; clear hownq hbq hblkq hxq hzq)
        refine hK.out _ _ (by first | (dsimp only; simp [go_sem, *]; done) | (simp [go_sem, *])) (fun hHeld => ?_)
        clear hK K
        (try simp only [List.getElem_toArray, List.getElem_cons_succ, List.getElem_cons_zero, Act.put, List.setIfInBounds_toArray, List.set_cons_zero, List.set_cons_succ])
        refine wpAnyH_take (i := 6) (v := ?v45) rfl (by kernel_rfl) (by kernel_rfl) (by kernel_rfl) (fun _ _ _ h => h) (Or.inl ⟨by rfl, ?y45⟩) (by assumption) ?r45
        case y45 => ((intro w hSw; (try dsimp only at hSw); go_simp; (first | done | with_reducible rfl)))
        (try simp only [List.getElem_toArray, List.getElem_cons_succ, List.getElem_cons_zero, Act.put, List.setIfInBounds_toArray, List.set_cons_zero, List.set_cons_succ])
        refine wpAnyH_ready (rs := [5]) (by kernel_rfl) (by simp) ?_
        refine AllReadyH.cons rfl (fun K hK => ?_) AllReadyH.nil
        go_simp
        (go_at_call 32; refine (sclone_bool _ _ I.sb (L4.out.ext (HX3.out.trans (by repeat (first | exact Ext.refl _ | refine Ext.drew ?_ | refine Ext.drewN ?_ _ | refine Ext.alloc ?_ _)))) HG.out.n4 HG.out.o4).mono ?_; rintro e w4 ⟨kq, rfl, hownq, hbq, hnq⟩; obtain ⟨a4, d4, rfl⟩ := list_sl (own_list hownq); clear hnq; have hxq : Ext w3 w4 := (Ext.trans (by repeat (first | exact Ext.refl _ | refine Ext.drew ?_ | refine Ext.drewN ?_ _ | refine Ext.alloc ?_ _)) hbq); have hblkq := (hxq.block w.heap.size lp3).trans HB3.out; have hzq := (hxq.block (w.heap.size + 1) lz3).trans HZ3.out; have e19 := Lib.cell_of_heap hblkq 19; have e24 := Lib.cell_of_heap hblkq 24; simp only [List.getElem?_toArray, List.getElem?_cons_succ, List.getElem?_cons_zero] at e19 e24; have HP4 := Lib.hid (own_up hownq (b' := w.heap.size) (by have := HX3.out.size; simp; omega)); have z19 := Lib.frozen_of_heap hblkq 19; have z24 := Lib.frozen_of_heap hblkq 24; have HX4 := Lib.hid (HX3.out.trans hxq); have HR0 := Lib.hid (own_ext HQ0.out hxq); have HR1 := Lib.hid (own_ext HQ1.out hxq); have HR2 := Lib.hid (own_ext HQ2.out hxq); have HR3 := Lib.hid (own_ext HP3.out hxq); have HR4 := HP4; have HB4 := Lib.hid hblkq; have HZ4 := Lib.hid hzq; clear hownq hbq hblkq hxq hzq)
        refine hK.out _ _ (by first | (dsimp only; simp [go_sem, *]; done) | (simp [go_sem, *])) (fun hHeld => ?_)
        clear hK K
        (try simp only [List.getElem_toArray, List.getElem_cons_succ, List.getElem_cons_zero, Act.put, List.setIfInBounds_toArray, List.set_cons_zero, List.set_cons_succ])
        refine wpAnyH_ready (rs := [7]) (by kernel_rfl) (by simp) ?_
        refine AllReadyH.cons rfl (fun K hK => ?_) AllReadyH.nil
        go_simp
        skip
        refine hK.out _ _ (by first | (dsimp only; simp [go_sem, *]; done) | (simp [go_sem, *])) (fun hHeld => ?_)
        clear hK K
        (try simp only [List.getElem_toArray, List.getElem_cons_succ, List.getElem_cons_zero, Act.put, List.setIfInBounds_toArray, List.set_cons_zero, List.set_cons_succ])
        refine wpAnyH_take (i := 8) (v := ?v46) rfl (by kernel_rfl) (by kernel_rfl) (by kernel_rfl) (fun _ _ _ h => h) (Or.inl ⟨by rfl, ?y46⟩) (by assumption) ?r46
        case y46 => ((intro w hSw; (try dsimp only at hSw); go_simp; (first | done | with_reducible rfl)))
        (try simp only [List.getElem_toArray, List.getElem_cons_succ, List.getElem_cons_zero, Act.put, List.setIfInBounds_toArray, List.set_cons_zero, List.set_cons_succ])
        refine wpAnyH_ready (rs := [9]) (by kernel_rfl) (by simp) ?_
        refine AllReadyH.cons rfl (fun K hK => ?_) AllReadyH.nil
        go_simp
        skip
        refine hK.out _ _ (by first | (dsimp only; simp [go_sem, *]; done) | (simp [go_sem, *])) (fun hHeld => ?_)
        clear hK K
        (try simp only [List.getElem_toArray, List.getElem_cons_succ, List.getElem_cons_zero, Act.put, List.setIfInBounds_toArray, List.set_cons_zero, List.set_cons_succ])
        refine wpAnyH_done (by kernel_rfl) ?_ _
        go_wp2_with fail
        go_meet
        have q1 := cell_put HB4.out 19 (.slice a3 I.bd.length d3)
        have q2 := cell_put q1 24 (.slice a4 I.sb.length d4)
        have r0 := own_put (own_put HR0.out HB4.out (by decide) 19 (.slice a3 I.bd.length d3)) q1 (by decide) 24 (.slice a4 I.sb.length d4)
        have r1 := own_put (own_put HR1.out HB4.out (by decide) 19 (.slice a3 I.bd.length d3)) q1 (by decide) 24 (.slice a4 I.sb.length d4)
        have r2 := own_put (own_put HR2.out HB4.out (by decide) 19 (.slice a3 I.bd.length d3)) q1 (by decide) 24 (.slice a4 I.sb.length d4)
        have r3 := own_put (own_put HR3.out HB4.out (by decide) 19 (.slice a3 I.bd.length d3)) q1 (by decide) 24 (.slice a4 I.sb.length d4)
        have r4 := own_put (own_put HR4.out HB4.out (by decide) 19 (.slice a3 I.bd.length d3)) q1 (by decide) 24 (.slice a4 I.sb.length d4)
        simp only [List.setIfInBounds_toArray, List.set_cons_zero, List.set_cons_succ] at q2
        have qz := (Below.heap_setCell (w4.setCell ⟨w.heap.size, 19, none⟩ (.slice a3 I.bd.length d3)) ⟨w.heap.size, 24, none⟩ (.slice a4 I.sb.length d4) (w.heap.size + 1) (by simp)).trans ((Below.heap_setCell w4 ⟨w.heap.size, 19, none⟩ (.slice a3 I.bd.length d3) (w.heap.size + 1) (by simp)).trans HZ4.out)
        exact ⟨a3, d3, a4, d4, q2, qz, r0, r1, r2, r3, r4, (HX4.out.setCell (p := ⟨w.heap.size, 19, none⟩) (Nat.le_refl _) _).setCell (p := ⟨w.heap.size, 24, none⟩) (Nat.le_refl _) _, HD1.out, HD2.out⟩
    · skip
      go_simp
      skip
      refine hK.out _ _ (by first | (dsimp only; simp [go_sem, *]; done) | (simp [go_sem, *])) (fun hHeld => ?_)
      clear hK K
      (try simp only [List.getElem_toArray, List.getElem_cons_succ, List.getElem_cons_zero, Act.put, List.setIfInBounds_toArray, List.set_cons_zero, List.set_cons_succ])
      refine wpAnyH_ready (rs := [1]) (by kernel_rfl) (by simp) ?_
      refine AllReadyH.cons rfl (fun K hK => ?_) AllReadyH.nil
      go_simp
      skip
      refine hK.out _ _ (by first | (dsimp only; simp [go_sem, *]; done) | (simp [go_sem, *])) (fun hHeld => ?_)
      clear hK K
      (try simp only [List.getElem_toArray, List.getElem_cons_succ, List.getElem_cons_zero, Act.put, List.setIfInBounds_toArray, List.set_cons_zero, List.set_cons_succ])
      refine wpAnyH_ready (rs := [2]) (by kernel_rfl) (by simp) ?_
      refine AllReadyH.cons rfl (fun K hK => ?_) AllReadyH.nil
      go_simp
      (go_at_call 31; refine (sclone_int _ _ I.bd (L3.out.ext (HX.out.trans (by repeat (first | exact Ext.refl _ | refine Ext.drew ?_ | refine Ext.drewN ?_ _ | refine Ext.alloc ?_ _)))) HG.out.n3 HG.out.o3).mono ?_; rintro e w3 ⟨kq, rfl, hownq, hbq, hnq⟩; obtain ⟨a3, d3, rfl⟩ := list_sl (own_list hownq); have HD1 := Lib.hid (own_apart HO1.out hownq (by have := (show Ext w5 _ from (by repeat (first | exact Ext.refl _ | refine Ext.drew ?_ | refine Ext.drewN ?_ _ | refine Ext.alloc ?_ _))).size; exact this)); have HD2 := Lib.hid (own_apart HO2.out hownq (by have := (show Ext w5 _ from (by repeat (first | exact Ext.refl _ | refine Ext.drew ?_ | refine Ext.drewN ?_ _ | refine Ext.alloc ?_ _))).size; exact this)); clear hnq; have hxq : Ext w5 w3 := (Ext.trans (by repeat (first | exact Ext.refl _ | refine Ext.drew ?_ | refine Ext.drewN ?_ _ | refine Ext.alloc ?_ _)) hbq); have hblkq := (hxq.block w.heap.size lp).trans HB.out; have hzq := (hxq.block (w.heap.size + 1) lz).trans HZ.out; have e19 := Lib.cell_of_heap hblkq 19; have e24 := Lib.cell_of_heap hblkq 24; simp only [List.getElem?_toArray, List.getElem?_cons_succ, List.getElem?_cons_zero] at e19 e24; have HP3 := Lib.hid (own_up hownq (b' := w.heap.size) (by have := HX.out.size; simp; omega)); have HX3 := Lib.hid (HX.out.trans hxq); have HQ0 := Lib.hid (own_ext HO0.out hxq); have HQ1 := Lib.hid (own_ext HO1.out hxq); have HQ2 := Lib.hid (own_ext HO2.out hxq); have HB3 := Lib.hid hblkq; have HZ3 := Lib.hid hzq; have lz3 := (Array.getElem?_eq_some_iff.1 hzq).1; have lp3 := cell_lt e19; clear hownq hbq hblkq hxq hzq)
      refine hK.out _ _ (by first | (dsimp only; simp [go_sem, *]; done) | (simp [go_sem, *])) (fun hHeld => ?_)
      clear hK K
      (try simp only [List.getElem_toArray, List.getElem_cons_succ, List.getElem_cons_zero, Act.put, List.setIfInBounds_toArray, List.set_cons_zero, List.set_cons_succ])
      refine wpAnyH_take (i := 6) (v := ?v47) rfl (by kernel_rfl) (by kernel_rfl) (by kernel_rfl) (fun _ _ _ h => h) (Or.inl ⟨by rfl, ?y47⟩) (by assumption) ?r47
      case y47 => ((intro w hSw; (try dsimp only at hSw); go_simp; (first | done | with_reducible rfl)))
      (try simp only [List.getElem_toArray, List.getElem_cons_succ, List.getElem_cons_zero, Act.put, List.setIfInBounds_toArray, List.set_cons_zero, List.set_cons_succ])
      refine wpAnyH_ready (rs := [5]) (by kernel_rfl) (by simp) ?_
      refine AllReadyH.cons rfl (fun K hK => ?_) AllReadyH.nil
      go_simp
      (go_at_call 32; refine (sclone_bool _ _ I.sb (L4.out.ext (HX3.out.trans (by repeat (first | exact Ext.refl _ | refine Ext.drew ?_ | refine Ext.drewN ?_ _ | refine Ext.alloc ?_ _)))) HG.out.n4 HG.out.o4).mono ?_; rintro e w4 ⟨kq, rfl, hownq, hbq, hnq⟩; obtain ⟨a4, d4, rfl⟩ := list_sl (own_list hownq); clear hnq; have hxq : Ext w3 w4 := (Ext.trans (by repeat (first | exact Ext.refl _ | refine Ext.drew ?_ | refine Ext.drewN ?_ _ | refine Ext.alloc ?_ _)) hbq); have hblkq := (hxq.block w.heap.size lp3).trans HB3.out; have hzq := (hxq.block (w.heap.size + 1) lz3).trans HZ3.out; have e19 := Lib.cell_of_heap hblkq 19; have e24 := Lib.cell_of_heap hblkq 24; simp only [List.getElem?_toArray, List.getElem?_cons_succ, List.getElem?_cons_zero] at e19 e24; have HP4 := Lib.hid (own_up hownq (b' := w.heap.size) (by have := HX3.out.size; simp; omega)); have z19 := Lib.frozen_of_heap hblkq 19; have z24 := Lib.frozen_of_heap hblkq 24; have HX4 := Lib.hid (HX3.out.trans hxq); have HR0 := Lib.hid (own_ext HQ0.out hxq); have HR1 := Lib.hid (own_ext HQ1.out hxq); have HR2 := Lib.hid (own_ext HQ2.out hxq); have HR3 := Lib.hid (own_ext HP3.out hxq); have HR4 := HP4; have HB4 := Lib.hid hblkq; have HZ4 := Lib.hid hzq; clear hownq hbq hblkq hxq hzq)
      refine hK.out _ _ (by first | (dsimp only; simp [go_sem, *]; done) | (simp [go_sem, *])) (fun hHeld => ?_)
      clear hK K
      (try simp only [List.getElem_toArray, List.getElem_cons_succ, List.getElem_cons_zero, Act.put, List.setIfInBounds_toArray, List.set_cons_zero, List.set_cons_succ])
      refine wpAnyH_ready (rs := [7]) (by kernel_rfl) (by simp) ?_
      refine AllReadyH.cons rfl (fun K hK => ?_) AllReadyH.nil
      go_simp
      skip
      refine hK.out _ _ (by first | (dsimp only; simp [go_sem, *]; done) | (simp [go_sem, *])) (fun hHeld => ?_)
      clear hK K
      (try simp only [List.getElem_toArray, List.getElem_cons_succ, List.getElem_cons_zero, Act.put, List.setIfInBounds_toArray, List.set_cons_zero, List.set_cons_succ])
      refine wpAnyH_take (i := 8) (v := ?v48) rfl (by kernel_rfl) (by kernel_rfl) (by kernel_rfl) (fun _ _ _ h => h) (Or.inl ⟨by rfl, ?y48⟩) (by assumption) ?r48
      case y48 => ((intro w hSw; (try dsimp only at hSw); go_simp; (first | done | with_reducible rfl)))
      (try simp only [List.getElem_toArray, List.getElem_cons_succ, List.getElem_cons_zero, Act.put, List.setIfInBounds_toArray, List.set_cons_zero, List.set_cons_succ])
      refine wpAnyH_ready (rs := [9]) (by kernel_rfl) (by simp) ?_
      refine AllReadyH.cons rfl (fun K hK => ?_) AllReadyH.nil
      go_simp
      skip
      refine hK.out _ _ (by first | (dsimp only; simp [go_sem, *]; done) | (simp [go_sem, *])) (fun hHeld => ?_)
      clear hK K
      (try simp only [List.getElem_toArray, List.getElem_cons_succ, List.getElem_cons_zero, Act.put, List.setIfInBounds_toArray, List.set_cons_zero, List.set_cons_succ])
      refine wpAnyH_done (by kernel_rfl) ?_ _
      go_wp2_with fail
      go_meet
      have q1 := cell_put HB4.out 19 (.slice a3 I.bd.length d3)
      have q2 := cell_put q1 24 (.slice a4 I.sb.length d4)
      have r0 := own_put (own_put HR0.out HB4.out (by decide) 19 (.slice a3 I.bd.length d3)) q1 (by decide) 24 (.slice a4 I.sb.length d4)
      have r1 := own_put (own_put HR1.out HB4.out (by decide) 19 (.slice a3 I.bd.length d3)) q1 (by decide) 24 (.slice a4 I.sb.length d4)
      have r2 := own_put (own_put HR2.out HB4.out (by decide) 19 (.slice a3 I.bd.length d3)) q1 (by decide) 24 (.slice a4 I.sb.length d4)
      have r3 := own_put (own_put HR3.out HB4.out (by decide) 19 (.slice a3 I.bd.length d3)) q1 (by decide) 24 (.slice a4 I.sb.length d4)
      have r4 := own_put (own_put HR4.out HB4.out (by decide) 19 (.slice a3 I.bd.length d3)) q1 (by decide) 24 (.slice a4 I.sb.length d4)
      simp only [List.setIfInBounds_toArray, List.set_cons_zero, List.set_cons_succ] at q2
      have qz := (Below.heap_setCell (w4.setCell ⟨w.heap.size, 19, none⟩ (.slice a3 I.bd.length d3)) ⟨w.heap.size, 24, none⟩ (.slice a4 I.sb.length d4) (w.heap.size + 1) (by simp)).trans ((Below.heap_setCell w4 ⟨w.heap.size, 19, none⟩ (.slice a3 I.bd.length d3) (w.heap.size + 1) (by simp)).trans HZ4.out)
      exact ⟨a3, d3, a4, d4, q2, qz, r0, r1, r2, r3, r4, (HX4.out.setCell (p := ⟨w.heap.size, 19, none⟩) (Nat.le_refl _) _).setCell (p := ⟨w.heap.size, 24, none⟩) (Nat.le_refl _) _, HD1.out, HD2.out⟩
  case rest =>
  obtain ⟨a3, d3, a4, d4, hblk, hz, o0, o1, o2, o3, o4, hx, hd1, hd2⟩ := hcut
  have HD1 := Lib.hid hd1
  have HD2 := Lib.hid hd2
  clear hd1 hd2
  obtain ⟨w6, rfl⟩ : ∃ w6, w6 = wc := ⟨_, rfl⟩
  have HB := Lib.hid hblk
  have HZ := Lib.hid hz
  have HX := Lib.hid hx
  have HOW := Lib.hid (InOwn.mk (I := I) o0 o1 o2 o3 o4 (fun h => HN1.out (HNN.out h)) HD1.out HD2.out)
  clear o0 o1 o2 o3 o4 hblk hz hx
  go_wp2_with (first | (refine wpList_load_mid rfl _ _ rfl w.heap.size 0 rfl (List.drop 0 [.int .i64 1, .int .i64 0, .int .i64 0, .int .i64 0, .int .i64 0, .int .i64 0, .int .i64 0, .int .i64 0, .int .i64 0, .int .i64 0, .int .i64 I.c, .int .i64 I.k, .int .i64 I.s, .int .i64 I.o, .slice a0 I.bat.length d0, .int .i64 I.bw, .slice a1 I.bl.length d1, .slice a2 I.bf.length d2, .bool I.fr, .slice a3 I.bd.length d3, .bool false, .int .i64 I.age, .int .i64 I.kp, .int .i64 0, .slice a4 I.sb.length d4, .int .i64 I.ra, .int .i64 I.rb, .int .u8 0]) _ (in_range HB.out) Try.underlying34 rfl (by kernel_rfl) ?_) | (refine wpList_store_mid rfl _ _ _ rfl (w.heap.size + 1) 0 #[.int .i64 1, .int .i64 0, .int .i64 0, .int .i64 0, .int .i64 0, .int .i64 0, .int .i64 0, .int .i64 0, .int .i64 0, .int .i64 0, .int .i64 I.c, .int .i64 I.k, .int .i64 I.s, .int .i64 I.o, .slice a0 I.bat.length d0, .int .i64 I.bw, .slice a1 I.bl.length d1, .slice a2 I.bf.length d2, .bool I.fr, .slice a3 I.bd.length d3, .bool false, .int .i64 I.age, .int .i64 I.kp, .int .i64 0, .slice a4 I.sb.length d4, .int .i64 I.ra, .int .i64 I.rb, .int .u8 0] rfl rfl (in_there HZ.out rfl) (by kernel_rfl) (by simp [Value.oneCell']) ?_))
  have hblk7 := setCells_whole (c' := #[.int .i64 1, .int .i64 0, .int .i64 0, .int .i64 0, .int .i64 0, .int .i64 0, .int .i64 0, .int .i64 0, .int .i64 0, .int .i64 0, .int .i64 I.c, .int .i64 I.k, .int .i64 I.s, .int .i64 I.o, .slice a0 I.bat.length d0, .int .i64 I.bw, .slice a1 I.bl.length d1, .slice a2 I.bf.length d2, .bool I.fr, .slice a3 I.bd.length d3, .bool false, .int .i64 I.age, .int .i64 I.kp, .int .i64 0, .slice a4 I.sb.length d4, .int .i64 I.ra, .int .i64 I.rb, .int .u8 0]) HZ.out rfl
  have hx7 := setCells_ext (w0 := w) (w.heap.size + 1) (by omega) (#[.int .i64 1, .int .i64 0, .int .i64 0, .int .i64 0, .int .i64 0, .int .i64 0, .int .i64 0, .int .i64 0, .int .i64 0, .int .i64 0, .int .i64 I.c, .int .i64 I.k, .int .i64 I.s, .int .i64 I.o, .slice a0 I.bat.length d0, .int .i64 I.bw, .slice a1 I.bl.length d1, .slice a2 I.bf.length d2, .bool I.fr, .slice a3 I.bd.length d3, .bool false, .int .i64 I.age, .int .i64 I.kp, .int .i64 0, .slice a4 I.sb.length d4, .int .i64 I.ra, .int .i64 I.rb, .int .u8 0] : Array Value).toList 0 w6 HX.out
  have ho7 : InOwn w.heap.size (w6.setCells (w.heap.size + 1) 0 (#[.int .i64 1, .int .i64 0, .int .i64 0, .int .i64 0, .int .i64 0, .int .i64 0, .int .i64 0, .int .i64 0, .int .i64 0, .int .i64 0, .int .i64 I.c, .int .i64 I.k, .int .i64 I.s, .int .i64 I.o, .slice a0 I.bat.length d0, .int .i64 I.bw, .slice a1 I.bl.length d1, .slice a2 I.bf.length d2, .bool I.fr, .slice a3 I.bd.length d3, .bool false, .int .i64 I.age, .int .i64 I.kp, .int .i64 0, .slice a4 I.sb.length d4, .int .i64 I.ra, .int .i64 I.rb, .int .u8 0] : Array Value).toList) I (.slice a0 I.bat.length d0) (.slice a1 I.bl.length d1) (.slice a2 I.bf.length d2) (.slice a3 I.bd.length d3) (.slice a4 I.sb.length d4) := ⟨own_setCells HOW.out.l0 (by decide) _ 0 HZ.out, own_setCells HOW.out.l1 (by decide) _ 0 HZ.out, own_setCells HOW.out.l2 (by decide) _ 0 HZ.out, own_setCells HOW.out.l3 (by decide) _ 0 HZ.out, own_setCells HOW.out.l4 (by decide) _ 0 HZ.out, HOW.out.n1, HOW.out.d1, HOW.out.d2⟩
  simp only [List.drop_zero] at hblk7 hx7 ho7 ⊢
  generalize w6.setCells (w.heap.size + 1) 0 _ = w7 at hblk7 hx7 ho7 ⊢
  (try simp only [Exit.inBlock, Exit.then])
  refine bodyPost_ret (results_cell_row rfl _ _ (w.heap.size + 1) _ _ _ _ rfl hblk7 Try.underlying34 rfl (by kernel_rfl)) rfl ?_
  exact ⟨_, _, _, _, _, rfl, ho7, hx7⟩

end Go.Proofs.Ytpeabgfolpgfjaa

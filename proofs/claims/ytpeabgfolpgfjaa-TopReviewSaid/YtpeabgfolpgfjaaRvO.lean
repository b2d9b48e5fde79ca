/-
  spell.Ball.
-/
import Derived.Test.YtpeabgfolpgfjaaRvM
import Derived.Test.YtpeabgfolpgfjaaRvC2
namespace Go.Proofs.Ytpeabgfolpgfjaa
open Go.RowKit Go.Lib
set_option linter.unusedSimpArgs false

set_option maxHeartbeats 8000000 in
set_option maxRecDepth 20000 in
theorem sball_first (w : World) (n : Int) (hn : 0 ≤ n ∧ n ≤ 9) (I : In) (h0 h1 h2 h3 h4 : Value) (hA : InAt w I h0 h1 h2 h3 h4) (hI : I.Ok) (hw : I.bw = 1) (hbl : I.bl = []) (hk : I.k ≤ 6) (m : Int) (hm : 0 ≤ m ∧ m ≤ 8) (hbd : I.bd = [.int .i64 m, .int .i64 0, .int .i64 0]) :
    Calls Try.prog 70 #[.agg (rvC n), .agg (inC I h0 h1 h2 h3 h4), .bool true] w fun e w' => ∃ k0 k1 k2 k3 k4, e = .returned (.tuple #[.agg (inC { I with bl := [.int .i64 1], bd := [.int .i64 (m + 1), .int .i64 0, .int .i64 0], k := I.k + 1, age := I.age + 1 } k0 k1 k2 k3 k4), .bool false]) ∧ InOwn w.heap.size w' { I with bl := [.int .i64 1], bd := [.int .i64 (m + 1), .int .i64 0, .int .i64 0], k := I.k + 1, age := I.age + 1 } k0 k1 k2 k3 k4 ∧ Ext w w' := by
  have L := Lib.hid hA
  have HI := Lib.hid hI
  have HN := Lib.hid hn
  have HW := Lib.hid hw
  have HBL := Lib.hid hbl
  have HBD := Lib.hid hbd
  have hk0 := hI.k
  have ha0 := hI.age
  have hc0 := hI.c
  have ewm : IntKind.i64.wrap (m + 1) = m + 1 := IntWalk.i64_in _ (by omega)
  have ewk : IntKind.i64.wrap (I.k + 1) = I.k + 1 := IntWalk.i64_in _ (by omega)
  have ewa : IntKind.i64.wrap (I.age + 1) = I.age + 1 := IntWalk.i64_in _ (by omega)
  have ewc : IntKind.i64.wrap (I.c + 1) = I.c + 1 := IntWalk.i64_in _ (by omega)
  have hcmp : I.k + 1 < 8 := by omega
  obtain ⟨i0, hi, hz0, hz1, hz2⟩ := info_parts info_int
  clear hA hI hw hbl hbd hk hk0 ha0 hc0 hm hn
  go_enter Try.func70, Try.ntmps70
  go_upto_region 1 with fail
  obtain ⟨w0, hw0⟩ : ∃ W, W = (((w.alloc (.cells (rvC n) 25)).alloc (.cells (inC I h0 h1 h2 h3 h4) 34)).alloc (.cells #[.int .i64 0, .int .i64 0, .int .i64 0, .int .i64 0, .int .i64 0, .int .i64 0, .int .i64 0, .int .i64 0, .int .i64 0, .int .i64 0, .int .i64 0, .int .i64 0, .int .i64 0, .int .i64 0, .slice none 0 0, .int .i64 0, .slice none 0 0, .slice none 0 0, .bool false, .slice none 0 0, .bool false, .int .i64 0, .int .i64 0, .int .i64 0, .slice none 0 0, .int .i64 0, .int .i64 0, .int .u8 0] 34)) := ⟨_, rfl⟩
  have HX := Lib.hid (show Ext w w0 by rw [hw0]; exact (by repeat (first | exact Ext.refl _ | refine Ext.drew ?_ | refine Ext.drewN ?_ _ | refine Ext.alloc ?_ _)))
  have HB0 := Lib.hid (show BoxR w0 (w.heap.size) n by rw [hw0]; exact (BoxR.ext (show BoxR _ (w.heap.size) n from (by have := boxR_new w n; simpa using this)) (by repeat (first | exact Ext.refl _ | refine Ext.drew ?_ | refine Ext.drewN ?_ _ | refine Ext.alloc ?_ _))))
  have HB1 := Lib.hid (show BoxI w0 (w.heap.size + 1) I h0 h1 h2 h3 h4 by rw [hw0]; exact (BoxI.ext (show BoxI _ (w.heap.size + 1) I h0 h1 h2 h3 h4 from (by have := boxI_new (w.alloc (.cells (rvC n) 25)) I h0 h1 h2 h3 h4; simpa using this)) (by repeat (first | exact Ext.refl _ | refine Ext.drew ?_ | refine Ext.drewN ?_ _ | refine Ext.alloc ?_ _))))
  have HB2 := Lib.hid (show BoxZ w0 (w.heap.size + 2)  by rw [hw0]; exact (BoxZ.ext (show BoxZ _ (w.heap.size + 2)  from (by have := boxZ_new ((w.alloc (.cells (rvC n) 25)).alloc (.cells (inC I h0 h1 h2 h3 h4) 34)) ; simpa using this)) (by repeat (first | exact Ext.refl _ | refine Ext.drew ?_ | refine Ext.drewN ?_ _ | refine Ext.alloc ?_ _))))
  have lw0 : w.heap.size < w0.heap.size := HB0.out.lt
  have lw1 : w.heap.size + 1 < w0.heap.size := HB1.out.lt
  have lw2 : w.heap.size + 2 < w0.heap.size := HB2.out.lt
  have c0_4 := HB0.out.c4
  have c1_15 := HB1.out.c15
  rw [HW.out] at c1_15
  rw [← hw0]
  clear hw0
  go_upto_region 2 with (first | (with_reducible refine at_list ?_; first | go_skip | refine HB0.out.step (by first | rfl | kernel_rfl) rfl rfl ?_ | refine HB1.out.step (by first | rfl | kernel_rfl) rfl rfl ?_) | (go_at_call 64; refine (sown _ I h0 h1 h2 h3 h4 HI.out.good (L.out.ext (by repeat (first | exact HX.out | refine Ext.drew ?_ | refine Ext.drewN ?_ _ | refine Ext.alloc ?_ _)))).mono ?_; rintro e w1 ⟨k0, k1, k2, k3, k4, rfl, hown, hb⟩; have hup := Nat.le_of_lt lw0; have hx : Ext w0 w1 := Ext.trans (by repeat (first | exact Ext.refl _ | refine Ext.drew ?_ | refine Ext.drewN ?_ _ | refine Ext.alloc ?_ _)) hb; (replace HX := Lib.hid (HX.out.trans hx)); (replace HB0 := Lib.hid (HB0.out.ext hx)); (replace HB1 := Lib.hid (HB1.out.ext hx)); (replace HB2 := Lib.hid (HB2.out.ext hx)); (have lw0 : w.heap.size < w1.heap.size := HB0.out.lt); (have lw1 : w.heap.size + 1 < w1.heap.size := HB1.out.lt); (have lw2 : w.heap.size + 2 < w1.heap.size := HB2.out.lt); (replace c0_4 := HB0.out.c4); (replace c1_15 := HB1.out.c15); (rw [HW.out] at c1_15); have HO := Lib.hid (hown.up hup); clear hx hb hown) | (with_reducible refine at_list ?_; refine st_old HB2.out HO.out.at rfl rfl rfl rfl ?_; intro w2 hbox hg; have HP := Lib.hid hbox; replace HO := Lib.hid (HO.out.kept HB2.out hg); replace HX := Lib.hid (ext_grown HX.out hg (fun k hk => by injection hk with hk; omega)); (replace HB0 := Lib.hid (HB0.out.grown hg (by omega))); (replace HB1 := Lib.hid (HB1.out.grown hg (by omega))); (have lw0 : w.heap.size < w2.heap.size := HB0.out.lt); (have lw1 : w.heap.size + 1 < w2.heap.size := HB1.out.lt); (replace c0_4 := HB0.out.c4); (replace c1_15 := HB1.out.c15); (rw [HW.out] at c1_15); clear HB2 hbox hg))
  obtain ⟨p, hp⟩ : ∃ q, q = w.heap.size + 2 := ⟨_, rfl⟩
  rw [← hp] at HP ⊢
  have np0 : w.heap.size ≠ p := by omega
  have np1 : w.heap.size + 1 ≠ p := by omega
  have bp : w.heap.size < p := by omega
  clear hp
  go_upto_region 4 with (first | (with_reducible refine at_list ?_; first | go_skip | refine HB0.out.step (by first | rfl | kernel_rfl) rfl rfl ?_ | refine HB1.out.step (by first | rfl | kernel_rfl) rfl rfl ?_) | ((fail_if_success (have hzz := hk3)); go_at_call 84; refine (sknown_yes _ I h0 h1 h2 h3 h4 (L.out.ext (by repeat (first | exact HX.out | refine Ext.drew ?_ | refine Ext.drewN ?_ _ | refine Ext.alloc ?_ _))) HI.out.bdl _ (by decide)).mono ?_; rintro e w3 ⟨rfl, hb⟩; (have hx : Ext w2 w3 := Ext.trans (by repeat (first | exact Ext.refl _ | refine Ext.drew ?_ | refine Ext.drewN ?_ _ | refine Ext.alloc ?_ _)) hb); (replace HX := Lib.hid (HX.out.trans hx)); (replace HB0 := Lib.hid (HB0.out.ext hx)); (replace HB1 := Lib.hid (HB1.out.ext hx)); (have lw0 : w.heap.size < w3.heap.size := HB0.out.lt); (have lw1 : w.heap.size + 1 < w3.heap.size := HB1.out.lt); (replace HP := Lib.hid (HP.out.ext hx)); (replace HO := Lib.hid (HO.out.ext hx)); (replace c0_4 := HB0.out.c4); (replace c1_15 := HB1.out.c15); (rw [HW.out] at c1_15); (have hk3 : True := trivial); (clear hx hb)) | ((fail_if_success (have hzz := hk4)); go_at_call 21; refine (rvchk n HN.out _).mono ?_; rintro e w4 ⟨rfl, hb⟩; (have hx : Ext w3 w4 := Ext.trans (by repeat (first | exact Ext.refl _ | refine Ext.drew ?_ | refine Ext.drewN ?_ _ | refine Ext.alloc ?_ _)) hb); (replace HX := Lib.hid (HX.out.trans hx)); (replace HB0 := Lib.hid (HB0.out.ext hx)); (replace HB1 := Lib.hid (HB1.out.ext hx)); (have lw0 : w.heap.size < w4.heap.size := HB0.out.lt); (have lw1 : w.heap.size + 1 < w4.heap.size := HB1.out.lt); (replace HP := Lib.hid (HP.out.ext hx)); (replace HO := Lib.hid (HO.out.ext hx)); (replace c0_4 := HB0.out.c4); (replace c1_15 := HB1.out.c15); (rw [HW.out] at c1_15); (have hk4 : True := trivial); (clear hx hb)))
  have cp_16 := HP.out.c16
  have zp_16 := HP.out.fz 16
  have HLK : Hid (ListAt w4 k1 []) := by have := own_list HO.out.l1; rwa [HBL.out] at this
  go_upto_region 5 with (go_at_call 54; refine (coni_nil _ _ _ HLK.out).mono ?_; rintro e w' ⟨rfl, hww⟩; replace hww := hww.symm; subst hww)
  have hk1 := HO.out.n1 HBL.out
  subst hk1
  clear HLK
  go_upto_region 6 with (at_builtin; refine wpList_append_own _ rfl _ _ 29 rfl w4.heap.size 3 i0 (.int .i64 0) 1 8 Try.underlying29 hi hz0 hz1 hz2 rfl (by decide) _ 0 [] rfl (World.ownsRow_nil _ _ _ _) ⟨w4.heap.size, 0, none⟩ 1 1 [.int .i64 1] rfl rfl ?qc1 ?qc2 ?qc3 ?qc4 ?qc5 ?_)
  case qc1 => exact cell_one_new _ _ _
  case qc2 => intro u hu; simp at hu; subst hu; rfl
  case qc3 => unfold maxLen; omega
  case qc4 => omega
  case qc5 => simp
  intro v' w5 hown' hgrow _
  replace hown' : w5.ownsRow w4.heap.size 3 1 v' 1 [.int .i64 1] := hown'
  obtain ⟨gn, cn, rfl, _, _⟩ := own_form hown' (by decide)
  have hx : Ext w4 w5 := ext_grown ((Ext.refl w4).alloc _) hgrow (fun k hk => by cases hk)
  have hw4 : w.heap.size ≤ w4.heap.size := by omega
  have hap := own_apart HO.out.l3 hown' (Nat.le_refl _)
  have hap' : Value.ownBlock (.slice (some ⟨gn, 0, none⟩) 1 cn) = none ∨ Value.ownBlock (.slice (some ⟨gn, 0, none⟩) 1 cn) ≠ k3.ownBlock := by
    rcases hap with h | h
    · exact .inr (fun e => by rw [h] at e; cases e)
    · exact .inr (Ne.symm h)
  replace HX := Lib.hid (HX.out.trans hx)
  replace HB0 := Lib.hid (HB0.out.ext hx)
  replace HB1 := Lib.hid (HB1.out.ext hx)
  have lw0 : w.heap.size < w5.heap.size := HB0.out.lt
  have lw1 : w.heap.size + 1 < w5.heap.size := HB1.out.lt
  replace HP := Lib.hid (HP.out.ext hx)
  replace HO := Lib.hid (HO.out.ext hx)
  replace c0_4 := HB0.out.c4
  replace c1_15 := HB1.out.c15
  rw [HW.out] at c1_15
  replace cp_16 := HP.out.c16
  replace zp_16 := HP.out.fz 16
  have hO := HO.out
  replace HO : Hid (InOwn w.heap.size w5 { I with bl := [.int .i64 1] } k0 (.slice (some ⟨gn, 0, none⟩) 1 cn) k2 k3 k4) := Lib.hid ⟨hO.l0, own_up hown' hw4, hO.l2, hO.l3, hO.l4, fun h => by simp at h, hap', hO.d2⟩
  clear hx hO hown' hgrow hap hap' hw4
  go_upto_region 6 with fail
  have q1 := HP.out.set16 (.slice (some ⟨gn, 0, none⟩) 1 cn) [.int .i64 1]
  have g1 := grown_setCell w5 p 16 (.slice (some ⟨gn, 0, none⟩) 1 cn)
  have o1 := HO.out.kept HP.out.z g1
  have g := g1
  obtain ⟨w6, hw⟩ : ∃ W, W = (w5.setCell ⟨p, 16, none⟩ (.slice (some ⟨gn, 0, none⟩) 1 cn)) := ⟨_, rfl⟩
  rw [← hw] at q1 o1 g ⊢
  replace HX := Lib.hid (ext_grown HX.out g (fun k hk => by injection hk with hk; omega))
  replace HP := Lib.hid q1
  replace HO := Lib.hid o1
  replace HB0 := Lib.hid (HB0.out.grown g np0)
  replace HB1 := Lib.hid (HB1.out.grown g np1)
  have lw0 : w.heap.size < w6.heap.size := HB0.out.lt
  have lw1 : w.heap.size + 1 < w6.heap.size := HB1.out.lt
  replace c0_4 := HB0.out.c4
  replace c1_15 := HB1.out.c15
  rw [HW.out] at c1_15
  replace cp_16 := HP.out.c16
  replace zp_16 := HP.out.fz 16
  clear hw g g1  q1 o1
  have o3 := HO.out.l3
  simp only [HBD.out] at o3
  obtain ⟨g, cap, rfl, hgb, hgl⟩ := own_form o3 (by simp)
  simp only [List.length_cons, List.length_nil, Nat.zero_add, Nat.reduceAdd] at o3 HO HP ⊢
  obtain ⟨cc, hcur⟩ := own_blk o3
  have ngp := blk_ne hcur HP.out (by decide)
  have ng0 := blk_ne hcur HB0.out (by decide)
  have ng1 := blk_ne hcur HB1.out (by decide)
  have cp_19 := HP.out.c19
  have q0 := o3.cellAt 0 (by decide)
  have z0 := o3.frozenAt 0
  simp only [List.getElem?_cons_zero] at q0
  go_upto_region 8 with fail
  obtain ⟨s3, gg⟩ := o3.stored 0 (.int .i64 (m + 1))
  replace s3 : (w6.setCell ⟨g, 0, none⟩ (.int .i64 (m + 1))).ownsRow w.heap.size 3 1 (.slice (some ⟨g, 0, none⟩) 3 cap) 3 [.int .i64 (m + 1), .int .i64 0, .int .i64 0] := s3
  obtain ⟨w7, hw⟩ : ∃ W, W = w6.setCell ⟨g, 0, none⟩ (.int .i64 (m + 1)) := ⟨_, rfl⟩
  rw [← hw] at gg s3 ⊢
  have hO := HO.out
  replace HO : Hid (InOwn w.heap.size w7 { I with bl := [.int .i64 1], bd := [.int .i64 (m + 1), .int .i64 0, .int .i64 0] } k0 (.slice (some ⟨gn, 0, none⟩) 1 cn) k2 (.slice (some ⟨g, 0, none⟩) 3 cap) k4) := Lib.hid ⟨own_far hO.l0 hcur (by decide) gg, hO.l1.kept gg hO.d1, hO.l2.kept gg hO.d2, s3, own_far hO.l4 hcur (by decide) gg, fun h => by simp at h, hO.d1, hO.d2⟩
  replace HX := Lib.hid (ext_grown HX.out gg (fun k hk => by injection hk with hk; omega))
  replace HP : Hid (BoxI w7 p { I with bl := [.int .i64 1], bd := [.int .i64 (m + 1), .int .i64 0, .int .i64 0] } k0 (.slice (some ⟨gn, 0, none⟩) 1 cn) k2 (.slice (some ⟨g, 0, none⟩) 3 cap) k4) := Lib.hid (((HP.out.grown gg ngp).as_bl [.int .i64 1]).as_bd [.int .i64 (m + 1), .int .i64 0, .int .i64 0])
  replace HB0 := Lib.hid (HB0.out.grown gg ng0)
  replace HB1 := Lib.hid (HB1.out.grown gg ng1)
  have lw0 : w.heap.size < w7.heap.size := HB0.out.lt
  have lw1 : w.heap.size + 1 < w7.heap.size := HB1.out.lt
  replace c0_4 := HB0.out.c4
  clear hw gg s3 o3 hO hcur cp_19 q0 z0 c1_15
  have cp_11 := HP.out.c11
  have cp_21 := HP.out.c21
  have zp_11 := HP.out.fz 11
  have zp_21 := HP.out.fz 21
  go_upto_region 10 with fail
  have q1 : BoxI (w7.setCell ⟨p, 11, none⟩ (.int .i64 (I.k + 1))) p { I with bl := [.int .i64 1], bd := [.int .i64 (m + 1), .int .i64 0, .int .i64 0], k := I.k + 1 } k0 (.slice (some ⟨gn, 0, none⟩) 1 cn) k2 (.slice (some ⟨g, 0, none⟩) 3 cap) k4 := HP.out.set11 (I.k + 1)
  have g1 := grown_setCell w7 p 11 (.int .i64 (I.k + 1))
  have o1 := HO.out.kept HP.out.z g1
  have q2 : BoxI ((w7.setCell ⟨p, 11, none⟩ (.int .i64 (I.k + 1))).setCell ⟨p, 21, none⟩ (.int .i64 (I.age + 1))) p { I with bl := [.int .i64 1], bd := [.int .i64 (m + 1), .int .i64 0, .int .i64 0], k := I.k + 1, age := I.age + 1 } k0 (.slice (some ⟨gn, 0, none⟩) 1 cn) k2 (.slice (some ⟨g, 0, none⟩) 3 cap) k4 := q1.set21 (I.age + 1)
  have g2 := grown_setCell (w7.setCell ⟨p, 11, none⟩ (.int .i64 (I.k + 1))) p 21 (.int .i64 (I.age + 1))
  have o2 := o1.kept q1.z g2
  have g := (g1.trans g2)
  obtain ⟨w8, hw⟩ : ∃ W, W = ((w7.setCell ⟨p, 11, none⟩ (.int .i64 (I.k + 1))).setCell ⟨p, 21, none⟩ (.int .i64 (I.age + 1))) := ⟨_, rfl⟩
  rw [← hw] at q2 o2 g ⊢
  replace HX := Lib.hid (ext_grown HX.out g (fun k hk => by injection hk with hk; omega))
  replace HP := Lib.hid q2
  replace HO := Lib.hid o2
  replace HB0 := Lib.hid (HB0.out.grown g np0)
  replace HB1 := Lib.hid (HB1.out.grown g np1)
  have lw0 : w.heap.size < w8.heap.size := HB0.out.lt
  have lw1 : w.heap.size + 1 < w8.heap.size := HB1.out.lt
  replace c0_4 := HB0.out.c4
  replace cp_11 := HP.out.c11
  replace zp_11 := HP.out.fz 11
  clear hw g g1 g2 q1 o1 q2 o2
  go_wp2_with (first | (with_reducible refine at_list ?_; refine HP.out.step (by first | rfl | kernel_rfl) rfl rfl ?_) | (with_reducible refine at_list ?_; refine st_old HP.out.z (show InAt w8 { I with bl := [.int .i64 1], bd := [.int .i64 (m + 1), .int .i64 0, .int .i64 0], k := I.k + 1, age := I.age + 1 } k0 (.slice (some ⟨gn, 0, none⟩) 1 cn) k2 (.slice (some ⟨g, 0, none⟩) 3 cap) k4 from ⟨HO.out.at.l0, HO.out.at.l1, HO.out.at.l2, HO.out.at.l3, HO.out.at.l4, HO.out.at.n1⟩) rfl rfl rfl rfl ?_; intro w9 hbox hg; have HR := Lib.hid hbox; replace HO := Lib.hid (HO.out.kept HP.out.z hg); replace HX := Lib.hid (ext_grown HX.out hg (fun k hk => by injection hk with hk; omega)); clear hbox hg))
  (try simp only [Exit.inBlock, Exit.then])
  refine BoxI.ret rfl HR.out rfl rfl ?_
  have hA := HO.out
  exact ⟨_, _, _, _, _, rfl, ⟨hA.l0, hA.l1, hA.l2, hA.l3, hA.l4, hA.n1, hA.d1, hA.d2⟩, HX.out⟩

set_option maxHeartbeats 8000000 in
set_option maxRecDepth 20000 in
theorem sball_next (w : World) (n : Int) (hn : 0 ≤ n ∧ n ≤ 9) (I : In) (h0 h1 h2 h3 h4 : Value) (hA : InAt w I h0 h1 h2 h3 h4) (hI : I.Ok) (hw : I.bw = 1) (hbl : I.bl = [.int .i64 1]) (hk : I.k ≤ 6) (m : Int) (hm : 0 ≤ m ∧ m ≤ 8) (hbd : I.bd = [.int .i64 m, .int .i64 0, .int .i64 0]) :
    Calls Try.prog 70 #[.agg (rvC n), .agg (inC I h0 h1 h2 h3 h4), .bool true] w fun e w' => ∃ k0 k1 k2 k3 k4, e = .returned (.tuple #[.agg (inC { I with bl := [.int .i64 1], bd := [.int .i64 (m + 1), .int .i64 0, .int .i64 0], k := I.k + 1, age := I.age + 1 } k0 k1 k2 k3 k4), .bool false]) ∧ InOwn w.heap.size w' { I with bl := [.int .i64 1], bd := [.int .i64 (m + 1), .int .i64 0, .int .i64 0], k := I.k + 1, age := I.age + 1 } k0 k1 k2 k3 k4 ∧ Ext w w' := by
  have L := Lib.hid hA
  have HI := Lib.hid hI
  have HN := Lib.hid hn
  have HW := Lib.hid hw
  have HBL := Lib.hid hbl
  have HBD := Lib.hid hbd
  have hk0 := hI.k
  have ha0 := hI.age
  have hc0 := hI.c
  have ewm : IntKind.i64.wrap (m + 1) = m + 1 := IntWalk.i64_in _ (by omega)
  have ewk : IntKind.i64.wrap (I.k + 1) = I.k + 1 := IntWalk.i64_in _ (by omega)
  have ewa : IntKind.i64.wrap (I.age + 1) = I.age + 1 := IntWalk.i64_in _ (by omega)
  have ewc : IntKind.i64.wrap (I.c + 1) = I.c + 1 := IntWalk.i64_in _ (by omega)
  have hcmp : I.k + 1 < 8 := by omega
  obtain ⟨i0, hi, hz0, hz1, hz2⟩ := info_parts info_int
  clear hA hI hw hbl hbd hk hk0 ha0 hc0 hm hn
  go_enter Try.func70, Try.ntmps70
  go_upto_region 1 with fail
  obtain ⟨w0, hw0⟩ : ∃ W, W = (((w.alloc (.cells (rvC n) 25)).alloc (.cells (inC I h0 h1 h2 h3 h4) 34)).alloc (.cells #[.int .i64 0, .int .i64 0, .int .i64 0, .int .i64 0, .int .i64 0, .int .i64 0, .int .i64 0, .int .i64 0, .int .i64 0, .int .i64 0, .int .i64 0, .int .i64 0, .int .i64 0, .int .i64 0, .slice none 0 0, .int .i64 0, .slice none 0 0, .slice none 0 0, .bool false, .slice none 0 0, .bool false, .int .i64 0, .int .i64 0, .int .i64 0, .slice none 0 0, .int .i64 0, .int .i64 0, .int .u8 0] 34)) := ⟨_, rfl⟩
  have HX := Lib.hid (show Ext w w0 by rw [hw0]; exact (by repeat (first | exact Ext.refl _ | refine Ext.drew ?_ | refine Ext.drewN ?_ _ | refine Ext.alloc ?_ _)))
  have HB0 := Lib.hid (show BoxR w0 (w.heap.size) n by rw [hw0]; exact (BoxR.ext (show BoxR _ (w.heap.size) n from (by have := boxR_new w n; simpa using this)) (by repeat (first | exact Ext.refl _ | refine Ext.drew ?_ | refine Ext.drewN ?_ _ | refine Ext.alloc ?_ _))))
  have HB1 := Lib.hid (show BoxI w0 (w.heap.size + 1) I h0 h1 h2 h3 h4 by rw [hw0]; exact (BoxI.ext (show BoxI _ (w.heap.size + 1) I h0 h1 h2 h3 h4 from (by have := boxI_new (w.alloc (.cells (rvC n) 25)) I h0 h1 h2 h3 h4; simpa using this)) (by repeat (first | exact Ext.refl _ | refine Ext.drew ?_ | refine Ext.drewN ?_ _ | refine Ext.alloc ?_ _))))
  have HB2 := Lib.hid (show BoxZ w0 (w.heap.size + 2)  by rw [hw0]; exact (BoxZ.ext (show BoxZ _ (w.heap.size + 2)  from (by have := boxZ_new ((w.alloc (.cells (rvC n) 25)).alloc (.cells (inC I h0 h1 h2 h3 h4) 34)) ; simpa using this)) (by repeat (first | exact Ext.refl _ | refine Ext.drew ?_ | refine Ext.drewN ?_ _ | refine Ext.alloc ?_ _))))
  have lw0 : w.heap.size < w0.heap.size := HB0.out.lt
  have lw1 : w.heap.size + 1 < w0.heap.size := HB1.out.lt
  have lw2 : w.heap.size + 2 < w0.heap.size := HB2.out.lt
  have c0_4 := HB0.out.c4
  have c1_15 := HB1.out.c15
  rw [HW.out] at c1_15
  rw [← hw0]
  clear hw0
  go_upto_region 2 with (first | (with_reducible refine at_list ?_; first | go_skip | refine HB0.out.step (by first | rfl | kernel_rfl) rfl rfl ?_ | refine HB1.out.step (by first | rfl | kernel_rfl) rfl rfl ?_) | (go_at_call 64; refine (sown _ I h0 h1 h2 h3 h4 HI.out.good (L.out.ext (by repeat (first | exact HX.out | refine Ext.drew ?_ | refine Ext.drewN ?_ _ | refine Ext.alloc ?_ _)))).mono ?_; rintro e w1 ⟨k0, k1, k2, k3, k4, rfl, hown, hb⟩; have hup := Nat.le_of_lt lw0; have hx : Ext w0 w1 := Ext.trans (by repeat (first | exact Ext.refl _ | refine Ext.drew ?_ | refine Ext.drewN ?_ _ | refine Ext.alloc ?_ _)) hb; (replace HX := Lib.hid (HX.out.trans hx)); (replace HB0 := Lib.hid (HB0.out.ext hx)); (replace HB1 := Lib.hid (HB1.out.ext hx)); (replace HB2 := Lib.hid (HB2.out.ext hx)); (have lw0 : w.heap.size < w1.heap.size := HB0.out.lt); (have lw1 : w.heap.size + 1 < w1.heap.size := HB1.out.lt); (have lw2 : w.heap.size + 2 < w1.heap.size := HB2.out.lt); (replace c0_4 := HB0.out.c4); (replace c1_15 := HB1.out.c15); (rw [HW.out] at c1_15); have HO := Lib.hid (hown.up hup); clear hx hb hown) | (with_reducible refine at_list ?_; refine st_old HB2.out HO.out.at rfl rfl rfl rfl ?_; intro w2 hbox hg; have HP := Lib.hid hbox; replace HO := Lib.hid (HO.out.kept HB2.out hg); replace HX := Lib.hid (ext_grown HX.out hg (fun k hk => by injection hk with hk; omega)); (replace HB0 := Lib.hid (HB0.out.grown hg (by omega))); (replace HB1 := Lib.hid (HB1.out.grown hg (by omega))); (have lw0 : w.heap.size < w2.heap.size := HB0.out.lt); (have lw1 : w.heap.size + 1 < w2.heap.size := HB1.out.lt); (replace c0_4 := HB0.out.c4); (replace c1_15 := HB1.out.c15); (rw [HW.out] at c1_15); clear HB2 hbox hg))
  obtain ⟨p, hp⟩ : ∃ q, q = w.heap.size + 2 := ⟨_, rfl⟩
  rw [← hp] at HP ⊢
  have np0 : w.heap.size ≠ p := by omega
  have np1 : w.heap.size + 1 ≠ p := by omega
  have bp : w.heap.size < p := by omega
  clear hp
  go_upto_region 4 with (first | (with_reducible refine at_list ?_; first | go_skip | refine HB0.out.step (by first | rfl | kernel_rfl) rfl rfl ?_ | refine HB1.out.step (by first | rfl | kernel_rfl) rfl rfl ?_) | ((fail_if_success (have hzz := hk3)); go_at_call 84; refine (sknown_yes _ I h0 h1 h2 h3 h4 (L.out.ext (by repeat (first | exact HX.out | refine Ext.drew ?_ | refine Ext.drewN ?_ _ | refine Ext.alloc ?_ _))) HI.out.bdl _ (by decide)).mono ?_; rintro e w3 ⟨rfl, hb⟩; (have hx : Ext w2 w3 := Ext.trans (by repeat (first | exact Ext.refl _ | refine Ext.drew ?_ | refine Ext.drewN ?_ _ | refine Ext.alloc ?_ _)) hb); (replace HX := Lib.hid (HX.out.trans hx)); (replace HB0 := Lib.hid (HB0.out.ext hx)); (replace HB1 := Lib.hid (HB1.out.ext hx)); (have lw0 : w.heap.size < w3.heap.size := HB0.out.lt); (have lw1 : w.heap.size + 1 < w3.heap.size := HB1.out.lt); (replace HP := Lib.hid (HP.out.ext hx)); (replace HO := Lib.hid (HO.out.ext hx)); (replace c0_4 := HB0.out.c4); (replace c1_15 := HB1.out.c15); (rw [HW.out] at c1_15); (have hk3 : True := trivial); (clear hx hb)) | ((fail_if_success (have hzz := hk4)); go_at_call 21; refine (rvchk n HN.out _).mono ?_; rintro e w4 ⟨rfl, hb⟩; (have hx : Ext w3 w4 := Ext.trans (by repeat (first | exact Ext.refl _ | refine Ext.drew ?_ | refine Ext.drewN ?_ _ | refine Ext.alloc ?_ _)) hb); (replace HX := Lib.hid (HX.out.trans hx)); (replace HB0 := Lib.hid (HB0.out.ext hx)); (replace HB1 := Lib.hid (HB1.out.ext hx)); (have lw0 : w.heap.size < w4.heap.size := HB0.out.lt); (have lw1 : w.heap.size + 1 < w4.heap.size := HB1.out.lt); (replace HP := Lib.hid (HP.out.ext hx)); (replace HO := Lib.hid (HO.out.ext hx)); (replace c0_4 := HB0.out.c4); (replace c1_15 := HB1.out.c15); (rw [HW.out] at c1_15); (have hk4 : True := trivial); (clear hx hb)))
  have cp_16 := HP.out.c16
  have zp_16 := HP.out.fz 16
  have HLK : Hid (ListAt w4 k1 [.int .i64 1]) := by have := own_list HO.out.l1; rwa [HBL.out] at this
  go_upto_region 6 with (go_at_call 54; refine (coni_one _ _ _ _ HLK.out).mono ?_; rintro e w' ⟨rfl, hww⟩; replace hww := hww.symm; subst hww)
  clear HLK
  have o3 := HO.out.l3
  simp only [HBD.out] at o3
  obtain ⟨g, cap, rfl, hgb, hgl⟩ := own_form o3 (by simp)
  simp only [List.length_cons, List.length_nil, Nat.zero_add, Nat.reduceAdd] at o3 HO HP ⊢
  obtain ⟨cc, hcur⟩ := own_blk o3
  have ngp := blk_ne hcur HP.out (by decide)
  have ng0 := blk_ne hcur HB0.out (by decide)
  have ng1 := blk_ne hcur HB1.out (by decide)
  have cp_19 := HP.out.c19
  have q0 := o3.cellAt 0 (by decide)
  have z0 := o3.frozenAt 0
  simp only [List.getElem?_cons_zero] at q0
  go_upto_region 8 with fail
  obtain ⟨s3, gg⟩ := o3.stored 0 (.int .i64 (m + 1))
  replace s3 : (w4.setCell ⟨g, 0, none⟩ (.int .i64 (m + 1))).ownsRow w.heap.size 3 1 (.slice (some ⟨g, 0, none⟩) 3 cap) 3 [.int .i64 (m + 1), .int .i64 0, .int .i64 0] := s3
  obtain ⟨w5, hw⟩ : ∃ W, W = w4.setCell ⟨g, 0, none⟩ (.int .i64 (m + 1)) := ⟨_, rfl⟩
  rw [← hw] at gg s3 ⊢
  have hO := HO.out
  replace HO : Hid (InOwn w.heap.size w5 { I with bl := [.int .i64 1], bd := [.int .i64 (m + 1), .int .i64 0, .int .i64 0] } k0 k1 k2 (.slice (some ⟨g, 0, none⟩) 3 cap) k4) := Lib.hid ⟨own_far hO.l0 hcur (by decide) gg, (show _ from by have h1 := hO.l1.kept gg hO.d1; rw [HBL.out] at h1; exact h1), hO.l2.kept gg hO.d2, s3, own_far hO.l4 hcur (by decide) gg, fun h => by simp at h, hO.d1, hO.d2⟩
  replace HX := Lib.hid (ext_grown HX.out gg (fun k hk => by injection hk with hk; omega))
  replace HP : Hid (BoxI w5 p { I with bl := [.int .i64 1], bd := [.int .i64 (m + 1), .int .i64 0, .int .i64 0] } k0 k1 k2 (.slice (some ⟨g, 0, none⟩) 3 cap) k4) := Lib.hid (((HP.out.grown gg ngp).as_bl [.int .i64 1]).as_bd [.int .i64 (m + 1), .int .i64 0, .int .i64 0])
  replace HB0 := Lib.hid (HB0.out.grown gg ng0)
  replace HB1 := Lib.hid (HB1.out.grown gg ng1)
  have lw0 : w.heap.size < w5.heap.size := HB0.out.lt
  have lw1 : w.heap.size + 1 < w5.heap.size := HB1.out.lt
  replace c0_4 := HB0.out.c4
  clear hw gg s3 o3 hO hcur cp_19 q0 z0 c1_15
  have cp_11 := HP.out.c11
  have cp_21 := HP.out.c21
  have zp_11 := HP.out.fz 11
  have zp_21 := HP.out.fz 21
  go_upto_region 10 with fail
  have q1 : BoxI (w5.setCell ⟨p, 11, none⟩ (.int .i64 (I.k + 1))) p { I with bl := [.int .i64 1], bd := [.int .i64 (m + 1), .int .i64 0, .int .i64 0], k := I.k + 1 } k0 k1 k2 (.slice (some ⟨g, 0, none⟩) 3 cap) k4 := HP.out.set11 (I.k + 1)
  have g1 := grown_setCell w5 p 11 (.int .i64 (I.k + 1))
  have o1 := HO.out.kept HP.out.z g1
  have q2 : BoxI ((w5.setCell ⟨p, 11, none⟩ (.int .i64 (I.k + 1))).setCell ⟨p, 21, none⟩ (.int .i64 (I.age + 1))) p { I with bl := [.int .i64 1], bd := [.int .i64 (m + 1), .int .i64 0, .int .i64 0], k := I.k + 1, age := I.age + 1 } k0 k1 k2 (.slice (some ⟨g, 0, none⟩) 3 cap) k4 := q1.set21 (I.age + 1)
  have g2 := grown_setCell (w5.setCell ⟨p, 11, none⟩ (.int .i64 (I.k + 1))) p 21 (.int .i64 (I.age + 1))
  have o2 := o1.kept q1.z g2
  have g := (g1.trans g2)
  obtain ⟨w6, hw⟩ : ∃ W, W = ((w5.setCell ⟨p, 11, none⟩ (.int .i64 (I.k + 1))).setCell ⟨p, 21, none⟩ (.int .i64 (I.age + 1))) := ⟨_, rfl⟩
  rw [← hw] at q2 o2 g ⊢
  replace HX := Lib.hid (ext_grown HX.out g (fun k hk => by injection hk with hk; omega))
  replace HP := Lib.hid q2
  replace HO := Lib.hid o2
  replace HB0 := Lib.hid (HB0.out.grown g np0)
  replace HB1 := Lib.hid (HB1.out.grown g np1)
  have lw0 : w.heap.size < w6.heap.size := HB0.out.lt
  have lw1 : w.heap.size + 1 < w6.heap.size := HB1.out.lt
  replace c0_4 := HB0.out.c4
  replace cp_11 := HP.out.c11
  replace zp_11 := HP.out.fz 11
  clear hw g g1 g2 q1 o1 q2 o2
  go_wp2_with (first | (with_reducible refine at_list ?_; refine HP.out.step (by first | rfl | kernel_rfl) rfl rfl ?_) | (with_reducible refine at_list ?_; refine st_old HP.out.z (show InAt w6 { I with bl := [.int .i64 1], bd := [.int .i64 (m + 1), .int .i64 0, .int .i64 0], k := I.k + 1, age := I.age + 1 } k0 k1 k2 (.slice (some ⟨g, 0, none⟩) 3 cap) k4 from ⟨HO.out.at.l0, HO.out.at.l1, HO.out.at.l2, HO.out.at.l3, HO.out.at.l4, HO.out.at.n1⟩) rfl rfl rfl rfl ?_; intro w7 hbox hg; have HR := Lib.hid hbox; replace HO := Lib.hid (HO.out.kept HP.out.z hg); replace HX := Lib.hid (ext_grown HX.out hg (fun k hk => by injection hk with hk; omega)); clear hbox hg))
  (try simp only [Exit.inBlock, Exit.then])
  refine BoxI.ret rfl HR.out rfl rfl ?_
  have hA := HO.out
  exact ⟨_, _, _, _, _, rfl, ⟨hA.l0, hA.l1, hA.l2, hA.l3, hA.l4, hA.n1, hA.d1, hA.d2⟩, HX.out⟩

set_option maxHeartbeats 8000000 in
set_option maxRecDepth 20000 in
theorem sball_last (w : World) (n : Int) (hn : 0 ≤ n ∧ n ≤ 9) (I : In) (h0 h1 h2 h3 h4 : Value) (hA : InAt w I h0 h1 h2 h3 h4) (hI : I.Ok) (hw : I.bw = 1) (hbl : I.bl = [.int .i64 1]) (hk : I.k = 7) (m : Int) (hm : 0 ≤ m ∧ m ≤ 8) (hbd : I.bd = [.int .i64 m, .int .i64 0, .int .i64 0]) :
    Calls Try.prog 70 #[.agg (rvC n), .agg (inC I h0 h1 h2 h3 h4), .bool true] w fun e w' => ∃ k0 k1 k2 k3 k4, e = .returned (.tuple #[.agg (inC { I with bl := [], bf := [.int .i64 1], bd := [.int .i64 (m + 1), .int .i64 0, .int .i64 0], k := 0, c := I.c + 1, age := I.age + 1, bw := 0 } k0 k1 k2 k3 k4), .bool true]) ∧ InOwn w.heap.size w' { I with bl := [], bf := [.int .i64 1], bd := [.int .i64 (m + 1), .int .i64 0, .int .i64 0], k := 0, c := I.c + 1, age := I.age + 1, bw := 0 } k0 k1 k2 k3 k4 ∧ Ext w w' := by
  have L := Lib.hid hA
  have HI := Lib.hid hI
  have HN := Lib.hid hn
  have HW := Lib.hid hw
  have HBL := Lib.hid hbl
  have HBD := Lib.hid hbd
  have hk0 := hI.k
  have ha0 := hI.age
  have hc0 := hI.c
  have ewm : IntKind.i64.wrap (m + 1) = m + 1 := IntWalk.i64_in _ (by omega)
  have ewk : IntKind.i64.wrap (I.k + 1) = I.k + 1 := IntWalk.i64_in _ (by omega)
  have ewa : IntKind.i64.wrap (I.age + 1) = I.age + 1 := IntWalk.i64_in _ (by omega)
  have ewc : IntKind.i64.wrap (I.c + 1) = I.c + 1 := IntWalk.i64_in _ (by omega)
  have hcmp : ¬ (I.k + 1 < 8) := by omega
  obtain ⟨i0, hi, hz0, hz1, hz2⟩ := info_parts info_int
  clear hA hI hw hbl hbd hk hk0 ha0 hc0 hm hn
  go_enter Try.func70, Try.ntmps70
  go_upto_region 1 with fail
  obtain ⟨w0, hw0⟩ : ∃ W, W = (((w.alloc (.cells (rvC n) 25)).alloc (.cells (inC I h0 h1 h2 h3 h4) 34)).alloc (.cells #[.int .i64 0, .int .i64 0, .int .i64 0, .int .i64 0, .int .i64 0, .int .i64 0, .int .i64 0, .int .i64 0, .int .i64 0, .int .i64 0, .int .i64 0, .int .i64 0, .int .i64 0, .int .i64 0, .slice none 0 0, .int .i64 0, .slice none 0 0, .slice none 0 0, .bool false, .slice none 0 0, .bool false, .int .i64 0, .int .i64 0, .int .i64 0, .slice none 0 0, .int .i64 0, .int .i64 0, .int .u8 0] 34)) := ⟨_, rfl⟩
  have HX := Lib.hid (show Ext w w0 by rw [hw0]; exact (by repeat (first | exact Ext.refl _ | refine Ext.drew ?_ | refine Ext.drewN ?_ _ | refine Ext.alloc ?_ _)))
  have HB0 := Lib.hid (show BoxR w0 (w.heap.size) n by rw [hw0]; exact (BoxR.ext (show BoxR _ (w.heap.size) n from (by have := boxR_new w n; simpa using this)) (by repeat (first | exact Ext.refl _ | refine Ext.drew ?_ | refine Ext.drewN ?_ _ | refine Ext.alloc ?_ _))))
  have HB1 := Lib.hid (show BoxI w0 (w.heap.size + 1) I h0 h1 h2 h3 h4 by rw [hw0]; exact (BoxI.ext (show BoxI _ (w.heap.size + 1) I h0 h1 h2 h3 h4 from (by have := boxI_new (w.alloc (.cells (rvC n) 25)) I h0 h1 h2 h3 h4; simpa using this)) (by repeat (first | exact Ext.refl _ | refine Ext.drew ?_ | refine Ext.drewN ?_ _ | refine Ext.alloc ?_ _))))
  have HB2 := Lib.hid (show BoxZ w0 (w.heap.size + 2)  by rw [hw0]; exact (BoxZ.ext (show BoxZ _ (w.heap.size + 2)  from (by have := boxZ_new ((w.alloc (.cells (rvC n) 25)).alloc (.cells (inC I h0 h1 h2 h3 h4) 34)) ; simpa using this)) (by repeat (first | exact Ext.refl _ | refine Ext.drew ?_ | refine Ext.drewN ?_ _ | refine Ext.alloc ?_ _))))
  have lw0 : w.heap.size < w0.heap.size := HB0.out.lt
  have lw1 : w.heap.size + 1 < w0.heap.size := HB1.out.lt
  have lw2 : w.heap.size + 2 < w0.heap.size := HB2.out.lt
  have c0_4 := HB0.out.c4
  have c1_15 := HB1.out.c15
  rw [HW.out] at c1_15
  rw [← hw0]
  clear hw0
  go_upto_region 2 with (first | (with_reducible refine at_list ?_; first | go_skip | refine HB0.out.step (by first | rfl | kernel_rfl) rfl rfl ?_ | refine HB1.out.step (by first | rfl | kernel_rfl) rfl rfl ?_) | (go_at_call 64; refine (sown _ I h0 h1 h2 h3 h4 HI.out.good (L.out.ext (by repeat (first | exact HX.out | refine Ext.drew ?_ | refine Ext.drewN ?_ _ | refine Ext.alloc ?_ _)))).mono ?_; rintro e w1 ⟨k0, k1, k2, k3, k4, rfl, hown, hb⟩; have hup := Nat.le_of_lt lw0; have hx : Ext w0 w1 := Ext.trans (by repeat (first | exact Ext.refl _ | refine Ext.drew ?_ | refine Ext.drewN ?_ _ | refine Ext.alloc ?_ _)) hb; (replace HX := Lib.hid (HX.out.trans hx)); (replace HB0 := Lib.hid (HB0.out.ext hx)); (replace HB1 := Lib.hid (HB1.out.ext hx)); (replace HB2 := Lib.hid (HB2.out.ext hx)); (have lw0 : w.heap.size < w1.heap.size := HB0.out.lt); (have lw1 : w.heap.size + 1 < w1.heap.size := HB1.out.lt); (have lw2 : w.heap.size + 2 < w1.heap.size := HB2.out.lt); (replace c0_4 := HB0.out.c4); (replace c1_15 := HB1.out.c15); (rw [HW.out] at c1_15); have HO := Lib.hid (hown.up hup); clear hx hb hown) | (with_reducible refine at_list ?_; refine st_old HB2.out HO.out.at rfl rfl rfl rfl ?_; intro w2 hbox hg; have HP := Lib.hid hbox; replace HO := Lib.hid (HO.out.kept HB2.out hg); replace HX := Lib.hid (ext_grown HX.out hg (fun k hk => by injection hk with hk; omega)); (replace HB0 := Lib.hid (HB0.out.grown hg (by omega))); (replace HB1 := Lib.hid (HB1.out.grown hg (by omega))); (have lw0 : w.heap.size < w2.heap.size := HB0.out.lt); (have lw1 : w.heap.size + 1 < w2.heap.size := HB1.out.lt); (replace c0_4 := HB0.out.c4); (replace c1_15 := HB1.out.c15); (rw [HW.out] at c1_15); clear HB2 hbox hg))
  obtain ⟨p, hp⟩ : ∃ q, q = w.heap.size + 2 := ⟨_, rfl⟩
  rw [← hp] at HP ⊢
  have np0 : w.heap.size ≠ p := by omega
  have np1 : w.heap.size + 1 ≠ p := by omega
  have bp : w.heap.size < p := by omega
  clear hp
  go_upto_region 4 with (first | (with_reducible refine at_list ?_; first | go_skip | refine HB0.out.step (by first | rfl | kernel_rfl) rfl rfl ?_ | refine HB1.out.step (by first | rfl | kernel_rfl) rfl rfl ?_) | ((fail_if_success (have hzz := hk3)); go_at_call 84; refine (sknown_yes _ I h0 h1 h2 h3 h4 (L.out.ext (by repeat (first | exact HX.out | refine Ext.drew ?_ | refine Ext.drewN ?_ _ | refine Ext.alloc ?_ _))) HI.out.bdl _ (by decide)).mono ?_; rintro e w3 ⟨rfl, hb⟩; (have hx : Ext w2 w3 := Ext.trans (by repeat (first | exact Ext.refl _ | refine Ext.drew ?_ | refine Ext.drewN ?_ _ | refine Ext.alloc ?_ _)) hb); (replace HX := Lib.hid (HX.out.trans hx)); (replace HB0 := Lib.hid (HB0.out.ext hx)); (replace HB1 := Lib.hid (HB1.out.ext hx)); (have lw0 : w.heap.size < w3.heap.size := HB0.out.lt); (have lw1 : w.heap.size + 1 < w3.heap.size := HB1.out.lt); (replace HP := Lib.hid (HP.out.ext hx)); (replace HO := Lib.hid (HO.out.ext hx)); (replace c0_4 := HB0.out.c4); (replace c1_15 := HB1.out.c15); (rw [HW.out] at c1_15); (have hk3 : True := trivial); (clear hx hb)) | ((fail_if_success (have hzz := hk4)); go_at_call 21; refine (rvchk n HN.out _).mono ?_; rintro e w4 ⟨rfl, hb⟩; (have hx : Ext w3 w4 := Ext.trans (by repeat (first | exact Ext.refl _ | refine Ext.drew ?_ | refine Ext.drewN ?_ _ | refine Ext.alloc ?_ _)) hb); (replace HX := Lib.hid (HX.out.trans hx)); (replace HB0 := Lib.hid (HB0.out.ext hx)); (replace HB1 := Lib.hid (HB1.out.ext hx)); (have lw0 : w.heap.size < w4.heap.size := HB0.out.lt); (have lw1 : w.heap.size + 1 < w4.heap.size := HB1.out.lt); (replace HP := Lib.hid (HP.out.ext hx)); (replace HO := Lib.hid (HO.out.ext hx)); (replace c0_4 := HB0.out.c4); (replace c1_15 := HB1.out.c15); (rw [HW.out] at c1_15); (have hk4 : True := trivial); (clear hx hb)))
  have cp_16 := HP.out.c16
  have zp_16 := HP.out.fz 16
  have HLK : Hid (ListAt w4 k1 [.int .i64 1]) := by have := own_list HO.out.l1; rwa [HBL.out] at this
  go_upto_region 6 with (go_at_call 54; refine (coni_one _ _ _ _ HLK.out).mono ?_; rintro e w' ⟨rfl, hww⟩; replace hww := hww.symm; subst hww)
  clear HLK
  have o1 := HO.out.l1
  simp only [HBL.out] at o1
  obtain ⟨gn, cn, rfl, _, _⟩ := own_form o1 (by simp)
  simp only [List.length_cons, List.length_nil, Nat.zero_add, Nat.reduceAdd] at HO HP cp_16 ⊢
  clear o1
  have o3 := HO.out.l3
  simp only [HBD.out] at o3
  obtain ⟨g, cap, rfl, hgb, hgl⟩ := own_form o3 (by simp)
  simp only [List.length_cons, List.length_nil, Nat.zero_add, Nat.reduceAdd] at o3 HO HP ⊢
  obtain ⟨cc, hcur⟩ := own_blk o3
  have ngp := blk_ne hcur HP.out (by decide)
  have ng0 := blk_ne hcur HB0.out (by decide)
  have ng1 := blk_ne hcur HB1.out (by decide)
  have cp_19 := HP.out.c19
  have q0 := o3.cellAt 0 (by decide)
  have z0 := o3.frozenAt 0
  simp only [List.getElem?_cons_zero] at q0
  go_upto_region 8 with fail
  obtain ⟨s3, gg⟩ := o3.stored 0 (.int .i64 (m + 1))
  replace s3 : (w4.setCell ⟨g, 0, none⟩ (.int .i64 (m + 1))).ownsRow w.heap.size 3 1 (.slice (some ⟨g, 0, none⟩) 3 cap) 3 [.int .i64 (m + 1), .int .i64 0, .int .i64 0] := s3
  obtain ⟨w5, hw⟩ : ∃ W, W = w4.setCell ⟨g, 0, none⟩ (.int .i64 (m + 1)) := ⟨_, rfl⟩
  rw [← hw] at gg s3 ⊢
  have hO := HO.out
  replace HO : Hid (InOwn w.heap.size w5 { I with bl := [.int .i64 1], bd := [.int .i64 (m + 1), .int .i64 0, .int .i64 0] } k0 (.slice (some ⟨gn, 0, none⟩) 1 cn) k2 (.slice (some ⟨g, 0, none⟩) 3 cap) k4) := Lib.hid ⟨own_far hO.l0 hcur (by decide) gg, (show _ from by have h1 := hO.l1.kept gg hO.d1; rw [HBL.out] at h1; exact h1), hO.l2.kept gg hO.d2, s3, own_far hO.l4 hcur (by decide) gg, fun h => by simp at h, hO.d1, hO.d2⟩
  replace HX := Lib.hid (ext_grown HX.out gg (fun k hk => by injection hk with hk; omega))
  replace HP : Hid (BoxI w5 p { I with bl := [.int .i64 1], bd := [.int .i64 (m + 1), .int .i64 0, .int .i64 0] } k0 (.slice (some ⟨gn, 0, none⟩) 1 cn) k2 (.slice (some ⟨g, 0, none⟩) 3 cap) k4) := Lib.hid (((HP.out.grown gg ngp).as_bl [.int .i64 1]).as_bd [.int .i64 (m + 1), .int .i64 0, .int .i64 0])
  replace HB0 := Lib.hid (HB0.out.grown gg ng0)
  replace HB1 := Lib.hid (HB1.out.grown gg ng1)
  have lw0 : w.heap.size < w5.heap.size := HB0.out.lt
  have lw1 : w.heap.size + 1 < w5.heap.size := HB1.out.lt
  replace c0_4 := HB0.out.c4
  clear hw gg s3 o3 hO hcur cp_19 q0 z0 c1_15
  have cp_11 := HP.out.c11
  have cp_21 := HP.out.c21
  have cp_10 := HP.out.c10
  have cp_16 := HP.out.c16
  have cp_17 := HP.out.c17
  have cp_15 := HP.out.c15
  have zp_11 := HP.out.fz 11
  have zp_21 := HP.out.fz 21
  have zp_10 := HP.out.fz 10
  have zp_16 := HP.out.fz 16
  have zp_17 := HP.out.fz 17
  have zp_15 := HP.out.fz 15
  go_upto_region 10 with fail
  have q1 : BoxI (w5.setCell ⟨p, 11, none⟩ (.int .i64 (I.k + 1))) p { I with bl := [.int .i64 1], bd := [.int .i64 (m + 1), .int .i64 0, .int .i64 0], k := I.k + 1 } k0 (.slice (some ⟨gn, 0, none⟩) 1 cn) k2 (.slice (some ⟨g, 0, none⟩) 3 cap) k4 := HP.out.set11 (I.k + 1)
  have g1 := grown_setCell w5 p 11 (.int .i64 (I.k + 1))
  have o1 := HO.out.kept HP.out.z g1
  have q2 : BoxI ((w5.setCell ⟨p, 11, none⟩ (.int .i64 (I.k + 1))).setCell ⟨p, 21, none⟩ (.int .i64 (I.age + 1))) p { I with bl := [.int .i64 1], bd := [.int .i64 (m + 1), .int .i64 0, .int .i64 0], k := I.k + 1, age := I.age + 1 } k0 (.slice (some ⟨gn, 0, none⟩) 1 cn) k2 (.slice (some ⟨g, 0, none⟩) 3 cap) k4 := q1.set21 (I.age + 1)
  have g2 := grown_setCell (w5.setCell ⟨p, 11, none⟩ (.int .i64 (I.k + 1))) p 21 (.int .i64 (I.age + 1))
  have o2 := o1.kept q1.z g2
  have g := (g1.trans g2)
  obtain ⟨w6, hw⟩ : ∃ W, W = ((w5.setCell ⟨p, 11, none⟩ (.int .i64 (I.k + 1))).setCell ⟨p, 21, none⟩ (.int .i64 (I.age + 1))) := ⟨_, rfl⟩
  rw [← hw] at q2 o2 g ⊢
  replace HX := Lib.hid (ext_grown HX.out g (fun k hk => by injection hk with hk; omega))
  replace HP := Lib.hid q2
  replace HO := Lib.hid o2
  replace HB0 := Lib.hid (HB0.out.grown g np0)
  replace HB1 := Lib.hid (HB1.out.grown g np1)
  have lw0 : w.heap.size < w6.heap.size := HB0.out.lt
  have lw1 : w.heap.size + 1 < w6.heap.size := HB1.out.lt
  replace c0_4 := HB0.out.c4
  replace cp_11 := HP.out.c11
  replace cp_10 := HP.out.c10
  replace cp_16 := HP.out.c16
  replace cp_17 := HP.out.c17
  replace cp_15 := HP.out.c15
  replace zp_11 := HP.out.fz 11
  replace zp_10 := HP.out.fz 10
  replace zp_16 := HP.out.fz 16
  replace zp_17 := HP.out.fz 17
  replace zp_15 := HP.out.fz 15
  clear hw g g1 g2 q1 o1 q2 o2
  go_upto_region 16 with fail
  have q1 : BoxI (w6.setCell ⟨p, 10, none⟩ (.int .i64 (I.c + 1))) p { I with bl := [.int .i64 1], bd := [.int .i64 (m + 1), .int .i64 0, .int .i64 0], k := I.k + 1, age := I.age + 1, c := I.c + 1 } k0 (.slice (some ⟨gn, 0, none⟩) 1 cn) k2 (.slice (some ⟨g, 0, none⟩) 3 cap) k4 := HP.out.set10 (I.c + 1)
  have g1 := grown_setCell w6 p 10 (.int .i64 (I.c + 1))
  have o1 := HO.out.kept HP.out.z g1
  have q2 : BoxI ((w6.setCell ⟨p, 10, none⟩ (.int .i64 (I.c + 1))).setCell ⟨p, 11, none⟩ (.int .i64 0)) p { I with bl := [.int .i64 1], bd := [.int .i64 (m + 1), .int .i64 0, .int .i64 0], k := 0, age := I.age + 1, c := I.c + 1 } k0 (.slice (some ⟨gn, 0, none⟩) 1 cn) k2 (.slice (some ⟨g, 0, none⟩) 3 cap) k4 := q1.set11 0
  have g2 := grown_setCell (w6.setCell ⟨p, 10, none⟩ (.int .i64 (I.c + 1))) p 11 (.int .i64 0)
  have o2 := o1.kept q1.z g2
  have q3 : BoxI (((w6.setCell ⟨p, 10, none⟩ (.int .i64 (I.c + 1))).setCell ⟨p, 11, none⟩ (.int .i64 0)).setCell ⟨p, 17, none⟩ (.slice (some ⟨gn, 0, none⟩) 1 cn)) p { I with bl := [.int .i64 1], bf := [.int .i64 1], bd := [.int .i64 (m + 1), .int .i64 0, .int .i64 0], k := 0, age := I.age + 1, c := I.c + 1 } k0 (.slice (some ⟨gn, 0, none⟩) 1 cn) (.slice (some ⟨gn, 0, none⟩) 1 cn) (.slice (some ⟨g, 0, none⟩) 3 cap) k4 := q2.set17 (.slice (some ⟨gn, 0, none⟩) 1 cn) [.int .i64 1]
  have g3 := grown_setCell ((w6.setCell ⟨p, 10, none⟩ (.int .i64 (I.c + 1))).setCell ⟨p, 11, none⟩ (.int .i64 0)) p 17 (.slice (some ⟨gn, 0, none⟩) 1 cn)
  have o3 := o2.kept q2.z g3
  have q4 : BoxI ((((w6.setCell ⟨p, 10, none⟩ (.int .i64 (I.c + 1))).setCell ⟨p, 11, none⟩ (.int .i64 0)).setCell ⟨p, 17, none⟩ (.slice (some ⟨gn, 0, none⟩) 1 cn)).setCell ⟨p, 16, none⟩ (.slice none 0 0)) p { I with bl := [], bf := [.int .i64 1], bd := [.int .i64 (m + 1), .int .i64 0, .int .i64 0], k := 0, age := I.age + 1, c := I.c + 1 } k0 (.slice none 0 0) (.slice (some ⟨gn, 0, none⟩) 1 cn) (.slice (some ⟨g, 0, none⟩) 3 cap) k4 := q3.set16 (.slice none 0 0) []
  have g4 := grown_setCell (((w6.setCell ⟨p, 10, none⟩ (.int .i64 (I.c + 1))).setCell ⟨p, 11, none⟩ (.int .i64 0)).setCell ⟨p, 17, none⟩ (.slice (some ⟨gn, 0, none⟩) 1 cn)) p 16 (.slice none 0 0)
  have o4 := o3.kept q3.z g4
  have q5 : BoxI (((((w6.setCell ⟨p, 10, none⟩ (.int .i64 (I.c + 1))).setCell ⟨p, 11, none⟩ (.int .i64 0)).setCell ⟨p, 17, none⟩ (.slice (some ⟨gn, 0, none⟩) 1 cn)).setCell ⟨p, 16, none⟩ (.slice none 0 0)).setCell ⟨p, 15, none⟩ (.int .i64 0)) p { I with bl := [], bf := [.int .i64 1], bd := [.int .i64 (m + 1), .int .i64 0, .int .i64 0], k := 0, c := I.c + 1, age := I.age + 1, bw := 0 } k0 (.slice none 0 0) (.slice (some ⟨gn, 0, none⟩) 1 cn) (.slice (some ⟨g, 0, none⟩) 3 cap) k4 := q4.set15 0
  have g5 := grown_setCell ((((w6.setCell ⟨p, 10, none⟩ (.int .i64 (I.c + 1))).setCell ⟨p, 11, none⟩ (.int .i64 0)).setCell ⟨p, 17, none⟩ (.slice (some ⟨gn, 0, none⟩) 1 cn)).setCell ⟨p, 16, none⟩ (.slice none 0 0)) p 15 (.int .i64 0)
  have o5 := o4.kept q4.z g5
  have g := ((((g1.trans g2).trans g3).trans g4).trans g5)
  obtain ⟨w7, hw⟩ : ∃ W, W = (((((w6.setCell ⟨p, 10, none⟩ (.int .i64 (I.c + 1))).setCell ⟨p, 11, none⟩ (.int .i64 0)).setCell ⟨p, 17, none⟩ (.slice (some ⟨gn, 0, none⟩) 1 cn)).setCell ⟨p, 16, none⟩ (.slice none 0 0)).setCell ⟨p, 15, none⟩ (.int .i64 0)) := ⟨_, rfl⟩
  rw [← hw] at q5 o5 g ⊢
  replace HX := Lib.hid (ext_grown HX.out g (fun k hk => by injection hk with hk; omega))
  replace HP := Lib.hid q5
  replace HO := Lib.hid o5
  replace HB0 := Lib.hid (HB0.out.grown g np0)
  replace HB1 := Lib.hid (HB1.out.grown g np1)
  have lw0 : w.heap.size < w7.heap.size := HB0.out.lt
  have lw1 : w.heap.size + 1 < w7.heap.size := HB1.out.lt
  replace c0_4 := HB0.out.c4
  replace cp_11 := HP.out.c11
  replace cp_10 := HP.out.c10
  replace cp_16 := HP.out.c16
  replace cp_17 := HP.out.c17
  replace cp_15 := HP.out.c15
  replace zp_11 := HP.out.fz 11
  replace zp_10 := HP.out.fz 10
  replace zp_16 := HP.out.fz 16
  replace zp_17 := HP.out.fz 17
  replace zp_15 := HP.out.fz 15
  clear hw g g1 g2 g3 g4 g5 q1 o1 q2 o2 q3 o3 q4 o4 q5 o5
  have hO := HO.out
  replace HO : Hid (InOwn w.heap.size w7 { I with bl := [], bf := [.int .i64 1], bd := [.int .i64 (m + 1), .int .i64 0, .int .i64 0], k := 0, c := I.c + 1, age := I.age + 1, bw := 0 } k0 (.slice none 0 0) (.slice (some ⟨gn, 0, none⟩) 1 cn) (.slice (some ⟨g, 0, none⟩) 3 cap) k4) := Lib.hid ⟨hO.l0, World.ownsRow_nil _ _ _ _, hO.l1, hO.l3, hO.l4, fun _ => rfl, .inl rfl, hO.d1⟩
  clear hO
  go_wp2_with (first | (with_reducible refine at_list ?_; refine HP.out.step (by first | rfl | kernel_rfl) rfl rfl ?_) | (with_reducible refine at_list ?_; refine st_old HP.out.z (show InAt w7 { I with bl := [], bf := [.int .i64 1], bd := [.int .i64 (m + 1), .int .i64 0, .int .i64 0], k := 0, c := I.c + 1, age := I.age + 1, bw := 0 } k0 (.slice none 0 0) (.slice (some ⟨gn, 0, none⟩) 1 cn) (.slice (some ⟨g, 0, none⟩) 3 cap) k4 from ⟨HO.out.at.l0, HO.out.at.l1, HO.out.at.l2, HO.out.at.l3, HO.out.at.l4, HO.out.at.n1⟩) rfl rfl rfl rfl ?_; intro w8 hbox hg; have HR := Lib.hid hbox; replace HO := Lib.hid (HO.out.kept HP.out.z hg); replace HX := Lib.hid (ext_grown HX.out hg (fun k hk => by injection hk with hk; omega)); clear hbox hg))
  (try simp only [Exit.inBlock, Exit.then])
  refine BoxI.ret rfl HR.out rfl rfl ?_
  have hA := HO.out
  exact ⟨_, _, _, _, _, rfl, ⟨hA.l0, hA.l1, hA.l2, hA.l3, hA.l4, hA.n1, hA.d1, hA.d2⟩, HX.out⟩

end Go.Proofs.Ytpeabgfolpgfjaa

/-
  Ran, Change and refused.
-/
import Derived.Test.YtpeabgfolpgfjaaRvJ
import Derived.Test.YtpeabgfolpgfjaaRvE
import Derived.Test.YtpeabgfolpgfjaaRvG
import Derived.Test.YtpeabgfolpgfjaaRvC
import Derived.Test.YtpeabgfolpgfjaaSymO
import Derived.Deep.DeepCutAuto
namespace Go.Proofs.Ytpeabgfolpgfjaa
open Go.RowKit Go.Lib
set_option linter.unusedSimpArgs false

def dl0 : Dl := ⟨1, 0, 0, 0, 0, false, 0, 0, 0, 0, false, 0⟩
theorem legal_dl (w : World) : Calls Try.prog 87 #[.agg dlC] w fun e w' => e = .returned (.int .i64 0) ∧ Ext w w' := by
  have := legal_any dl0 w
  rw [show lgD dl0 = 0 by decide] at this
  exact this
theorem poss_dl (w : World) : Calls Try.prog 88 #[.agg dlC, .bool false] w fun e w' => e = .returned (.int .i64 0) ∧ Ext w w' := by
  have := possible_any dl0 (by decide) (by decide) w
  rw [show psD dl0 = 0 by decide] at this
  exact this

set_option maxHeartbeats 8000000 in
theorem ran_any (w : World) (I : In) (h0 h1 h2 h3 h4 : Value) (hA : InAt w I h0 h1 h2 h3 h4) (hI : I.Ok) : Calls Try.prog 68 #[.agg (inC I h0 h1 h2 h3 h4), .agg dlC] w fun e w' => ∃ k0 k1 k2 k3 k4, e = .returned (.agg (inC I k0 k1 k2 k3 k4)) ∧ InOwn w.heap.size w' I k0 k1 k2 k3 k4 ∧ Ext w w' := by
  have L := Lib.hid hA
  have HI := Lib.hid hI
  clear hA hI
  go_enter Try.func68, Try.ntmps68
  go_upto_region 1 with fail
  obtain ⟨w0, hw0⟩ : ∃ W, W = (((w.alloc (.cells (inC I h0 h1 h2 h3 h4) 34)).alloc (.cells dlC 53)).alloc (.cells #[.int .i64 0, .int .i64 0, .int .i64 0, .int .i64 0, .int .i64 0, .int .i64 0, .int .i64 0, .int .i64 0, .int .i64 0, .int .i64 0, .int .i64 0, .int .i64 0, .int .i64 0, .int .i64 0, .slice none 0 0, .int .i64 0, .slice none 0 0, .slice none 0 0, .bool false, .slice none 0 0, .bool false, .int .i64 0, .int .i64 0, .int .i64 0, .slice none 0 0, .int .i64 0, .int .i64 0, .int .u8 0] 34)) := ⟨_, rfl⟩
  have HX := Lib.hid (show Ext w w0 by rw [hw0]; exact (by repeat (first | exact Ext.refl _ | refine Ext.drew ?_ | refine Ext.drewN ?_ _ | refine Ext.alloc ?_ _)))
  have HB0 := Lib.hid (show BoxI w0 (w.heap.size) I h0 h1 h2 h3 h4 by rw [hw0]; exact (BoxI.ext (show BoxI _ (w.heap.size) I h0 h1 h2 h3 h4 from (by have := boxI_new w I h0 h1 h2 h3 h4; simpa using this)) (by repeat (first | exact Ext.refl _ | refine Ext.drew ?_ | refine Ext.drewN ?_ _ | refine Ext.alloc ?_ _))))
  have HB1 := Lib.hid (show BoxL w0 (w.heap.size + 1)  by rw [hw0]; exact (BoxL.ext (show BoxL _ (w.heap.size + 1)  from (by have := boxL_new (w.alloc (.cells (inC I h0 h1 h2 h3 h4) 34)) ; simpa using this)) (by repeat (first | exact Ext.refl _ | refine Ext.drew ?_ | refine Ext.drewN ?_ _ | refine Ext.alloc ?_ _))))
  have HB2 := Lib.hid (show BoxZ w0 (w.heap.size + 2)  by rw [hw0]; exact (BoxZ.ext (show BoxZ _ (w.heap.size + 2)  from (by have := boxZ_new ((w.alloc (.cells (inC I h0 h1 h2 h3 h4) 34)).alloc (.cells dlC 53)) ; simpa using this)) (by repeat (first | exact Ext.refl _ | refine Ext.drew ?_ | refine Ext.drewN ?_ _ | refine Ext.alloc ?_ _))))
  have lw0 : w.heap.size < w0.heap.size := HB0.out.lt
  have lw1 : w.heap.size + 1 < w0.heap.size := HB1.out.lt
  have lw2 : w.heap.size + 2 < w0.heap.size := HB2.out.lt
  have c1_6 := HB1.out.c6
  have c1_2 := HB1.out.c2
  have c1_5 := HB1.out.c5
  rw [← hw0]
  clear hw0
  go_upto_region 2 with (first | (with_reducible refine at_list ?_; first | go_skip | refine HB0.out.step (by first | rfl | kernel_rfl) rfl rfl ?_) | (go_at_call 61; refine (cown _ I h0 h1 h2 h3 h4 HI.out.good (L.out.ext (by repeat (first | exact HX.out | refine Ext.drew ?_ | refine Ext.drewN ?_ _ | refine Ext.alloc ?_ _)))).mono ?_; rintro e w1 ⟨k0, k1, k2, k3, k4, rfl, hown, hb⟩; have hup := Nat.le_of_lt lw0; have hx : Ext w0 w1 := Ext.trans (by repeat (first | exact Ext.refl _ | refine Ext.drew ?_ | refine Ext.drewN ?_ _ | refine Ext.alloc ?_ _)) hb; (replace HX := Lib.hid (HX.out.trans hx)); (replace HB0 := Lib.hid (HB0.out.ext hx)); (replace HB1 := Lib.hid (HB1.out.ext hx)); (replace HB2 := Lib.hid (HB2.out.ext hx)); (have lw0 : w.heap.size < w1.heap.size := HB0.out.lt); (have lw1 : w.heap.size + 1 < w1.heap.size := HB1.out.lt); (have lw2 : w.heap.size + 2 < w1.heap.size := HB2.out.lt); (replace c1_6 := HB1.out.c6); (replace c1_2 := HB1.out.c2); (replace c1_5 := HB1.out.c5); have HO := Lib.hid (hown.up hup); clear hx hb hown) | (with_reducible refine at_list ?_; refine st_new rfl HO.out.at rfl rfl rfl rfl ?_; intro w2 hbox hx; have lw1_0 := lw0; have lw1_1 := lw1; have lw1_2 := lw2; (replace HX := Lib.hid (HX.out.trans hx)); (replace HB0 := Lib.hid (HB0.out.ext hx)); (replace HB1 := Lib.hid (HB1.out.ext hx)); (replace HB2 := Lib.hid (HB2.out.ext hx)); (have lw0 : w.heap.size < w2.heap.size := HB0.out.lt); (have lw1 : w.heap.size + 1 < w2.heap.size := HB1.out.lt); (have lw2 : w.heap.size + 2 < w2.heap.size := HB2.out.lt); (replace c1_6 := HB1.out.c6); (replace c1_2 := HB1.out.c2); (replace c1_5 := HB1.out.c5); have HP := Lib.hid hbox; replace HO := Lib.hid (HO.out.ext hx); clear hx hbox))
  obtain ⟨p, hp⟩ : ∃ q, q = w1.heap.size := ⟨_, rfl⟩
  rw [← hp] at HP ⊢
  have np0 : w.heap.size ≠ p := by rw [hp]; exact Nat.ne_of_lt lw1_0
  have np1 : w.heap.size + 1 ≠ p := by rw [hp]; exact Nat.ne_of_lt lw1_1
  have np2 : w.heap.size + 2 ≠ p := by rw [hp]; exact Nat.ne_of_lt lw1_2
  have lp : p < w2.heap.size := HP.out.lt
  have bp : w.heap.size < p := by rw [hp]; exact lw1_0
  clear hp
  clear lw1_0
  clear lw1_1
  clear lw1_2
  go_wp2_with (first | (with_reducible refine at_list ?_; refine HP.out.step (by first | rfl | kernel_rfl) rfl rfl ?_) | (with_reducible refine at_list ?_; refine st_old HB2.out (show InAt w2 I k0 k1 k2 k3 k4 from ⟨HO.out.at.l0, HO.out.at.l1, HO.out.at.l2, HO.out.at.l3, HO.out.at.l4, HO.out.at.n1⟩) rfl rfl rfl rfl ?_; intro w3 hbox hg; have HR := Lib.hid hbox; replace HO := Lib.hid (HO.out.kept HB2.out hg); replace HX := Lib.hid (ext_grown HX.out hg (fun k hk => by injection hk with hk; omega)); clear hbox hg))
  (try simp only [Exit.inBlock, Exit.then])
  refine BoxI.ret1 rfl HR.out rfl rfl ?_
  have hA := HO.out
  exact ⟨_, _, _, _, _, rfl, ⟨hA.l0, hA.l1, hA.l2, hA.l3, hA.l4, hA.n1, hA.d1, hA.d2⟩, HX.out⟩

set_option maxHeartbeats 8000000 in
theorem change_any (w : World) (I : In) (h0 h1 h2 h3 h4 : Value) (hA : InAt w I h0 h1 h2 h3 h4) (hI : I.Ok) : Calls Try.prog 71 #[.agg (inC I h0 h1 h2 h3 h4)] w fun e w' => ∃ k0 k1 k2 k3 k4, e = .returned (.agg (inC { I with s := I.o, o := I.s } k0 k1 k2 k3 k4)) ∧ InOwn w.heap.size w' { I with s := I.o, o := I.s } k0 k1 k2 k3 k4 ∧ Ext w w' := by
  have L := Lib.hid hA
  have HI := Lib.hid hI
  clear hA hI
  go_enter Try.func71, Try.ntmps71
  go_upto_region 1 with fail
  obtain ⟨w0, hw0⟩ : ∃ W, W = ((w.alloc (.cells (inC I h0 h1 h2 h3 h4) 34)).alloc (.cells #[.int .i64 0, .int .i64 0, .int .i64 0, .int .i64 0, .int .i64 0, .int .i64 0, .int .i64 0, .int .i64 0, .int .i64 0, .int .i64 0, .int .i64 0, .int .i64 0, .int .i64 0, .int .i64 0, .slice none 0 0, .int .i64 0, .slice none 0 0, .slice none 0 0, .bool false, .slice none 0 0, .bool false, .int .i64 0, .int .i64 0, .int .i64 0, .slice none 0 0, .int .i64 0, .int .i64 0, .int .u8 0] 34)) := ⟨_, rfl⟩
  have HX := Lib.hid (show Ext w w0 by rw [hw0]; exact (by repeat (first | exact Ext.refl _ | refine Ext.drew ?_ | refine Ext.drewN ?_ _ | refine Ext.alloc ?_ _)))
  have HB0 := Lib.hid (show BoxI w0 (w.heap.size) I h0 h1 h2 h3 h4 by rw [hw0]; exact (BoxI.ext (show BoxI _ (w.heap.size) I h0 h1 h2 h3 h4 from (by have := boxI_new w I h0 h1 h2 h3 h4; simpa using this)) (by repeat (first | exact Ext.refl _ | refine Ext.drew ?_ | refine Ext.drewN ?_ _ | refine Ext.alloc ?_ _))))
  have HB1 := Lib.hid (show BoxZ w0 (w.heap.size + 1)  by rw [hw0]; exact (BoxZ.ext (show BoxZ _ (w.heap.size + 1)  from (by have := boxZ_new (w.alloc (.cells (inC I h0 h1 h2 h3 h4) 34)) ; simpa using this)) (by repeat (first | exact Ext.refl _ | refine Ext.drew ?_ | refine Ext.drewN ?_ _ | refine Ext.alloc ?_ _))))
  have lw0 : w.heap.size < w0.heap.size := HB0.out.lt
  have lw1 : w.heap.size + 1 < w0.heap.size := HB1.out.lt
  have c0_12 := HB0.out.c12
  have c0_13 := HB0.out.c13
  rw [← hw0]
  clear hw0
  go_upto_region 2 with (first | (with_reducible refine at_list ?_; first | go_skip | refine HB0.out.step (by first | rfl | kernel_rfl) rfl rfl ?_) | (go_at_call 61; refine (cown _ I h0 h1 h2 h3 h4 HI.out.good (L.out.ext (by repeat (first | exact HX.out | refine Ext.drew ?_ | refine Ext.drewN ?_ _ | refine Ext.alloc ?_ _)))).mono ?_; rintro e w1 ⟨k0, k1, k2, k3, k4, rfl, hown, hb⟩; have hup := Nat.le_of_lt lw0; have hx : Ext w0 w1 := Ext.trans (by repeat (first | exact Ext.refl _ | refine Ext.drew ?_ | refine Ext.drewN ?_ _ | refine Ext.alloc ?_ _)) hb; (replace HX := Lib.hid (HX.out.trans hx)); (replace HB0 := Lib.hid (HB0.out.ext hx)); (replace HB1 := Lib.hid (HB1.out.ext hx)); (have lw0 : w.heap.size < w1.heap.size := HB0.out.lt); (have lw1 : w.heap.size + 1 < w1.heap.size := HB1.out.lt); (replace c0_12 := HB0.out.c12); (replace c0_13 := HB0.out.c13); have HO := Lib.hid (hown.up hup); clear hx hb hown) | (with_reducible refine at_list ?_; refine st_new rfl HO.out.at rfl rfl rfl rfl ?_; intro w2 hbox hx; have lw1_0 := lw0; have lw1_1 := lw1; (replace HX := Lib.hid (HX.out.trans hx)); (replace HB0 := Lib.hid (HB0.out.ext hx)); (replace HB1 := Lib.hid (HB1.out.ext hx)); (have lw0 : w.heap.size < w2.heap.size := HB0.out.lt); (have lw1 : w.heap.size + 1 < w2.heap.size := HB1.out.lt); (replace c0_12 := HB0.out.c12); (replace c0_13 := HB0.out.c13); have HP := Lib.hid hbox; replace HO := Lib.hid (HO.out.ext hx); clear hx hbox))
  obtain ⟨p, hp⟩ : ∃ q, q = w1.heap.size := ⟨_, rfl⟩
  rw [← hp] at HP ⊢
  have np0 : w.heap.size ≠ p := by rw [hp]; exact Nat.ne_of_lt lw1_0
  have np1 : w.heap.size + 1 ≠ p := by rw [hp]; exact Nat.ne_of_lt lw1_1
  have lp : p < w2.heap.size := HP.out.lt
  have bp : w.heap.size < p := by rw [hp]; exact lw1_0
  clear hp
  clear lw1_0
  clear lw1_1
  have cp_12 := HP.out.c12
  have cp_13 := HP.out.c13
  have zp_12 := HP.out.fz 12
  have zp_13 := HP.out.fz 13
  refine wp_region_held_drew (S := (fun w' => w'.cell? ⟨w.heap.size, 13, none⟩ = some (.int .i64 I.o) ∧ w'.cell? ⟨w.heap.size, 12, none⟩ = some (.int .i64 I.s))) (by kernel_rfl) (by first | exact ⟨c0_13, c0_12⟩ | (simp [go_sem, *]; done)) (fun hHeld => ?_)
  refine wpAnyH_take (i := 0) (v := ?v1) rfl (by kernel_rfl) (by kernel_rfl) (by kernel_rfl) (fun _ _ _ h => h) (Or.inl ⟨by rfl, ?y1⟩) (by assumption) ?r1
  case y1 => ((intro w hSw; (try dsimp only at hSw); go_simp; (first | done | with_reducible rfl)))
  (try simp only [List.getElem_toArray, List.getElem_cons_succ, List.getElem_cons_zero, Act.put, List.setIfInBounds_toArray, List.set_cons_zero, List.set_cons_succ])
  refine wpAnyH_take (i := 1) (v := ?v2) rfl (by kernel_rfl) (by kernel_rfl) (by kernel_rfl) (fun _ _ _ h => h) (Or.inl ⟨by rfl, ?y2⟩) (by assumption) ?r2
  case y2 => ((intro w hSw; (try dsimp only at hSw); go_simp; (first | done | with_reducible rfl)))
  (try simp only [List.getElem_toArray, List.getElem_cons_succ, List.getElem_cons_zero, Act.put, List.setIfInBounds_toArray, List.set_cons_zero, List.set_cons_succ])
  refine wpAnyH_take (i := 2) (v := ?v3) rfl (by kernel_rfl) (by kernel_rfl) (by kernel_rfl) (fun _ _ _ h => h) (Or.inl ⟨by rfl, ?y3⟩) (by assumption) ?r3
  case y3 => ((intro w hSw; (try dsimp only at hSw); go_simp; (first | done | with_reducible rfl)))
  (try simp only [List.getElem_toArray, List.getElem_cons_succ, List.getElem_cons_zero, Act.put, List.setIfInBounds_toArray, List.set_cons_zero, List.set_cons_succ])
  refine wpAnyH_take (i := 3) (v := ?v4) rfl (by kernel_rfl) (by kernel_rfl) (by kernel_rfl) (fun _ _ _ h => h) (Or.inl ⟨by rfl, ?y4⟩) (by assumption) ?r4
  case y4 => ((intro w hSw; (try dsimp only at hSw); go_simp; (first | done | with_reducible rfl)))
  (try simp only [List.getElem_toArray, List.getElem_cons_succ, List.getElem_cons_zero, Act.put, List.setIfInBounds_toArray, List.set_cons_zero, List.set_cons_succ])
  refine wpAnyH_take (i := 4) (v := ?v5) rfl (by kernel_rfl) (by kernel_rfl) (by kernel_rfl) (fun _ _ _ h => h) (Or.inl ⟨by rfl, ?y5⟩) (by assumption) ?r5
  case y5 => ((intro w hSw; (try dsimp only at hSw); go_simp; (first | done | with_reducible rfl)))
  (try simp only [List.getElem_toArray, List.getElem_cons_succ, List.getElem_cons_zero, Act.put, List.setIfInBounds_toArray, List.set_cons_zero, List.set_cons_succ])
  refine wpAnyH_ready (rs := [5]) (by kernel_rfl) (by simp) ?_
  refine AllReadyH.cons rfl (fun K hK => ?_) AllReadyH.nil
  go_simp
  skip
  refine hK.out _ _ (by first | exact ⟨c0_13, c0_12⟩ | (simp [go_sem, *]; done)) (fun hHeld => ?_)
  clear hK K
  (try simp only [List.getElem_toArray, List.getElem_cons_succ, List.getElem_cons_zero, Act.put, List.setIfInBounds_toArray, List.set_cons_zero, List.set_cons_succ])
  refine wpAnyH_take (i := 6) (v := ?v7) rfl (by kernel_rfl) (by kernel_rfl) (by kernel_rfl) (fun _ _ _ h => h) (Or.inl ⟨by rfl, ?y7⟩) (by assumption) ?r7
  case y7 => ((intro w hSw; (try dsimp only at hSw); go_simp; (first | done | with_reducible rfl)))
  (try simp only [List.getElem_toArray, List.getElem_cons_succ, List.getElem_cons_zero, Act.put, List.setIfInBounds_toArray, List.set_cons_zero, List.set_cons_succ])
  refine wpAnyH_ready (rs := [7]) (by kernel_rfl) (by simp) ?_
  refine AllReadyH.cons rfl (fun K hK => ?_) AllReadyH.nil
  go_simp
  skip
  refine hK.out _ _ (by first | exact ⟨c0_13, c0_12⟩ | (simp [go_sem, *]; done)) (fun hHeld => ?_)
  clear hK K
  (try simp only [List.getElem_toArray, List.getElem_cons_succ, List.getElem_cons_zero, Act.put, List.setIfInBounds_toArray, List.set_cons_zero, List.set_cons_succ])
  refine wpAnyH_done (by kernel_rfl) ?_ _
  clear hHeld
  have q1 := HP.out.set12 I.o
  have g1 := grown_setCell w2 p 12 (.int .i64 I.o)
  have o1 := HO.out.kept HP.out.z g1
  have q2 := q1.set13 I.s
  have g2 := grown_setCell (w2.setCell ⟨p, 12, none⟩ (.int .i64 I.o)) p 13 (.int .i64 I.s)
  have o2 := o1.kept q1.z g2
  have g := (g1.trans g2)
  replace g : w2.grownBy (((w2.setCell ⟨p, 12, none⟩ (.int .i64 I.o)).setCell ⟨p, 13, none⟩ (.int .i64 I.s))).drew (some p) := ⟨g.os, g.tape, g.output, g.size, g.block⟩
  replace o2 : InOwn w.heap.size (((w2.setCell ⟨p, 12, none⟩ (.int .i64 I.o)).setCell ⟨p, 13, none⟩ (.int .i64 I.s))).drew I k0 k1 k2 k3 k4 := o2.ext (Ext.refl _).drew
  replace q2 := q2.ext (Ext.refl ((w2.setCell ⟨p, 12, none⟩ (.int .i64 I.o)).setCell ⟨p, 13, none⟩ (.int .i64 I.s))).drew
  obtain ⟨w3, hw⟩ : ∃ W, W = (((w2.setCell ⟨p, 12, none⟩ (.int .i64 I.o)).setCell ⟨p, 13, none⟩ (.int .i64 I.s))).drew := ⟨_, rfl⟩
  rw [← hw] at q2 o2 g ⊢
  replace HX := Lib.hid (ext_grown HX.out g (fun k hk => by injection hk with hk; omega))
  replace HP := Lib.hid q2
  replace HO := Lib.hid o2
  replace HB0 := Lib.hid (HB0.out.grown g np0)
  replace HB1 := Lib.hid (HB1.out.grown g np1)
  have lw0 : w.heap.size < w3.heap.size := HB0.out.lt
  have lw1 : w.heap.size + 1 < w3.heap.size := HB1.out.lt
  replace c0_12 := HB0.out.c12
  replace c0_13 := HB0.out.c13
  clear hw g g1 g2 q1 o1 q2 o2
  go_wp2_with (first | (with_reducible refine at_list ?_; refine HP.out.step (by first | rfl | kernel_rfl) rfl rfl ?_) | (with_reducible refine at_list ?_; refine st_old HB1.out (show InAt w3 { I with s := I.o, o := I.s } k0 k1 k2 k3 k4 from ⟨HO.out.at.l0, HO.out.at.l1, HO.out.at.l2, HO.out.at.l3, HO.out.at.l4, HO.out.at.n1⟩) rfl rfl rfl rfl ?_; intro w4 hbox hg; have HR := Lib.hid hbox; replace HO := Lib.hid (HO.out.kept HB1.out hg); replace HX := Lib.hid (ext_grown HX.out hg (fun k hk => by injection hk with hk; omega)); clear hbox hg))
  (try simp only [Exit.inBlock, Exit.then])
  refine BoxI.ret1 rfl HR.out rfl rfl ?_
  have hA := HO.out
  exact ⟨_, _, _, _, _, rfl, ⟨hA.l0, hA.l1, hA.l2, hA.l3, hA.l4, hA.n1, hA.d1, hA.d2⟩, HX.out⟩

set_option maxHeartbeats 8000000 in
theorem refused_any (w : World) (n : Int) (I : In) (h0 h1 h2 h3 h4 : Value) (hA : InAt w I h0 h1 h2 h3 h4) (hI : I.Ok) (hk : I.kp = 3) (hw : I.bw = 1) : Calls Try.prog 66 #[.agg (rvC n), .agg (inC I h0 h1 h2 h3 h4), .agg dlC] w fun e w' => e = .returned (.int .i64 0) ∧ Ext w w' := by
  have L := Lib.hid hA
  have HI := Lib.hid hI
  have HK := Lib.hid hk
  have HW := Lib.hid hw
  have eb : (I.bw == 0) = false := by rw [hw]; rfl
  clear hA hI hk hw
  go_enter Try.func66, Try.ntmps66
  go_upto_region 1 with fail
  obtain ⟨w0, hw0⟩ : ∃ W, W = (((w.alloc (.cells (rvC n) 25)).alloc (.cells (inC I h0 h1 h2 h3 h4) 34)).alloc (.cells dlC 53)) := ⟨_, rfl⟩
  have HX := Lib.hid (show Ext w w0 by rw [hw0]; exact (by repeat (first | exact Ext.refl _ | refine Ext.drew ?_ | refine Ext.drewN ?_ _ | refine Ext.alloc ?_ _)))
  have HB0 := Lib.hid (show BoxR w0 (w.heap.size) n by rw [hw0]; exact (BoxR.ext (show BoxR _ (w.heap.size) n from (by have := boxR_new w n; simpa using this)) (by repeat (first | exact Ext.refl _ | refine Ext.drew ?_ | refine Ext.drewN ?_ _ | refine Ext.alloc ?_ _))))
  have HB1 := Lib.hid (show BoxI w0 (w.heap.size + 1) I h0 h1 h2 h3 h4 by rw [hw0]; exact (BoxI.ext (show BoxI _ (w.heap.size + 1) I h0 h1 h2 h3 h4 from (by have := boxI_new (w.alloc (.cells (rvC n) 25)) I h0 h1 h2 h3 h4; simpa using this)) (by repeat (first | exact Ext.refl _ | refine Ext.drew ?_ | refine Ext.drewN ?_ _ | refine Ext.alloc ?_ _))))
  have HB2 := Lib.hid (show BoxL w0 (w.heap.size + 2)  by rw [hw0]; exact (BoxL.ext (show BoxL _ (w.heap.size + 2)  from (by have := boxL_new ((w.alloc (.cells (rvC n) 25)).alloc (.cells (inC I h0 h1 h2 h3 h4) 34)) ; simpa using this)) (by repeat (first | exact Ext.refl _ | refine Ext.drew ?_ | refine Ext.drewN ?_ _ | refine Ext.alloc ?_ _))))
  have lw0 : w.heap.size < w0.heap.size := HB0.out.lt
  have lw1 : w.heap.size + 1 < w0.heap.size := HB1.out.lt
  have lw2 : w.heap.size + 2 < w0.heap.size := HB2.out.lt
  have c1_15 := HB1.out.c15
  have c1_20 := HB1.out.c20
  rw [← hw0]
  clear hw0
  go_upto_region 5 with (first | (with_reducible refine at_list ?_; first | go_skip | refine HB0.out.step (by first | rfl | kernel_rfl) rfl rfl ?_) | (with_reducible refine at_list ?_; first | go_skip | refine HB1.out.step (by first | rfl | kernel_rfl) rfl rfl ?_) | (with_reducible refine at_list ?_; first | go_skip | refine HB2.out.step (by first | rfl | kernel_rfl) rfl rfl ?_) | ((fail_if_success (have hzz := hk1)); go_at_call 49; refine (vacant_any _ I h0 h1 h2 h3 h4 (L.out.ext (by repeat (first | exact HX.out | refine Ext.drew ?_ | refine Ext.drewN ?_ _ | refine Ext.alloc ?_ _))) HI.out).mono ?_; rintro e w1 ⟨rfl, hb⟩; (have hx : Ext w0 w1 := Ext.trans (by repeat (first | exact Ext.refl _ | refine Ext.drew ?_ | refine Ext.drewN ?_ _ | refine Ext.alloc ?_ _)) hb); (replace HX := Lib.hid (HX.out.trans hx)); (replace HB0 := Lib.hid (HB0.out.ext hx)); (replace HB1 := Lib.hid (HB1.out.ext hx)); (replace HB2 := Lib.hid (HB2.out.ext hx)); (have lw0 : w.heap.size < w1.heap.size := HB0.out.lt); (have lw1 : w.heap.size + 1 < w1.heap.size := HB1.out.lt); (have lw2 : w.heap.size + 2 < w1.heap.size := HB2.out.lt); (replace c1_15 := HB1.out.c15); (replace c1_20 := HB1.out.c20); (have hk1 : True := trivial); (clear hx hb)))
  have d20 := c1_20
  refine wp_region_held_drew (S := (fun w' => BoxR w' w.heap.size n ∧ BoxI w' (w.heap.size + 1) I h0 h1 h2 h3 h4 ∧ BoxL w' (w.heap.size + 2) ∧ w'.cell? ⟨w.heap.size + 1, 20, none⟩ = some (.bool false))) (by kernel_rfl) (by exact ⟨HB0.out, HB1.out, HB2.out, c1_20⟩) (fun hHeld => ?_)
  refine wpAnyH_take (i := 14) (v := ?v9) rfl (by kernel_rfl) (by kernel_rfl) (by kernel_rfl) (fun _ _ _ h => h) (Or.inl ⟨by rfl, ?y9⟩) (by assumption) ?r9
  case y9 => ((intro w hSw; (try dsimp only at hSw); go_simp; (first | done | with_reducible rfl)))
  (try simp only [List.getElem_toArray, List.getElem_cons_succ, List.getElem_cons_zero, Act.put, List.setIfInBounds_toArray, List.set_cons_zero, List.set_cons_succ])
  refine wpAnyH_take (i := 0) (v := .agg (rvC n)) rfl (by kernel_rfl) (by kernel_rfl) (by kernel_rfl) (fun _ _ _ h => h) (BoxR.yields (fun _ h => h.1) (by rfl) rfl rfl) (by assumption) ?_
  (try simp only [List.getElem_toArray, List.getElem_cons_succ, List.getElem_cons_zero, Act.put, List.setIfInBounds_toArray, List.set_cons_zero, List.set_cons_succ])
  refine wpAnyH_take (i := 1) (v := .agg (inC I h0 h1 h2 h3 h4)) rfl (by kernel_rfl) (by kernel_rfl) (by kernel_rfl) (fun _ _ _ h => h) (BoxI.yields (fun _ h => h.2.1) (by rfl) rfl rfl) (by assumption) ?_
  (try simp only [List.getElem_toArray, List.getElem_cons_succ, List.getElem_cons_zero, Act.put, List.setIfInBounds_toArray, List.set_cons_zero, List.set_cons_succ])
  refine wpAnyH_take (i := 3) (v := .agg dlC) rfl (by kernel_rfl) (by kernel_rfl) (by kernel_rfl) (fun _ _ _ h => h) (BoxL.yields (fun _ h => h.2.2.1) (by rfl) rfl rfl) (by assumption) ?_
  (try simp only [List.getElem_toArray, List.getElem_cons_succ, List.getElem_cons_zero, Act.put, List.setIfInBounds_toArray, List.set_cons_zero, List.set_cons_succ])
  refine wpAnyH_take (i := 5) (v := .agg dlC) rfl (by kernel_rfl) (by kernel_rfl) (by kernel_rfl) (fun _ _ _ h => h) (BoxL.yields (fun _ h => h.2.2.1) (by rfl) rfl rfl) (by assumption) ?_
  (try simp only [List.getElem_toArray, List.getElem_cons_succ, List.getElem_cons_zero, Act.put, List.setIfInBounds_toArray, List.set_cons_zero, List.set_cons_succ])
  refine wpAnyH_take (i := 6) (v := ?v14) rfl (by kernel_rfl) (by kernel_rfl) (by kernel_rfl) (fun _ _ _ h => h) (Or.inl ⟨by rfl, ?y14⟩) (by assumption) ?r14
  case y14 => ((intro w hSw; (try dsimp only at hSw); go_simp; (first | done | with_reducible rfl)))
  (try simp only [List.getElem_toArray, List.getElem_cons_succ, List.getElem_cons_zero, Act.put, List.setIfInBounds_toArray, List.set_cons_zero, List.set_cons_succ])
  refine wpAnyH_take (i := 7) (v := ?v15) rfl (by kernel_rfl) (by kernel_rfl) (by kernel_rfl) (fun _ _ _ h => h) (Or.inl ⟨by rfl, ?y15⟩) (by assumption) ?r15
  case y15 => ((intro w hSw; (try dsimp only at hSw); go_simp; (first | done | with_reducible rfl)))
  (try simp only [List.getElem_toArray, List.getElem_cons_succ, List.getElem_cons_zero, Act.put, List.setIfInBounds_toArray, List.set_cons_zero, List.set_cons_succ])
  refine wpAnyH_take (i := 9) (v := .agg (inC I h0 h1 h2 h3 h4)) rfl (by kernel_rfl) (by kernel_rfl) (by kernel_rfl) (fun _ _ _ h => h) (BoxI.yields (fun _ h => h.2.1) (by rfl) rfl rfl) (by assumption) ?_
  (try simp only [List.getElem_toArray, List.getElem_cons_succ, List.getElem_cons_zero, Act.put, List.setIfInBounds_toArray, List.set_cons_zero, List.set_cons_succ])
  refine wpAnyH_take (i := 10) (v := .agg dlC) rfl (by kernel_rfl) (by kernel_rfl) (by kernel_rfl) (fun _ _ _ h => h) (BoxL.yields (fun _ h => h.2.2.1) (by rfl) rfl rfl) (by assumption) ?_
  (try simp only [List.getElem_toArray, List.getElem_cons_succ, List.getElem_cons_zero, Act.put, List.setIfInBounds_toArray, List.set_cons_zero, List.set_cons_succ])
  refine wpAnyH_ready (rs := [2]) (by kernel_rfl) (by simp) ?_
  refine AllReadyH.cons rfl (fun K hK => ?_) AllReadyH.nil
  go_simp
  (go_at_call 86; refine (ready_rv _ n I h0 h1 h2 h3 h4 (L.out.ext (HX.out.trans (by repeat (first | exact Ext.refl _ | refine Ext.drew ?_ | refine Ext.drewN ?_ _ | refine Ext.alloc ?_ _)))) HI.out.sb HK.out HW.out).mono ?_; rintro e w2 ⟨rfl, hb⟩; have hx2 : Ext w1 w2 := Ext.trans (by repeat (first | exact Ext.refl _ | refine Ext.drew ?_ | refine Ext.drewN ?_ _ | refine Ext.alloc ?_ _)) hb; replace c1_20 := hx2.keep d20; clear hb)
  refine hK.out _ _ (by exact ⟨HB0.out.ext hx2, HB1.out.ext hx2, HB2.out.ext hx2, c1_20⟩) (fun hHeld => ?_)
  clear hK K
  (try simp only [List.getElem_toArray, List.getElem_cons_succ, List.getElem_cons_zero, Act.put, List.setIfInBounds_toArray, List.set_cons_zero, List.set_cons_succ])
  refine wpAnyH_ready (rs := [4]) (by kernel_rfl) (by simp) ?_
  refine AllReadyH.cons rfl (fun K hK => ?_) AllReadyH.nil
  go_simp
  (go_at_call 87; refine (legal_dl _).mono ?_; rintro e w3 ⟨rfl, hb⟩; have hx3 : Ext w1 w3 := hx2.trans (Ext.trans (by repeat (first | exact Ext.refl _ | refine Ext.drew ?_ | refine Ext.drewN ?_ _ | refine Ext.alloc ?_ _)) hb); replace c1_20 := hx3.keep d20; clear hb)
  refine hK.out _ _ (by exact ⟨HB0.out.ext hx3, HB1.out.ext hx3, HB2.out.ext hx3, c1_20⟩) (fun hHeld => ?_)
  clear hK K
  (try simp only [List.getElem_toArray, List.getElem_cons_succ, List.getElem_cons_zero, Act.put, List.setIfInBounds_toArray, List.set_cons_zero, List.set_cons_succ])
  refine wpAnyH_ready (rs := [8]) (by kernel_rfl) (by simp) ?_
  refine AllReadyH.cons rfl (fun K hK => ?_) AllReadyH.nil
  go_simp
  (go_at_call 88; refine (poss_dl _).mono ?_; rintro e w4 ⟨rfl, hb⟩; have hx4 : Ext w1 w4 := hx3.trans (Ext.trans (by repeat (first | exact Ext.refl _ | refine Ext.drew ?_ | refine Ext.drewN ?_ _ | refine Ext.alloc ?_ _)) hb); replace c1_20 := hx4.keep d20; clear hb)
  refine hK.out _ _ (by exact ⟨HB0.out.ext hx4, HB1.out.ext hx4, HB2.out.ext hx4, c1_20⟩) (fun hHeld => ?_)
  clear hK K
  (try simp only [List.getElem_toArray, List.getElem_cons_succ, List.getElem_cons_zero, Act.put, List.setIfInBounds_toArray, List.set_cons_zero, List.set_cons_succ])
  refine wpAnyH_ready (rs := [11]) (by kernel_rfl) (by simp) ?_
  refine AllReadyH.cons rfl (fun K hK => ?_) AllReadyH.nil
  go_simp
  (go_at_call 89; refine (named_rv _ I h0 h1 h2 h3 h4).mono ?_; rintro e w5 ⟨rfl, hb⟩; have hx5 : Ext w1 w5 := hx4.trans (Ext.trans (by repeat (first | exact Ext.refl _ | refine Ext.drew ?_ | refine Ext.drewN ?_ _ | refine Ext.alloc ?_ _)) hb); replace c1_20 := hx5.keep d20; clear hb)
  refine hK.out _ _ (by exact ⟨HB0.out.ext hx5, HB1.out.ext hx5, HB2.out.ext hx5, c1_20⟩) (fun hHeld => ?_)
  clear hK K
  (try simp only [List.getElem_toArray, List.getElem_cons_succ, List.getElem_cons_zero, Act.put, List.setIfInBounds_toArray, List.set_cons_zero, List.set_cons_succ])
  refine wpAnyH_ready (rs := [12]) (by kernel_rfl) (by simp) ?_
  refine AllReadyH.cons rfl (fun K hK => ?_) AllReadyH.nil
  go_simp
  skip
  refine hK.out _ _ (by exact ⟨(HB0.out.ext hx5).ext ((Ext.refl _).alloc _), (HB1.out.ext hx5).ext ((Ext.refl _).alloc _), (HB2.out.ext hx5).ext ((Ext.refl _).alloc _), ((Ext.refl w5).alloc _).keep c1_20⟩) (fun hHeld => ?_)
  clear hK K
  (try simp only [List.getElem_toArray, List.getElem_cons_succ, List.getElem_cons_zero, Act.put, List.setIfInBounds_toArray, List.set_cons_zero, List.set_cons_succ])
  refine wpAnyH_take (i := 13) (v := ?v23) rfl (by kernel_rfl) (by kernel_rfl) (by kernel_rfl) (fun _ _ _ h => h) (Or.inl ⟨by rfl, ?y23⟩) (by assumption) ?r23
  case y23 => ((intro w hSw; (try dsimp only at hSw); go_simp; (first | done | with_reducible rfl)))
  (try simp only [List.getElem_toArray, List.getElem_cons_succ, List.getElem_cons_zero, Act.put, List.setIfInBounds_toArray, List.set_cons_zero, List.set_cons_succ])
  refine wpAnyH_done (by kernel_rfl) ?_ _
  go_wp2_with fail
  refine wp_loop_rounds 5 ?_
  iterate 5
    rw [rounds_succ]
    go_wp2_with fail
  go_ret
  exact ⟨rfl, (HX.out.trans hx5).trans (by repeat (first | exact Ext.refl _ | refine Ext.drew ?_ | refine Ext.drewN ?_ _ | refine Ext.alloc ?_ _))⟩

end Go.Proofs.Ytpeabgfolpgfjaa

/-
  field.Keeper and spell.Take.
-/
import Derived.Test.YtpeabgfolpgfjaaRvJ
import Derived.Test.YtpeabgfolpgfjaaRvE
import Derived.Test.YtpeabgfolpgfjaaRvF
import Derived.Test.YtpeabgfolpgfjaaRvC
import Derived.Test.YtpeabgfolpgfjaaRvC2
import Derived.Test.YtpeabgfolpgfjaaRvC3
namespace Go.Proofs.Ytpeabgfolpgfjaa
open Go.RowKit Go.Lib
set_option linter.unusedSimpArgs false

set_option maxHeartbeats 8000000 in
theorem keeper_any (w : World) (I : In) (h0 h1 h2 h3 h4 : Value) (hA : InAt w I h0 h1 h2 h3 h4) (hI : I.Ok) (hb : I.bw = 0) (hk : I.kp = 0) : Calls Try.prog 42 #[.agg (inC I h0 h1 h2 h3 h4), .int .i64 3] w fun e w' => ∃ k0 k1 k2 k3 k4, e = .returned (.tuple #[.agg (inC { I with kp := 3 } k0 k1 k2 k3 k4), .int .i64 0]) ∧ InOwn w.heap.size w' { I with kp := 3 } k0 k1 k2 k3 k4 ∧ Ext w w' := by
  have L := Lib.hid hA
  have HI := Lib.hid hI
  have e1 : ((3 : Int) == I.bw) = false := by rw [hb]; rfl
  have e2 : ((3 : Int) == I.kp) = false := by rw [hk]; rfl
  clear hA hI hb hk
  go_enter Try.func42, Try.ntmps42
  go_upto_region 1 with fail
  obtain ⟨w0, hw0⟩ : ∃ W, W = ((w.alloc (.cells (inC I h0 h1 h2 h3 h4) 34)).alloc (.cells #[.int .i64 0, .int .i64 0, .int .i64 0, .int .i64 0, .int .i64 0, .int .i64 0, .int .i64 0, .int .i64 0, .int .i64 0, .int .i64 0, .int .i64 0, .int .i64 0, .int .i64 0, .int .i64 0, .slice none 0 0, .int .i64 0, .slice none 0 0, .slice none 0 0, .bool false, .slice none 0 0, .bool false, .int .i64 0, .int .i64 0, .int .i64 0, .slice none 0 0, .int .i64 0, .int .i64 0, .int .u8 0] 34)) := ⟨_, rfl⟩
  have HX := Lib.hid (show Ext w w0 by rw [hw0]; exact (by repeat (first | exact Ext.refl _ | refine Ext.drew ?_ | refine Ext.drewN ?_ _ | refine Ext.alloc ?_ _)))
  have HB0 := Lib.hid (show BoxI w0 (w.heap.size) I h0 h1 h2 h3 h4 by rw [hw0]; exact (BoxI.ext (show BoxI _ (w.heap.size) I h0 h1 h2 h3 h4 from (by have := boxI_new w I h0 h1 h2 h3 h4; simpa using this)) (by repeat (first | exact Ext.refl _ | refine Ext.drew ?_ | refine Ext.drewN ?_ _ | refine Ext.alloc ?_ _))))
  have HB1 := Lib.hid (show BoxZ w0 (w.heap.size + 1)  by rw [hw0]; exact (BoxZ.ext (show BoxZ _ (w.heap.size + 1)  from (by have := boxZ_new (w.alloc (.cells (inC I h0 h1 h2 h3 h4) 34)) ; simpa using this)) (by repeat (first | exact Ext.refl _ | refine Ext.drew ?_ | refine Ext.drewN ?_ _ | refine Ext.alloc ?_ _))))
  have lw0 : w.heap.size < w0.heap.size := HB0.out.lt
  have lw1 : w.heap.size + 1 < w0.heap.size := HB1.out.lt
  have c0_15 := HB0.out.c15
  have c0_22 := HB0.out.c22
  rw [← hw0]
  clear hw0
  go_upto_region 2 with (first | (with_reducible refine at_list ?_; first | go_skip | refine HB0.out.step (by first | rfl | kernel_rfl) rfl rfl ?_) | (go_at_call 74; refine (fown _ I h0 h1 h2 h3 h4 HI.out.good (L.out.ext (by repeat (first | exact HX.out | refine Ext.drew ?_ | refine Ext.drewN ?_ _ | refine Ext.alloc ?_ _)))).mono ?_; rintro e w1 ⟨k0, k1, k2, k3, k4, rfl, hown, hb⟩; have hup := Nat.le_of_lt lw0; have hx : Ext w0 w1 := Ext.trans (by repeat (first | exact Ext.refl _ | refine Ext.drew ?_ | refine Ext.drewN ?_ _ | refine Ext.alloc ?_ _)) hb; (replace HX := Lib.hid (HX.out.trans hx)); (replace HB0 := Lib.hid (HB0.out.ext hx)); (replace HB1 := Lib.hid (HB1.out.ext hx)); (have lw0 : w.heap.size < w1.heap.size := HB0.out.lt); (have lw1 : w.heap.size + 1 < w1.heap.size := HB1.out.lt); (replace c0_15 := HB0.out.c15); (replace c0_22 := HB0.out.c22); have HO := Lib.hid (hown.up hup); clear hx hb hown) | (with_reducible refine at_list ?_; refine st_new rfl HO.out.at rfl rfl rfl rfl ?_; intro w2 hbox hx; have lw1_0 := lw0; have lw1_1 := lw1; (replace HX := Lib.hid (HX.out.trans hx)); (replace HB0 := Lib.hid (HB0.out.ext hx)); (replace HB1 := Lib.hid (HB1.out.ext hx)); (have lw0 : w.heap.size < w2.heap.size := HB0.out.lt); (have lw1 : w.heap.size + 1 < w2.heap.size := HB1.out.lt); (replace c0_15 := HB0.out.c15); (replace c0_22 := HB0.out.c22); have HP := Lib.hid hbox; replace HO := Lib.hid (HO.out.ext hx); clear hx hbox))
  obtain ⟨p, hp⟩ : ∃ q, q = w1.heap.size := ⟨_, rfl⟩
  rw [← hp] at HP ⊢
  have np0 : w.heap.size ≠ p := by rw [hp]; exact Nat.ne_of_lt lw1_0
  have np1 : w.heap.size + 1 ≠ p := by rw [hp]; exact Nat.ne_of_lt lw1_1
  have lp : p < w2.heap.size := HP.out.lt
  have bp : w.heap.size < p := by rw [hp]; exact lw1_0
  clear hp
  clear lw1_0
  clear lw1_1
  go_upto_region 8 with (first | (with_reducible refine at_list ?_; first | go_skip | refine HB0.out.step (by first | rfl | kernel_rfl) rfl rfl ?_) | ((fail_if_success (have hzz := hk3)); go_at_call 75; refine (fknown_yes _ I h0 h1 h2 h3 h4 (L.out.ext (by repeat (first | exact HX.out | refine Ext.drew ?_ | refine Ext.drewN ?_ _ | refine Ext.alloc ?_ _))) HI.out.sbl _ (by decide)).mono ?_; rintro e w3 ⟨rfl, hb⟩; (have hx : Ext w2 w3 := Ext.trans (by repeat (first | exact Ext.refl _ | refine Ext.drew ?_ | refine Ext.drewN ?_ _ | refine Ext.alloc ?_ _)) hb); (replace HX := Lib.hid (HX.out.trans hx)); (replace HB0 := Lib.hid (HB0.out.ext hx)); (replace HB1 := Lib.hid (HB1.out.ext hx)); (have lw0 : w.heap.size < w3.heap.size := HB0.out.lt); (have lw1 : w.heap.size + 1 < w3.heap.size := HB1.out.lt); (replace HP := Lib.hid (HP.out.ext hx)); (replace HO := Lib.hid (HO.out.ext hx)); (replace c0_15 := HB0.out.c15); (replace c0_22 := HB0.out.c22); (have hk3 : True := trivial); (clear hx hb)) | ((fail_if_success (have hzz := hk4)); go_at_call 76; refine (replaced_no _ I h0 h1 h2 h3 h4 (L.out.ext (by repeat (first | exact HX.out | refine Ext.drew ?_ | refine Ext.drewN ?_ _ | refine Ext.alloc ?_ _))) HI.out.sb _ (by decide)).mono ?_; rintro e w4 ⟨rfl, hb⟩; (have hx : Ext w3 w4 := Ext.trans (by repeat (first | exact Ext.refl _ | refine Ext.drew ?_ | refine Ext.drewN ?_ _ | refine Ext.alloc ?_ _)) hb); (replace HX := Lib.hid (HX.out.trans hx)); (replace HB0 := Lib.hid (HB0.out.ext hx)); (replace HB1 := Lib.hid (HB1.out.ext hx)); (have lw0 : w.heap.size < w4.heap.size := HB0.out.lt); (have lw1 : w.heap.size + 1 < w4.heap.size := HB1.out.lt); (replace HP := Lib.hid (HP.out.ext hx)); (replace HO := Lib.hid (HO.out.ext hx)); (replace c0_15 := HB0.out.c15); (replace c0_22 := HB0.out.c22); (have hk4 : True := trivial); (clear hx hb)))
  have cp_22 := HP.out.c22
  have zp_22 := HP.out.fz 22
  go_upto_region 9 with fail
  have q1 := HP.out.set22 3
  have g1 := grown_setCell w4 p 22 (.int .i64 3)
  have o1 := HO.out.kept HP.out.z g1
  have g := g1
  obtain ⟨w5, hw⟩ : ∃ W, W = (w4.setCell ⟨p, 22, none⟩ (.int .i64 3)) := ⟨_, rfl⟩
  rw [← hw] at q1 o1 g ⊢
  replace HX := Lib.hid (ext_grown HX.out g (fun k hk => by injection hk with hk; omega))
  replace HP := Lib.hid q1
  replace HO := Lib.hid o1
  replace HB0 := Lib.hid (HB0.out.grown g np0)
  replace HB1 := Lib.hid (HB1.out.grown g np1)
  have lw0 : w.heap.size < w5.heap.size := HB0.out.lt
  have lw1 : w.heap.size + 1 < w5.heap.size := HB1.out.lt
  replace c0_15 := HB0.out.c15
  replace c0_22 := HB0.out.c22
  clear hw g g1  q1 o1
  go_wp2_with (first | (with_reducible refine at_list ?_; refine HP.out.step (by first | rfl | kernel_rfl) rfl rfl ?_) | (with_reducible refine at_list ?_; refine st_old HB1.out (show InAt w5 { I with kp := 3 } k0 k1 k2 k3 k4 from ⟨HO.out.at.l0, HO.out.at.l1, HO.out.at.l2, HO.out.at.l3, HO.out.at.l4, HO.out.at.n1⟩) rfl rfl rfl rfl ?_; intro w6 hbox hg; have HR := Lib.hid hbox; replace HO := Lib.hid (HO.out.kept HB1.out hg); replace HX := Lib.hid (ext_grown HX.out hg (fun k hk => by injection hk with hk; omega)); clear hbox hg))
  (try simp only [Exit.inBlock, Exit.then])
  refine BoxI.ret rfl HR.out rfl rfl ?_
  have hA := HO.out
  exact ⟨_, _, _, _, _, rfl, ⟨hA.l0, hA.l1, hA.l2, hA.l3, hA.l4, hA.n1, hA.d1, hA.d2⟩, HX.out⟩

set_option maxHeartbeats 8000000 in
theorem take_any (w : World) (n : Int) (hn : 0 ≤ n ∧ n ≤ 9) (I : In) (h0 h1 h2 h3 h4 : Value) (hA : InAt w I h0 h1 h2 h3 h4) (hI : I.Ok) (hk : I.kp = 3) (hw : I.bw = 0) (hf : I.bf = []) : Calls Try.prog 36 #[.agg (rvC n), .agg (inC I h0 h1 h2 h3 h4), .int .i64 1] w fun e w' => ∃ k0 k1 k2 k3 k4, e = .returned (.tuple #[.agg (inC { I with bw := 1 } k0 k1 k2 k3 k4), .int .i64 0]) ∧ InOwn w.heap.size w' { I with bw := 1 } k0 k1 k2 k3 k4 ∧ Ext w w' := by
  have L := Lib.hid hA
  have HI := Lib.hid hI
  have HN := Lib.hid hn
  have HK := Lib.hid hk
  have HW := Lib.hid hw
  have HF := Lib.hid hf
  clear hA hI hn hk hw hf
  go_enter Try.func36, Try.ntmps36
  go_upto_region 1 with fail
  obtain ⟨w0, hw0⟩ : ∃ W, W = (((w.alloc (.cells (rvC n) 25)).alloc (.cells (inC I h0 h1 h2 h3 h4) 34)).alloc (.cells #[.int .i64 0, .int .i64 0, .int .i64 0, .int .i64 0, .int .i64 0, .int .i64 0, .int .i64 0, .int .i64 0, .int .i64 0, .int .i64 0, .int .i64 0, .int .i64 0, .int .i64 0, .int .i64 0, .slice none 0 0, .int .i64 0, .slice none 0 0, .slice none 0 0, .bool false, .slice none 0 0, .bool false, .int .i64 0, .int .i64 0, .int .i64 0, .slice none 0 0, .int .i64 0, .int .i64 0, .int .u8 0] 34)) := ⟨_, rfl⟩
  have HX := Lib.hid (show Ext w w0 by rw [hw0]; exact (by repeat (first | exact Ext.refl _ | refine Ext.drew ?_ | refine Ext.drewN ?_ _ | refine Ext.alloc ?_ _)))
  have HB0 := Lib.hid (show BoxR w0 (w.heap.size) n by rw [hw0]; exact (BoxR.ext (show BoxR _ (w.heap.size) n from (by have := boxR_new w n; simpa using this)) (by repeat (first | exact Ext.refl _ | refine Ext.drew ?_ | refine Ext.drewN ?_ _ | refine Ext.alloc ?_ _))))
  have HB1 := Lib.hid (show BoxI w0 (w.heap.size + 1) I h0 h1 h2 h3 h4 by rw [hw0]; exact (BoxI.ext (show BoxI _ (w.heap.size + 1) I h0 h1 h2 h3 h4 from (by have := boxI_new (w.alloc (.cells (rvC n) 25)) I h0 h1 h2 h3 h4; simpa using this)) (by repeat (first | exact Ext.refl _ | refine Ext.drew ?_ | refine Ext.drewN ?_ _ | refine Ext.alloc ?_ _))))
  have HB2 := Lib.hid (show BoxZ w0 (w.heap.size + 2)  by rw [hw0]; exact (BoxZ.ext (show BoxZ _ (w.heap.size + 2)  from (by have := boxZ_new ((w.alloc (.cells (rvC n) 25)).alloc (.cells (inC I h0 h1 h2 h3 h4) 34)) ; simpa using this)) (by repeat (first | exact Ext.refl _ | refine Ext.drew ?_ | refine Ext.drewN ?_ _ | refine Ext.alloc ?_ _))))
  have lw0 : w.heap.size < w0.heap.size := HB0.out.lt
  have lw1 : w.heap.size + 1 < w0.heap.size := HB1.out.lt
  have lw2 : w.heap.size + 2 < w0.heap.size := HB2.out.lt
  rw [← hw0]
  clear hw0
  go_upto_region 2 with (first | (with_reducible refine at_list ?_; first | go_skip | refine HB0.out.step (by first | rfl | kernel_rfl) rfl rfl ?_ | refine HB1.out.step (by first | rfl | kernel_rfl) rfl rfl ?_) | (go_at_call 64; refine (sown _ I h0 h1 h2 h3 h4 HI.out.good (L.out.ext (by repeat (first | exact HX.out | refine Ext.drew ?_ | refine Ext.drewN ?_ _ | refine Ext.alloc ?_ _)))).mono ?_; rintro e w1 ⟨k0, k1, k2, k3, k4, rfl, hown, hb⟩; have hup := Nat.le_of_lt lw0; have hx : Ext w0 w1 := Ext.trans (by repeat (first | exact Ext.refl _ | refine Ext.drew ?_ | refine Ext.drewN ?_ _ | refine Ext.alloc ?_ _)) hb; (replace HX := Lib.hid (HX.out.trans hx)); (replace HB0 := Lib.hid (HB0.out.ext hx)); (replace HB1 := Lib.hid (HB1.out.ext hx)); (replace HB2 := Lib.hid (HB2.out.ext hx)); (have lw0 : w.heap.size < w1.heap.size := HB0.out.lt); (have lw1 : w.heap.size + 1 < w1.heap.size := HB1.out.lt); (have lw2 : w.heap.size + 2 < w1.heap.size := HB2.out.lt); have HO := Lib.hid (hown.up hup); clear hx hb hown) | (with_reducible refine at_list ?_; refine st_new rfl HO.out.at rfl rfl rfl rfl ?_; intro w2 hbox hx; have lw1_0 := lw0; have lw1_1 := lw1; have lw1_2 := lw2; (replace HX := Lib.hid (HX.out.trans hx)); (replace HB0 := Lib.hid (HB0.out.ext hx)); (replace HB1 := Lib.hid (HB1.out.ext hx)); (replace HB2 := Lib.hid (HB2.out.ext hx)); (have lw0 : w.heap.size < w2.heap.size := HB0.out.lt); (have lw1 : w.heap.size + 1 < w2.heap.size := HB1.out.lt); (have lw2 : w.heap.size + 2 < w2.heap.size := HB2.out.lt); have HP := Lib.hid hbox; replace HO := Lib.hid (HO.out.ext hx); clear hx hbox))
  obtain ⟨p, hp⟩ : ∃ q, q = w1.heap.size := ⟨_, rfl⟩
  rw [← hp] at HP ⊢
  have np0 : w.heap.size ≠ p := by rw [hp]; exact Nat.ne_of_lt lw1_0
  have np1 : w.heap.size + 1 ≠ p := by rw [hp]; exact Nat.ne_of_lt lw1_1
  have np2 : w.heap.size + 2 ≠ p := by rw [hp]; exact Nat.ne_of_lt lw1_2
  have lp : p < w2.heap.size := HP.out.lt
  have bp : w.heap.size < p := by rw [hp]; exact lw1_0
  clear hp
  clear lw1_0
  clear lw1_1
  clear lw1_2
  go_upto_region 4 with (first | (with_reducible refine at_list ?_; first | go_skip | refine HB0.out.step (by first | rfl | kernel_rfl) rfl rfl ?_ | refine HB1.out.step (by first | rfl | kernel_rfl) rfl rfl ?_) | ((fail_if_success (have hzz := hk3)); go_at_call 65; refine (may_rv _ n HN.out I h0 h1 h2 h3 h4 (L.out.ext (by repeat (first | exact HX.out | refine Ext.drew ?_ | refine Ext.drewN ?_ _ | refine Ext.alloc ?_ _))) HI.out.bdl HI.out.sb HK.out HW.out HF.out).mono ?_; rintro e w3 ⟨rfl, hb⟩; (have hx : Ext w2 w3 := Ext.trans (by repeat (first | exact Ext.refl _ | refine Ext.drew ?_ | refine Ext.drewN ?_ _ | refine Ext.alloc ?_ _)) hb); (replace HX := Lib.hid (HX.out.trans hx)); (replace HB0 := Lib.hid (HB0.out.ext hx)); (replace HB1 := Lib.hid (HB1.out.ext hx)); (replace HB2 := Lib.hid (HB2.out.ext hx)); (have lw0 : w.heap.size < w3.heap.size := HB0.out.lt); (have lw1 : w.heap.size + 1 < w3.heap.size := HB1.out.lt); (have lw2 : w.heap.size + 2 < w3.heap.size := HB2.out.lt); (replace HP := Lib.hid (HP.out.ext hx)); (replace HO := Lib.hid (HO.out.ext hx)); (have hk3 : True := trivial); (clear hx hb)))
  have cp_15 := HP.out.c15
  have zp_15 := HP.out.fz 15
  go_upto_region 5 with fail
  have q1 := HP.out.set15 1
  have g1 := grown_setCell w3 p 15 (.int .i64 1)
  have o1 := HO.out.kept HP.out.z g1
  have g := g1
  obtain ⟨w4, hw⟩ : ∃ W, W = (w3.setCell ⟨p, 15, none⟩ (.int .i64 1)) := ⟨_, rfl⟩
  rw [← hw] at q1 o1 g ⊢
  replace HX := Lib.hid (ext_grown HX.out g (fun k hk => by injection hk with hk; omega))
  replace HP := Lib.hid q1
  replace HO := Lib.hid o1
  replace HB0 := Lib.hid (HB0.out.grown g np0)
  replace HB1 := Lib.hid (HB1.out.grown g np1)
  replace HB2 := Lib.hid (HB2.out.grown g np2)
  have lw0 : w.heap.size < w4.heap.size := HB0.out.lt
  have lw1 : w.heap.size + 1 < w4.heap.size := HB1.out.lt
  have lw2 : w.heap.size + 2 < w4.heap.size := HB2.out.lt
  clear hw g g1  q1 o1
  go_wp2_with (first | (with_reducible refine at_list ?_; refine HP.out.step (by first | rfl | kernel_rfl) rfl rfl ?_) | (with_reducible refine at_list ?_; refine st_old HB2.out (show InAt w4 { I with bw := 1 } k0 k1 k2 k3 k4 from ⟨HO.out.at.l0, HO.out.at.l1, HO.out.at.l2, HO.out.at.l3, HO.out.at.l4, HO.out.at.n1⟩) rfl rfl rfl rfl ?_; intro w5 hbox hg; have HR := Lib.hid hbox; replace HO := Lib.hid (HO.out.kept HB2.out hg); replace HX := Lib.hid (ext_grown HX.out hg (fun k hk => by injection hk with hk; omega)); clear hbox hg))
  (try simp only [Exit.inBlock, Exit.then])
  refine BoxI.ret rfl HR.out rfl rfl ?_
  have hA := HO.out
  exact ⟨_, _, _, _, _, rfl, ⟨hA.l0, hA.l1, hA.l2, hA.l3, hA.l4, hA.n1, hA.d1, hA.d2⟩, HX.out⟩

end Go.Proofs.Ytpeabgfolpgfjaa

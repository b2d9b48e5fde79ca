/-
  The states of the law are valid and have not ended.
-/
import Derived.Test.YtpeabgfolpgfjaaRvF
namespace Go.Proofs.Ytpeabgfolpgfjaa
open Go.RowKit Go.Lib
set_option linter.unusedSimpArgs false

set_option maxHeartbeats 8000000 in
theorem valid_any (w : World) (n : Int) (hn : 0 ≤ n ∧ n ≤ 9) (I : In) (h0 h1 h2 h3 h4 : Value) (hA : InAt w I h0 h1 h2 h3 h4) (hI : I.Ok) : Calls Try.prog 15 #[.agg (rvC n), .agg (inC I h0 h1 h2 h3 h4)] w fun e w' => e = .returned (.bool true) ∧ Ext w w' := by
  obtain ⟨a0, d0, hh0⟩ := list_sl hA.l0
  obtain ⟨a3, d3, hh3⟩ := list_sl hA.l3
  obtain ⟨a4, d4, hh4⟩ := list_sl hA.l4
  rw [hI.batl] at hh0
  rw [hI.bdl] at hh3
  rw [hI.sbl] at hh4
  have H0 := Lib.hid hh0
  have H3 := Lib.hid hh3
  have H4 := Lib.hid hh4
  have L := Lib.hid hA
  have HI := Lib.hid hI
  have HN := Lib.hid hn
  have Hbl := Lib.hid hI.bl
  have Hbf := Lib.hid hI.bf
  obtain ⟨k0, k1⟩ := hI.k
  obtain ⟨p0, p1⟩ := hI.kp
  obtain ⟨q0, q1⟩ := hI.bw
  clear hA hI hn hh0 hh3 hh4
  go_enter Try.func15, Try.ntmps15
  go_upto_region 1 with fail
  obtain ⟨w0, hw0⟩ : ∃ W, W = ((w.alloc (.cells (rvC n) 25)).alloc (.cells (inC I h0 h1 h2 h3 h4) 34)) := ⟨_, rfl⟩
  have HX := Lib.hid (show Ext w w0 by rw [hw0]; exact (by repeat (first | exact Ext.refl _ | refine Ext.drew ?_ | refine Ext.drewN ?_ _ | refine Ext.alloc ?_ _)))
  have HB0 := Lib.hid (show BoxR w0 (w.heap.size) n by rw [hw0]; exact (BoxR.ext (show BoxR _ (w.heap.size) n from (by have := boxR_new w n; simpa using this)) (by repeat (first | exact Ext.refl _ | refine Ext.drew ?_ | refine Ext.drewN ?_ _ | refine Ext.alloc ?_ _))))
  have HB1 := Lib.hid (show BoxI w0 (w.heap.size + 1) I h0 h1 h2 h3 h4 by rw [hw0]; exact (BoxI.ext (show BoxI _ (w.heap.size + 1) I h0 h1 h2 h3 h4 from (by have := boxI_new (w.alloc (.cells (rvC n) 25)) I h0 h1 h2 h3 h4; simpa using this)) (by repeat (first | exact Ext.refl _ | refine Ext.drew ?_ | refine Ext.drewN ?_ _ | refine Ext.alloc ?_ _))))
  have lw0 : w.heap.size < w0.heap.size := HB0.out.lt
  have lw1 : w.heap.size + 1 < w0.heap.size := HB1.out.lt
  have c0_1 := HB0.out.c1
  have c0_3 := HB0.out.c3
  have c0_4 := HB0.out.c4
  have c1_0 := HB1.out.c0
  have c1_14 := HB1.out.c14
  rw [H0.out] at c1_14
  have c1_19 := HB1.out.c19
  rw [H3.out] at c1_19
  have c1_24 := HB1.out.c24
  rw [H4.out] at c1_24
  have c1_27 := HB1.out.c27
  have c1_15 := HB1.out.c15
  have c1_22 := HB1.out.c22
  have c1_16 := HB1.out.c16
  have c1_17 := HB1.out.c17
  have c1_2 := HB1.out.c2
  have c1_11 := HB1.out.c11
  rw [← hw0]
  clear hw0
  go_wp2_with (first | (with_reducible refine at_list ?_; first | go_skip | refine HB0.out.step (by first | rfl | kernel_rfl) rfl rfl ?_) | (with_reducible refine at_list ?_; first | go_skip | refine HB1.out.step (by first | rfl | kernel_rfl) rfl rfl ?_) | ((fail_if_success (have hzz := hk1)); go_at_call 21; refine (rvchk n HN.out _).mono ?_; rintro e w1 ⟨rfl, hb⟩; (have hx : Ext w0 w1 := Ext.trans (by repeat (first | exact Ext.refl _ | refine Ext.drew ?_ | refine Ext.drewN ?_ _ | refine Ext.alloc ?_ _)) hb); (replace HX := Lib.hid (HX.out.trans hx)); (replace HB0 := Lib.hid (HB0.out.ext hx)); (replace HB1 := Lib.hid (HB1.out.ext hx)); (have lw0 : w.heap.size < w1.heap.size := HB0.out.lt); (have lw1 : w.heap.size + 1 < w1.heap.size := HB1.out.lt); (replace c0_1 := HB0.out.c1); (replace c0_3 := HB0.out.c3); (replace c0_4 := HB0.out.c4); (replace c1_0 := HB1.out.c0); (replace c1_14 := HB1.out.c14); (rw [H0.out] at c1_14); (replace c1_19 := HB1.out.c19); (rw [H3.out] at c1_19); (replace c1_24 := HB1.out.c24); (rw [H4.out] at c1_24); (replace c1_27 := HB1.out.c27); (replace c1_15 := HB1.out.c15); (replace c1_22 := HB1.out.c22); (replace c1_16 := HB1.out.c16); (replace c1_17 := HB1.out.c17); (replace c1_2 := HB1.out.c2); (replace c1_11 := HB1.out.c11); (have hk1 : True := trivial); (clear hx hb)) | ((fail_if_success (have hzz := hk2)); go_at_call 23; refine (batters_any _ I h0 h1 h2 h3 h4 (L.out.ext (by repeat (first | exact HX.out | refine Ext.drew ?_ | refine Ext.drewN ?_ _ | refine Ext.alloc ?_ _))) HI.out).mono ?_; rintro e w2 ⟨rfl, hb⟩; (have hx : Ext w1 w2 := Ext.trans (by repeat (first | exact Ext.refl _ | refine Ext.drew ?_ | refine Ext.drewN ?_ _ | refine Ext.alloc ?_ _)) hb); (replace HX := Lib.hid (HX.out.trans hx)); (replace HB0 := Lib.hid (HB0.out.ext hx)); (replace HB1 := Lib.hid (HB1.out.ext hx)); (have lw0 : w.heap.size < w2.heap.size := HB0.out.lt); (have lw1 : w.heap.size + 1 < w2.heap.size := HB1.out.lt); (replace c0_1 := HB0.out.c1); (replace c0_3 := HB0.out.c3); (replace c0_4 := HB0.out.c4); (replace c1_0 := HB1.out.c0); (replace c1_14 := HB1.out.c14); (rw [H0.out] at c1_14); (replace c1_19 := HB1.out.c19); (rw [H3.out] at c1_19); (replace c1_24 := HB1.out.c24); (rw [H4.out] at c1_24); (replace c1_27 := HB1.out.c27); (replace c1_15 := HB1.out.c15); (replace c1_22 := HB1.out.c22); (replace c1_16 := HB1.out.c16); (replace c1_17 := HB1.out.c17); (replace c1_2 := HB1.out.c2); (replace c1_11 := HB1.out.c11); (have hk2 : True := trivial); (clear hx hb)) | ((fail_if_success (have hzz := hk3)); go_at_call 25; refine (numbers_any _ I h0 h1 h2 h3 h4 (L.out.ext (by repeat (first | exact HX.out | refine Ext.drew ?_ | refine Ext.drewN ?_ _ | refine Ext.alloc ?_ _))) HI.out).mono ?_; rintro e w3 ⟨rfl, hb⟩; (have hx : Ext w2 w3 := Ext.trans (by repeat (first | exact Ext.refl _ | refine Ext.drew ?_ | refine Ext.drewN ?_ _ | refine Ext.alloc ?_ _)) hb); (replace HX := Lib.hid (HX.out.trans hx)); (replace HB0 := Lib.hid (HB0.out.ext hx)); (replace HB1 := Lib.hid (HB1.out.ext hx)); (have lw0 : w.heap.size < w3.heap.size := HB0.out.lt); (have lw1 : w.heap.size + 1 < w3.heap.size := HB1.out.lt); (replace c0_1 := HB0.out.c1); (replace c0_3 := HB0.out.c3); (replace c0_4 := HB0.out.c4); (replace c1_0 := HB1.out.c0); (replace c1_14 := HB1.out.c14); (rw [H0.out] at c1_14); (replace c1_19 := HB1.out.c19); (rw [H3.out] at c1_19); (replace c1_24 := HB1.out.c24); (rw [H4.out] at c1_24); (replace c1_27 := HB1.out.c27); (replace c1_15 := HB1.out.c15); (replace c1_22 := HB1.out.c22); (replace c1_16 := HB1.out.c16); (replace c1_17 := HB1.out.c17); (replace c1_2 := HB1.out.c2); (replace c1_11 := HB1.out.c11); (have hk3 : True := trivial); (clear hx hb)) | (go_at_call 22; refine (ibet_yes _ _ _ _ (by first | exact ⟨q0, q1⟩ | exact ⟨p0, p1⟩ | exact ⟨k0, k1⟩ | exact ⟨by decide, by decide⟩)).mono ?_; rintro e w' ⟨rfl, hww⟩; replace hww := hww.symm; subst hww) | ((fail_if_success (have hzz := hd1)); go_at_call 24; refine (diff_any _ h1 _ Hbl.out ((L.out.l1).ext (by repeat (first | exact HX.out | refine Ext.drew ?_ | refine Ext.drewN ?_ _ | refine Ext.alloc ?_ _)))).mono ?_; rintro e w' ⟨rfl, hww⟩; replace hww := hww.symm; subst hww; have hd1 : True := trivial) | (go_at_call 24; refine (diff_any _ h2 _ Hbf.out ((L.out.l2).ext (by repeat (first | exact HX.out | refine Ext.drew ?_ | refine Ext.drewN ?_ _ | refine Ext.alloc ?_ _)))).mono ?_; rintro e w' ⟨rfl, hww⟩; replace hww := hww.symm; subst hww; have hd1 : True := trivial))
  go_ret
  exact ⟨rfl, (HX.out.trans (by repeat (first | exact Ext.refl _ | refine Ext.drew ?_ | refine Ext.drewN ?_ _ | refine Ext.alloc ?_ _)))⟩

theorem vacant_any (w : World) (I : In) (h0 h1 h2 h3 h4 : Value) (hA : InAt w I h0 h1 h2 h3 h4) (hI : I.Ok) : Calls Try.prog 49 #[.agg (inC I h0 h1 h2 h3 h4)] w fun e w' => e = .returned (.bool false) ∧ Ext w w' := by
  rcases hI.so with ⟨g1, g2, g3⟩ | ⟨g1, g2, g3⟩ | ⟨g1, g2, g3⟩
  · exact vacant_no w I h0 h1 h2 h3 h4 hA g3
  · exact vacant_yes w I h0 h1 h2 h3 h4 hA g3 (by rw [g1]; rfl) (by rw [g2]; rfl)
  · exact vacant_yes w I h0 h1 h2 h3 h4 hA g3 (by rw [g1]; rfl) (by rw [g2]; rfl)

set_option maxHeartbeats 4000000 in
theorem ending_any (w : World) (n : Int) (hn : 0 ≤ n ∧ n ≤ 9) (I : In) (h0 h1 h2 h3 h4 : Value) (hA : InAt w I h0 h1 h2 h3 h4) (hI : I.Ok) : Calls Try.prog 20 #[.agg (rvC n), .agg (inC I h0 h1 h2 h3 h4)] w fun e w' => e = .returned (.int .u8 0) ∧ Ext w w' := by
  have L := Lib.hid hA
  have HI := Lib.hid hI
  have HN := Lib.hid hn
  clear hA hI hn
  go_enter Try.func20, Try.ntmps20
  go_upto_region 1 with fail
  obtain ⟨w0, hw0⟩ : ∃ W, W = ((w.alloc (.cells (rvC n) 25)).alloc (.cells (inC I h0 h1 h2 h3 h4) 34)) := ⟨_, rfl⟩
  have HX := Lib.hid (show Ext w w0 by rw [hw0]; exact (by repeat (first | exact Ext.refl _ | refine Ext.drew ?_ | refine Ext.drewN ?_ _ | refine Ext.alloc ?_ _)))
  have HB0 := Lib.hid (show BoxR w0 (w.heap.size) n by rw [hw0]; exact (BoxR.ext (show BoxR _ (w.heap.size) n from (by have := boxR_new w n; simpa using this)) (by repeat (first | exact Ext.refl _ | refine Ext.drew ?_ | refine Ext.drewN ?_ _ | refine Ext.alloc ?_ _))))
  have HB1 := Lib.hid (show BoxI w0 (w.heap.size + 1) I h0 h1 h2 h3 h4 by rw [hw0]; exact (BoxI.ext (show BoxI _ (w.heap.size + 1) I h0 h1 h2 h3 h4 from (by have := boxI_new (w.alloc (.cells (rvC n) 25)) I h0 h1 h2 h3 h4; simpa using this)) (by repeat (first | exact Ext.refl _ | refine Ext.drew ?_ | refine Ext.drewN ?_ _ | refine Ext.alloc ?_ _))))
  have lw0 : w.heap.size < w0.heap.size := HB0.out.lt
  have lw1 : w.heap.size + 1 < w0.heap.size := HB1.out.lt
  have c1_1 := HB1.out.c1
  have c1_2 := HB1.out.c2
  rw [← hw0]
  clear hw0
  go_wp2_with (first | (with_reducible refine at_list ?_; first | go_skip | refine HB0.out.step (by first | rfl | kernel_rfl) rfl rfl ?_) | (with_reducible refine at_list ?_; first | go_skip | refine HB1.out.step (by first | rfl | kernel_rfl) rfl rfl ?_) | ((fail_if_success (have hzz := hk1)); go_at_call 15; refine (valid_any _ n HN.out I h0 h1 h2 h3 h4 (L.out.ext (by repeat (first | exact HX.out | refine Ext.drew ?_ | refine Ext.drewN ?_ _ | refine Ext.alloc ?_ _))) HI.out).mono ?_; rintro e w1 ⟨rfl, hb⟩; (have hx : Ext w0 w1 := Ext.trans (by repeat (first | exact Ext.refl _ | refine Ext.drew ?_ | refine Ext.drewN ?_ _ | refine Ext.alloc ?_ _)) hb); (replace HX := Lib.hid (HX.out.trans hx)); (replace HB0 := Lib.hid (HB0.out.ext hx)); (replace HB1 := Lib.hid (HB1.out.ext hx)); (have lw0 : w.heap.size < w1.heap.size := HB0.out.lt); (have lw1 : w.heap.size + 1 < w1.heap.size := HB1.out.lt); (replace c1_1 := HB1.out.c1); (replace c1_2 := HB1.out.c2); (have hk1 : True := trivial); (clear hx hb)) | ((fail_if_success (have hzz := hk2)); go_at_call 49; refine (vacant_any _ I h0 h1 h2 h3 h4 (L.out.ext (by repeat (first | exact HX.out | refine Ext.drew ?_ | refine Ext.drewN ?_ _ | refine Ext.alloc ?_ _))) HI.out).mono ?_; rintro e w2 ⟨rfl, hb⟩; (have hx : Ext w1 w2 := Ext.trans (by repeat (first | exact Ext.refl _ | refine Ext.drew ?_ | refine Ext.drewN ?_ _ | refine Ext.alloc ?_ _)) hb); (replace HX := Lib.hid (HX.out.trans hx)); (replace HB0 := Lib.hid (HB0.out.ext hx)); (replace HB1 := Lib.hid (HB1.out.ext hx)); (have lw0 : w.heap.size < w2.heap.size := HB0.out.lt); (have lw1 : w.heap.size + 1 < w2.heap.size := HB1.out.lt); (replace c1_1 := HB1.out.c1); (replace c1_2 := HB1.out.c2); (have hk2 : True := trivial); (clear hx hb)))
  go_ret
  exact ⟨rfl, (HX.out.trans (by repeat (first | exact Ext.refl _ | refine Ext.drew ?_ | refine Ext.drewN ?_ _ | refine Ext.alloc ?_ _)))⟩

end Go.Proofs.Ytpeabgfolpgfjaa

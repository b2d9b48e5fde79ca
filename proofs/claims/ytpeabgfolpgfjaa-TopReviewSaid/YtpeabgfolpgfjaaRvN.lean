/-
  innings.review.
-/
import Derived.Test.YtpeabgfolpgfjaaRvJ
import Derived.Test.YtpeabgfolpgfjaaRvE
import Derived.Test.YtpeabgfolpgfjaaRvG
import Derived.Test.YtpeabgfolpgfjaaRvC4
namespace Go.Proofs.Ytpeabgfolpgfjaa
open Go.RowKit Go.Lib
set_option linter.unusedSimpArgs false

set_option maxHeartbeats 8000000 in
theorem review_yes1 (w : World) (n : Int) (I : In) (h0 h1 h2 h3 h4 : Value) (hA : InAt w I h0 h1 h2 h3 h4) (hI : I.Ok) (hf : I.fr = true) (hl : I.ra < n) : Calls Try.prog 47 #[.agg (rvC n), .agg (inC I h0 h1 h2 h3 h4), .agg (evC 14 1 0 0 true 0)] w fun e w' => ∃ k0 k1 k2 k3 k4, e = .returned (.tuple #[.agg (inC I k0 k1 k2 k3 k4), .int .i64 0]) ∧ InOwn w.heap.size w' I k0 k1 k2 k3 k4 ∧ Ext w w' := by
  have L := Lib.hid hA
  have HI := Lib.hid hI
  have HF := Lib.hid hf
  have hrr := hI.ra
  have ew0 : IntKind.i64.wrap 0 = 0 := by decide
  have ew1 : IntKind.i64.wrap 1 = 1 := by decide
  have ewr : IntKind.i64.wrap (I.ra + 1) = I.ra + 1 := IntWalk.i64_in _ (by omega)
  have hle : ¬ (n ≤ I.ra) := by omega
  clear hA hI hf hrr
  go_enter Try.func47, Try.ntmps47
  go_upto_region 1 with fail
  obtain ⟨w0, hw0⟩ : ∃ W, W = ((((w.alloc (.cells (rvC n) 25)).alloc (.cells (inC I h0 h1 h2 h3 h4) 34)).alloc (.cells (evC 14 1 0 0 true 0) 55)).alloc (.cells #[.int .i64 0, .int .i64 0, .int .i64 0, .int .i64 0, .int .i64 0, .int .i64 0, .int .i64 0, .int .i64 0, .int .i64 0, .int .i64 0, .int .i64 0, .int .i64 0, .int .i64 0, .int .i64 0, .slice none 0 0, .int .i64 0, .slice none 0 0, .slice none 0 0, .bool false, .slice none 0 0, .bool false, .int .i64 0, .int .i64 0, .int .i64 0, .slice none 0 0, .int .i64 0, .int .i64 0, .int .u8 0] 34)) := ⟨_, rfl⟩
  have HX := Lib.hid (show Ext w w0 by rw [hw0]; exact (by repeat (first | exact Ext.refl _ | refine Ext.drew ?_ | refine Ext.drewN ?_ _ | refine Ext.alloc ?_ _)))
  have HB0 := Lib.hid (show BoxR w0 (w.heap.size) n by rw [hw0]; exact (BoxR.ext (show BoxR _ (w.heap.size) n from (by have := boxR_new w n; simpa using this)) (by repeat (first | exact Ext.refl _ | refine Ext.drew ?_ | refine Ext.drewN ?_ _ | refine Ext.alloc ?_ _))))
  have HB1 := Lib.hid (show BoxI w0 (w.heap.size + 1) I h0 h1 h2 h3 h4 by rw [hw0]; exact (BoxI.ext (show BoxI _ (w.heap.size + 1) I h0 h1 h2 h3 h4 from (by have := boxI_new (w.alloc (.cells (rvC n) 25)) I h0 h1 h2 h3 h4; simpa using this)) (by repeat (first | exact Ext.refl _ | refine Ext.drew ?_ | refine Ext.drewN ?_ _ | refine Ext.alloc ?_ _))))
  have HB2 := Lib.hid (show BoxE w0 (w.heap.size + 2) 14 1 0 0 true 0 by rw [hw0]; exact (BoxE.ext (show BoxE _ (w.heap.size + 2) 14 1 0 0 true 0 from (by have := boxE_new ((w.alloc (.cells (rvC n) 25)).alloc (.cells (inC I h0 h1 h2 h3 h4) 34)) 14 1 0 0 true 0; simpa using this)) (by repeat (first | exact Ext.refl _ | refine Ext.drew ?_ | refine Ext.drewN ?_ _ | refine Ext.alloc ?_ _))))
  have HB3 := Lib.hid (show BoxZ w0 (w.heap.size + 3)  by rw [hw0]; exact (BoxZ.ext (show BoxZ _ (w.heap.size + 3)  from (by have := boxZ_new (((w.alloc (.cells (rvC n) 25)).alloc (.cells (inC I h0 h1 h2 h3 h4) 34)).alloc (.cells (evC 14 1 0 0 true 0) 55)) ; simpa using this)) (by repeat (first | exact Ext.refl _ | refine Ext.drew ?_ | refine Ext.drewN ?_ _ | refine Ext.alloc ?_ _))))
  have lw0 : w.heap.size < w0.heap.size := HB0.out.lt
  have lw1 : w.heap.size + 1 < w0.heap.size := HB1.out.lt
  have lw2 : w.heap.size + 2 < w0.heap.size := HB2.out.lt
  have lw3 : w.heap.size + 3 < w0.heap.size := HB3.out.lt
  have c0_11 := HB0.out.c11
  have c1_18 := HB1.out.c18
  rw [HF.out] at c1_18
  have c1_25 := HB1.out.c25
  have c2_1 := HB2.out.c1
  have c2_4 := HB2.out.c4
  rw [← hw0]
  clear hw0
  go_upto_region 2 with (first | (with_reducible refine at_list ?_; first | go_skip | refine HB0.out.step (by first | rfl | kernel_rfl) rfl rfl ?_ | refine HB1.out.step (by first | rfl | kernel_rfl) rfl rfl ?_) | (go_at_call 17; refine (iclone _ I h0 h1 h2 h3 h4 HI.out.good (L.out.ext (by repeat (first | exact HX.out | refine Ext.drew ?_ | refine Ext.drewN ?_ _ | refine Ext.alloc ?_ _)))).mono ?_; rintro e w1 ⟨k0, k1, k2, k3, k4, rfl, hown, hb⟩; have hup := Nat.le_of_lt lw0; have hx : Ext w0 w1 := Ext.trans (by repeat (first | exact Ext.refl _ | refine Ext.drew ?_ | refine Ext.drewN ?_ _ | refine Ext.alloc ?_ _)) hb; (replace HX := Lib.hid (HX.out.trans hx)); (replace HB0 := Lib.hid (HB0.out.ext hx)); (replace HB1 := Lib.hid (HB1.out.ext hx)); (replace HB2 := Lib.hid (HB2.out.ext hx)); (replace HB3 := Lib.hid (HB3.out.ext hx)); (have lw0 : w.heap.size < w1.heap.size := HB0.out.lt); (have lw1 : w.heap.size + 1 < w1.heap.size := HB1.out.lt); (have lw2 : w.heap.size + 2 < w1.heap.size := HB2.out.lt); (have lw3 : w.heap.size + 3 < w1.heap.size := HB3.out.lt); (replace c0_11 := HB0.out.c11); (replace c1_18 := HB1.out.c18); (rw [HF.out] at c1_18); (replace c1_25 := HB1.out.c25); (replace c2_1 := HB2.out.c1); (replace c2_4 := HB2.out.c4); have HO := Lib.hid (hown.up hup); clear hx hb hown) | (with_reducible refine at_list ?_; refine st_new rfl HO.out.at rfl rfl rfl rfl ?_; intro w2 hbox hx; have lw1_0 := lw0; have lw1_1 := lw1; have lw1_2 := lw2; have lw1_3 := lw3; (replace HX := Lib.hid (HX.out.trans hx)); (replace HB0 := Lib.hid (HB0.out.ext hx)); (replace HB1 := Lib.hid (HB1.out.ext hx)); (replace HB2 := Lib.hid (HB2.out.ext hx)); (replace HB3 := Lib.hid (HB3.out.ext hx)); (have lw0 : w.heap.size < w2.heap.size := HB0.out.lt); (have lw1 : w.heap.size + 1 < w2.heap.size := HB1.out.lt); (have lw2 : w.heap.size + 2 < w2.heap.size := HB2.out.lt); (have lw3 : w.heap.size + 3 < w2.heap.size := HB3.out.lt); (replace c0_11 := HB0.out.c11); (replace c1_18 := HB1.out.c18); (rw [HF.out] at c1_18); (replace c1_25 := HB1.out.c25); (replace c2_1 := HB2.out.c1); (replace c2_4 := HB2.out.c4); have HP := Lib.hid hbox; replace HO := Lib.hid (HO.out.ext hx); clear hx hbox))
  obtain ⟨p, hp⟩ : ∃ q, q = w1.heap.size := ⟨_, rfl⟩
  rw [← hp] at HP ⊢
  have np0 : w.heap.size ≠ p := by rw [hp]; exact Nat.ne_of_lt lw1_0
  have np1 : w.heap.size + 1 ≠ p := by rw [hp]; exact Nat.ne_of_lt lw1_1
  have np2 : w.heap.size + 2 ≠ p := by rw [hp]; exact Nat.ne_of_lt lw1_2
  have np3 : w.heap.size + 3 ≠ p := by rw [hp]; exact Nat.ne_of_lt lw1_3
  have lp : p < w2.heap.size := HP.out.lt
  have bp : w.heap.size < p := by rw [hp]; exact lw1_0
  clear hp
  clear lw1_0
  clear lw1_1
  clear lw1_2
  clear lw1_3
  refine wp_region_held_drew (S := (fun w' => w'.cell? ⟨w.heap.size + 1, 18, none⟩ = some (.bool true) ∧ w'.cell? ⟨w.heap.size + 1, 25, none⟩ = some (.int .i64 I.ra) ∧ w'.cell? ⟨w.heap.size, 11, none⟩ = some (.int .i64 n) ∧ w'.cell? ⟨w.heap.size + 2, 1, none⟩ = some (.int .i64 1))) (by kernel_rfl) (by exact ⟨c1_18, c1_25, c0_11, c2_1⟩) (fun hHeld => ?_)
  refine wpAnyH_take (i := 0) (v := ?v1) rfl (by kernel_rfl) (by kernel_rfl) (by kernel_rfl) (fun _ _ _ h => h) (Or.inl ⟨by rfl, ?y1⟩) (by assumption) ?r1
  case y1 => ((intro w hSw; (try dsimp only at hSw); go_simp; (first | done | with_reducible rfl)))
  (try simp only [List.getElem_toArray, List.getElem_cons_succ, List.getElem_cons_zero, Act.put, List.setIfInBounds_toArray, List.set_cons_zero, List.set_cons_succ])
  refine wpAnyH_take (i := 1) (v := ?v2) rfl (by kernel_rfl) (by kernel_rfl) (by kernel_rfl) (fun _ _ _ h => h) (Or.inl ⟨by rfl, ?y2⟩) (by assumption) ?r2
  case y2 => ((intro w hSw; (try dsimp only at hSw); go_simp; (first | done | with_reducible rfl)))
  (try simp only [List.getElem_toArray, List.getElem_cons_succ, List.getElem_cons_zero, Act.put, List.setIfInBounds_toArray, List.set_cons_zero, List.set_cons_succ])
  refine wpAnyH_take (i := 2) (v := ?v3) rfl (by kernel_rfl) (by kernel_rfl) (by kernel_rfl) (fun _ _ _ h => h) (Or.inl ⟨by rfl, ?y3⟩) (by assumption) ?r3
  case y3 => ((intro w hSw; (try dsimp only at hSw); go_simp; (first | done | with_reducible rfl)))
  (try simp only [List.getElem_toArray, List.getElem_cons_succ, List.getElem_cons_zero, Act.put, List.setIfInBounds_toArray, List.set_cons_zero, List.set_cons_succ])
  refine wpAnyH_take (i := 3) (v := ?v4) rfl (by kernel_rfl) (by kernel_rfl) (by kernel_rfl) (fun _ _ _ h => h) (Or.inl ⟨by rfl, ?y4⟩) (by assumption) ?r4
  case y4 => ((intro w hSw; (try dsimp only at hSw); go_simp; (first | done | with_reducible rfl)))
  (try simp only [List.getElem_toArray, List.getElem_cons_succ, List.getElem_cons_zero, Act.put, List.setIfInBounds_toArray, List.set_cons_zero, List.set_cons_succ])
  refine wpAnyH_take (i := 4) (v := ?v5) rfl (by kernel_rfl) (by kernel_rfl) (by kernel_rfl) (fun _ _ _ h => h) (Or.inl ⟨by rfl, ?y5⟩) (by assumption) ?r5
  case y5 => ((intro w hSw; (try dsimp only at hSw); go_simp; (first | done | with_reducible rfl)))
  (try simp only [List.getElem_toArray, List.getElem_cons_succ, List.getElem_cons_zero, Act.put, List.setIfInBounds_toArray, List.set_cons_zero, List.set_cons_succ])
  refine wpAnyH_take (i := 5) (v := ?v6) rfl (by kernel_rfl) (by kernel_rfl) (by kernel_rfl) (fun _ _ _ h => h) (Or.inl ⟨by rfl, ?y6⟩) (by assumption) ?r6
  case y6 => ((intro w hSw; (try dsimp only at hSw); go_simp; (first | done | with_reducible rfl)))
  (try simp only [List.getElem_toArray, List.getElem_cons_succ, List.getElem_cons_zero, Act.put, List.setIfInBounds_toArray, List.set_cons_zero, List.set_cons_succ])
  refine wpAnyH_take (i := 6) (v := ?v7) rfl (by kernel_rfl) (by kernel_rfl) (by kernel_rfl) (fun _ _ _ h => h) (Or.inl ⟨by rfl, ?y7⟩) (by assumption) ?r7
  case y7 => ((intro w hSw; (try dsimp only at hSw); go_simp; (first | done | with_reducible rfl)))
  (try simp only [List.getElem_toArray, List.getElem_cons_succ, List.getElem_cons_zero, Act.put, List.setIfInBounds_toArray, List.set_cons_zero, List.set_cons_succ])
  refine wpAnyH_take (i := 7) (v := ?v8) rfl (by kernel_rfl) (by kernel_rfl) (by kernel_rfl) (fun _ _ _ h => h) (Or.inl ⟨by rfl, ?y8⟩) (by assumption) ?r8
  case y8 => ((intro w hSw; (try dsimp only at hSw); go_simp; (first | done | with_reducible rfl)))
  (try simp only [List.getElem_toArray, List.getElem_cons_succ, List.getElem_cons_zero, Act.put, List.setIfInBounds_toArray, List.set_cons_zero, List.set_cons_succ])
  refine wpAnyH_take (i := 8) (v := ?v9) rfl (by kernel_rfl) (by kernel_rfl) (by kernel_rfl) (fun _ _ _ h => h) (Or.inl ⟨by rfl, ?y9⟩) (by assumption) ?r9
  case y9 => ((intro w hSw; (try dsimp only at hSw); go_simp; (first | done | with_reducible rfl)))
  (try simp only [List.getElem_toArray, List.getElem_cons_succ, List.getElem_cons_zero, Act.put, List.setIfInBounds_toArray, List.set_cons_zero, List.set_cons_succ])
  refine wpAnyH_take (i := 9) (v := ?v10) rfl (by kernel_rfl) (by kernel_rfl) (by kernel_rfl) (fun _ _ _ h => h) (Or.inl ⟨by rfl, ?y10⟩) (by assumption) ?r10
  case y10 => ((intro w hSw; (try dsimp only at hSw); go_simp; (first | done | with_reducible rfl)))
  (try simp only [List.getElem_toArray, List.getElem_cons_succ, List.getElem_cons_zero, Act.put, List.setIfInBounds_toArray, List.set_cons_zero, List.set_cons_succ])
  refine wpAnyH_take (i := 10) (v := ?v11) rfl (by kernel_rfl) (by kernel_rfl) (by kernel_rfl) (fun _ _ _ h => h) (Or.inl ⟨by rfl, ?y11⟩) (by assumption) ?r11
  case y11 => ((intro w hSw; (try dsimp only at hSw); go_simp; (first | done | with_reducible rfl)))
  (try simp only [List.getElem_toArray, List.getElem_cons_succ, List.getElem_cons_zero, Act.put, List.setIfInBounds_toArray, List.set_cons_zero, List.set_cons_succ])
  refine wpAnyH_take (i := 11) (v := ?v12) rfl (by kernel_rfl) (by kernel_rfl) (by kernel_rfl) (fun _ _ _ h => h) (Or.inl ⟨by rfl, ?y12⟩) (by assumption) ?r12
  case y12 => ((intro w hSw; (try dsimp only at hSw); go_simp; (first | done | with_reducible rfl)))
  (try simp only [List.getElem_toArray, List.getElem_cons_succ, List.getElem_cons_zero, Act.put, List.setIfInBounds_toArray, List.set_cons_zero, List.set_cons_succ])
  refine wpAnyH_take (i := 12) (v := ?v13) rfl (by kernel_rfl) (by kernel_rfl) (by kernel_rfl) (fun _ _ _ h => h) (Or.inl ⟨by rfl, ?y13⟩) (by assumption) ?r13
  case y13 => ((intro w hSw; (try dsimp only at hSw); go_simp; (first | done | with_reducible rfl)))
  (try simp only [List.getElem_toArray, List.getElem_cons_succ, List.getElem_cons_zero, Act.put, List.setIfInBounds_toArray, List.set_cons_zero, List.set_cons_succ])
  refine wpAnyH_take (i := 13) (v := ?v14) rfl (by kernel_rfl) (by kernel_rfl) (by kernel_rfl) (fun _ _ _ h => h) (Or.inl ⟨by rfl, ?y14⟩) (by assumption) ?r14
  case y14 => ((intro w hSw; (try dsimp only at hSw); go_simp; (first | done | with_reducible rfl)))
  (try simp only [List.getElem_toArray, List.getElem_cons_succ, List.getElem_cons_zero, Act.put, List.setIfInBounds_toArray, List.set_cons_zero, List.set_cons_succ])
  refine wpAnyH_done (by kernel_rfl) ?_ _
  clear hHeld
  obtain ⟨w3, hw⟩ : ∃ W, W = w2.drew := ⟨_, rfl⟩
  have hx : Ext w2 w3 := by rw [hw]; exact (Ext.refl _).drew
  rw [← hw]
  clear hw
  replace HX := Lib.hid (HX.out.trans hx)
  replace HB0 := Lib.hid (HB0.out.ext hx)
  replace HB1 := Lib.hid (HB1.out.ext hx)
  replace HB2 := Lib.hid (HB2.out.ext hx)
  replace HB3 := Lib.hid (HB3.out.ext hx)
  have lw0 : w.heap.size < w3.heap.size := HB0.out.lt
  have lw1 : w.heap.size + 1 < w3.heap.size := HB1.out.lt
  have lw2 : w.heap.size + 2 < w3.heap.size := HB2.out.lt
  have lw3 : w.heap.size + 3 < w3.heap.size := HB3.out.lt
  replace HP := Lib.hid (HP.out.ext hx)
  replace HO := Lib.hid (HO.out.ext hx)
  replace c0_11 := HB0.out.c11
  replace c1_18 := HB1.out.c18
  rw [HF.out] at c1_18
  replace c1_25 := HB1.out.c25
  replace c2_1 := HB2.out.c1
  replace c2_4 := HB2.out.c4
  clear hx
  go_wp2_with (first | (with_reducible refine at_list ?_; refine HP.out.step (by first | rfl | kernel_rfl) rfl rfl ?_) | (with_reducible refine at_list ?_; refine st_old HB3.out (show InAt w3 I k0 k1 k2 k3 k4 from ⟨HO.out.at.l0, HO.out.at.l1, HO.out.at.l2, HO.out.at.l3, HO.out.at.l4, HO.out.at.n1⟩) rfl rfl rfl rfl ?_; intro w4 hbox hg; have HR := Lib.hid hbox; replace HO := Lib.hid (HO.out.kept HB3.out hg); replace HX := Lib.hid (ext_grown HX.out hg (fun k hk => by injection hk with hk; omega)); clear hbox hg))
  (try simp only [Exit.inBlock, Exit.then])
  refine BoxI.ret rfl HR.out rfl rfl ?_
  have hA := HO.out
  exact ⟨_, _, _, _, _, rfl, ⟨hA.l0, hA.l1, hA.l2, hA.l3, hA.l4, hA.n1, hA.d1, hA.d2⟩, HX.out⟩

set_option maxHeartbeats 8000000 in
theorem review_no1 (w : World) (n : Int) (I : In) (h0 h1 h2 h3 h4 : Value) (hA : InAt w I h0 h1 h2 h3 h4) (hI : I.Ok) (hf : I.fr = true) (hl : I.ra < n) : Calls Try.prog 47 #[.agg (rvC n), .agg (inC I h0 h1 h2 h3 h4), .agg (evC 14 1 0 0 false 0)] w fun e w' => ∃ k0 k1 k2 k3 k4, e = .returned (.tuple #[.agg (inC { I with ra := I.ra + 1 } k0 k1 k2 k3 k4), .int .i64 0]) ∧ InOwn w.heap.size w' { I with ra := I.ra + 1 } k0 k1 k2 k3 k4 ∧ Ext w w' := by
  have L := Lib.hid hA
  have HI := Lib.hid hI
  have HF := Lib.hid hf
  have hrr := hI.ra
  have ew0 : IntKind.i64.wrap 0 = 0 := by decide
  have ew1 : IntKind.i64.wrap 1 = 1 := by decide
  have ewr : IntKind.i64.wrap (I.ra + 1) = I.ra + 1 := IntWalk.i64_in _ (by omega)
  have hle : ¬ (n ≤ I.ra) := by omega
  clear hA hI hf hrr
  go_enter Try.func47, Try.ntmps47
  go_upto_region 1 with fail
  obtain ⟨w0, hw0⟩ : ∃ W, W = ((((w.alloc (.cells (rvC n) 25)).alloc (.cells (inC I h0 h1 h2 h3 h4) 34)).alloc (.cells (evC 14 1 0 0 false 0) 55)).alloc (.cells #[.int .i64 0, .int .i64 0, .int .i64 0, .int .i64 0, .int .i64 0, .int .i64 0, .int .i64 0, .int .i64 0, .int .i64 0, .int .i64 0, .int .i64 0, .int .i64 0, .int .i64 0, .int .i64 0, .slice none 0 0, .int .i64 0, .slice none 0 0, .slice none 0 0, .bool false, .slice none 0 0, .bool false, .int .i64 0, .int .i64 0, .int .i64 0, .slice none 0 0, .int .i64 0, .int .i64 0, .int .u8 0] 34)) := ⟨_, rfl⟩
  have HX := Lib.hid (show Ext w w0 by rw [hw0]; exact (by repeat (first | exact Ext.refl _ | refine Ext.drew ?_ | refine Ext.drewN ?_ _ | refine Ext.alloc ?_ _)))
  have HB0 := Lib.hid (show BoxR w0 (w.heap.size) n by rw [hw0]; exact (BoxR.ext (show BoxR _ (w.heap.size) n from (by have := boxR_new w n; simpa using this)) (by repeat (first | exact Ext.refl _ | refine Ext.drew ?_ | refine Ext.drewN ?_ _ | refine Ext.alloc ?_ _))))
  have HB1 := Lib.hid (show BoxI w0 (w.heap.size + 1) I h0 h1 h2 h3 h4 by rw [hw0]; exact (BoxI.ext (show BoxI _ (w.heap.size + 1) I h0 h1 h2 h3 h4 from (by have := boxI_new (w.alloc (.cells (rvC n) 25)) I h0 h1 h2 h3 h4; simpa using this)) (by repeat (first | exact Ext.refl _ | refine Ext.drew ?_ | refine Ext.drewN ?_ _ | refine Ext.alloc ?_ _))))
  have HB2 := Lib.hid (show BoxE w0 (w.heap.size + 2) 14 1 0 0 false 0 by rw [hw0]; exact (BoxE.ext (show BoxE _ (w.heap.size + 2) 14 1 0 0 false 0 from (by have := boxE_new ((w.alloc (.cells (rvC n) 25)).alloc (.cells (inC I h0 h1 h2 h3 h4) 34)) 14 1 0 0 false 0; simpa using this)) (by repeat (first | exact Ext.refl _ | refine Ext.drew ?_ | refine Ext.drewN ?_ _ | refine Ext.alloc ?_ _))))
  have HB3 := Lib.hid (show BoxZ w0 (w.heap.size + 3)  by rw [hw0]; exact (BoxZ.ext (show BoxZ _ (w.heap.size + 3)  from (by have := boxZ_new (((w.alloc (.cells (rvC n) 25)).alloc (.cells (inC I h0 h1 h2 h3 h4) 34)).alloc (.cells (evC 14 1 0 0 false 0) 55)) ; simpa using this)) (by repeat (first | exact Ext.refl _ | refine Ext.drew ?_ | refine Ext.drewN ?_ _ | refine Ext.alloc ?_ _))))
  have lw0 : w.heap.size < w0.heap.size := HB0.out.lt
  have lw1 : w.heap.size + 1 < w0.heap.size := HB1.out.lt
  have lw2 : w.heap.size + 2 < w0.heap.size := HB2.out.lt
  have lw3 : w.heap.size + 3 < w0.heap.size := HB3.out.lt
  have c0_11 := HB0.out.c11
  have c1_18 := HB1.out.c18
  rw [HF.out] at c1_18
  have c1_25 := HB1.out.c25
  have c2_1 := HB2.out.c1
  have c2_4 := HB2.out.c4
  rw [← hw0]
  clear hw0
  go_upto_region 2 with (first | (with_reducible refine at_list ?_; first | go_skip | refine HB0.out.step (by first | rfl | kernel_rfl) rfl rfl ?_ | refine HB1.out.step (by first | rfl | kernel_rfl) rfl rfl ?_) | (go_at_call 17; refine (iclone _ I h0 h1 h2 h3 h4 HI.out.good (L.out.ext (by repeat (first | exact HX.out | refine Ext.drew ?_ | refine Ext.drewN ?_ _ | refine Ext.alloc ?_ _)))).mono ?_; rintro e w1 ⟨k0, k1, k2, k3, k4, rfl, hown, hb⟩; have hup := Nat.le_of_lt lw0; have hx : Ext w0 w1 := Ext.trans (by repeat (first | exact Ext.refl _ | refine Ext.drew ?_ | refine Ext.drewN ?_ _ | refine Ext.alloc ?_ _)) hb; (replace HX := Lib.hid (HX.out.trans hx)); (replace HB0 := Lib.hid (HB0.out.ext hx)); (replace HB1 := Lib.hid (HB1.out.ext hx)); (replace HB2 := Lib.hid (HB2.out.ext hx)); (replace HB3 := Lib.hid (HB3.out.ext hx)); (have lw0 : w.heap.size < w1.heap.size := HB0.out.lt); (have lw1 : w.heap.size + 1 < w1.heap.size := HB1.out.lt); (have lw2 : w.heap.size + 2 < w1.heap.size := HB2.out.lt); (have lw3 : w.heap.size + 3 < w1.heap.size := HB3.out.lt); (replace c0_11 := HB0.out.c11); (replace c1_18 := HB1.out.c18); (rw [HF.out] at c1_18); (replace c1_25 := HB1.out.c25); (replace c2_1 := HB2.out.c1); (replace c2_4 := HB2.out.c4); have HO := Lib.hid (hown.up hup); clear hx hb hown) | (with_reducible refine at_list ?_; refine st_new rfl HO.out.at rfl rfl rfl rfl ?_; intro w2 hbox hx; have lw1_0 := lw0; have lw1_1 := lw1; have lw1_2 := lw2; have lw1_3 := lw3; (replace HX := Lib.hid (HX.out.trans hx)); (replace HB0 := Lib.hid (HB0.out.ext hx)); (replace HB1 := Lib.hid (HB1.out.ext hx)); (replace HB2 := Lib.hid (HB2.out.ext hx)); (replace HB3 := Lib.hid (HB3.out.ext hx)); (have lw0 : w.heap.size < w2.heap.size := HB0.out.lt); (have lw1 : w.heap.size + 1 < w2.heap.size := HB1.out.lt); (have lw2 : w.heap.size + 2 < w2.heap.size := HB2.out.lt); (have lw3 : w.heap.size + 3 < w2.heap.size := HB3.out.lt); (replace c0_11 := HB0.out.c11); (replace c1_18 := HB1.out.c18); (rw [HF.out] at c1_18); (replace c1_25 := HB1.out.c25); (replace c2_1 := HB2.out.c1); (replace c2_4 := HB2.out.c4); have HP := Lib.hid hbox; replace HO := Lib.hid (HO.out.ext hx); clear hx hbox))
  obtain ⟨p, hp⟩ : ∃ q, q = w1.heap.size := ⟨_, rfl⟩
  rw [← hp] at HP ⊢
  have np0 : w.heap.size ≠ p := by rw [hp]; exact Nat.ne_of_lt lw1_0
  have np1 : w.heap.size + 1 ≠ p := by rw [hp]; exact Nat.ne_of_lt lw1_1
  have np2 : w.heap.size + 2 ≠ p := by rw [hp]; exact Nat.ne_of_lt lw1_2
  have np3 : w.heap.size + 3 ≠ p := by rw [hp]; exact Nat.ne_of_lt lw1_3
  have lp : p < w2.heap.size := HP.out.lt
  have bp : w.heap.size < p := by rw [hp]; exact lw1_0
  clear hp
  clear lw1_0
  clear lw1_1
  clear lw1_2
  clear lw1_3
  refine wp_region_held_drew (S := (fun w' => w'.cell? ⟨w.heap.size + 1, 18, none⟩ = some (.bool true) ∧ w'.cell? ⟨w.heap.size + 1, 25, none⟩ = some (.int .i64 I.ra) ∧ w'.cell? ⟨w.heap.size, 11, none⟩ = some (.int .i64 n) ∧ w'.cell? ⟨w.heap.size + 2, 1, none⟩ = some (.int .i64 1))) (by kernel_rfl) (by exact ⟨c1_18, c1_25, c0_11, c2_1⟩) (fun hHeld => ?_)
  refine wpAnyH_take (i := 0) (v := ?v15) rfl (by kernel_rfl) (by kernel_rfl) (by kernel_rfl) (fun _ _ _ h => h) (Or.inl ⟨by rfl, ?y15⟩) (by assumption) ?r15
  case y15 => ((intro w hSw; (try dsimp only at hSw); go_simp; (first | done | with_reducible rfl)))
  (try simp only [List.getElem_toArray, List.getElem_cons_succ, List.getElem_cons_zero, Act.put, List.setIfInBounds_toArray, List.set_cons_zero, List.set_cons_succ])
  refine wpAnyH_take (i := 1) (v := ?v16) rfl (by kernel_rfl) (by kernel_rfl) (by kernel_rfl) (fun _ _ _ h => h) (Or.inl ⟨by rfl, ?y16⟩) (by assumption) ?r16
  case y16 => ((intro w hSw; (try dsimp only at hSw); go_simp; (first | done | with_reducible rfl)))
  (try simp only [List.getElem_toArray, List.getElem_cons_succ, List.getElem_cons_zero, Act.put, List.setIfInBounds_toArray, List.set_cons_zero, List.set_cons_succ])
  refine wpAnyH_take (i := 2) (v := ?v17) rfl (by kernel_rfl) (by kernel_rfl) (by kernel_rfl) (fun _ _ _ h => h) (Or.inl ⟨by rfl, ?y17⟩) (by assumption) ?r17
  case y17 => ((intro w hSw; (try dsimp only at hSw); go_simp; (first | done | with_reducible rfl)))
  (try simp only [List.getElem_toArray, List.getElem_cons_succ, List.getElem_cons_zero, Act.put, List.setIfInBounds_toArray, List.set_cons_zero, List.set_cons_succ])
  refine wpAnyH_take (i := 3) (v := ?v18) rfl (by kernel_rfl) (by kernel_rfl) (by kernel_rfl) (fun _ _ _ h => h) (Or.inl ⟨by rfl, ?y18⟩) (by assumption) ?r18
  case y18 => ((intro w hSw; (try dsimp only at hSw); go_simp; (first | done | with_reducible rfl)))
  (try simp only [List.getElem_toArray, List.getElem_cons_succ, List.getElem_cons_zero, Act.put, List.setIfInBounds_toArray, List.set_cons_zero, List.set_cons_succ])
  refine wpAnyH_take (i := 4) (v := ?v19) rfl (by kernel_rfl) (by kernel_rfl) (by kernel_rfl) (fun _ _ _ h => h) (Or.inl ⟨by rfl, ?y19⟩) (by assumption) ?r19
  case y19 => ((intro w hSw; (try dsimp only at hSw); go_simp; (first | done | with_reducible rfl)))
  (try simp only [List.getElem_toArray, List.getElem_cons_succ, List.getElem_cons_zero, Act.put, List.setIfInBounds_toArray, List.set_cons_zero, List.set_cons_succ])
  refine wpAnyH_take (i := 5) (v := ?v20) rfl (by kernel_rfl) (by kernel_rfl) (by kernel_rfl) (fun _ _ _ h => h) (Or.inl ⟨by rfl, ?y20⟩) (by assumption) ?r20
  case y20 => ((intro w hSw; (try dsimp only at hSw); go_simp; (first | done | with_reducible rfl)))
  (try simp only [List.getElem_toArray, List.getElem_cons_succ, List.getElem_cons_zero, Act.put, List.setIfInBounds_toArray, List.set_cons_zero, List.set_cons_succ])
  refine wpAnyH_take (i := 6) (v := ?v21) rfl (by kernel_rfl) (by kernel_rfl) (by kernel_rfl) (fun _ _ _ h => h) (Or.inl ⟨by rfl, ?y21⟩) (by assumption) ?r21
  case y21 => ((intro w hSw; (try dsimp only at hSw); go_simp; (first | done | with_reducible rfl)))
  (try simp only [List.getElem_toArray, List.getElem_cons_succ, List.getElem_cons_zero, Act.put, List.setIfInBounds_toArray, List.set_cons_zero, List.set_cons_succ])
  refine wpAnyH_take (i := 7) (v := ?v22) rfl (by kernel_rfl) (by kernel_rfl) (by kernel_rfl) (fun _ _ _ h => h) (Or.inl ⟨by rfl, ?y22⟩) (by assumption) ?r22
  case y22 => ((intro w hSw; (try dsimp only at hSw); go_simp; (first | done | with_reducible rfl)))
  (try simp only [List.getElem_toArray, List.getElem_cons_succ, List.getElem_cons_zero, Act.put, List.setIfInBounds_toArray, List.set_cons_zero, List.set_cons_succ])
  refine wpAnyH_take (i := 8) (v := ?v23) rfl (by kernel_rfl) (by kernel_rfl) (by kernel_rfl) (fun _ _ _ h => h) (Or.inl ⟨by rfl, ?y23⟩) (by assumption) ?r23
  case y23 => ((intro w hSw; (try dsimp only at hSw); go_simp; (first | done | with_reducible rfl)))
  (try simp only [List.getElem_toArray, List.getElem_cons_succ, List.getElem_cons_zero, Act.put, List.setIfInBounds_toArray, List.set_cons_zero, List.set_cons_succ])
  refine wpAnyH_take (i := 9) (v := ?v24) rfl (by kernel_rfl) (by kernel_rfl) (by kernel_rfl) (fun _ _ _ h => h) (Or.inl ⟨by rfl, ?y24⟩) (by assumption) ?r24
  case y24 => ((intro w hSw; (try dsimp only at hSw); go_simp; (first | done | with_reducible rfl)))
  (try simp only [List.getElem_toArray, List.getElem_cons_succ, List.getElem_cons_zero, Act.put, List.setIfInBounds_toArray, List.set_cons_zero, List.set_cons_succ])
  refine wpAnyH_take (i := 10) (v := ?v25) rfl (by kernel_rfl) (by kernel_rfl) (by kernel_rfl) (fun _ _ _ h => h) (Or.inl ⟨by rfl, ?y25⟩) (by assumption) ?r25
  case y25 => ((intro w hSw; (try dsimp only at hSw); go_simp; (first | done | with_reducible rfl)))
  (try simp only [List.getElem_toArray, List.getElem_cons_succ, List.getElem_cons_zero, Act.put, List.setIfInBounds_toArray, List.set_cons_zero, List.set_cons_succ])
  refine wpAnyH_take (i := 11) (v := ?v26) rfl (by kernel_rfl) (by kernel_rfl) (by kernel_rfl) (fun _ _ _ h => h) (Or.inl ⟨by rfl, ?y26⟩) (by assumption) ?r26
  case y26 => ((intro w hSw; (try dsimp only at hSw); go_simp; (first | done | with_reducible rfl)))
  (try simp only [List.getElem_toArray, List.getElem_cons_succ, List.getElem_cons_zero, Act.put, List.setIfInBounds_toArray, List.set_cons_zero, List.set_cons_succ])
  refine wpAnyH_take (i := 12) (v := ?v27) rfl (by kernel_rfl) (by kernel_rfl) (by kernel_rfl) (fun _ _ _ h => h) (Or.inl ⟨by rfl, ?y27⟩) (by assumption) ?r27
  case y27 => ((intro w hSw; (try dsimp only at hSw); go_simp; (first | done | with_reducible rfl)))
  (try simp only [List.getElem_toArray, List.getElem_cons_succ, List.getElem_cons_zero, Act.put, List.setIfInBounds_toArray, List.set_cons_zero, List.set_cons_succ])
  refine wpAnyH_take (i := 13) (v := ?v28) rfl (by kernel_rfl) (by kernel_rfl) (by kernel_rfl) (fun _ _ _ h => h) (Or.inl ⟨by rfl, ?y28⟩) (by assumption) ?r28
  case y28 => ((intro w hSw; (try dsimp only at hSw); go_simp; (first | done | with_reducible rfl)))
  (try simp only [List.getElem_toArray, List.getElem_cons_succ, List.getElem_cons_zero, Act.put, List.setIfInBounds_toArray, List.set_cons_zero, List.set_cons_succ])
  refine wpAnyH_done (by kernel_rfl) ?_ _
  clear hHeld
  obtain ⟨w3, hw⟩ : ∃ W, W = w2.drew := ⟨_, rfl⟩
  have hx : Ext w2 w3 := by rw [hw]; exact (Ext.refl _).drew
  rw [← hw]
  clear hw
  replace HX := Lib.hid (HX.out.trans hx)
  replace HB0 := Lib.hid (HB0.out.ext hx)
  replace HB1 := Lib.hid (HB1.out.ext hx)
  replace HB2 := Lib.hid (HB2.out.ext hx)
  replace HB3 := Lib.hid (HB3.out.ext hx)
  have lw0 : w.heap.size < w3.heap.size := HB0.out.lt
  have lw1 : w.heap.size + 1 < w3.heap.size := HB1.out.lt
  have lw2 : w.heap.size + 2 < w3.heap.size := HB2.out.lt
  have lw3 : w.heap.size + 3 < w3.heap.size := HB3.out.lt
  replace HP := Lib.hid (HP.out.ext hx)
  replace HO := Lib.hid (HO.out.ext hx)
  replace c0_11 := HB0.out.c11
  replace c1_18 := HB1.out.c18
  rw [HF.out] at c1_18
  replace c1_25 := HB1.out.c25
  replace c2_1 := HB2.out.c1
  replace c2_4 := HB2.out.c4
  clear hx
  have cp_25 := HP.out.c25
  have zp_25 := HP.out.fz 25
  go_upto_region 6 with fail
  have q1 := HP.out.set25 (I.ra + 1)
  have g1 := grown_setCell w3 p 25 (.int .i64 (I.ra + 1))
  have o1 := HO.out.kept HP.out.z g1
  have g := g1
  obtain ⟨w4, hw⟩ : ∃ W, W = (w3.setCell ⟨p, 25, none⟩ (.int .i64 (I.ra + 1))) := ⟨_, rfl⟩
  rw [← hw] at q1 o1 g ⊢
  replace HX := Lib.hid (ext_grown HX.out g (fun k hk => by injection hk with hk; omega))
  replace HP := Lib.hid q1
  replace HO := Lib.hid o1
  replace HB0 := Lib.hid (HB0.out.grown g np0)
  replace HB1 := Lib.hid (HB1.out.grown g np1)
  replace HB2 := Lib.hid (HB2.out.grown g np2)
  replace HB3 := Lib.hid (HB3.out.grown g np3)
  have lw0 : w.heap.size < w4.heap.size := HB0.out.lt
  have lw1 : w.heap.size + 1 < w4.heap.size := HB1.out.lt
  have lw2 : w.heap.size + 2 < w4.heap.size := HB2.out.lt
  have lw3 : w.heap.size + 3 < w4.heap.size := HB3.out.lt
  replace c0_11 := HB0.out.c11
  replace c1_18 := HB1.out.c18
  rw [HF.out] at c1_18
  replace c1_25 := HB1.out.c25
  replace c2_1 := HB2.out.c1
  replace c2_4 := HB2.out.c4
  clear hw g g1  q1 o1
  go_wp2_with (first | (with_reducible refine at_list ?_; refine HP.out.step (by first | rfl | kernel_rfl) rfl rfl ?_) | (with_reducible refine at_list ?_; refine st_old HB3.out (show InAt w4 { I with ra := I.ra + 1 } k0 k1 k2 k3 k4 from ⟨HO.out.at.l0, HO.out.at.l1, HO.out.at.l2, HO.out.at.l3, HO.out.at.l4, HO.out.at.n1⟩) rfl rfl rfl rfl ?_; intro w5 hbox hg; have HR := Lib.hid hbox; replace HO := Lib.hid (HO.out.kept HB3.out hg); replace HX := Lib.hid (ext_grown HX.out hg (fun k hk => by injection hk with hk; omega)); clear hbox hg))
  (try simp only [Exit.inBlock, Exit.then])
  refine BoxI.ret rfl HR.out rfl rfl ?_
  have hA := HO.out
  exact ⟨_, _, _, _, _, rfl, ⟨hA.l0, hA.l1, hA.l2, hA.l3, hA.l4, hA.n1, hA.d1, hA.d2⟩, HX.out⟩

set_option maxHeartbeats 8000000 in
theorem review_ref1 (w : World) (n : Int) (y : Bool) (I : In) (h0 h1 h2 h3 h4 : Value) (hA : InAt w I h0 h1 h2 h3 h4) (hI : I.Ok) (hf : I.fr = true) (hl : n ≤ I.ra) : Calls Try.prog 47 #[.agg (rvC n), .agg (inC I h0 h1 h2 h3 h4), .agg (evC 14 1 0 0 y 0)] w fun e w' => ∃ k0 k1 k2 k3 k4, e = .returned (.tuple #[.agg (inC I k0 k1 k2 k3 k4), .int .i64 24]) ∧ InOwn w.heap.size w' I k0 k1 k2 k3 k4 ∧ Ext w w' := by
  have L := Lib.hid hA
  have HI := Lib.hid hI
  have HF := Lib.hid hf
  have hrr := hI.ra
  have ew0 : IntKind.i64.wrap 0 = 0 := by decide
  have ew1 : IntKind.i64.wrap 1 = 1 := by decide
  have ewr : IntKind.i64.wrap (I.ra + 1) = I.ra + 1 := IntWalk.i64_in _ (by omega)
  have hle : n ≤ I.ra := hl
  clear hA hI hf hrr
  go_enter Try.func47, Try.ntmps47
  go_upto_region 1 with fail
  obtain ⟨w0, hw0⟩ : ∃ W, W = ((((w.alloc (.cells (rvC n) 25)).alloc (.cells (inC I h0 h1 h2 h3 h4) 34)).alloc (.cells (evC 14 1 0 0 y 0) 55)).alloc (.cells #[.int .i64 0, .int .i64 0, .int .i64 0, .int .i64 0, .int .i64 0, .int .i64 0, .int .i64 0, .int .i64 0, .int .i64 0, .int .i64 0, .int .i64 0, .int .i64 0, .int .i64 0, .int .i64 0, .slice none 0 0, .int .i64 0, .slice none 0 0, .slice none 0 0, .bool false, .slice none 0 0, .bool false, .int .i64 0, .int .i64 0, .int .i64 0, .slice none 0 0, .int .i64 0, .int .i64 0, .int .u8 0] 34)) := ⟨_, rfl⟩
  have HX := Lib.hid (show Ext w w0 by rw [hw0]; exact (by repeat (first | exact Ext.refl _ | refine Ext.drew ?_ | refine Ext.drewN ?_ _ | refine Ext.alloc ?_ _)))
  have HB0 := Lib.hid (show BoxR w0 (w.heap.size) n by rw [hw0]; exact (BoxR.ext (show BoxR _ (w.heap.size) n from (by have := boxR_new w n; simpa using this)) (by repeat (first | exact Ext.refl _ | refine Ext.drew ?_ | refine Ext.drewN ?_ _ | refine Ext.alloc ?_ _))))
  have HB1 := Lib.hid (show BoxI w0 (w.heap.size + 1) I h0 h1 h2 h3 h4 by rw [hw0]; exact (BoxI.ext (show BoxI _ (w.heap.size + 1) I h0 h1 h2 h3 h4 from (by have := boxI_new (w.alloc (.cells (rvC n) 25)) I h0 h1 h2 h3 h4; simpa using this)) (by repeat (first | exact Ext.refl _ | refine Ext.drew ?_ | refine Ext.drewN ?_ _ | refine Ext.alloc ?_ _))))
  have HB2 := Lib.hid (show BoxE w0 (w.heap.size + 2) 14 1 0 0 y 0 by rw [hw0]; exact (BoxE.ext (show BoxE _ (w.heap.size + 2) 14 1 0 0 y 0 from (by have := boxE_new ((w.alloc (.cells (rvC n) 25)).alloc (.cells (inC I h0 h1 h2 h3 h4) 34)) 14 1 0 0 y 0; simpa using this)) (by repeat (first | exact Ext.refl _ | refine Ext.drew ?_ | refine Ext.drewN ?_ _ | refine Ext.alloc ?_ _))))
  have HB3 := Lib.hid (show BoxZ w0 (w.heap.size + 3)  by rw [hw0]; exact (BoxZ.ext (show BoxZ _ (w.heap.size + 3)  from (by have := boxZ_new (((w.alloc (.cells (rvC n) 25)).alloc (.cells (inC I h0 h1 h2 h3 h4) 34)).alloc (.cells (evC 14 1 0 0 y 0) 55)) ; simpa using this)) (by repeat (first | exact Ext.refl _ | refine Ext.drew ?_ | refine Ext.drewN ?_ _ | refine Ext.alloc ?_ _))))
  have lw0 : w.heap.size < w0.heap.size := HB0.out.lt
  have lw1 : w.heap.size + 1 < w0.heap.size := HB1.out.lt
  have lw2 : w.heap.size + 2 < w0.heap.size := HB2.out.lt
  have lw3 : w.heap.size + 3 < w0.heap.size := HB3.out.lt
  have c0_11 := HB0.out.c11
  have c1_18 := HB1.out.c18
  rw [HF.out] at c1_18
  have c1_25 := HB1.out.c25
  have c2_1 := HB2.out.c1
  have c2_4 := HB2.out.c4
  rw [← hw0]
  clear hw0
  go_upto_region 2 with (first | (with_reducible refine at_list ?_; first | go_skip | refine HB0.out.step (by first | rfl | kernel_rfl) rfl rfl ?_ | refine HB1.out.step (by first | rfl | kernel_rfl) rfl rfl ?_) | (go_at_call 17; refine (iclone _ I h0 h1 h2 h3 h4 HI.out.good (L.out.ext (by repeat (first | exact HX.out | refine Ext.drew ?_ | refine Ext.drewN ?_ _ | refine Ext.alloc ?_ _)))).mono ?_; rintro e w1 ⟨k0, k1, k2, k3, k4, rfl, hown, hb⟩; have hup := Nat.le_of_lt lw0; have hx : Ext w0 w1 := Ext.trans (by repeat (first | exact Ext.refl _ | refine Ext.drew ?_ | refine Ext.drewN ?_ _ | refine Ext.alloc ?_ _)) hb; (replace HX := Lib.hid (HX.out.trans hx)); (replace HB0 := Lib.hid (HB0.out.ext hx)); (replace HB1 := Lib.hid (HB1.out.ext hx)); (replace HB2 := Lib.hid (HB2.out.ext hx)); (replace HB3 := Lib.hid (HB3.out.ext hx)); (have lw0 : w.heap.size < w1.heap.size := HB0.out.lt); (have lw1 : w.heap.size + 1 < w1.heap.size := HB1.out.lt); (have lw2 : w.heap.size + 2 < w1.heap.size := HB2.out.lt); (have lw3 : w.heap.size + 3 < w1.heap.size := HB3.out.lt); (replace c0_11 := HB0.out.c11); (replace c1_18 := HB1.out.c18); (rw [HF.out] at c1_18); (replace c1_25 := HB1.out.c25); (replace c2_1 := HB2.out.c1); (replace c2_4 := HB2.out.c4); have HO := Lib.hid (hown.up hup); clear hx hb hown) | (with_reducible refine at_list ?_; refine st_new rfl HO.out.at rfl rfl rfl rfl ?_; intro w2 hbox hx; have lw1_0 := lw0; have lw1_1 := lw1; have lw1_2 := lw2; have lw1_3 := lw3; (replace HX := Lib.hid (HX.out.trans hx)); (replace HB0 := Lib.hid (HB0.out.ext hx)); (replace HB1 := Lib.hid (HB1.out.ext hx)); (replace HB2 := Lib.hid (HB2.out.ext hx)); (replace HB3 := Lib.hid (HB3.out.ext hx)); (have lw0 : w.heap.size < w2.heap.size := HB0.out.lt); (have lw1 : w.heap.size + 1 < w2.heap.size := HB1.out.lt); (have lw2 : w.heap.size + 2 < w2.heap.size := HB2.out.lt); (have lw3 : w.heap.size + 3 < w2.heap.size := HB3.out.lt); (replace c0_11 := HB0.out.c11); (replace c1_18 := HB1.out.c18); (rw [HF.out] at c1_18); (replace c1_25 := HB1.out.c25); (replace c2_1 := HB2.out.c1); (replace c2_4 := HB2.out.c4); have HP := Lib.hid hbox; replace HO := Lib.hid (HO.out.ext hx); clear hx hbox))
  obtain ⟨p, hp⟩ : ∃ q, q = w1.heap.size := ⟨_, rfl⟩
  rw [← hp] at HP ⊢
  have np0 : w.heap.size ≠ p := by rw [hp]; exact Nat.ne_of_lt lw1_0
  have np1 : w.heap.size + 1 ≠ p := by rw [hp]; exact Nat.ne_of_lt lw1_1
  have np2 : w.heap.size + 2 ≠ p := by rw [hp]; exact Nat.ne_of_lt lw1_2
  have np3 : w.heap.size + 3 ≠ p := by rw [hp]; exact Nat.ne_of_lt lw1_3
  have lp : p < w2.heap.size := HP.out.lt
  have bp : w.heap.size < p := by rw [hp]; exact lw1_0
  clear hp
  clear lw1_0
  clear lw1_1
  clear lw1_2
  clear lw1_3
  refine wp_region_held_drew (S := (fun w' => w'.cell? ⟨w.heap.size + 1, 18, none⟩ = some (.bool true) ∧ w'.cell? ⟨w.heap.size + 1, 25, none⟩ = some (.int .i64 I.ra) ∧ w'.cell? ⟨w.heap.size, 11, none⟩ = some (.int .i64 n) ∧ w'.cell? ⟨w.heap.size + 2, 1, none⟩ = some (.int .i64 1))) (by kernel_rfl) (by exact ⟨c1_18, c1_25, c0_11, c2_1⟩) (fun hHeld => ?_)
  refine wpAnyH_take (i := 0) (v := ?v29) rfl (by kernel_rfl) (by kernel_rfl) (by kernel_rfl) (fun _ _ _ h => h) (Or.inl ⟨by rfl, ?y29⟩) (by assumption) ?r29
  case y29 => ((intro w hSw; (try dsimp only at hSw); go_simp; (first | done | with_reducible rfl)))
  (try simp only [List.getElem_toArray, List.getElem_cons_succ, List.getElem_cons_zero, Act.put, List.setIfInBounds_toArray, List.set_cons_zero, List.set_cons_succ])
  refine wpAnyH_take (i := 1) (v := ?v30) rfl (by kernel_rfl) (by kernel_rfl) (by kernel_rfl) (fun _ _ _ h => h) (Or.inl ⟨by rfl, ?y30⟩) (by assumption) ?r30
  case y30 => ((intro w hSw; (try dsimp only at hSw); go_simp; (first | done | with_reducible rfl)))
  (try simp only [List.getElem_toArray, List.getElem_cons_succ, List.getElem_cons_zero, Act.put, List.setIfInBounds_toArray, List.set_cons_zero, List.set_cons_succ])
  refine wpAnyH_take (i := 2) (v := ?v31) rfl (by kernel_rfl) (by kernel_rfl) (by kernel_rfl) (fun _ _ _ h => h) (Or.inl ⟨by rfl, ?y31⟩) (by assumption) ?r31
  case y31 => ((intro w hSw; (try dsimp only at hSw); go_simp; (first | done | with_reducible rfl)))
  (try simp only [List.getElem_toArray, List.getElem_cons_succ, List.getElem_cons_zero, Act.put, List.setIfInBounds_toArray, List.set_cons_zero, List.set_cons_succ])
  refine wpAnyH_take (i := 3) (v := ?v32) rfl (by kernel_rfl) (by kernel_rfl) (by kernel_rfl) (fun _ _ _ h => h) (Or.inl ⟨by rfl, ?y32⟩) (by assumption) ?r32
  case y32 => ((intro w hSw; (try dsimp only at hSw); go_simp; (first | done | with_reducible rfl)))
  (try simp only [List.getElem_toArray, List.getElem_cons_succ, List.getElem_cons_zero, Act.put, List.setIfInBounds_toArray, List.set_cons_zero, List.set_cons_succ])
  refine wpAnyH_take (i := 4) (v := ?v33) rfl (by kernel_rfl) (by kernel_rfl) (by kernel_rfl) (fun _ _ _ h => h) (Or.inl ⟨by rfl, ?y33⟩) (by assumption) ?r33
  case y33 => ((intro w hSw; (try dsimp only at hSw); go_simp; (first | done | with_reducible rfl)))
  (try simp only [List.getElem_toArray, List.getElem_cons_succ, List.getElem_cons_zero, Act.put, List.setIfInBounds_toArray, List.set_cons_zero, List.set_cons_succ])
  refine wpAnyH_take (i := 5) (v := ?v34) rfl (by kernel_rfl) (by kernel_rfl) (by kernel_rfl) (fun _ _ _ h => h) (Or.inl ⟨by rfl, ?y34⟩) (by assumption) ?r34
  case y34 => ((intro w hSw; (try dsimp only at hSw); go_simp; (first | done | with_reducible rfl)))
  (try simp only [List.getElem_toArray, List.getElem_cons_succ, List.getElem_cons_zero, Act.put, List.setIfInBounds_toArray, List.set_cons_zero, List.set_cons_succ])
  refine wpAnyH_take (i := 6) (v := ?v35) rfl (by kernel_rfl) (by kernel_rfl) (by kernel_rfl) (fun _ _ _ h => h) (Or.inl ⟨by rfl, ?y35⟩) (by assumption) ?r35
  case y35 => ((intro w hSw; (try dsimp only at hSw); go_simp; (first | done | with_reducible rfl)))
  (try simp only [List.getElem_toArray, List.getElem_cons_succ, List.getElem_cons_zero, Act.put, List.setIfInBounds_toArray, List.set_cons_zero, List.set_cons_succ])
  refine wpAnyH_take (i := 7) (v := ?v36) rfl (by kernel_rfl) (by kernel_rfl) (by kernel_rfl) (fun _ _ _ h => h) (Or.inl ⟨by rfl, ?y36⟩) (by assumption) ?r36
  case y36 => ((intro w hSw; (try dsimp only at hSw); go_simp; (first | done | with_reducible rfl)))
  (try simp only [List.getElem_toArray, List.getElem_cons_succ, List.getElem_cons_zero, Act.put, List.setIfInBounds_toArray, List.set_cons_zero, List.set_cons_succ])
  refine wpAnyH_take (i := 8) (v := ?v37) rfl (by kernel_rfl) (by kernel_rfl) (by kernel_rfl) (fun _ _ _ h => h) (Or.inl ⟨by rfl, ?y37⟩) (by assumption) ?r37
  case y37 => ((intro w hSw; (try dsimp only at hSw); go_simp; (first | done | with_reducible rfl)))
  (try simp only [List.getElem_toArray, List.getElem_cons_succ, List.getElem_cons_zero, Act.put, List.setIfInBounds_toArray, List.set_cons_zero, List.set_cons_succ])
  refine wpAnyH_take (i := 9) (v := ?v38) rfl (by kernel_rfl) (by kernel_rfl) (by kernel_rfl) (fun _ _ _ h => h) (Or.inl ⟨by rfl, ?y38⟩) (by assumption) ?r38
  case y38 => ((intro w hSw; (try dsimp only at hSw); go_simp; (first | done | with_reducible rfl)))
  (try simp only [List.getElem_toArray, List.getElem_cons_succ, List.getElem_cons_zero, Act.put, List.setIfInBounds_toArray, List.set_cons_zero, List.set_cons_succ])
  refine wpAnyH_take (i := 10) (v := ?v39) rfl (by kernel_rfl) (by kernel_rfl) (by kernel_rfl) (fun _ _ _ h => h) (Or.inl ⟨by rfl, ?y39⟩) (by assumption) ?r39
  case y39 => ((intro w hSw; (try dsimp only at hSw); go_simp; (first | done | with_reducible rfl)))
  (try simp only [List.getElem_toArray, List.getElem_cons_succ, List.getElem_cons_zero, Act.put, List.setIfInBounds_toArray, List.set_cons_zero, List.set_cons_succ])
  refine wpAnyH_take (i := 11) (v := ?v40) rfl (by kernel_rfl) (by kernel_rfl) (by kernel_rfl) (fun _ _ _ h => h) (Or.inl ⟨by rfl, ?y40⟩) (by assumption) ?r40
  case y40 => ((intro w hSw; (try dsimp only at hSw); go_simp; (first | done | with_reducible rfl)))
  (try simp only [List.getElem_toArray, List.getElem_cons_succ, List.getElem_cons_zero, Act.put, List.setIfInBounds_toArray, List.set_cons_zero, List.set_cons_succ])
  refine wpAnyH_take (i := 12) (v := ?v41) rfl (by kernel_rfl) (by kernel_rfl) (by kernel_rfl) (fun _ _ _ h => h) (Or.inl ⟨by rfl, ?y41⟩) (by assumption) ?r41
  case y41 => ((intro w hSw; (try dsimp only at hSw); go_simp; (first | done | with_reducible rfl)))
  (try simp only [List.getElem_toArray, List.getElem_cons_succ, List.getElem_cons_zero, Act.put, List.setIfInBounds_toArray, List.set_cons_zero, List.set_cons_succ])
  refine wpAnyH_take (i := 13) (v := ?v42) rfl (by kernel_rfl) (by kernel_rfl) (by kernel_rfl) (fun _ _ _ h => h) (Or.inl ⟨by rfl, ?y42⟩) (by assumption) ?r42
  case y42 => ((intro w hSw; (try dsimp only at hSw); go_simp; (first | done | with_reducible rfl)))
  (try simp only [List.getElem_toArray, List.getElem_cons_succ, List.getElem_cons_zero, Act.put, List.setIfInBounds_toArray, List.set_cons_zero, List.set_cons_succ])
  refine wpAnyH_done (by kernel_rfl) ?_ _
  clear hHeld
  obtain ⟨w3, hw⟩ : ∃ W, W = w2.drew := ⟨_, rfl⟩
  have hx : Ext w2 w3 := by rw [hw]; exact (Ext.refl _).drew
  rw [← hw]
  clear hw
  replace HX := Lib.hid (HX.out.trans hx)
  replace HB0 := Lib.hid (HB0.out.ext hx)
  replace HB1 := Lib.hid (HB1.out.ext hx)
  replace HB2 := Lib.hid (HB2.out.ext hx)
  replace HB3 := Lib.hid (HB3.out.ext hx)
  have lw0 : w.heap.size < w3.heap.size := HB0.out.lt
  have lw1 : w.heap.size + 1 < w3.heap.size := HB1.out.lt
  have lw2 : w.heap.size + 2 < w3.heap.size := HB2.out.lt
  have lw3 : w.heap.size + 3 < w3.heap.size := HB3.out.lt
  replace HP := Lib.hid (HP.out.ext hx)
  replace HO := Lib.hid (HO.out.ext hx)
  replace c0_11 := HB0.out.c11
  replace c1_18 := HB1.out.c18
  rw [HF.out] at c1_18
  replace c1_25 := HB1.out.c25
  replace c2_1 := HB2.out.c1
  replace c2_4 := HB2.out.c4
  clear hx
  go_wp2_with (first | (with_reducible refine at_list ?_; refine HP.out.step (by first | rfl | kernel_rfl) rfl rfl ?_) | (with_reducible refine at_list ?_; refine st_old HB3.out (show InAt w3 I k0 k1 k2 k3 k4 from ⟨HO.out.at.l0, HO.out.at.l1, HO.out.at.l2, HO.out.at.l3, HO.out.at.l4, HO.out.at.n1⟩) rfl rfl rfl rfl ?_; intro w4 hbox hg; have HR := Lib.hid hbox; replace HO := Lib.hid (HO.out.kept HB3.out hg); replace HX := Lib.hid (ext_grown HX.out hg (fun k hk => by injection hk with hk; omega)); clear hbox hg))
  (try simp only [Exit.inBlock, Exit.then])
  refine BoxI.ret rfl HR.out rfl rfl ?_
  have hA := HO.out
  exact ⟨_, _, _, _, _, rfl, ⟨hA.l0, hA.l1, hA.l2, hA.l3, hA.l4, hA.n1, hA.d1, hA.d2⟩, HX.out⟩

set_option maxHeartbeats 8000000 in
theorem review_yes2 (w : World) (n : Int) (I : In) (h0 h1 h2 h3 h4 : Value) (hA : InAt w I h0 h1 h2 h3 h4) (hI : I.Ok) (hf : I.fr = true) (hl : I.rb < n) : Calls Try.prog 47 #[.agg (rvC n), .agg (inC I h0 h1 h2 h3 h4), .agg (evC 14 2 0 0 true 0)] w fun e w' => ∃ k0 k1 k2 k3 k4, e = .returned (.tuple #[.agg (inC I k0 k1 k2 k3 k4), .int .i64 0]) ∧ InOwn w.heap.size w' I k0 k1 k2 k3 k4 ∧ Ext w w' := by
  have L := Lib.hid hA
  have HI := Lib.hid hI
  have HF := Lib.hid hf
  have hrr := hI.rb
  have ew0 : IntKind.i64.wrap 0 = 0 := by decide
  have ew1 : IntKind.i64.wrap 1 = 1 := by decide
  have ewr : IntKind.i64.wrap (I.rb + 1) = I.rb + 1 := IntWalk.i64_in _ (by omega)
  have hle : ¬ (n ≤ I.rb) := by omega
  clear hA hI hf hrr
  go_enter Try.func47, Try.ntmps47
  go_upto_region 1 with fail
  obtain ⟨w0, hw0⟩ : ∃ W, W = ((((w.alloc (.cells (rvC n) 25)).alloc (.cells (inC I h0 h1 h2 h3 h4) 34)).alloc (.cells (evC 14 2 0 0 true 0) 55)).alloc (.cells #[.int .i64 0, .int .i64 0, .int .i64 0, .int .i64 0, .int .i64 0, .int .i64 0, .int .i64 0, .int .i64 0, .int .i64 0, .int .i64 0, .int .i64 0, .int .i64 0, .int .i64 0, .int .i64 0, .slice none 0 0, .int .i64 0, .slice none 0 0, .slice none 0 0, .bool false, .slice none 0 0, .bool false, .int .i64 0, .int .i64 0, .int .i64 0, .slice none 0 0, .int .i64 0, .int .i64 0, .int .u8 0] 34)) := ⟨_, rfl⟩
  have HX := Lib.hid (show Ext w w0 by rw [hw0]; exact (by repeat (first | exact Ext.refl _ | refine Ext.drew ?_ | refine Ext.drewN ?_ _ | refine Ext.alloc ?_ _)))
  have HB0 := Lib.hid (show BoxR w0 (w.heap.size) n by rw [hw0]; exact (BoxR.ext (show BoxR _ (w.heap.size) n from (by have := boxR_new w n; simpa using this)) (by repeat (first | exact Ext.refl _ | refine Ext.drew ?_ | refine Ext.drewN ?_ _ | refine Ext.alloc ?_ _))))
  have HB1 := Lib.hid (show BoxI w0 (w.heap.size + 1) I h0 h1 h2 h3 h4 by rw [hw0]; exact (BoxI.ext (show BoxI _ (w.heap.size + 1) I h0 h1 h2 h3 h4 from (by have := boxI_new (w.alloc (.cells (rvC n) 25)) I h0 h1 h2 h3 h4; simpa using this)) (by repeat (first | exact Ext.refl _ | refine Ext.drew ?_ | refine Ext.drewN ?_ _ | refine Ext.alloc ?_ _))))
  have HB2 := Lib.hid (show BoxE w0 (w.heap.size + 2) 14 2 0 0 true 0 by rw [hw0]; exact (BoxE.ext (show BoxE _ (w.heap.size + 2) 14 2 0 0 true 0 from (by have := boxE_new ((w.alloc (.cells (rvC n) 25)).alloc (.cells (inC I h0 h1 h2 h3 h4) 34)) 14 2 0 0 true 0; simpa using this)) (by repeat (first | exact Ext.refl _ | refine Ext.drew ?_ | refine Ext.drewN ?_ _ | refine Ext.alloc ?_ _))))
  have HB3 := Lib.hid (show BoxZ w0 (w.heap.size + 3)  by rw [hw0]; exact (BoxZ.ext (show BoxZ _ (w.heap.size + 3)  from (by have := boxZ_new (((w.alloc (.cells (rvC n) 25)).alloc (.cells (inC I h0 h1 h2 h3 h4) 34)).alloc (.cells (evC 14 2 0 0 true 0) 55)) ; simpa using this)) (by repeat (first | exact Ext.refl _ | refine Ext.drew ?_ | refine Ext.drewN ?_ _ | refine Ext.alloc ?_ _))))
  have lw0 : w.heap.size < w0.heap.size := HB0.out.lt
  have lw1 : w.heap.size + 1 < w0.heap.size := HB1.out.lt
  have lw2 : w.heap.size + 2 < w0.heap.size := HB2.out.lt
  have lw3 : w.heap.size + 3 < w0.heap.size := HB3.out.lt
  have c0_11 := HB0.out.c11
  have c1_18 := HB1.out.c18
  rw [HF.out] at c1_18
  have c1_26 := HB1.out.c26
  have c2_1 := HB2.out.c1
  have c2_4 := HB2.out.c4
  rw [← hw0]
  clear hw0
  go_upto_region 2 with (first | (with_reducible refine at_list ?_; first | go_skip | refine HB0.out.step (by first | rfl | kernel_rfl) rfl rfl ?_ | refine HB1.out.step (by first | rfl | kernel_rfl) rfl rfl ?_) | (go_at_call 17; refine (iclone _ I h0 h1 h2 h3 h4 HI.out.good (L.out.ext (by repeat (first | exact HX.out | refine Ext.drew ?_ | refine Ext.drewN ?_ _ | refine Ext.alloc ?_ _)))).mono ?_; rintro e w1 ⟨k0, k1, k2, k3, k4, rfl, hown, hb⟩; have hup := Nat.le_of_lt lw0; have hx : Ext w0 w1 := Ext.trans (by repeat (first | exact Ext.refl _ | refine Ext.drew ?_ | refine Ext.drewN ?_ _ | refine Ext.alloc ?_ _)) hb; (replace HX := Lib.hid (HX.out.trans hx)); (replace HB0 := Lib.hid (HB0.out.ext hx)); (replace HB1 := Lib.hid (HB1.out.ext hx)); (replace HB2 := Lib.hid (HB2.out.ext hx)); (replace HB3 := Lib.hid (HB3.out.ext hx)); (have lw0 : w.heap.size < w1.heap.size := HB0.out.lt); (have lw1 : w.heap.size + 1 < w1.heap.size := HB1.out.lt); (have lw2 : w.heap.size + 2 < w1.heap.size := HB2.out.lt); (have lw3 : w.heap.size + 3 < w1.heap.size := HB3.out.lt); (replace c0_11 := HB0.out.c11); (replace c1_18 := HB1.out.c18); (rw [HF.out] at c1_18); (replace c1_26 := HB1.out.c26); (replace c2_1 := HB2.out.c1); (replace c2_4 := HB2.out.c4); have HO := Lib.hid (hown.up hup); clear hx hb hown) | (with_reducible refine at_list ?_; refine st_new rfl HO.out.at rfl rfl rfl rfl ?_; intro w2 hbox hx; have lw1_0 := lw0; have lw1_1 := lw1; have lw1_2 := lw2; have lw1_3 := lw3; (replace HX := Lib.hid (HX.out.trans hx)); (replace HB0 := Lib.hid (HB0.out.ext hx)); (replace HB1 := Lib.hid (HB1.out.ext hx)); (replace HB2 := Lib.hid (HB2.out.ext hx)); (replace HB3 := Lib.hid (HB3.out.ext hx)); (have lw0 : w.heap.size < w2.heap.size := HB0.out.lt); (have lw1 : w.heap.size + 1 < w2.heap.size := HB1.out.lt); (have lw2 : w.heap.size + 2 < w2.heap.size := HB2.out.lt); (have lw3 : w.heap.size + 3 < w2.heap.size := HB3.out.lt); (replace c0_11 := HB0.out.c11); (replace c1_18 := HB1.out.c18); (rw [HF.out] at c1_18); (replace c1_26 := HB1.out.c26); (replace c2_1 := HB2.out.c1); (replace c2_4 := HB2.out.c4); have HP := Lib.hid hbox; replace HO := Lib.hid (HO.out.ext hx); clear hx hbox))
  obtain ⟨p, hp⟩ : ∃ q, q = w1.heap.size := ⟨_, rfl⟩
  rw [← hp] at HP ⊢
  have np0 : w.heap.size ≠ p := by rw [hp]; exact Nat.ne_of_lt lw1_0
  have np1 : w.heap.size + 1 ≠ p := by rw [hp]; exact Nat.ne_of_lt lw1_1
  have np2 : w.heap.size + 2 ≠ p := by rw [hp]; exact Nat.ne_of_lt lw1_2
  have np3 : w.heap.size + 3 ≠ p := by rw [hp]; exact Nat.ne_of_lt lw1_3
  have lp : p < w2.heap.size := HP.out.lt
  have bp : w.heap.size < p := by rw [hp]; exact lw1_0
  clear hp
  clear lw1_0
  clear lw1_1
  clear lw1_2
  clear lw1_3
  refine wp_region_held_drew (S := (fun w' => w'.cell? ⟨w.heap.size + 1, 18, none⟩ = some (.bool true) ∧ w'.cell? ⟨w.heap.size + 1, 26, none⟩ = some (.int .i64 I.rb) ∧ w'.cell? ⟨w.heap.size, 11, none⟩ = some (.int .i64 n) ∧ w'.cell? ⟨w.heap.size + 2, 1, none⟩ = some (.int .i64 2))) (by kernel_rfl) (by exact ⟨c1_18, c1_26, c0_11, c2_1⟩) (fun hHeld => ?_)
  refine wpAnyH_take (i := 0) (v := ?v43) rfl (by kernel_rfl) (by kernel_rfl) (by kernel_rfl) (fun _ _ _ h => h) (Or.inl ⟨by rfl, ?y43⟩) (by assumption) ?r43
  case y43 => ((intro w hSw; (try dsimp only at hSw); go_simp; (first | done | with_reducible rfl)))
  (try simp only [List.getElem_toArray, List.getElem_cons_succ, List.getElem_cons_zero, Act.put, List.setIfInBounds_toArray, List.set_cons_zero, List.set_cons_succ])
  refine wpAnyH_take (i := 1) (v := ?v44) rfl (by kernel_rfl) (by kernel_rfl) (by kernel_rfl) (fun _ _ _ h => h) (Or.inl ⟨by rfl, ?y44⟩) (by assumption) ?r44
  case y44 => ((intro w hSw; (try dsimp only at hSw); go_simp; (first | done | with_reducible rfl)))
  (try simp only [List.getElem_toArray, List.getElem_cons_succ, List.getElem_cons_zero, Act.put, List.setIfInBounds_toArray, List.set_cons_zero, List.set_cons_succ])
  refine wpAnyH_take (i := 2) (v := ?v45) rfl (by kernel_rfl) (by kernel_rfl) (by kernel_rfl) (fun _ _ _ h => h) (Or.inl ⟨by rfl, ?y45⟩) (by assumption) ?r45
  case y45 => ((intro w hSw; (try dsimp only at hSw); go_simp; (first | done | with_reducible rfl)))
  (try simp only [List.getElem_toArray, List.getElem_cons_succ, List.getElem_cons_zero, Act.put, List.setIfInBounds_toArray, List.set_cons_zero, List.set_cons_succ])
  refine wpAnyH_take (i := 3) (v := ?v46) rfl (by kernel_rfl) (by kernel_rfl) (by kernel_rfl) (fun _ _ _ h => h) (Or.inl ⟨by rfl, ?y46⟩) (by assumption) ?r46
  case y46 => ((intro w hSw; (try dsimp only at hSw); go_simp; (first | done | with_reducible rfl)))
  (try simp only [List.getElem_toArray, List.getElem_cons_succ, List.getElem_cons_zero, Act.put, List.setIfInBounds_toArray, List.set_cons_zero, List.set_cons_succ])
  refine wpAnyH_take (i := 4) (v := ?v47) rfl (by kernel_rfl) (by kernel_rfl) (by kernel_rfl) (fun _ _ _ h => h) (Or.inl ⟨by rfl, ?y47⟩) (by assumption) ?r47
  case y47 => ((intro w hSw; (try dsimp only at hSw); go_simp; (first | done | with_reducible rfl)))
  (try simp only [List.getElem_toArray, List.getElem_cons_succ, List.getElem_cons_zero, Act.put, List.setIfInBounds_toArray, List.set_cons_zero, List.set_cons_succ])
  refine wpAnyH_take (i := 5) (v := ?v48) rfl (by kernel_rfl) (by kernel_rfl) (by kernel_rfl) (fun _ _ _ h => h) (Or.inl ⟨by rfl, ?y48⟩) (by assumption) ?r48
  case y48 => ((intro w hSw; (try dsimp only at hSw); go_simp; (first | done | with_reducible rfl)))
  (try simp only [List.getElem_toArray, List.getElem_cons_succ, List.getElem_cons_zero, Act.put, List.setIfInBounds_toArray, List.set_cons_zero, List.set_cons_succ])
  refine wpAnyH_take (i := 6) (v := ?v49) rfl (by kernel_rfl) (by kernel_rfl) (by kernel_rfl) (fun _ _ _ h => h) (Or.inl ⟨by rfl, ?y49⟩) (by assumption) ?r49
  case y49 => ((intro w hSw; (try dsimp only at hSw); go_simp; (first | done | with_reducible rfl)))
  (try simp only [List.getElem_toArray, List.getElem_cons_succ, List.getElem_cons_zero, Act.put, List.setIfInBounds_toArray, List.set_cons_zero, List.set_cons_succ])
  refine wpAnyH_take (i := 7) (v := ?v50) rfl (by kernel_rfl) (by kernel_rfl) (by kernel_rfl) (fun _ _ _ h => h) (Or.inl ⟨by rfl, ?y50⟩) (by assumption) ?r50
  case y50 => ((intro w hSw; (try dsimp only at hSw); go_simp; (first | done | with_reducible rfl)))
  (try simp only [List.getElem_toArray, List.getElem_cons_succ, List.getElem_cons_zero, Act.put, List.setIfInBounds_toArray, List.set_cons_zero, List.set_cons_succ])
  refine wpAnyH_take (i := 8) (v := ?v51) rfl (by kernel_rfl) (by kernel_rfl) (by kernel_rfl) (fun _ _ _ h => h) (Or.inl ⟨by rfl, ?y51⟩) (by assumption) ?r51
  case y51 => ((intro w hSw; (try dsimp only at hSw); go_simp; (first | done | with_reducible rfl)))
  (try simp only [List.getElem_toArray, List.getElem_cons_succ, List.getElem_cons_zero, Act.put, List.setIfInBounds_toArray, List.set_cons_zero, List.set_cons_succ])
  refine wpAnyH_take (i := 9) (v := ?v52) rfl (by kernel_rfl) (by kernel_rfl) (by kernel_rfl) (fun _ _ _ h => h) (Or.inl ⟨by rfl, ?y52⟩) (by assumption) ?r52
  case y52 => ((intro w hSw; (try dsimp only at hSw); go_simp; (first | done | with_reducible rfl)))
  (try simp only [List.getElem_toArray, List.getElem_cons_succ, List.getElem_cons_zero, Act.put, List.setIfInBounds_toArray, List.set_cons_zero, List.set_cons_succ])
  refine wpAnyH_take (i := 10) (v := ?v53) rfl (by kernel_rfl) (by kernel_rfl) (by kernel_rfl) (fun _ _ _ h => h) (Or.inl ⟨by rfl, ?y53⟩) (by assumption) ?r53
  case y53 => ((intro w hSw; (try dsimp only at hSw); go_simp; (first | done | with_reducible rfl)))
  (try simp only [List.getElem_toArray, List.getElem_cons_succ, List.getElem_cons_zero, Act.put, List.setIfInBounds_toArray, List.set_cons_zero, List.set_cons_succ])
  refine wpAnyH_take (i := 11) (v := ?v54) rfl (by kernel_rfl) (by kernel_rfl) (by kernel_rfl) (fun _ _ _ h => h) (Or.inl ⟨by rfl, ?y54⟩) (by assumption) ?r54
  case y54 => ((intro w hSw; (try dsimp only at hSw); go_simp; (first | done | with_reducible rfl)))
  (try simp only [List.getElem_toArray, List.getElem_cons_succ, List.getElem_cons_zero, Act.put, List.setIfInBounds_toArray, List.set_cons_zero, List.set_cons_succ])
  refine wpAnyH_take (i := 12) (v := ?v55) rfl (by kernel_rfl) (by kernel_rfl) (by kernel_rfl) (fun _ _ _ h => h) (Or.inl ⟨by rfl, ?y55⟩) (by assumption) ?r55
  case y55 => ((intro w hSw; (try dsimp only at hSw); go_simp; (first | done | with_reducible rfl)))
  (try simp only [List.getElem_toArray, List.getElem_cons_succ, List.getElem_cons_zero, Act.put, List.setIfInBounds_toArray, List.set_cons_zero, List.set_cons_succ])
  refine wpAnyH_take (i := 13) (v := ?v56) rfl (by kernel_rfl) (by kernel_rfl) (by kernel_rfl) (fun _ _ _ h => h) (Or.inl ⟨by rfl, ?y56⟩) (by assumption) ?r56
  case y56 => ((intro w hSw; (try dsimp only at hSw); go_simp; (first | done | with_reducible rfl)))
  (try simp only [List.getElem_toArray, List.getElem_cons_succ, List.getElem_cons_zero, Act.put, List.setIfInBounds_toArray, List.set_cons_zero, List.set_cons_succ])
  refine wpAnyH_done (by kernel_rfl) ?_ _
  clear hHeld
  obtain ⟨w3, hw⟩ : ∃ W, W = w2.drew := ⟨_, rfl⟩
  have hx : Ext w2 w3 := by rw [hw]; exact (Ext.refl _).drew
  rw [← hw]
  clear hw
  replace HX := Lib.hid (HX.out.trans hx)
  replace HB0 := Lib.hid (HB0.out.ext hx)
  replace HB1 := Lib.hid (HB1.out.ext hx)
  replace HB2 := Lib.hid (HB2.out.ext hx)
  replace HB3 := Lib.hid (HB3.out.ext hx)
  have lw0 : w.heap.size < w3.heap.size := HB0.out.lt
  have lw1 : w.heap.size + 1 < w3.heap.size := HB1.out.lt
  have lw2 : w.heap.size + 2 < w3.heap.size := HB2.out.lt
  have lw3 : w.heap.size + 3 < w3.heap.size := HB3.out.lt
  replace HP := Lib.hid (HP.out.ext hx)
  replace HO := Lib.hid (HO.out.ext hx)
  replace c0_11 := HB0.out.c11
  replace c1_18 := HB1.out.c18
  rw [HF.out] at c1_18
  replace c1_26 := HB1.out.c26
  replace c2_1 := HB2.out.c1
  replace c2_4 := HB2.out.c4
  clear hx
  go_wp2_with (first | (with_reducible refine at_list ?_; refine HP.out.step (by first | rfl | kernel_rfl) rfl rfl ?_) | (with_reducible refine at_list ?_; refine st_old HB3.out (show InAt w3 I k0 k1 k2 k3 k4 from ⟨HO.out.at.l0, HO.out.at.l1, HO.out.at.l2, HO.out.at.l3, HO.out.at.l4, HO.out.at.n1⟩) rfl rfl rfl rfl ?_; intro w4 hbox hg; have HR := Lib.hid hbox; replace HO := Lib.hid (HO.out.kept HB3.out hg); replace HX := Lib.hid (ext_grown HX.out hg (fun k hk => by injection hk with hk; omega)); clear hbox hg))
  (try simp only [Exit.inBlock, Exit.then])
  refine BoxI.ret rfl HR.out rfl rfl ?_
  have hA := HO.out
  exact ⟨_, _, _, _, _, rfl, ⟨hA.l0, hA.l1, hA.l2, hA.l3, hA.l4, hA.n1, hA.d1, hA.d2⟩, HX.out⟩

set_option maxHeartbeats 8000000 in
theorem review_no2 (w : World) (n : Int) (I : In) (h0 h1 h2 h3 h4 : Value) (hA : InAt w I h0 h1 h2 h3 h4) (hI : I.Ok) (hf : I.fr = true) (hl : I.rb < n) : Calls Try.prog 47 #[.agg (rvC n), .agg (inC I h0 h1 h2 h3 h4), .agg (evC 14 2 0 0 false 0)] w fun e w' => ∃ k0 k1 k2 k3 k4, e = .returned (.tuple #[.agg (inC { I with rb := I.rb + 1 } k0 k1 k2 k3 k4), .int .i64 0]) ∧ InOwn w.heap.size w' { I with rb := I.rb + 1 } k0 k1 k2 k3 k4 ∧ Ext w w' := by
  have L := Lib.hid hA
  have HI := Lib.hid hI
  have HF := Lib.hid hf
  have hrr := hI.rb
  have ew0 : IntKind.i64.wrap 0 = 0 := by decide
  have ew1 : IntKind.i64.wrap 1 = 1 := by decide
  have ewr : IntKind.i64.wrap (I.rb + 1) = I.rb + 1 := IntWalk.i64_in _ (by omega)
  have hle : ¬ (n ≤ I.rb) := by omega
  clear hA hI hf hrr
  go_enter Try.func47, Try.ntmps47
  go_upto_region 1 with fail
  obtain ⟨w0, hw0⟩ : ∃ W, W = ((((w.alloc (.cells (rvC n) 25)).alloc (.cells (inC I h0 h1 h2 h3 h4) 34)).alloc (.cells (evC 14 2 0 0 false 0) 55)).alloc (.cells #[.int .i64 0, .int .i64 0, .int .i64 0, .int .i64 0, .int .i64 0, .int .i64 0, .int .i64 0, .int .i64 0, .int .i64 0, .int .i64 0, .int .i64 0, .int .i64 0, .int .i64 0, .int .i64 0, .slice none 0 0, .int .i64 0, .slice none 0 0, .slice none 0 0, .bool false, .slice none 0 0, .bool false, .int .i64 0, .int .i64 0, .int .i64 0, .slice none 0 0, .int .i64 0, .int .i64 0, .int .u8 0] 34)) := ⟨_, rfl⟩
  have HX := Lib.hid (show Ext w w0 by rw [hw0]; exact (by repeat (first | exact Ext.refl _ | refine Ext.drew ?_ | refine Ext.drewN ?_ _ | refine Ext.alloc ?_ _)))
  have HB0 := Lib.hid (show BoxR w0 (w.heap.size) n by rw [hw0]; exact (BoxR.ext (show BoxR _ (w.heap.size) n from (by have := boxR_new w n; simpa using this)) (by repeat (first | exact Ext.refl _ | refine Ext.drew ?_ | refine Ext.drewN ?_ _ | refine Ext.alloc ?_ _))))
  have HB1 := Lib.hid (show BoxI w0 (w.heap.size + 1) I h0 h1 h2 h3 h4 by rw [hw0]; exact (BoxI.ext (show BoxI _ (w.heap.size + 1) I h0 h1 h2 h3 h4 from (by have := boxI_new (w.alloc (.cells (rvC n) 25)) I h0 h1 h2 h3 h4; simpa using this)) (by repeat (first | exact Ext.refl _ | refine Ext.drew ?_ | refine Ext.drewN ?_ _ | refine Ext.alloc ?_ _))))
  have HB2 := Lib.hid (show BoxE w0 (w.heap.size + 2) 14 2 0 0 false 0 by rw [hw0]; exact (BoxE.ext (show BoxE _ (w.heap.size + 2) 14 2 0 0 false 0 from (by have := boxE_new ((w.alloc (.cells (rvC n) 25)).alloc (.cells (inC I h0 h1 h2 h3 h4) 34)) 14 2 0 0 false 0; simpa using this)) (by repeat (first | exact Ext.refl _ | refine Ext.drew ?_ | refine Ext.drewN ?_ _ | refine Ext.alloc ?_ _))))
  have HB3 := Lib.hid (show BoxZ w0 (w.heap.size + 3)  by rw [hw0]; exact (BoxZ.ext (show BoxZ _ (w.heap.size + 3)  from (by have := boxZ_new (((w.alloc (.cells (rvC n) 25)).alloc (.cells (inC I h0 h1 h2 h3 h4) 34)).alloc (.cells (evC 14 2 0 0 false 0) 55)) ; simpa using this)) (by repeat (first | exact Ext.refl _ | refine Ext.drew ?_ | refine Ext.drewN ?_ _ | refine Ext.alloc ?_ _))))
  have lw0 : w.heap.size < w0.heap.size := HB0.out.lt
  have lw1 : w.heap.size + 1 < w0.heap.size := HB1.out.lt
  have lw2 : w.heap.size + 2 < w0.heap.size := HB2.out.lt
  have lw3 : w.heap.size + 3 < w0.heap.size := HB3.out.lt
  have c0_11 := HB0.out.c11
  have c1_18 := HB1.out.c18
  rw [HF.out] at c1_18
  have c1_26 := HB1.out.c26
  have c2_1 := HB2.out.c1
  have c2_4 := HB2.out.c4
  rw [← hw0]
  clear hw0
  go_upto_region 2 with (first | (with_reducible refine at_list ?_; first | go_skip | refine HB0.out.step (by first | rfl | kernel_rfl) rfl rfl ?_ | refine HB1.out.step (by first | rfl | kernel_rfl) rfl rfl ?_) | (go_at_call 17; refine (iclone _ I h0 h1 h2 h3 h4 HI.out.good (L.out.ext (by repeat (first | exact HX.out | refine Ext.drew ?_ | refine Ext.drewN ?_ _ | refine Ext.alloc ?_ _)))).mono ?_; rintro e w1 ⟨k0, k1, k2, k3, k4, rfl, hown, hb⟩; have hup := Nat.le_of_lt lw0; have hx : Ext w0 w1 := Ext.trans (by repeat (first | exact Ext.refl _ | refine Ext.drew ?_ | refine Ext.drewN ?_ _ | refine Ext.alloc ?_ _)) hb; (replace HX := Lib.hid (HX.out.trans hx)); (replace HB0 := Lib.hid (HB0.out.ext hx)); (replace HB1 := Lib.hid (HB1.out.ext hx)); (replace HB2 := Lib.hid (HB2.out.ext hx)); (replace HB3 := Lib.hid (HB3.out.ext hx)); (have lw0 : w.heap.size < w1.heap.size := HB0.out.lt); (have lw1 : w.heap.size + 1 < w1.heap.size := HB1.out.lt); (have lw2 : w.heap.size + 2 < w1.heap.size := HB2.out.lt); (have lw3 : w.heap.size + 3 < w1.heap.size := HB3.out.lt); (replace c0_11 := HB0.out.c11); (replace c1_18 := HB1.out.c18); (rw [HF.out] at c1_18); (replace c1_26 := HB1.out.c26); (replace c2_1 := HB2.out.c1); (replace c2_4 := HB2.out.c4); have HO := Lib.hid (hown.up hup); clear hx hb hown) | (with_reducible refine at_list ?_; refine st_new rfl HO.out.at rfl rfl rfl rfl ?_; intro w2 hbox hx; have lw1_0 := lw0; have lw1_1 := lw1; have lw1_2 := lw2; have lw1_3 := lw3; (replace HX := Lib.hid (HX.out.trans hx)); (replace HB0 := Lib.hid (HB0.out.ext hx)); (replace HB1 := Lib.hid (HB1.out.ext hx)); (replace HB2 := Lib.hid (HB2.out.ext hx)); (replace HB3 := Lib.hid (HB3.out.ext hx)); (have lw0 : w.heap.size < w2.heap.size := HB0.out.lt); (have lw1 : w.heap.size + 1 < w2.heap.size := HB1.out.lt); (have lw2 : w.heap.size + 2 < w2.heap.size := HB2.out.lt); (have lw3 : w.heap.size + 3 < w2.heap.size := HB3.out.lt); (replace c0_11 := HB0.out.c11); (replace c1_18 := HB1.out.c18); (rw [HF.out] at c1_18); (replace c1_26 := HB1.out.c26); (replace c2_1 := HB2.out.c1); (replace c2_4 := HB2.out.c4); have HP := Lib.hid hbox; replace HO := Lib.hid (HO.out.ext hx); clear hx hbox))
  obtain ⟨p, hp⟩ : ∃ q, q = w1.heap.size := ⟨_, rfl⟩
  rw [← hp] at HP ⊢
  have np0 : w.heap.size ≠ p := by rw [hp]; exact Nat.ne_of_lt lw1_0
  have np1 : w.heap.size + 1 ≠ p := by rw [hp]; exact Nat.ne_of_lt lw1_1
  have np2 : w.heap.size + 2 ≠ p := by rw [hp]; exact Nat.ne_of_lt lw1_2
  have np3 : w.heap.size + 3 ≠ p := by rw [hp]; exact Nat.ne_of_lt lw1_3
  have lp : p < w2.heap.size := HP.out.lt
  have bp : w.heap.size < p := by rw [hp]; exact lw1_0
  clear hp
  clear lw1_0
  clear lw1_1
  clear lw1_2
  clear lw1_3
  refine wp_region_held_drew (S := (fun w' => w'.cell? ⟨w.heap.size + 1, 18, none⟩ = some (.bool true) ∧ w'.cell? ⟨w.heap.size + 1, 26, none⟩ = some (.int .i64 I.rb) ∧ w'.cell? ⟨w.heap.size, 11, none⟩ = some (.int .i64 n) ∧ w'.cell? ⟨w.heap.size + 2, 1, none⟩ = some (.int .i64 2))) (by kernel_rfl) (by exact ⟨c1_18, c1_26, c0_11, c2_1⟩) (fun hHeld => ?_)
  refine wpAnyH_take (i := 0) (v := ?v57) rfl (by kernel_rfl) (by kernel_rfl) (by kernel_rfl) (fun _ _ _ h => h) (Or.inl ⟨by rfl, ?y57⟩) (by assumption) ?r57
  case y57 => ((intro w hSw; (try dsimp only at hSw); go_simp; (first | done | with_reducible rfl)))
  (try simp only [List.getElem_toArray, List.getElem_cons_succ, List.getElem_cons_zero, Act.put, List.setIfInBounds_toArray, List.set_cons_zero, List.set_cons_succ])
  refine wpAnyH_take (i := 1) (v := ?v58) rfl (by kernel_rfl) (by kernel_rfl) (by kernel_rfl) (fun _ _ _ h => h) (Or.inl ⟨by rfl, ?y58⟩) (by assumption) ?r58
  case y58 => ((intro w hSw; (try dsimp only at hSw); go_simp; (first | done | with_reducible rfl)))
  (try simp only [List.getElem_toArray, List.getElem_cons_succ, List.getElem_cons_zero, Act.put, List.setIfInBounds_toArray, List.set_cons_zero, List.set_cons_succ])
  refine wpAnyH_take (i := 2) (v := ?v59) rfl (by kernel_rfl) (by kernel_rfl) (by kernel_rfl) (fun _ _ _ h => h) (Or.inl ⟨by rfl, ?y59⟩) (by assumption) ?r59
  case y59 => ((intro w hSw; (try dsimp only at hSw); go_simp; (first | done | with_reducible rfl)))
  (try simp only [List.getElem_toArray, List.getElem_cons_succ, List.getElem_cons_zero, Act.put, List.setIfInBounds_toArray, List.set_cons_zero, List.set_cons_succ])
  refine wpAnyH_take (i := 3) (v := ?v60) rfl (by kernel_rfl) (by kernel_rfl) (by kernel_rfl) (fun _ _ _ h => h) (Or.inl ⟨by rfl, ?y60⟩) (by assumption) ?r60
  case y60 => ((intro w hSw; (try dsimp only at hSw); go_simp; (first | done | with_reducible rfl)))
  (try simp only [List.getElem_toArray, List.getElem_cons_succ, List.getElem_cons_zero, Act.put, List.setIfInBounds_toArray, List.set_cons_zero, List.set_cons_succ])
  refine wpAnyH_take (i := 4) (v := ?v61) rfl (by kernel_rfl) (by kernel_rfl) (by kernel_rfl) (fun _ _ _ h => h) (Or.inl ⟨by rfl, ?y61⟩) (by assumption) ?r61
  case y61 => ((intro w hSw; (try dsimp only at hSw); go_simp; (first | done | with_reducible rfl)))
  (try simp only [List.getElem_toArray, List.getElem_cons_succ, List.getElem_cons_zero, Act.put, List.setIfInBounds_toArray, List.set_cons_zero, List.set_cons_succ])
  refine wpAnyH_take (i := 5) (v := ?v62) rfl (by kernel_rfl) (by kernel_rfl) (by kernel_rfl) (fun _ _ _ h => h) (Or.inl ⟨by rfl, ?y62⟩) (by assumption) ?r62
  case y62 => ((intro w hSw; (try dsimp only at hSw); go_simp; (first | done | with_reducible rfl)))
  (try simp only [List.getElem_toArray, List.getElem_cons_succ, List.getElem_cons_zero, Act.put, List.setIfInBounds_toArray, List.set_cons_zero, List.set_cons_succ])
  refine wpAnyH_take (i := 6) (v := ?v63) rfl (by kernel_rfl) (by kernel_rfl) (by kernel_rfl) (fun _ _ _ h => h) (Or.inl ⟨by rfl, ?y63⟩) (by assumption) ?r63
  case y63 => ((intro w hSw; (try dsimp only at hSw); go_simp; (first | done | with_reducible rfl)))
  (try simp only [List.getElem_toArray, List.getElem_cons_succ, List.getElem_cons_zero, Act.put, List.setIfInBounds_toArray, List.set_cons_zero, List.set_cons_succ])
  refine wpAnyH_take (i := 7) (v := ?v64) rfl (by kernel_rfl) (by kernel_rfl) (by kernel_rfl) (fun _ _ _ h => h) (Or.inl ⟨by rfl, ?y64⟩) (by assumption) ?r64
  case y64 => ((intro w hSw; (try dsimp only at hSw); go_simp; (first | done | with_reducible rfl)))
  (try simp only [List.getElem_toArray, List.getElem_cons_succ, List.getElem_cons_zero, Act.put, List.setIfInBounds_toArray, List.set_cons_zero, List.set_cons_succ])
  refine wpAnyH_take (i := 8) (v := ?v65) rfl (by kernel_rfl) (by kernel_rfl) (by kernel_rfl) (fun _ _ _ h => h) (Or.inl ⟨by rfl, ?y65⟩) (by assumption) ?r65
  case y65 => ((intro w hSw; (try dsimp only at hSw); go_simp; (first | done | with_reducible rfl)))
  (try simp only [List.getElem_toArray, List.getElem_cons_succ, List.getElem_cons_zero, Act.put, List.setIfInBounds_toArray, List.set_cons_zero, List.set_cons_succ])
  refine wpAnyH_take (i := 9) (v := ?v66) rfl (by kernel_rfl) (by kernel_rfl) (by kernel_rfl) (fun _ _ _ h => h) (Or.inl ⟨by rfl, ?y66⟩) (by assumption) ?r66
  case y66 => ((intro w hSw; (try dsimp only at hSw); go_simp; (first | done | with_reducible rfl)))
  (try simp only [List.getElem_toArray, List.getElem_cons_succ, List.getElem_cons_zero, Act.put, List.setIfInBounds_toArray, List.set_cons_zero, List.set_cons_succ])
  refine wpAnyH_take (i := 10) (v := ?v67) rfl (by kernel_rfl) (by kernel_rfl) (by kernel_rfl) (fun _ _ _ h => h) (Or.inl ⟨by rfl, ?y67⟩) (by assumption) ?r67
  case y67 => ((intro w hSw; (try dsimp only at hSw); go_simp; (first | done | with_reducible rfl)))
  (try simp only [List.getElem_toArray, List.getElem_cons_succ, List.getElem_cons_zero, Act.put, List.setIfInBounds_toArray, List.set_cons_zero, List.set_cons_succ])
  refine wpAnyH_take (i := 11) (v := ?v68) rfl (by kernel_rfl) (by kernel_rfl) (by kernel_rfl) (fun _ _ _ h => h) (Or.inl ⟨by rfl, ?y68⟩) (by assumption) ?r68
  case y68 => ((intro w hSw; (try dsimp only at hSw); go_simp; (first | done | with_reducible rfl)))
  (try simp only [List.getElem_toArray, List.getElem_cons_succ, List.getElem_cons_zero, Act.put, List.setIfInBounds_toArray, List.set_cons_zero, List.set_cons_succ])
  refine wpAnyH_take (i := 12) (v := ?v69) rfl (by kernel_rfl) (by kernel_rfl) (by kernel_rfl) (fun _ _ _ h => h) (Or.inl ⟨by rfl, ?y69⟩) (by assumption) ?r69
  case y69 => ((intro w hSw; (try dsimp only at hSw); go_simp; (first | done | with_reducible rfl)))
  (try simp only [List.getElem_toArray, List.getElem_cons_succ, List.getElem_cons_zero, Act.put, List.setIfInBounds_toArray, List.set_cons_zero, List.set_cons_succ])
  refine wpAnyH_take (i := 13) (v := ?v70) rfl (by kernel_rfl) (by kernel_rfl) (by kernel_rfl) (fun _ _ _ h => h) (Or.inl ⟨by rfl, ?y70⟩) (by assumption) ?r70
  case y70 => ((intro w hSw; (try dsimp only at hSw); go_simp; (first | done | with_reducible rfl)))
  (try simp only [List.getElem_toArray, List.getElem_cons_succ, List.getElem_cons_zero, Act.put, List.setIfInBounds_toArray, List.set_cons_zero, List.set_cons_succ])
  refine wpAnyH_done (by kernel_rfl) ?_ _
  clear hHeld
  obtain ⟨w3, hw⟩ : ∃ W, W = w2.drew := ⟨_, rfl⟩
  have hx : Ext w2 w3 := by rw [hw]; exact (Ext.refl _).drew
  rw [← hw]
  clear hw
  replace HX := Lib.hid (HX.out.trans hx)
  replace HB0 := Lib.hid (HB0.out.ext hx)
  replace HB1 := Lib.hid (HB1.out.ext hx)
  replace HB2 := Lib.hid (HB2.out.ext hx)
  replace HB3 := Lib.hid (HB3.out.ext hx)
  have lw0 : w.heap.size < w3.heap.size := HB0.out.lt
  have lw1 : w.heap.size + 1 < w3.heap.size := HB1.out.lt
  have lw2 : w.heap.size + 2 < w3.heap.size := HB2.out.lt
  have lw3 : w.heap.size + 3 < w3.heap.size := HB3.out.lt
  replace HP := Lib.hid (HP.out.ext hx)
  replace HO := Lib.hid (HO.out.ext hx)
  replace c0_11 := HB0.out.c11
  replace c1_18 := HB1.out.c18
  rw [HF.out] at c1_18
  replace c1_26 := HB1.out.c26
  replace c2_1 := HB2.out.c1
  replace c2_4 := HB2.out.c4
  clear hx
  have cp_26 := HP.out.c26
  have zp_26 := HP.out.fz 26
  go_upto_region 6 with fail
  have q1 := HP.out.set26 (I.rb + 1)
  have g1 := grown_setCell w3 p 26 (.int .i64 (I.rb + 1))
  have o1 := HO.out.kept HP.out.z g1
  have g := g1
  obtain ⟨w4, hw⟩ : ∃ W, W = (w3.setCell ⟨p, 26, none⟩ (.int .i64 (I.rb + 1))) := ⟨_, rfl⟩
  rw [← hw] at q1 o1 g ⊢
  replace HX := Lib.hid (ext_grown HX.out g (fun k hk => by injection hk with hk; omega))
  replace HP := Lib.hid q1
  replace HO := Lib.hid o1
  replace HB0 := Lib.hid (HB0.out.grown g np0)
  replace HB1 := Lib.hid (HB1.out.grown g np1)
  replace HB2 := Lib.hid (HB2.out.grown g np2)
  replace HB3 := Lib.hid (HB3.out.grown g np3)
  have lw0 : w.heap.size < w4.heap.size := HB0.out.lt
  have lw1 : w.heap.size + 1 < w4.heap.size := HB1.out.lt
  have lw2 : w.heap.size + 2 < w4.heap.size := HB2.out.lt
  have lw3 : w.heap.size + 3 < w4.heap.size := HB3.out.lt
  replace c0_11 := HB0.out.c11
  replace c1_18 := HB1.out.c18
  rw [HF.out] at c1_18
  replace c1_26 := HB1.out.c26
  replace c2_1 := HB2.out.c1
  replace c2_4 := HB2.out.c4
  clear hw g g1  q1 o1
  go_wp2_with (first | (with_reducible refine at_list ?_; refine HP.out.step (by first | rfl | kernel_rfl) rfl rfl ?_) | (with_reducible refine at_list ?_; refine st_old HB3.out (show InAt w4 { I with rb := I.rb + 1 } k0 k1 k2 k3 k4 from ⟨HO.out.at.l0, HO.out.at.l1, HO.out.at.l2, HO.out.at.l3, HO.out.at.l4, HO.out.at.n1⟩) rfl rfl rfl rfl ?_; intro w5 hbox hg; have HR := Lib.hid hbox; replace HO := Lib.hid (HO.out.kept HB3.out hg); replace HX := Lib.hid (ext_grown HX.out hg (fun k hk => by injection hk with hk; omega)); clear hbox hg))
  (try simp only [Exit.inBlock, Exit.then])
  refine BoxI.ret rfl HR.out rfl rfl ?_
  have hA := HO.out
  exact ⟨_, _, _, _, _, rfl, ⟨hA.l0, hA.l1, hA.l2, hA.l3, hA.l4, hA.n1, hA.d1, hA.d2⟩, HX.out⟩

set_option maxHeartbeats 8000000 in
theorem review_ref2 (w : World) (n : Int) (y : Bool) (I : In) (h0 h1 h2 h3 h4 : Value) (hA : InAt w I h0 h1 h2 h3 h4) (hI : I.Ok) (hf : I.fr = true) (hl : n ≤ I.rb) : Calls Try.prog 47 #[.agg (rvC n), .agg (inC I h0 h1 h2 h3 h4), .agg (evC 14 2 0 0 y 0)] w fun e w' => ∃ k0 k1 k2 k3 k4, e = .returned (.tuple #[.agg (inC I k0 k1 k2 k3 k4), .int .i64 24]) ∧ InOwn w.heap.size w' I k0 k1 k2 k3 k4 ∧ Ext w w' := by
  have L := Lib.hid hA
  have HI := Lib.hid hI
  have HF := Lib.hid hf
  have hrr := hI.rb
  have ew0 : IntKind.i64.wrap 0 = 0 := by decide
  have ew1 : IntKind.i64.wrap 1 = 1 := by decide
  have ewr : IntKind.i64.wrap (I.rb + 1) = I.rb + 1 := IntWalk.i64_in _ (by omega)
  have hle : n ≤ I.rb := hl
  clear hA hI hf hrr
  go_enter Try.func47, Try.ntmps47
  go_upto_region 1 with fail
  obtain ⟨w0, hw0⟩ : ∃ W, W = ((((w.alloc (.cells (rvC n) 25)).alloc (.cells (inC I h0 h1 h2 h3 h4) 34)).alloc (.cells (evC 14 2 0 0 y 0) 55)).alloc (.cells #[.int .i64 0, .int .i64 0, .int .i64 0, .int .i64 0, .int .i64 0, .int .i64 0, .int .i64 0, .int .i64 0, .int .i64 0, .int .i64 0, .int .i64 0, .int .i64 0, .int .i64 0, .int .i64 0, .slice none 0 0, .int .i64 0, .slice none 0 0, .slice none 0 0, .bool false, .slice none 0 0, .bool false, .int .i64 0, .int .i64 0, .int .i64 0, .slice none 0 0, .int .i64 0, .int .i64 0, .int .u8 0] 34)) := ⟨_, rfl⟩
  have HX := Lib.hid (show Ext w w0 by rw [hw0]; exact (by repeat (first | exact Ext.refl _ | refine Ext.drew ?_ | refine Ext.drewN ?_ _ | refine Ext.alloc ?_ _)))
  have HB0 := Lib.hid (show BoxR w0 (w.heap.size) n by rw [hw0]; exact (BoxR.ext (show BoxR _ (w.heap.size) n from (by have := boxR_new w n; simpa using this)) (by repeat (first | exact Ext.refl _ | refine Ext.drew ?_ | refine Ext.drewN ?_ _ | refine Ext.alloc ?_ _))))
  have HB1 := Lib.hid (show BoxI w0 (w.heap.size + 1) I h0 h1 h2 h3 h4 by rw [hw0]; exact (BoxI.ext (show BoxI _ (w.heap.size + 1) I h0 h1 h2 h3 h4 from (by have := boxI_new (w.alloc (.cells (rvC n) 25)) I h0 h1 h2 h3 h4; simpa using this)) (by repeat (first | exact Ext.refl _ | refine Ext.drew ?_ | refine Ext.drewN ?_ _ | refine Ext.alloc ?_ _))))
  have HB2 := Lib.hid (show BoxE w0 (w.heap.size + 2) 14 2 0 0 y 0 by rw [hw0]; exact (BoxE.ext (show BoxE _ (w.heap.size + 2) 14 2 0 0 y 0 from (by have := boxE_new ((w.alloc (.cells (rvC n) 25)).alloc (.cells (inC I h0 h1 h2 h3 h4) 34)) 14 2 0 0 y 0; simpa using this)) (by repeat (first | exact Ext.refl _ | refine Ext.drew ?_ | refine Ext.drewN ?_ _ | refine Ext.alloc ?_ _))))
  have HB3 := Lib.hid (show BoxZ w0 (w.heap.size + 3)  by rw [hw0]; exact (BoxZ.ext (show BoxZ _ (w.heap.size + 3)  from (by have := boxZ_new (((w.alloc (.cells (rvC n) 25)).alloc (.cells (inC I h0 h1 h2 h3 h4) 34)).alloc (.cells (evC 14 2 0 0 y 0) 55)) ; simpa using this)) (by repeat (first | exact Ext.refl _ | refine Ext.drew ?_ | refine Ext.drewN ?_ _ | refine Ext.alloc ?_ _))))
  have lw0 : w.heap.size < w0.heap.size := HB0.out.lt
  have lw1 : w.heap.size + 1 < w0.heap.size := HB1.out.lt
  have lw2 : w.heap.size + 2 < w0.heap.size := HB2.out.lt
  have lw3 : w.heap.size + 3 < w0.heap.size := HB3.out.lt
  have c0_11 := HB0.out.c11
  have c1_18 := HB1.out.c18
  rw [HF.out] at c1_18
  have c1_26 := HB1.out.c26
  have c2_1 := HB2.out.c1
  have c2_4 := HB2.out.c4
  rw [← hw0]
  clear hw0
  go_upto_region 2 with (first | (with_reducible refine at_list ?_; first | go_skip | refine HB0.out.step (by first | rfl | kernel_rfl) rfl rfl ?_ | refine HB1.out.step (by first | rfl | kernel_rfl) rfl rfl ?_) | (go_at_call 17; refine (iclone _ I h0 h1 h2 h3 h4 HI.out.good (L.out.ext (by repeat (first | exact HX.out | refine Ext.drew ?_ | refine Ext.drewN ?_ _ | refine Ext.alloc ?_ _)))).mono ?_; rintro e w1 ⟨k0, k1, k2, k3, k4, rfl, hown, hb⟩; have hup := Nat.le_of_lt lw0; have hx : Ext w0 w1 := Ext.trans (by repeat (first | exact Ext.refl _ | refine Ext.drew ?_ | refine Ext.drewN ?_ _ | refine Ext.alloc ?_ _)) hb; (replace HX := Lib.hid (HX.out.trans hx)); (replace HB0 := Lib.hid (HB0.out.ext hx)); (replace HB1 := Lib.hid (HB1.out.ext hx)); (replace HB2 := Lib.hid (HB2.out.ext hx)); (replace HB3 := Lib.hid (HB3.out.ext hx)); (have lw0 : w.heap.size < w1.heap.size := HB0.out.lt); (have lw1 : w.heap.size + 1 < w1.heap.size := HB1.out.lt); (have lw2 : w.heap.size + 2 < w1.heap.size := HB2.out.lt); (have lw3 : w.heap.size + 3 < w1.heap.size := HB3.out.lt); (replace c0_11 := HB0.out.c11); (replace c1_18 := HB1.out.c18); (rw [HF.out] at c1_18); (replace c1_26 := HB1.out.c26); (replace c2_1 := HB2.out.c1); (replace c2_4 := HB2.out.c4); have HO := Lib.hid (hown.up hup); clear hx hb hown) | (with_reducible refine at_list ?_; refine st_new rfl HO.out.at rfl rfl rfl rfl ?_; intro w2 hbox hx; have lw1_0 := lw0; have lw1_1 := lw1; have lw1_2 := lw2; have lw1_3 := lw3; (replace HX := Lib.hid (HX.out.trans hx)); (replace HB0 := Lib.hid (HB0.out.ext hx)); (replace HB1 := Lib.hid (HB1.out.ext hx)); (replace HB2 := Lib.hid (HB2.out.ext hx)); (replace HB3 := Lib.hid (HB3.out.ext hx)); (have lw0 : w.heap.size < w2.heap.size := HB0.out.lt); (have lw1 : w.heap.size + 1 < w2.heap.size := HB1.out.lt); (have lw2 : w.heap.size + 2 < w2.heap.size := HB2.out.lt); (have lw3 : w.heap.size + 3 < w2.heap.size := HB3.out.lt); (replace c0_11 := HB0.out.c11); (replace c1_18 := HB1.out.c18); (rw [HF.out] at c1_18); (replace c1_26 := HB1.out.c26); (replace c2_1 := HB2.out.c1); (replace c2_4 := HB2.out.c4); have HP := Lib.hid hbox; replace HO := Lib.hid (HO.out.ext hx); clear hx hbox))
  obtain ⟨p, hp⟩ : ∃ q, q = w1.heap.size := ⟨_, rfl⟩
  rw [← hp] at HP ⊢
  have np0 : w.heap.size ≠ p := by rw [hp]; exact Nat.ne_of_lt lw1_0
  have np1 : w.heap.size + 1 ≠ p := by rw [hp]; exact Nat.ne_of_lt lw1_1
  have np2 : w.heap.size + 2 ≠ p := by rw [hp]; exact Nat.ne_of_lt lw1_2
  have np3 : w.heap.size + 3 ≠ p := by rw [hp]; exact Nat.ne_of_lt lw1_3
  have lp : p < w2.heap.size := HP.out.lt
  have bp : w.heap.size < p := by rw [hp]; exact lw1_0
  clear hp
  clear lw1_0
  clear lw1_1
  clear lw1_2
  clear lw1_3
  refine wp_region_held_drew (S := (fun w' => w'.cell? ⟨w.heap.size + 1, 18, none⟩ = some (.bool true) ∧ w'.cell? ⟨w.heap.size + 1, 26, none⟩ = some (.int .i64 I.rb) ∧ w'.cell? ⟨w.heap.size, 11, none⟩ = some (.int .i64 n) ∧ w'.cell? ⟨w.heap.size + 2, 1, none⟩ = some (.int .i64 2))) (by kernel_rfl) (by exact ⟨c1_18, c1_26, c0_11, c2_1⟩) (fun hHeld => ?_)
  refine wpAnyH_take (i := 0) (v := ?v71) rfl (by kernel_rfl) (by kernel_rfl) (by kernel_rfl) (fun _ _ _ h => h) (Or.inl ⟨by rfl, ?y71⟩) (by assumption) ?r71
  case y71 => ((intro w hSw; (try dsimp only at hSw); go_simp; (first | done | with_reducible rfl)))
  (try simp only [List.getElem_toArray, List.getElem_cons_succ, List.getElem_cons_zero, Act.put, List.setIfInBounds_toArray, List.set_cons_zero, List.set_cons_succ])
  refine wpAnyH_take (i := 1) (v := ?v72) rfl (by kernel_rfl) (by kernel_rfl) (by kernel_rfl) (fun _ _ _ h => h) (Or.inl ⟨by rfl, ?y72⟩) (by assumption) ?r72
  case y72 => ((intro w hSw; (try dsimp only at hSw); go_simp; (first | done | with_reducible rfl)))
  (try simp only [List.getElem_toArray, List.getElem_cons_succ, List.getElem_cons_zero, Act.put, List.setIfInBounds_toArray, List.set_cons_zero, List.set_cons_succ])
  refine wpAnyH_take (i := 2) (v := ?v73) rfl (by kernel_rfl) (by kernel_rfl) (by kernel_rfl) (fun _ _ _ h => h) (Or.inl ⟨by rfl, ?y73⟩) (by assumption) ?r73
  case y73 => ((intro w hSw; (try dsimp only at hSw); go_simp; (first | done | with_reducible rfl)))
  (try simp only [List.getElem_toArray, List.getElem_cons_succ, List.getElem_cons_zero, Act.put, List.setIfInBounds_toArray, List.set_cons_zero, List.set_cons_succ])
  refine wpAnyH_take (i := 3) (v := ?v74) rfl (by kernel_rfl) (by kernel_rfl) (by kernel_rfl) (fun _ _ _ h => h) (Or.inl ⟨by rfl, ?y74⟩) (by assumption) ?r74
  case y74 => ((intro w hSw; (try dsimp only at hSw); go_simp; (first | done | with_reducible rfl)))
  (try simp only [List.getElem_toArray, List.getElem_cons_succ, List.getElem_cons_zero, Act.put, List.setIfInBounds_toArray, List.set_cons_zero, List.set_cons_succ])
  refine wpAnyH_take (i := 4) (v := ?v75) rfl (by kernel_rfl) (by kernel_rfl) (by kernel_rfl) (fun _ _ _ h => h) (Or.inl ⟨by rfl, ?y75⟩) (by assumption) ?r75
  case y75 => ((intro w hSw; (try dsimp only at hSw); go_simp; (first | done | with_reducible rfl)))
  (try simp only [List.getElem_toArray, List.getElem_cons_succ, List.getElem_cons_zero, Act.put, List.setIfInBounds_toArray, List.set_cons_zero, List.set_cons_succ])
  refine wpAnyH_take (i := 5) (v := ?v76) rfl (by kernel_rfl) (by kernel_rfl) (by kernel_rfl) (fun _ _ _ h => h) (Or.inl ⟨by rfl, ?y76⟩) (by assumption) ?r76
  case y76 => ((intro w hSw; (try dsimp only at hSw); go_simp; (first | done | with_reducible rfl)))
  (try simp only [List.getElem_toArray, List.getElem_cons_succ, List.getElem_cons_zero, Act.put, List.setIfInBounds_toArray, List.set_cons_zero, List.set_cons_succ])
  refine wpAnyH_take (i := 6) (v := ?v77) rfl (by kernel_rfl) (by kernel_rfl) (by kernel_rfl) (fun _ _ _ h => h) (Or.inl ⟨by rfl, ?y77⟩) (by assumption) ?r77
  case y77 => ((intro w hSw; (try dsimp only at hSw); go_simp; (first | done | with_reducible rfl)))
  (try simp only [List.getElem_toArray, List.getElem_cons_succ, List.getElem_cons_zero, Act.put, List.setIfInBounds_toArray, List.set_cons_zero, List.set_cons_succ])
  refine wpAnyH_take (i := 7) (v := ?v78) rfl (by kernel_rfl) (by kernel_rfl) (by kernel_rfl) (fun _ _ _ h => h) (Or.inl ⟨by rfl, ?y78⟩) (by assumption) ?r78
  case y78 => ((intro w hSw; (try dsimp only at hSw); go_simp; (first | done | with_reducible rfl)))
  (try simp only [List.getElem_toArray, List.getElem_cons_succ, List.getElem_cons_zero, Act.put, List.setIfInBounds_toArray, List.set_cons_zero, List.set_cons_succ])
  refine wpAnyH_take (i := 8) (v := ?v79) rfl (by kernel_rfl) (by kernel_rfl) (by kernel_rfl) (fun _ _ _ h => h) (Or.inl ⟨by rfl, ?y79⟩) (by assumption) ?r79
  case y79 => ((intro w hSw; (try dsimp only at hSw); go_simp; (first | done | with_reducible rfl)))
  (try simp only [List.getElem_toArray, List.getElem_cons_succ, List.getElem_cons_zero, Act.put, List.setIfInBounds_toArray, List.set_cons_zero, List.set_cons_succ])
  refine wpAnyH_take (i := 9) (v := ?v80) rfl (by kernel_rfl) (by kernel_rfl) (by kernel_rfl) (fun _ _ _ h => h) (Or.inl ⟨by rfl, ?y80⟩) (by assumption) ?r80
  case y80 => ((intro w hSw; (try dsimp only at hSw); go_simp; (first | done | with_reducible rfl)))
  (try simp only [List.getElem_toArray, List.getElem_cons_succ, List.getElem_cons_zero, Act.put, List.setIfInBounds_toArray, List.set_cons_zero, List.set_cons_succ])
  refine wpAnyH_take (i := 10) (v := ?v81) rfl (by kernel_rfl) (by kernel_rfl) (by kernel_rfl) (fun _ _ _ h => h) (Or.inl ⟨by rfl, ?y81⟩) (by assumption) ?r81
  case y81 => ((intro w hSw; (try dsimp only at hSw); go_simp; (first | done | with_reducible rfl)))
  (try simp only [List.getElem_toArray, List.getElem_cons_succ, List.getElem_cons_zero, Act.put, List.setIfInBounds_toArray, List.set_cons_zero, List.set_cons_succ])
  refine wpAnyH_take (i := 11) (v := ?v82) rfl (by kernel_rfl) (by kernel_rfl) (by kernel_rfl) (fun _ _ _ h => h) (Or.inl ⟨by rfl, ?y82⟩) (by assumption) ?r82
  case y82 => ((intro w hSw; (try dsimp only at hSw); go_simp; (first | done | with_reducible rfl)))
  (try simp only [List.getElem_toArray, List.getElem_cons_succ, List.getElem_cons_zero, Act.put, List.setIfInBounds_toArray, List.set_cons_zero, List.set_cons_succ])
  refine wpAnyH_take (i := 12) (v := ?v83) rfl (by kernel_rfl) (by kernel_rfl) (by kernel_rfl) (fun _ _ _ h => h) (Or.inl ⟨by rfl, ?y83⟩) (by assumption) ?r83
  case y83 => ((intro w hSw; (try dsimp only at hSw); go_simp; (first | done | with_reducible rfl)))
  (try simp only [List.getElem_toArray, List.getElem_cons_succ, List.getElem_cons_zero, Act.put, List.setIfInBounds_toArray, List.set_cons_zero, List.set_cons_succ])
  refine wpAnyH_take (i := 13) (v := ?v84) rfl (by kernel_rfl) (by kernel_rfl) (by kernel_rfl) (fun _ _ _ h => h) (Or.inl ⟨by rfl, ?y84⟩) (by assumption) ?r84
  case y84 => ((intro w hSw; (try dsimp only at hSw); go_simp; (first | done | with_reducible rfl)))
  (try simp only [List.getElem_toArray, List.getElem_cons_succ, List.getElem_cons_zero, Act.put, List.setIfInBounds_toArray, List.set_cons_zero, List.set_cons_succ])
  refine wpAnyH_done (by kernel_rfl) ?_ _
  clear hHeld
  obtain ⟨w3, hw⟩ : ∃ W, W = w2.drew := ⟨_, rfl⟩
  have hx : Ext w2 w3 := by rw [hw]; exact (Ext.refl _).drew
  rw [← hw]
  clear hw
  replace HX := Lib.hid (HX.out.trans hx)
  replace HB0 := Lib.hid (HB0.out.ext hx)
  replace HB1 := Lib.hid (HB1.out.ext hx)
  replace HB2 := Lib.hid (HB2.out.ext hx)
  replace HB3 := Lib.hid (HB3.out.ext hx)
  have lw0 : w.heap.size < w3.heap.size := HB0.out.lt
  have lw1 : w.heap.size + 1 < w3.heap.size := HB1.out.lt
  have lw2 : w.heap.size + 2 < w3.heap.size := HB2.out.lt
  have lw3 : w.heap.size + 3 < w3.heap.size := HB3.out.lt
  replace HP := Lib.hid (HP.out.ext hx)
  replace HO := Lib.hid (HO.out.ext hx)
  replace c0_11 := HB0.out.c11
  replace c1_18 := HB1.out.c18
  rw [HF.out] at c1_18
  replace c1_26 := HB1.out.c26
  replace c2_1 := HB2.out.c1
  replace c2_4 := HB2.out.c4
  clear hx
  go_wp2_with (first | (with_reducible refine at_list ?_; refine HP.out.step (by first | rfl | kernel_rfl) rfl rfl ?_) | (with_reducible refine at_list ?_; refine st_old HB3.out (show InAt w3 I k0 k1 k2 k3 k4 from ⟨HO.out.at.l0, HO.out.at.l1, HO.out.at.l2, HO.out.at.l3, HO.out.at.l4, HO.out.at.n1⟩) rfl rfl rfl rfl ?_; intro w4 hbox hg; have HR := Lib.hid hbox; replace HO := Lib.hid (HO.out.kept HB3.out hg); replace HX := Lib.hid (ext_grown HX.out hg (fun k hk => by injection hk with hk; omega)); clear hbox hg))
  (try simp only [Exit.inBlock, Exit.then])
  refine BoxI.ret rfl HR.out rfl rfl ?_
  have hA := HO.out
  exact ⟨_, _, _, _, _, rfl, ⟨hA.l0, hA.l1, hA.l2, hA.l3, hA.l4, hA.n1, hA.d1, hA.d2⟩, HX.out⟩

end Go.Proofs.Ytpeabgfolpgfjaa

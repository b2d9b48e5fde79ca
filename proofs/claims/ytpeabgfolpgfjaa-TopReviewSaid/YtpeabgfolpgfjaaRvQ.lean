/-
  perform and Step.
-/
import Derived.Test.YtpeabgfolpgfjaaRvP
import Derived.Test.YtpeabgfolpgfjaaRvK
import Derived.Test.YtpeabgfolpgfjaaRvN
import Derived.Test.YtpeabgfolpgfjaaRvI
namespace Go.Proofs.Ytpeabgfolpgfjaa
open Go.RowKit Go.Lib
set_option linter.unusedSimpArgs false

theorem BoxE.ball {w : World} {b : Nat} {k sd p o : Int} {y : Bool} (h : BoxE w b k sd p o y 1) {ops : Array Oper} {rest : List Oper} {op : Oper} {a : Act} {Q : Exit → Act → World → Prop} {x : Operand} (hw : Region.wanted op (yielded ops a.tmps) = true) (ho : op.op = .load 53 x)
    (hx : a.eval x = .pointer (some ⟨b, 7, none⟩)) (q : wpList Try.prog ops Q rest (a.put op.dst (.agg dlC)) w) : wpList Try.prog ops Q (op :: rest) a w :=
  BigFrame.wpList_want hw fun _ hK => wp_load_mid 53 x ho b 7 hx [.int .u8 1, .int .u8 0, .int .i64 0, .int .i64 0, .int .i64 0, .bool false, .int .u8 0, .int .i64 0, .int .i64 0, .int .i64 0, .bool false, .int .i64 0] _ (fun j v hv => by
    match j, hv with
    | 0, hv => rw [← hv]; exact h.c7
    | 1, hv => rw [← hv]; exact h.c8
    | 2, hv => rw [← hv]; exact h.c9
    | 3, hv => rw [← hv]; exact h.c10
    | 4, hv => rw [← hv]; exact h.c11
    | 5, hv => rw [← hv]; exact h.c12
    | 6, hv => rw [← hv]; exact h.c13
    | 7, hv => rw [← hv]; exact h.c14
    | 8, hv => rw [← hv]; exact h.c15
    | 9, hv => rw [← hv]; exact h.c16
    | 10, hv => rw [← hv]; exact h.c17
    | 11, hv => rw [← hv]; exact h.c18
    | (j + 12), hv => simp at hv) Try.underlying53 rfl (by kernel_rfl) (hK _ _ q)

set_option maxHeartbeats 4000000 in
theorem perform_open (w : World) (n : Int) (I J : In) (l : Int) (h0 h1 h2 h3 h4 : Value) (hc : ∀ W, Ext w W → Calls Try.prog 35 #[.agg (inC I h0 h1 h2 h3 h4), .int .i64 1, .int .i64 2] W fun e w' => ∃ k0 k1 k2 k3 k4, e = .returned (.tuple #[.agg (inC J k0 k1 k2 k3 k4), .int .i64 l]) ∧ InOwn W.heap.size w' J k0 k1 k2 k3 k4 ∧ Ext W w') :
    Calls Try.prog 19 #[.agg (rvC n), .agg (inC I h0 h1 h2 h3 h4), .agg (evC 2 0 1 2 false 0)] w fun e w' => ∃ k0 k1 k2 k3 k4, e = .returned (.tuple #[.agg (inC J k0 k1 k2 k3 k4), .int .i64 l]) ∧ InOwn w.heap.size w' J k0 k1 k2 k3 k4 ∧ Ext w w' := by
  have HC := Lib.hid hc
  clear hc
  go_enter Try.func19, Try.ntmps19
  go_upto_region 1 with fail
  obtain ⟨w0, hw0⟩ : ∃ W, W = ((((w.alloc (.cells (rvC n) 25)).alloc (.cells (inC I h0 h1 h2 h3 h4) 34)).alloc (.cells (evC 2 0 1 2 false 0) 55)).alloc (.cells #[.int .i64 0, .int .i64 0, .int .i64 0, .int .i64 0, .int .i64 0, .int .i64 0, .int .i64 0, .int .i64 0, .int .i64 0, .int .i64 0, .int .i64 0, .int .i64 0, .int .i64 0, .int .i64 0, .slice none 0 0, .int .i64 0, .slice none 0 0, .slice none 0 0, .bool false, .slice none 0 0, .bool false, .int .i64 0, .int .i64 0, .int .i64 0, .slice none 0 0, .int .i64 0, .int .i64 0, .int .u8 0] 34)) := ⟨_, rfl⟩
  have HX := Lib.hid (show Ext w w0 by rw [hw0]; exact (by repeat (first | exact Ext.refl _ | refine Ext.drew ?_ | refine Ext.drewN ?_ _ | refine Ext.alloc ?_ _)))
  have HB0 := Lib.hid (show BoxR w0 (w.heap.size) n by rw [hw0]; exact (BoxR.ext (show BoxR _ (w.heap.size) n from (by have := boxR_new w n; simpa using this)) (by repeat (first | exact Ext.refl _ | refine Ext.drew ?_ | refine Ext.drewN ?_ _ | refine Ext.alloc ?_ _))))
  have HB1 := Lib.hid (show BoxI w0 (w.heap.size + 1) I h0 h1 h2 h3 h4 by rw [hw0]; exact (BoxI.ext (show BoxI _ (w.heap.size + 1) I h0 h1 h2 h3 h4 from (by have := boxI_new (w.alloc (.cells (rvC n) 25)) I h0 h1 h2 h3 h4; simpa using this)) (by repeat (first | exact Ext.refl _ | refine Ext.drew ?_ | refine Ext.drewN ?_ _ | refine Ext.alloc ?_ _))))
  have HB2 := Lib.hid (show BoxE w0 (w.heap.size + 2) 2 0 1 2 false 0 by rw [hw0]; exact (BoxE.ext (show BoxE _ (w.heap.size + 2) 2 0 1 2 false 0 from (by have := boxE_new ((w.alloc (.cells (rvC n) 25)).alloc (.cells (inC I h0 h1 h2 h3 h4) 34)) 2 0 1 2 false 0; simpa using this)) (by repeat (first | exact Ext.refl _ | refine Ext.drew ?_ | refine Ext.drewN ?_ _ | refine Ext.alloc ?_ _))))
  have HB3 := Lib.hid (show BoxZ w0 (w.heap.size + 3)  by rw [hw0]; exact (BoxZ.ext (show BoxZ _ (w.heap.size + 3)  from (by have := boxZ_new (((w.alloc (.cells (rvC n) 25)).alloc (.cells (inC I h0 h1 h2 h3 h4) 34)).alloc (.cells (evC 2 0 1 2 false 0) 55)) ; simpa using this)) (by repeat (first | exact Ext.refl _ | refine Ext.drew ?_ | refine Ext.drewN ?_ _ | refine Ext.alloc ?_ _))))
  have lw0 : w.heap.size < w0.heap.size := HB0.out.lt
  have lw1 : w.heap.size + 1 < w0.heap.size := HB1.out.lt
  have lw2 : w.heap.size + 2 < w0.heap.size := HB2.out.lt
  have lw3 : w.heap.size + 3 < w0.heap.size := HB3.out.lt
  have c2_0 := HB2.out.c0
  have c2_2 := HB2.out.c2
  have c2_3 := HB2.out.c3
  rw [← hw0]
  clear hw0
  go_wp2_with (first | (with_reducible refine at_list ?_; first | go_skip | (refine HB0.out.step (by first | rfl | kernel_rfl) rfl rfl ?_; (try simp only [List.getElem_toArray, List.getElem_cons_succ, List.getElem_cons_zero, Act.put, List.setIfInBounds_toArray, List.set_cons_zero, List.set_cons_succ])) | (refine HB1.out.step (by first | rfl | kernel_rfl) rfl rfl ?_; (try simp only [List.getElem_toArray, List.getElem_cons_succ, List.getElem_cons_zero, Act.put, List.setIfInBounds_toArray, List.set_cons_zero, List.set_cons_succ])) | (refine HB2.out.step (by first | rfl | kernel_rfl) rfl rfl ?_; (try simp only [List.getElem_toArray, List.getElem_cons_succ, List.getElem_cons_zero, Act.put, List.setIfInBounds_toArray, List.set_cons_zero, List.set_cons_succ]))) | (go_at_call 35; refine (HC.out _ (HX.out.trans (by repeat (first | exact Ext.refl _ | refine Ext.drew ?_ | refine Ext.drewN ?_ _ | refine Ext.alloc ?_ _)))).mono ?_; rintro e w1 ⟨k0, k1, k2, k3, k4, rfl, hown, hb⟩; have hup := Nat.le_of_lt lw0; have hx : Ext w0 w1 := Ext.trans (by repeat (first | exact Ext.refl _ | refine Ext.drew ?_ | refine Ext.drewN ?_ _ | refine Ext.alloc ?_ _)) hb; (replace HX := Lib.hid (HX.out.trans hx)); (replace HB0 := Lib.hid (HB0.out.ext hx)); (replace HB1 := Lib.hid (HB1.out.ext hx)); (replace HB2 := Lib.hid (HB2.out.ext hx)); (replace HB3 := Lib.hid (HB3.out.ext hx)); (have lw0 : w.heap.size < w1.heap.size := HB0.out.lt); (have lw1 : w.heap.size + 1 < w1.heap.size := HB1.out.lt); (have lw2 : w.heap.size + 2 < w1.heap.size := HB2.out.lt); (have lw3 : w.heap.size + 3 < w1.heap.size := HB3.out.lt); (replace c2_0 := HB2.out.c0); (replace c2_2 := HB2.out.c2); (replace c2_3 := HB2.out.c3); have HO := Lib.hid (hown.up hup); clear hx hb hown) | (with_reducible refine at_list ?_; refine st_old HB3.out HO.out.at rfl rfl rfl rfl ?_; intro w2 hbox hg; have HR := Lib.hid hbox; replace HO := Lib.hid (HO.out.kept HB3.out hg); replace HX := Lib.hid (ext_grown HX.out hg (fun k hk => by injection hk with hk; omega)); clear hbox hg))
  (try simp only [Exit.inBlock, Exit.then])
  refine BoxI.ret rfl HR.out rfl rfl ?_
  have hA := HO.out
  exact ⟨_, _, _, _, _, rfl, hA, HX.out⟩

set_option maxHeartbeats 4000000 in
theorem perform_bowl (w : World) (n : Int) (I J : In) (l : Int) (h0 h1 h2 h3 h4 : Value) (hc : ∀ W, Ext w W → Calls Try.prog 36 #[.agg (rvC n), .agg (inC I h0 h1 h2 h3 h4), .int .i64 1] W fun e w' => ∃ k0 k1 k2 k3 k4, e = .returned (.tuple #[.agg (inC J k0 k1 k2 k3 k4), .int .i64 l]) ∧ InOwn W.heap.size w' J k0 k1 k2 k3 k4 ∧ Ext W w') :
    Calls Try.prog 19 #[.agg (rvC n), .agg (inC I h0 h1 h2 h3 h4), .agg (evC 3 0 1 0 false 0)] w fun e w' => ∃ k0 k1 k2 k3 k4, e = .returned (.tuple #[.agg (inC J k0 k1 k2 k3 k4), .int .i64 l]) ∧ InOwn w.heap.size w' J k0 k1 k2 k3 k4 ∧ Ext w w' := by
  have HC := Lib.hid hc
  clear hc
  go_enter Try.func19, Try.ntmps19
  go_upto_region 1 with fail
  obtain ⟨w0, hw0⟩ : ∃ W, W = ((((w.alloc (.cells (rvC n) 25)).alloc (.cells (inC I h0 h1 h2 h3 h4) 34)).alloc (.cells (evC 3 0 1 0 false 0) 55)).alloc (.cells #[.int .i64 0, .int .i64 0, .int .i64 0, .int .i64 0, .int .i64 0, .int .i64 0, .int .i64 0, .int .i64 0, .int .i64 0, .int .i64 0, .int .i64 0, .int .i64 0, .int .i64 0, .int .i64 0, .slice none 0 0, .int .i64 0, .slice none 0 0, .slice none 0 0, .bool false, .slice none 0 0, .bool false, .int .i64 0, .int .i64 0, .int .i64 0, .slice none 0 0, .int .i64 0, .int .i64 0, .int .u8 0] 34)) := ⟨_, rfl⟩
  have HX := Lib.hid (show Ext w w0 by rw [hw0]; exact (by repeat (first | exact Ext.refl _ | refine Ext.drew ?_ | refine Ext.drewN ?_ _ | refine Ext.alloc ?_ _)))
  have HB0 := Lib.hid (show BoxR w0 (w.heap.size) n by rw [hw0]; exact (BoxR.ext (show BoxR _ (w.heap.size) n from (by have := boxR_new w n; simpa using this)) (by repeat (first | exact Ext.refl _ | refine Ext.drew ?_ | refine Ext.drewN ?_ _ | refine Ext.alloc ?_ _))))
  have HB1 := Lib.hid (show BoxI w0 (w.heap.size + 1) I h0 h1 h2 h3 h4 by rw [hw0]; exact (BoxI.ext (show BoxI _ (w.heap.size + 1) I h0 h1 h2 h3 h4 from (by have := boxI_new (w.alloc (.cells (rvC n) 25)) I h0 h1 h2 h3 h4; simpa using this)) (by repeat (first | exact Ext.refl _ | refine Ext.drew ?_ | refine Ext.drewN ?_ _ | refine Ext.alloc ?_ _))))
  have HB2 := Lib.hid (show BoxE w0 (w.heap.size + 2) 3 0 1 0 false 0 by rw [hw0]; exact (BoxE.ext (show BoxE _ (w.heap.size + 2) 3 0 1 0 false 0 from (by have := boxE_new ((w.alloc (.cells (rvC n) 25)).alloc (.cells (inC I h0 h1 h2 h3 h4) 34)) 3 0 1 0 false 0; simpa using this)) (by repeat (first | exact Ext.refl _ | refine Ext.drew ?_ | refine Ext.drewN ?_ _ | refine Ext.alloc ?_ _))))
  have HB3 := Lib.hid (show BoxZ w0 (w.heap.size + 3)  by rw [hw0]; exact (BoxZ.ext (show BoxZ _ (w.heap.size + 3)  from (by have := boxZ_new (((w.alloc (.cells (rvC n) 25)).alloc (.cells (inC I h0 h1 h2 h3 h4) 34)).alloc (.cells (evC 3 0 1 0 false 0) 55)) ; simpa using this)) (by repeat (first | exact Ext.refl _ | refine Ext.drew ?_ | refine Ext.drewN ?_ _ | refine Ext.alloc ?_ _))))
  have lw0 : w.heap.size < w0.heap.size := HB0.out.lt
  have lw1 : w.heap.size + 1 < w0.heap.size := HB1.out.lt
  have lw2 : w.heap.size + 2 < w0.heap.size := HB2.out.lt
  have lw3 : w.heap.size + 3 < w0.heap.size := HB3.out.lt
  have c2_0 := HB2.out.c0
  have c2_2 := HB2.out.c2
  rw [← hw0]
  clear hw0
  go_wp2_with (first | (with_reducible refine at_list ?_; first | go_skip | (refine HB0.out.step (by first | rfl | kernel_rfl) rfl rfl ?_; (try simp only [List.getElem_toArray, List.getElem_cons_succ, List.getElem_cons_zero, Act.put, List.setIfInBounds_toArray, List.set_cons_zero, List.set_cons_succ])) | (refine HB1.out.step (by first | rfl | kernel_rfl) rfl rfl ?_; (try simp only [List.getElem_toArray, List.getElem_cons_succ, List.getElem_cons_zero, Act.put, List.setIfInBounds_toArray, List.set_cons_zero, List.set_cons_succ])) | (refine HB2.out.step (by first | rfl | kernel_rfl) rfl rfl ?_; (try simp only [List.getElem_toArray, List.getElem_cons_succ, List.getElem_cons_zero, Act.put, List.setIfInBounds_toArray, List.set_cons_zero, List.set_cons_succ]))) | (go_at_call 36; refine (HC.out _ (HX.out.trans (by repeat (first | exact Ext.refl _ | refine Ext.drew ?_ | refine Ext.drewN ?_ _ | refine Ext.alloc ?_ _)))).mono ?_; rintro e w1 ⟨k0, k1, k2, k3, k4, rfl, hown, hb⟩; have hup := Nat.le_of_lt lw0; have hx : Ext w0 w1 := Ext.trans (by repeat (first | exact Ext.refl _ | refine Ext.drew ?_ | refine Ext.drewN ?_ _ | refine Ext.alloc ?_ _)) hb; (replace HX := Lib.hid (HX.out.trans hx)); (replace HB0 := Lib.hid (HB0.out.ext hx)); (replace HB1 := Lib.hid (HB1.out.ext hx)); (replace HB2 := Lib.hid (HB2.out.ext hx)); (replace HB3 := Lib.hid (HB3.out.ext hx)); (have lw0 : w.heap.size < w1.heap.size := HB0.out.lt); (have lw1 : w.heap.size + 1 < w1.heap.size := HB1.out.lt); (have lw2 : w.heap.size + 2 < w1.heap.size := HB2.out.lt); (have lw3 : w.heap.size + 3 < w1.heap.size := HB3.out.lt); (replace c2_0 := HB2.out.c0); (replace c2_2 := HB2.out.c2); have HO := Lib.hid (hown.up hup); clear hx hb hown) | (with_reducible refine at_list ?_; refine st_old HB3.out HO.out.at rfl rfl rfl rfl ?_; intro w2 hbox hg; have HR := Lib.hid hbox; replace HO := Lib.hid (HO.out.kept HB3.out hg); replace HX := Lib.hid (ext_grown HX.out hg (fun k hk => by injection hk with hk; omega)); clear hbox hg))
  (try simp only [Exit.inBlock, Exit.then])
  refine BoxI.ret rfl HR.out rfl rfl ?_
  have hA := HO.out
  exact ⟨_, _, _, _, _, rfl, hA, HX.out⟩

set_option maxHeartbeats 4000000 in
theorem perform_ball (w : World) (n : Int) (I J : In) (l : Int) (h0 h1 h2 h3 h4 : Value) (hc : ∀ W, Ext w W → Calls Try.prog 37 #[.agg (rvC n), .agg (inC I h0 h1 h2 h3 h4), .agg dlC] W fun e w' => ∃ k0 k1 k2 k3 k4, e = .returned (.tuple #[.agg (inC J k0 k1 k2 k3 k4), .int .i64 l]) ∧ InOwn W.heap.size w' J k0 k1 k2 k3 k4 ∧ Ext W w') :
    Calls Try.prog 19 #[.agg (rvC n), .agg (inC I h0 h1 h2 h3 h4), .agg (evC 4 0 0 0 false 1)] w fun e w' => ∃ k0 k1 k2 k3 k4, e = .returned (.tuple #[.agg (inC J k0 k1 k2 k3 k4), .int .i64 l]) ∧ InOwn w.heap.size w' J k0 k1 k2 k3 k4 ∧ Ext w w' := by
  have HC := Lib.hid hc
  clear hc
  go_enter Try.func19, Try.ntmps19
  go_upto_region 1 with fail
  obtain ⟨w0, hw0⟩ : ∃ W, W = ((((w.alloc (.cells (rvC n) 25)).alloc (.cells (inC I h0 h1 h2 h3 h4) 34)).alloc (.cells (evC 4 0 0 0 false 1) 55)).alloc (.cells #[.int .i64 0, .int .i64 0, .int .i64 0, .int .i64 0, .int .i64 0, .int .i64 0, .int .i64 0, .int .i64 0, .int .i64 0, .int .i64 0, .int .i64 0, .int .i64 0, .int .i64 0, .int .i64 0, .slice none 0 0, .int .i64 0, .slice none 0 0, .slice none 0 0, .bool false, .slice none 0 0, .bool false, .int .i64 0, .int .i64 0, .int .i64 0, .slice none 0 0, .int .i64 0, .int .i64 0, .int .u8 0] 34)) := ⟨_, rfl⟩
  have HX := Lib.hid (show Ext w w0 by rw [hw0]; exact (by repeat (first | exact Ext.refl _ | refine Ext.drew ?_ | refine Ext.drewN ?_ _ | refine Ext.alloc ?_ _)))
  have HB0 := Lib.hid (show BoxR w0 (w.heap.size) n by rw [hw0]; exact (BoxR.ext (show BoxR _ (w.heap.size) n from (by have := boxR_new w n; simpa using this)) (by repeat (first | exact Ext.refl _ | refine Ext.drew ?_ | refine Ext.drewN ?_ _ | refine Ext.alloc ?_ _))))
  have HB1 := Lib.hid (show BoxI w0 (w.heap.size + 1) I h0 h1 h2 h3 h4 by rw [hw0]; exact (BoxI.ext (show BoxI _ (w.heap.size + 1) I h0 h1 h2 h3 h4 from (by have := boxI_new (w.alloc (.cells (rvC n) 25)) I h0 h1 h2 h3 h4; simpa using this)) (by repeat (first | exact Ext.refl _ | refine Ext.drew ?_ | refine Ext.drewN ?_ _ | refine Ext.alloc ?_ _))))
  have HB2 := Lib.hid (show BoxE w0 (w.heap.size + 2) 4 0 0 0 false 1 by rw [hw0]; exact (BoxE.ext (show BoxE _ (w.heap.size + 2) 4 0 0 0 false 1 from (by have := boxE_new ((w.alloc (.cells (rvC n) 25)).alloc (.cells (inC I h0 h1 h2 h3 h4) 34)) 4 0 0 0 false 1; simpa using this)) (by repeat (first | exact Ext.refl _ | refine Ext.drew ?_ | refine Ext.drewN ?_ _ | refine Ext.alloc ?_ _))))
  have HB3 := Lib.hid (show BoxZ w0 (w.heap.size + 3)  by rw [hw0]; exact (BoxZ.ext (show BoxZ _ (w.heap.size + 3)  from (by have := boxZ_new (((w.alloc (.cells (rvC n) 25)).alloc (.cells (inC I h0 h1 h2 h3 h4) 34)).alloc (.cells (evC 4 0 0 0 false 1) 55)) ; simpa using this)) (by repeat (first | exact Ext.refl _ | refine Ext.drew ?_ | refine Ext.drewN ?_ _ | refine Ext.alloc ?_ _))))
  have lw0 : w.heap.size < w0.heap.size := HB0.out.lt
  have lw1 : w.heap.size + 1 < w0.heap.size := HB1.out.lt
  have lw2 : w.heap.size + 2 < w0.heap.size := HB2.out.lt
  have lw3 : w.heap.size + 3 < w0.heap.size := HB3.out.lt
  have c2_0 := HB2.out.c0
  rw [← hw0]
  clear hw0
  go_wp2_with (first | (with_reducible refine at_list ?_; first | go_skip | (refine HB0.out.step (by first | rfl | kernel_rfl) rfl rfl ?_; (try simp only [List.getElem_toArray, List.getElem_cons_succ, List.getElem_cons_zero, Act.put, List.setIfInBounds_toArray, List.set_cons_zero, List.set_cons_succ])) | (refine HB1.out.step (by first | rfl | kernel_rfl) rfl rfl ?_; (try simp only [List.getElem_toArray, List.getElem_cons_succ, List.getElem_cons_zero, Act.put, List.setIfInBounds_toArray, List.set_cons_zero, List.set_cons_succ])) | (refine HB2.out.step (by first | rfl | kernel_rfl) rfl rfl ?_; (try simp only [List.getElem_toArray, List.getElem_cons_succ, List.getElem_cons_zero, Act.put, List.setIfInBounds_toArray, List.set_cons_zero, List.set_cons_succ])) | (refine HB2.out.ball (by first | rfl | kernel_rfl) rfl rfl ?_; (try simp only [List.getElem_toArray, List.getElem_cons_succ, List.getElem_cons_zero, Act.put, List.setIfInBounds_toArray, List.set_cons_zero, List.set_cons_succ]))) | (go_at_call 37; refine (HC.out _ (HX.out.trans (by repeat (first | exact Ext.refl _ | refine Ext.drew ?_ | refine Ext.drewN ?_ _ | refine Ext.alloc ?_ _)))).mono ?_; rintro e w1 ⟨k0, k1, k2, k3, k4, rfl, hown, hb⟩; have hup := Nat.le_of_lt lw0; have hx : Ext w0 w1 := Ext.trans (by repeat (first | exact Ext.refl _ | refine Ext.drew ?_ | refine Ext.drewN ?_ _ | refine Ext.alloc ?_ _)) hb; (replace HX := Lib.hid (HX.out.trans hx)); (replace HB0 := Lib.hid (HB0.out.ext hx)); (replace HB1 := Lib.hid (HB1.out.ext hx)); (replace HB2 := Lib.hid (HB2.out.ext hx)); (replace HB3 := Lib.hid (HB3.out.ext hx)); (have lw0 : w.heap.size < w1.heap.size := HB0.out.lt); (have lw1 : w.heap.size + 1 < w1.heap.size := HB1.out.lt); (have lw2 : w.heap.size + 2 < w1.heap.size := HB2.out.lt); (have lw3 : w.heap.size + 3 < w1.heap.size := HB3.out.lt); (replace c2_0 := HB2.out.c0); have HO := Lib.hid (hown.up hup); clear hx hb hown) | (with_reducible refine at_list ?_; refine st_old HB3.out HO.out.at rfl rfl rfl rfl ?_; intro w2 hbox hg; have HR := Lib.hid hbox; replace HO := Lib.hid (HO.out.kept HB3.out hg); replace HX := Lib.hid (ext_grown HX.out hg (fun k hk => by injection hk with hk; omega)); clear hbox hg))
  (try simp only [Exit.inBlock, Exit.then])
  refine BoxI.ret rfl HR.out rfl rfl ?_
  have hA := HO.out
  exact ⟨_, _, _, _, _, rfl, hA, HX.out⟩

set_option maxHeartbeats 4000000 in
theorem perform_keep (w : World) (n : Int) (I J : In) (l : Int) (h0 h1 h2 h3 h4 : Value) (hc : ∀ W, Ext w W → Calls Try.prog 42 #[.agg (inC I h0 h1 h2 h3 h4), .int .i64 3] W fun e w' => ∃ k0 k1 k2 k3 k4, e = .returned (.tuple #[.agg (inC J k0 k1 k2 k3 k4), .int .i64 l]) ∧ InOwn W.heap.size w' J k0 k1 k2 k3 k4 ∧ Ext W w') :
    Calls Try.prog 19 #[.agg (rvC n), .agg (inC I h0 h1 h2 h3 h4), .agg (evC 8 0 3 0 false 0)] w fun e w' => ∃ k0 k1 k2 k3 k4, e = .returned (.tuple #[.agg (inC J k0 k1 k2 k3 k4), .int .i64 l]) ∧ InOwn w.heap.size w' J k0 k1 k2 k3 k4 ∧ Ext w w' := by
  have HC := Lib.hid hc
  clear hc
  go_enter Try.func19, Try.ntmps19
  go_upto_region 1 with fail
  obtain ⟨w0, hw0⟩ : ∃ W, W = ((((w.alloc (.cells (rvC n) 25)).alloc (.cells (inC I h0 h1 h2 h3 h4) 34)).alloc (.cells (evC 8 0 3 0 false 0) 55)).alloc (.cells #[.int .i64 0, .int .i64 0, .int .i64 0, .int .i64 0, .int .i64 0, .int .i64 0, .int .i64 0, .int .i64 0, .int .i64 0, .int .i64 0, .int .i64 0, .int .i64 0, .int .i64 0, .int .i64 0, .slice none 0 0, .int .i64 0, .slice none 0 0, .slice none 0 0, .bool false, .slice none 0 0, .bool false, .int .i64 0, .int .i64 0, .int .i64 0, .slice none 0 0, .int .i64 0, .int .i64 0, .int .u8 0] 34)) := ⟨_, rfl⟩
  have HX := Lib.hid (show Ext w w0 by rw [hw0]; exact (by repeat (first | exact Ext.refl _ | refine Ext.drew ?_ | refine Ext.drewN ?_ _ | refine Ext.alloc ?_ _)))
  have HB0 := Lib.hid (show BoxR w0 (w.heap.size) n by rw [hw0]; exact (BoxR.ext (show BoxR _ (w.heap.size) n from (by have := boxR_new w n; simpa using this)) (by repeat (first | exact Ext.refl _ | refine Ext.drew ?_ | refine Ext.drewN ?_ _ | refine Ext.alloc ?_ _))))
  have HB1 := Lib.hid (show BoxI w0 (w.heap.size + 1) I h0 h1 h2 h3 h4 by rw [hw0]; exact (BoxI.ext (show BoxI _ (w.heap.size + 1) I h0 h1 h2 h3 h4 from (by have := boxI_new (w.alloc (.cells (rvC n) 25)) I h0 h1 h2 h3 h4; simpa using this)) (by repeat (first | exact Ext.refl _ | refine Ext.drew ?_ | refine Ext.drewN ?_ _ | refine Ext.alloc ?_ _))))
  have HB2 := Lib.hid (show BoxE w0 (w.heap.size + 2) 8 0 3 0 false 0 by rw [hw0]; exact (BoxE.ext (show BoxE _ (w.heap.size + 2) 8 0 3 0 false 0 from (by have := boxE_new ((w.alloc (.cells (rvC n) 25)).alloc (.cells (inC I h0 h1 h2 h3 h4) 34)) 8 0 3 0 false 0; simpa using this)) (by repeat (first | exact Ext.refl _ | refine Ext.drew ?_ | refine Ext.drewN ?_ _ | refine Ext.alloc ?_ _))))
  have HB3 := Lib.hid (show BoxZ w0 (w.heap.size + 3)  by rw [hw0]; exact (BoxZ.ext (show BoxZ _ (w.heap.size + 3)  from (by have := boxZ_new (((w.alloc (.cells (rvC n) 25)).alloc (.cells (inC I h0 h1 h2 h3 h4) 34)).alloc (.cells (evC 8 0 3 0 false 0) 55)) ; simpa using this)) (by repeat (first | exact Ext.refl _ | refine Ext.drew ?_ | refine Ext.drewN ?_ _ | refine Ext.alloc ?_ _))))
  have lw0 : w.heap.size < w0.heap.size := HB0.out.lt
  have lw1 : w.heap.size + 1 < w0.heap.size := HB1.out.lt
  have lw2 : w.heap.size + 2 < w0.heap.size := HB2.out.lt
  have lw3 : w.heap.size + 3 < w0.heap.size := HB3.out.lt
  have c2_0 := HB2.out.c0
  have c2_2 := HB2.out.c2
  rw [← hw0]
  clear hw0
  go_wp2_with (first | (with_reducible refine at_list ?_; first | go_skip | (refine HB0.out.step (by first | rfl | kernel_rfl) rfl rfl ?_; (try simp only [List.getElem_toArray, List.getElem_cons_succ, List.getElem_cons_zero, Act.put, List.setIfInBounds_toArray, List.set_cons_zero, List.set_cons_succ])) | (refine HB1.out.step (by first | rfl | kernel_rfl) rfl rfl ?_; (try simp only [List.getElem_toArray, List.getElem_cons_succ, List.getElem_cons_zero, Act.put, List.setIfInBounds_toArray, List.set_cons_zero, List.set_cons_succ])) | (refine HB2.out.step (by first | rfl | kernel_rfl) rfl rfl ?_; (try simp only [List.getElem_toArray, List.getElem_cons_succ, List.getElem_cons_zero, Act.put, List.setIfInBounds_toArray, List.set_cons_zero, List.set_cons_succ]))) | (go_at_call 42; refine (HC.out _ (HX.out.trans (by repeat (first | exact Ext.refl _ | refine Ext.drew ?_ | refine Ext.drewN ?_ _ | refine Ext.alloc ?_ _)))).mono ?_; rintro e w1 ⟨k0, k1, k2, k3, k4, rfl, hown, hb⟩; have hup := Nat.le_of_lt lw0; have hx : Ext w0 w1 := Ext.trans (by repeat (first | exact Ext.refl _ | refine Ext.drew ?_ | refine Ext.drewN ?_ _ | refine Ext.alloc ?_ _)) hb; (replace HX := Lib.hid (HX.out.trans hx)); (replace HB0 := Lib.hid (HB0.out.ext hx)); (replace HB1 := Lib.hid (HB1.out.ext hx)); (replace HB2 := Lib.hid (HB2.out.ext hx)); (replace HB3 := Lib.hid (HB3.out.ext hx)); (have lw0 : w.heap.size < w1.heap.size := HB0.out.lt); (have lw1 : w.heap.size + 1 < w1.heap.size := HB1.out.lt); (have lw2 : w.heap.size + 2 < w1.heap.size := HB2.out.lt); (have lw3 : w.heap.size + 3 < w1.heap.size := HB3.out.lt); (replace c2_0 := HB2.out.c0); (replace c2_2 := HB2.out.c2); have HO := Lib.hid (hown.up hup); clear hx hb hown) | (with_reducible refine at_list ?_; refine st_old HB3.out HO.out.at rfl rfl rfl rfl ?_; intro w2 hbox hg; have HR := Lib.hid hbox; replace HO := Lib.hid (HO.out.kept HB3.out hg); replace HX := Lib.hid (ext_grown HX.out hg (fun k hk => by injection hk with hk; omega)); clear hbox hg))
  (try simp only [Exit.inBlock, Exit.then])
  refine BoxI.ret rfl HR.out rfl rfl ?_
  have hA := HO.out
  exact ⟨_, _, _, _, _, rfl, hA, HX.out⟩

set_option maxHeartbeats 4000000 in
theorem perform_rev (w : World) (n : Int) (sd : Int) (y : Bool) (I J : In) (l : Int) (h0 h1 h2 h3 h4 : Value) (hc : ∀ W, Ext w W → Calls Try.prog 47 #[.agg (rvC n), .agg (inC I h0 h1 h2 h3 h4), .agg (evC 14 sd 0 0 y 0)] W fun e w' => ∃ k0 k1 k2 k3 k4, e = .returned (.tuple #[.agg (inC J k0 k1 k2 k3 k4), .int .i64 l]) ∧ InOwn W.heap.size w' J k0 k1 k2 k3 k4 ∧ Ext W w') :
    Calls Try.prog 19 #[.agg (rvC n), .agg (inC I h0 h1 h2 h3 h4), .agg (evC 14 sd 0 0 y 0)] w fun e w' => ∃ k0 k1 k2 k3 k4, e = .returned (.tuple #[.agg (inC J k0 k1 k2 k3 k4), .int .i64 l]) ∧ InOwn w.heap.size w' J k0 k1 k2 k3 k4 ∧ Ext w w' := by
  have HC := Lib.hid hc
  clear hc
  go_enter Try.func19, Try.ntmps19
  go_upto_region 1 with fail
  obtain ⟨w0, hw0⟩ : ∃ W, W = ((((w.alloc (.cells (rvC n) 25)).alloc (.cells (inC I h0 h1 h2 h3 h4) 34)).alloc (.cells (evC 14 sd 0 0 y 0) 55)).alloc (.cells #[.int .i64 0, .int .i64 0, .int .i64 0, .int .i64 0, .int .i64 0, .int .i64 0, .int .i64 0, .int .i64 0, .int .i64 0, .int .i64 0, .int .i64 0, .int .i64 0, .int .i64 0, .int .i64 0, .slice none 0 0, .int .i64 0, .slice none 0 0, .slice none 0 0, .bool false, .slice none 0 0, .bool false, .int .i64 0, .int .i64 0, .int .i64 0, .slice none 0 0, .int .i64 0, .int .i64 0, .int .u8 0] 34)) := ⟨_, rfl⟩
  have HX := Lib.hid (show Ext w w0 by rw [hw0]; exact (by repeat (first | exact Ext.refl _ | refine Ext.drew ?_ | refine Ext.drewN ?_ _ | refine Ext.alloc ?_ _)))
  have HB0 := Lib.hid (show BoxR w0 (w.heap.size) n by rw [hw0]; exact (BoxR.ext (show BoxR _ (w.heap.size) n from (by have := boxR_new w n; simpa using this)) (by repeat (first | exact Ext.refl _ | refine Ext.drew ?_ | refine Ext.drewN ?_ _ | refine Ext.alloc ?_ _))))
  have HB1 := Lib.hid (show BoxI w0 (w.heap.size + 1) I h0 h1 h2 h3 h4 by rw [hw0]; exact (BoxI.ext (show BoxI _ (w.heap.size + 1) I h0 h1 h2 h3 h4 from (by have := boxI_new (w.alloc (.cells (rvC n) 25)) I h0 h1 h2 h3 h4; simpa using this)) (by repeat (first | exact Ext.refl _ | refine Ext.drew ?_ | refine Ext.drewN ?_ _ | refine Ext.alloc ?_ _))))
  have HB2 := Lib.hid (show BoxE w0 (w.heap.size + 2) 14 sd 0 0 y 0 by rw [hw0]; exact (BoxE.ext (show BoxE _ (w.heap.size + 2) 14 sd 0 0 y 0 from (by have := boxE_new ((w.alloc (.cells (rvC n) 25)).alloc (.cells (inC I h0 h1 h2 h3 h4) 34)) 14 sd 0 0 y 0; simpa using this)) (by repeat (first | exact Ext.refl _ | refine Ext.drew ?_ | refine Ext.drewN ?_ _ | refine Ext.alloc ?_ _))))
  have HB3 := Lib.hid (show BoxZ w0 (w.heap.size + 3)  by rw [hw0]; exact (BoxZ.ext (show BoxZ _ (w.heap.size + 3)  from (by have := boxZ_new (((w.alloc (.cells (rvC n) 25)).alloc (.cells (inC I h0 h1 h2 h3 h4) 34)).alloc (.cells (evC 14 sd 0 0 y 0) 55)) ; simpa using this)) (by repeat (first | exact Ext.refl _ | refine Ext.drew ?_ | refine Ext.drewN ?_ _ | refine Ext.alloc ?_ _))))
  have lw0 : w.heap.size < w0.heap.size := HB0.out.lt
  have lw1 : w.heap.size + 1 < w0.heap.size := HB1.out.lt
  have lw2 : w.heap.size + 2 < w0.heap.size := HB2.out.lt
  have lw3 : w.heap.size + 3 < w0.heap.size := HB3.out.lt
  have c2_0 := HB2.out.c0
  rw [← hw0]
  clear hw0
  go_wp2_with (first | (with_reducible refine at_list ?_; first | go_skip | (refine HB0.out.step (by first | rfl | kernel_rfl) rfl rfl ?_; (try simp only [List.getElem_toArray, List.getElem_cons_succ, List.getElem_cons_zero, Act.put, List.setIfInBounds_toArray, List.set_cons_zero, List.set_cons_succ])) | (refine HB1.out.step (by first | rfl | kernel_rfl) rfl rfl ?_; (try simp only [List.getElem_toArray, List.getElem_cons_succ, List.getElem_cons_zero, Act.put, List.setIfInBounds_toArray, List.set_cons_zero, List.set_cons_succ])) | (refine HB2.out.step (by first | rfl | kernel_rfl) rfl rfl ?_; (try simp only [List.getElem_toArray, List.getElem_cons_succ, List.getElem_cons_zero, Act.put, List.setIfInBounds_toArray, List.set_cons_zero, List.set_cons_succ]))) | (go_at_call 47; refine (HC.out _ (HX.out.trans (by repeat (first | exact Ext.refl _ | refine Ext.drew ?_ | refine Ext.drewN ?_ _ | refine Ext.alloc ?_ _)))).mono ?_; rintro e w1 ⟨k0, k1, k2, k3, k4, rfl, hown, hb⟩; have hup := Nat.le_of_lt lw0; have hx : Ext w0 w1 := Ext.trans (by repeat (first | exact Ext.refl _ | refine Ext.drew ?_ | refine Ext.drewN ?_ _ | refine Ext.alloc ?_ _)) hb; (replace HX := Lib.hid (HX.out.trans hx)); (replace HB0 := Lib.hid (HB0.out.ext hx)); (replace HB1 := Lib.hid (HB1.out.ext hx)); (replace HB2 := Lib.hid (HB2.out.ext hx)); (replace HB3 := Lib.hid (HB3.out.ext hx)); (have lw0 : w.heap.size < w1.heap.size := HB0.out.lt); (have lw1 : w.heap.size + 1 < w1.heap.size := HB1.out.lt); (have lw2 : w.heap.size + 2 < w1.heap.size := HB2.out.lt); (have lw3 : w.heap.size + 3 < w1.heap.size := HB3.out.lt); (replace c2_0 := HB2.out.c0); have HO := Lib.hid (hown.up hup); clear hx hb hown) | (with_reducible refine at_list ?_; refine st_old HB3.out HO.out.at rfl rfl rfl rfl ?_; intro w2 hbox hg; have HR := Lib.hid hbox; replace HO := Lib.hid (HO.out.kept HB3.out hg); replace HX := Lib.hid (ext_grown HX.out hg (fun k hk => by injection hk with hk; omega)); clear hbox hg))
  (try simp only [Exit.inBlock, Exit.then])
  refine BoxI.ret rfl HR.out rfl rfl ?_
  have hA := HO.out
  exact ⟨_, _, _, _, _, rfl, hA, HX.out⟩

set_option maxHeartbeats 8000000 in
theorem step_ok (w : World) (n : Int) (hn : 0 ≤ n ∧ n ≤ 9) (k sd p o : Int) (y : Bool) (ty : Int) (e1 : (k == 1) = false) (e12 : (k == 12) = false) (e16 : (k == 16) = false) (I J : In) (h0 h1 h2 h3 h4 : Value) (hA : InAt w I h0 h1 h2 h3 h4) (hI : I.Ok) (hbat : I.bat = [.int .u8 1, .int .u8 1, .int .u8 0]) (f4 : Bool) (e4 : (k == 4) = f4) (hJ4 : ({ J with fr := f4 } : In).Ok)
    (he : ∀ W, Calls Try.prog 16 #[.agg (evC k sd p o y ty)] W fun e w' => e = .returned (.int .i64 0) ∧ Ext W w')
    (hp : ∀ W, Ext w W → Calls Try.prog 19 #[.agg (rvC n), .agg (inC I h0 h1 h2 h3 h4), .agg (evC k sd p o y ty)] W fun e w' => ∃ k0 k1 k2 k3 k4, e = .returned (.tuple #[.agg (inC J k0 k1 k2 k3 k4), .int .i64 0]) ∧ InOwn W.heap.size w' J k0 k1 k2 k3 k4 ∧ Ext W w') :
    Calls Try.prog 7 #[.agg (rvC n), .agg (inC I h0 h1 h2 h3 h4), .agg (evC k sd p o y ty)] w fun e w' => ∃ k0 k1 k2 k3 k4, e = .returned (.tuple #[.agg (inC { J with fr := f4 } k0 k1 k2 k3 k4), .int .i64 0]) ∧ InOwn w.heap.size w' { J with fr := f4 } k0 k1 k2 k3 k4 ∧ Ext w w' := by
  have L := Lib.hid hA
  have HI := Lib.hid hI
  have HN := Lib.hid hn
  have HB := Lib.hid hbat
  have HE := Lib.hid he
  have HPF := Lib.hid hp
  have HJ := Lib.hid hJ4
  clear hA hI hn hbat he hp hJ4
  go_enter Try.func7, Try.ntmps7
  go_upto_region 1 with fail
  obtain ⟨w0, hw0⟩ : ∃ W, W = ((((w.alloc (.cells (rvC n) 25)).alloc (.cells (inC I h0 h1 h2 h3 h4) 34)).alloc (.cells (evC k sd p o y ty) 55)).alloc (.cells #[.int .i64 0, .int .i64 0, .int .i64 0, .int .i64 0, .int .i64 0, .int .i64 0, .int .i64 0, .int .i64 0, .int .i64 0, .int .i64 0, .int .i64 0, .int .i64 0, .int .i64 0, .int .i64 0, .slice none 0 0, .int .i64 0, .slice none 0 0, .slice none 0 0, .bool false, .slice none 0 0, .bool false, .int .i64 0, .int .i64 0, .int .i64 0, .slice none 0 0, .int .i64 0, .int .i64 0, .int .u8 0] 34)) := ⟨_, rfl⟩
  have HX := Lib.hid (show Ext w w0 by rw [hw0]; exact (by repeat (first | exact Ext.refl _ | refine Ext.drew ?_ | refine Ext.drewN ?_ _ | refine Ext.alloc ?_ _)))
  have HB0 := Lib.hid (show BoxR w0 (w.heap.size) n by rw [hw0]; exact (BoxR.ext (show BoxR _ (w.heap.size) n from (by have := boxR_new w n; simpa using this)) (by repeat (first | exact Ext.refl _ | refine Ext.drew ?_ | refine Ext.drewN ?_ _ | refine Ext.alloc ?_ _))))
  have HB1 := Lib.hid (show BoxI w0 (w.heap.size + 1) I h0 h1 h2 h3 h4 by rw [hw0]; exact (BoxI.ext (show BoxI _ (w.heap.size + 1) I h0 h1 h2 h3 h4 from (by have := boxI_new (w.alloc (.cells (rvC n) 25)) I h0 h1 h2 h3 h4; simpa using this)) (by repeat (first | exact Ext.refl _ | refine Ext.drew ?_ | refine Ext.drewN ?_ _ | refine Ext.alloc ?_ _))))
  have HB2 := Lib.hid (show BoxE w0 (w.heap.size + 2) k sd p o y ty by rw [hw0]; exact (BoxE.ext (show BoxE _ (w.heap.size + 2) k sd p o y ty from (by have := boxE_new ((w.alloc (.cells (rvC n) 25)).alloc (.cells (inC I h0 h1 h2 h3 h4) 34)) k sd p o y ty; simpa using this)) (by repeat (first | exact Ext.refl _ | refine Ext.drew ?_ | refine Ext.drewN ?_ _ | refine Ext.alloc ?_ _))))
  have HB3 := Lib.hid (show BoxZ w0 (w.heap.size + 3)  by rw [hw0]; exact (BoxZ.ext (show BoxZ _ (w.heap.size + 3)  from (by have := boxZ_new (((w.alloc (.cells (rvC n) 25)).alloc (.cells (inC I h0 h1 h2 h3 h4) 34)).alloc (.cells (evC k sd p o y ty) 55)) ; simpa using this)) (by repeat (first | exact Ext.refl _ | refine Ext.drew ?_ | refine Ext.drewN ?_ _ | refine Ext.alloc ?_ _))))
  have lw0 : w.heap.size < w0.heap.size := HB0.out.lt
  have lw1 : w.heap.size + 1 < w0.heap.size := HB1.out.lt
  have lw2 : w.heap.size + 2 < w0.heap.size := HB2.out.lt
  have lw3 : w.heap.size + 3 < w0.heap.size := HB3.out.lt
  have c1_27 := HB1.out.c27
  have c2_0 := HB2.out.c0
  rw [← hw0]
  clear hw0
  go_upto_region 7 with (first | (with_reducible refine at_list ?_; first | go_skip | refine HB0.out.step (by first | rfl | kernel_rfl) rfl rfl ?_ | refine HB1.out.step (by first | rfl | kernel_rfl) rfl rfl ?_ | refine HB2.out.step (by first | rfl | kernel_rfl) rfl rfl ?_) | ((fail_if_success (have hzz := hk1)); go_at_call 15; refine (valid_any _ n HN.out I h0 h1 h2 h3 h4 (L.out.ext (by repeat (first | exact HX.out | refine Ext.drew ?_ | refine Ext.drewN ?_ _ | refine Ext.alloc ?_ _))) HI.out).mono ?_; rintro e w1 ⟨rfl, hb⟩; (have hx : Ext w0 w1 := Ext.trans (by repeat (first | exact Ext.refl _ | refine Ext.drew ?_ | refine Ext.drewN ?_ _ | refine Ext.alloc ?_ _)) hb); (replace HX := Lib.hid (HX.out.trans hx)); (replace HB0 := Lib.hid (HB0.out.ext hx)); (replace HB1 := Lib.hid (HB1.out.ext hx)); (replace HB2 := Lib.hid (HB2.out.ext hx)); (replace HB3 := Lib.hid (HB3.out.ext hx)); (have lw0 : w.heap.size < w1.heap.size := HB0.out.lt); (have lw1 : w.heap.size + 1 < w1.heap.size := HB1.out.lt); (have lw2 : w.heap.size + 2 < w1.heap.size := HB2.out.lt); (have lw3 : w.heap.size + 3 < w1.heap.size := HB3.out.lt); (replace c1_27 := HB1.out.c27); (replace c2_0 := HB2.out.c0); (have hk1 : True := trivial); (clear hx hb)) | ((fail_if_success (have hzz := hk2)); go_at_call 16; refine (HE.out _).mono ?_; rintro e w2 ⟨rfl, hb⟩; (have hx : Ext w1 w2 := Ext.trans (by repeat (first | exact Ext.refl _ | refine Ext.drew ?_ | refine Ext.drewN ?_ _ | refine Ext.alloc ?_ _)) hb); (replace HX := Lib.hid (HX.out.trans hx)); (replace HB0 := Lib.hid (HB0.out.ext hx)); (replace HB1 := Lib.hid (HB1.out.ext hx)); (replace HB2 := Lib.hid (HB2.out.ext hx)); (replace HB3 := Lib.hid (HB3.out.ext hx)); (have lw0 : w.heap.size < w2.heap.size := HB0.out.lt); (have lw1 : w.heap.size + 1 < w2.heap.size := HB1.out.lt); (have lw2 : w.heap.size + 2 < w2.heap.size := HB2.out.lt); (have lw3 : w.heap.size + 3 < w2.heap.size := HB3.out.lt); (replace c1_27 := HB1.out.c27); (replace c2_0 := HB2.out.c0); (have hk2 : True := trivial); (clear hx hb)) | ((fail_if_success (have hzz := hk3)); go_at_call 18; refine (ibegun_yes _ I h0 h1 h2 h3 h4 (L.out.ext (by repeat (first | exact HX.out | refine Ext.drew ?_ | refine Ext.drewN ?_ _ | refine Ext.alloc ?_ _))) HB.out).mono ?_; rintro e w3 ⟨rfl, hb⟩; (have hx : Ext w2 w3 := Ext.trans (by repeat (first | exact Ext.refl _ | refine Ext.drew ?_ | refine Ext.drewN ?_ _ | refine Ext.alloc ?_ _)) hb); (replace HX := Lib.hid (HX.out.trans hx)); (replace HB0 := Lib.hid (HB0.out.ext hx)); (replace HB1 := Lib.hid (HB1.out.ext hx)); (replace HB2 := Lib.hid (HB2.out.ext hx)); (replace HB3 := Lib.hid (HB3.out.ext hx)); (have lw0 : w.heap.size < w3.heap.size := HB0.out.lt); (have lw1 : w.heap.size + 1 < w3.heap.size := HB1.out.lt); (have lw2 : w.heap.size + 2 < w3.heap.size := HB2.out.lt); (have lw3 : w.heap.size + 3 < w3.heap.size := HB3.out.lt); (replace c1_27 := HB1.out.c27); (replace c2_0 := HB2.out.c0); (have hk3 : True := trivial); (clear hx hb)))
  go_upto_region 10 with (first | (with_reducible refine at_list ?_; first | go_skip | refine HB0.out.step (by first | rfl | kernel_rfl) rfl rfl ?_ | refine HB1.out.step (by first | rfl | kernel_rfl) rfl rfl ?_ | refine HB2.out.step (by first | rfl | kernel_rfl) rfl rfl ?_) | (go_at_call 19; refine (HPF.out _ (HX.out.trans (by repeat (first | exact Ext.refl _ | refine Ext.drew ?_ | refine Ext.drewN ?_ _ | refine Ext.alloc ?_ _)))).mono ?_; rintro e w4 ⟨k0, k1, k2, k3, k4, rfl, hown, hb⟩; have hup := Nat.le_of_lt lw0; have hx : Ext w3 w4 := Ext.trans (by repeat (first | exact Ext.refl _ | refine Ext.drew ?_ | refine Ext.drewN ?_ _ | refine Ext.alloc ?_ _)) hb; (replace HX := Lib.hid (HX.out.trans hx)); (replace HB0 := Lib.hid (HB0.out.ext hx)); (replace HB1 := Lib.hid (HB1.out.ext hx)); (replace HB2 := Lib.hid (HB2.out.ext hx)); (replace HB3 := Lib.hid (HB3.out.ext hx)); (have lw0 : w.heap.size < w4.heap.size := HB0.out.lt); (have lw1 : w.heap.size + 1 < w4.heap.size := HB1.out.lt); (have lw2 : w.heap.size + 2 < w4.heap.size := HB2.out.lt); (have lw3 : w.heap.size + 3 < w4.heap.size := HB3.out.lt); (replace c1_27 := HB1.out.c27); (replace c2_0 := HB2.out.c0); have HO := Lib.hid (hown.up hup); clear hx hb hown hup) | (with_reducible refine at_list ?_; refine st_new rfl HO.out.at rfl rfl rfl rfl ?_; intro w5 hbox hx; have lq_0 := lw0; have lq_1 := lw1; have lq_2 := lw2; have lq_3 := lw3; (replace HX := Lib.hid (HX.out.trans hx)); (replace HB0 := Lib.hid (HB0.out.ext hx)); (replace HB1 := Lib.hid (HB1.out.ext hx)); (replace HB2 := Lib.hid (HB2.out.ext hx)); (replace HB3 := Lib.hid (HB3.out.ext hx)); (have lw0 : w.heap.size < w5.heap.size := HB0.out.lt); (have lw1 : w.heap.size + 1 < w5.heap.size := HB1.out.lt); (have lw2 : w.heap.size + 2 < w5.heap.size := HB2.out.lt); (have lw3 : w.heap.size + 3 < w5.heap.size := HB3.out.lt); (replace c1_27 := HB1.out.c27); (replace c2_0 := HB2.out.c0); replace HO := Lib.hid (HO.out.ext hx); have HP := Lib.hid hbox; clear hbox hx))
  obtain ⟨q, hq⟩ : ∃ x, x = w4.heap.size := ⟨_, rfl⟩
  rw [← hq] at HP ⊢
  have np0 : w.heap.size ≠ q := by rw [hq]; exact Nat.ne_of_lt lq_0
  have np1 : w.heap.size + 1 ≠ q := by rw [hq]; exact Nat.ne_of_lt lq_1
  have np2 : w.heap.size + 2 ≠ q := by rw [hq]; exact Nat.ne_of_lt lq_2
  have np3 : w.heap.size + 3 ≠ q := by rw [hq]; exact Nat.ne_of_lt lq_3
  have bp : w.heap.size < q := by rw [hq]; exact lq_0
  clear hq
  clear lq_0
  clear lq_1
  clear lq_2
  clear lq_3
  have cp_18 := HP.out.c18
  have cp_27 := HP.out.c27
  have zp_18 := HP.out.fz 18
  have zp_27 := HP.out.fz 27
  go_upto_region 11 with fail
  have q1 : BoxI (w5.setCell ⟨q, 18, none⟩ (.bool f4)) q { J with fr := f4 } k0 k1 k2 k3 k4 := HP.out.set18 f4
  have g1 := grown_setCell w5 q 18 (.bool f4)
  have o1 := HO.out.kept HP.out.z g1
  have g := g1
  obtain ⟨w6, hw⟩ : ∃ W, W = (w5.setCell ⟨q, 18, none⟩ (.bool f4)) := ⟨_, rfl⟩
  rw [← hw] at q1 o1 g ⊢
  replace HX := Lib.hid (ext_grown HX.out g (fun k hk => by injection hk with hk; omega))
  replace HP := Lib.hid q1
  replace HO := Lib.hid o1
  replace HB0 := Lib.hid (HB0.out.grown g np0)
  replace HB1 := Lib.hid (HB1.out.grown g np1)
  replace HB2 := Lib.hid (HB2.out.grown g np2)
  replace HB3 := Lib.hid (HB3.out.grown g np3)
  have lw0 : w.heap.size < w6.heap.size := HB0.out.lt
  have lw1 : w.heap.size + 1 < w6.heap.size := HB1.out.lt
  have lw2 : w.heap.size + 2 < w6.heap.size := HB2.out.lt
  have lw3 : w.heap.size + 3 < w6.heap.size := HB3.out.lt
  replace c1_27 := HB1.out.c27
  replace c2_0 := HB2.out.c0
  replace cp_18 := HP.out.c18
  replace cp_27 := HP.out.c27
  replace zp_18 := HP.out.fz 18
  replace zp_27 := HP.out.fz 27
  clear hw g g1  q1 o1
  go_upto_region 13 with (first | (with_reducible refine at_list ?_; first | go_skip | refine HB0.out.step (by first | rfl | kernel_rfl) rfl rfl ?_ | refine HB1.out.step (by first | rfl | kernel_rfl) rfl rfl ?_ | refine HB2.out.step (by first | rfl | kernel_rfl) rfl rfl ?_) | (with_reducible refine at_list ?_; refine HP.out.step (by first | rfl | kernel_rfl) rfl rfl ?_) | ((fail_if_success (have hzz := hk7)); go_at_call 20; refine (ending_any _ n HN.out { J with fr := f4 } k0 k1 k2 k3 k4 ⟨HO.out.at.l0.ext (by repeat (first | exact Ext.refl _ | refine Ext.drew ?_ | refine Ext.drewN ?_ _ | refine Ext.alloc ?_ _)), HO.out.at.l1.ext (by repeat (first | exact Ext.refl _ | refine Ext.drew ?_ | refine Ext.drewN ?_ _ | refine Ext.alloc ?_ _)), HO.out.at.l2.ext (by repeat (first | exact Ext.refl _ | refine Ext.drew ?_ | refine Ext.drewN ?_ _ | refine Ext.alloc ?_ _)), HO.out.at.l3.ext (by repeat (first | exact Ext.refl _ | refine Ext.drew ?_ | refine Ext.drewN ?_ _ | refine Ext.alloc ?_ _)), HO.out.at.l4.ext (by repeat (first | exact Ext.refl _ | refine Ext.drew ?_ | refine Ext.drewN ?_ _ | refine Ext.alloc ?_ _)), HO.out.at.n1⟩ HJ.out).mono ?_; rintro e w7 ⟨rfl, hb⟩; (have hx : Ext w6 w7 := Ext.trans (by repeat (first | exact Ext.refl _ | refine Ext.drew ?_ | refine Ext.drewN ?_ _ | refine Ext.alloc ?_ _)) hb); (replace HX := Lib.hid (HX.out.trans hx)); (replace HB0 := Lib.hid (HB0.out.ext hx)); (replace HB1 := Lib.hid (HB1.out.ext hx)); (replace HB2 := Lib.hid (HB2.out.ext hx)); (replace HB3 := Lib.hid (HB3.out.ext hx)); (have lw0 : w.heap.size < w7.heap.size := HB0.out.lt); (have lw1 : w.heap.size + 1 < w7.heap.size := HB1.out.lt); (have lw2 : w.heap.size + 2 < w7.heap.size := HB2.out.lt); (have lw3 : w.heap.size + 3 < w7.heap.size := HB3.out.lt); (replace HP := Lib.hid (HP.out.ext hx)); (replace HO := Lib.hid (HO.out.ext hx)); (replace c1_27 := HB1.out.c27); (replace c2_0 := HB2.out.c0); (replace cp_18 := HP.out.c18); (replace cp_27 := HP.out.c27); (replace zp_18 := HP.out.fz 18); (replace zp_27 := HP.out.fz 27); (have hk7 : True := trivial); (clear hx hb)))
  have q1 : BoxI (w7.setCell ⟨q, 27, none⟩ (.int .u8 0)) q { J with fr := f4 } k0 k1 k2 k3 k4 := HP.out.set27
  have g1 := grown_setCell w7 q 27 (.int .u8 0)
  have o1 := HO.out.kept HP.out.z g1
  have g := g1
  obtain ⟨w8, hw⟩ : ∃ W, W = (w7.setCell ⟨q, 27, none⟩ (.int .u8 0)) := ⟨_, rfl⟩
  rw [← hw] at q1 o1 g ⊢
  replace HX := Lib.hid (ext_grown HX.out g (fun k hk => by injection hk with hk; omega))
  replace HP := Lib.hid q1
  replace HO := Lib.hid o1
  replace HB0 := Lib.hid (HB0.out.grown g np0)
  replace HB1 := Lib.hid (HB1.out.grown g np1)
  replace HB2 := Lib.hid (HB2.out.grown g np2)
  replace HB3 := Lib.hid (HB3.out.grown g np3)
  have lw0 : w.heap.size < w8.heap.size := HB0.out.lt
  have lw1 : w.heap.size + 1 < w8.heap.size := HB1.out.lt
  have lw2 : w.heap.size + 2 < w8.heap.size := HB2.out.lt
  have lw3 : w.heap.size + 3 < w8.heap.size := HB3.out.lt
  replace c1_27 := HB1.out.c27
  replace c2_0 := HB2.out.c0
  replace cp_18 := HP.out.c18
  replace cp_27 := HP.out.c27
  replace zp_18 := HP.out.fz 18
  replace zp_27 := HP.out.fz 27
  clear hw g g1  q1 o1
  go_wp2_with (first | (with_reducible refine at_list ?_; refine HP.out.step (by first | rfl | kernel_rfl) rfl rfl ?_) | (with_reducible refine at_list ?_; refine st_old HB3.out (show InAt w8 { J with fr := f4 } k0 k1 k2 k3 k4 from ⟨HO.out.at.l0, HO.out.at.l1, HO.out.at.l2, HO.out.at.l3, HO.out.at.l4, HO.out.at.n1⟩) rfl rfl rfl rfl ?_; intro w9 hbox hg; have HR := Lib.hid hbox; replace HO := Lib.hid (HO.out.kept HB3.out hg); replace HX := Lib.hid (ext_grown HX.out hg (fun k hk => by injection hk with hk; omega)); clear hbox hg))
  (try simp only [Exit.inBlock, Exit.then])
  refine BoxI.ret rfl HR.out rfl rfl ?_
  have hA := HO.out
  exact ⟨_, _, _, _, _, rfl, ⟨hA.l0, hA.l1, hA.l2, hA.l3, hA.l4, hA.n1, hA.d1, hA.d2⟩, HX.out⟩

set_option maxHeartbeats 8000000 in
theorem step_ref (w : World) (n : Int) (hn : 0 ≤ n ∧ n ≤ 9) (k sd p o : Int) (y : Bool) (ty : Int) (e1 : (k == 1) = false) (e12 : (k == 12) = false) (e16 : (k == 16) = false) (I J : In) (h0 h1 h2 h3 h4 : Value) (hA : InAt w I h0 h1 h2 h3 h4) (hI : I.Ok) (hbat : I.bat = [.int .u8 1, .int .u8 1, .int .u8 0]) (l : Int) (hl : (l != 0) = true)
    (he : ∀ W, Calls Try.prog 16 #[.agg (evC k sd p o y ty)] W fun e w' => e = .returned (.int .i64 0) ∧ Ext W w')
    (hp : ∀ W, Ext w W → Calls Try.prog 19 #[.agg (rvC n), .agg (inC I h0 h1 h2 h3 h4), .agg (evC k sd p o y ty)] W fun e w' => ∃ k0 k1 k2 k3 k4, e = .returned (.tuple #[.agg (inC J k0 k1 k2 k3 k4), .int .i64 l]) ∧ InOwn W.heap.size w' J k0 k1 k2 k3 k4 ∧ Ext W w') :
    Calls Try.prog 7 #[.agg (rvC n), .agg (inC I h0 h1 h2 h3 h4), .agg (evC k sd p o y ty)] w fun e w' => ∃ v, e = .returned (.tuple #[v, .int .i64 l]) ∧ Ext w w' := by
  have L := Lib.hid hA
  have HI := Lib.hid hI
  have HN := Lib.hid hn
  have HB := Lib.hid hbat
  have HE := Lib.hid he
  have HPF := Lib.hid hp
  clear hA hI hn hbat he hp
  go_enter Try.func7, Try.ntmps7
  go_upto_region 1 with fail
  obtain ⟨w0, hw0⟩ : ∃ W, W = ((((w.alloc (.cells (rvC n) 25)).alloc (.cells (inC I h0 h1 h2 h3 h4) 34)).alloc (.cells (evC k sd p o y ty) 55)).alloc (.cells #[.int .i64 0, .int .i64 0, .int .i64 0, .int .i64 0, .int .i64 0, .int .i64 0, .int .i64 0, .int .i64 0, .int .i64 0, .int .i64 0, .int .i64 0, .int .i64 0, .int .i64 0, .int .i64 0, .slice none 0 0, .int .i64 0, .slice none 0 0, .slice none 0 0, .bool false, .slice none 0 0, .bool false, .int .i64 0, .int .i64 0, .int .i64 0, .slice none 0 0, .int .i64 0, .int .i64 0, .int .u8 0] 34)) := ⟨_, rfl⟩
  have HX := Lib.hid (show Ext w w0 by rw [hw0]; exact (by repeat (first | exact Ext.refl _ | refine Ext.drew ?_ | refine Ext.drewN ?_ _ | refine Ext.alloc ?_ _)))
  have HB0 := Lib.hid (show BoxR w0 (w.heap.size) n by rw [hw0]; exact (BoxR.ext (show BoxR _ (w.heap.size) n from (by have := boxR_new w n; simpa using this)) (by repeat (first | exact Ext.refl _ | refine Ext.drew ?_ | refine Ext.drewN ?_ _ | refine Ext.alloc ?_ _))))
  have HB1 := Lib.hid (show BoxI w0 (w.heap.size + 1) I h0 h1 h2 h3 h4 by rw [hw0]; exact (BoxI.ext (show BoxI _ (w.heap.size + 1) I h0 h1 h2 h3 h4 from (by have := boxI_new (w.alloc (.cells (rvC n) 25)) I h0 h1 h2 h3 h4; simpa using this)) (by repeat (first | exact Ext.refl _ | refine Ext.drew ?_ | refine Ext.drewN ?_ _ | refine Ext.alloc ?_ _))))
  have HB2 := Lib.hid (show BoxE w0 (w.heap.size + 2) k sd p o y ty by rw [hw0]; exact (BoxE.ext (show BoxE _ (w.heap.size + 2) k sd p o y ty from (by have := boxE_new ((w.alloc (.cells (rvC n) 25)).alloc (.cells (inC I h0 h1 h2 h3 h4) 34)) k sd p o y ty; simpa using this)) (by repeat (first | exact Ext.refl _ | refine Ext.drew ?_ | refine Ext.drewN ?_ _ | refine Ext.alloc ?_ _))))
  have HB3 := Lib.hid (show BoxZ w0 (w.heap.size + 3)  by rw [hw0]; exact (BoxZ.ext (show BoxZ _ (w.heap.size + 3)  from (by have := boxZ_new (((w.alloc (.cells (rvC n) 25)).alloc (.cells (inC I h0 h1 h2 h3 h4) 34)).alloc (.cells (evC k sd p o y ty) 55)) ; simpa using this)) (by repeat (first | exact Ext.refl _ | refine Ext.drew ?_ | refine Ext.drewN ?_ _ | refine Ext.alloc ?_ _))))
  have lw0 : w.heap.size < w0.heap.size := HB0.out.lt
  have lw1 : w.heap.size + 1 < w0.heap.size := HB1.out.lt
  have lw2 : w.heap.size + 2 < w0.heap.size := HB2.out.lt
  have lw3 : w.heap.size + 3 < w0.heap.size := HB3.out.lt
  have c1_27 := HB1.out.c27
  have c2_0 := HB2.out.c0
  rw [← hw0]
  clear hw0
  go_upto_region 7 with (first | (with_reducible refine at_list ?_; first | go_skip | refine HB0.out.step (by first | rfl | kernel_rfl) rfl rfl ?_ | refine HB1.out.step (by first | rfl | kernel_rfl) rfl rfl ?_ | refine HB2.out.step (by first | rfl | kernel_rfl) rfl rfl ?_) | ((fail_if_success (have hzz := hk1)); go_at_call 15; refine (valid_any _ n HN.out I h0 h1 h2 h3 h4 (L.out.ext (by repeat (first | exact HX.out | refine Ext.drew ?_ | refine Ext.drewN ?_ _ | refine Ext.alloc ?_ _))) HI.out).mono ?_; rintro e w1 ⟨rfl, hb⟩; (have hx : Ext w0 w1 := Ext.trans (by repeat (first | exact Ext.refl _ | refine Ext.drew ?_ | refine Ext.drewN ?_ _ | refine Ext.alloc ?_ _)) hb); (replace HX := Lib.hid (HX.out.trans hx)); (replace HB0 := Lib.hid (HB0.out.ext hx)); (replace HB1 := Lib.hid (HB1.out.ext hx)); (replace HB2 := Lib.hid (HB2.out.ext hx)); (replace HB3 := Lib.hid (HB3.out.ext hx)); (have lw0 : w.heap.size < w1.heap.size := HB0.out.lt); (have lw1 : w.heap.size + 1 < w1.heap.size := HB1.out.lt); (have lw2 : w.heap.size + 2 < w1.heap.size := HB2.out.lt); (have lw3 : w.heap.size + 3 < w1.heap.size := HB3.out.lt); (replace c1_27 := HB1.out.c27); (replace c2_0 := HB2.out.c0); (have hk1 : True := trivial); (clear hx hb)) | ((fail_if_success (have hzz := hk2)); go_at_call 16; refine (HE.out _).mono ?_; rintro e w2 ⟨rfl, hb⟩; (have hx : Ext w1 w2 := Ext.trans (by repeat (first | exact Ext.refl _ | refine Ext.drew ?_ | refine Ext.drewN ?_ _ | refine Ext.alloc ?_ _)) hb); (replace HX := Lib.hid (HX.out.trans hx)); (replace HB0 := Lib.hid (HB0.out.ext hx)); (replace HB1 := Lib.hid (HB1.out.ext hx)); (replace HB2 := Lib.hid (HB2.out.ext hx)); (replace HB3 := Lib.hid (HB3.out.ext hx)); (have lw0 : w.heap.size < w2.heap.size := HB0.out.lt); (have lw1 : w.heap.size + 1 < w2.heap.size := HB1.out.lt); (have lw2 : w.heap.size + 2 < w2.heap.size := HB2.out.lt); (have lw3 : w.heap.size + 3 < w2.heap.size := HB3.out.lt); (replace c1_27 := HB1.out.c27); (replace c2_0 := HB2.out.c0); (have hk2 : True := trivial); (clear hx hb)) | ((fail_if_success (have hzz := hk3)); go_at_call 18; refine (ibegun_yes _ I h0 h1 h2 h3 h4 (L.out.ext (by repeat (first | exact HX.out | refine Ext.drew ?_ | refine Ext.drewN ?_ _ | refine Ext.alloc ?_ _))) HB.out).mono ?_; rintro e w3 ⟨rfl, hb⟩; (have hx : Ext w2 w3 := Ext.trans (by repeat (first | exact Ext.refl _ | refine Ext.drew ?_ | refine Ext.drewN ?_ _ | refine Ext.alloc ?_ _)) hb); (replace HX := Lib.hid (HX.out.trans hx)); (replace HB0 := Lib.hid (HB0.out.ext hx)); (replace HB1 := Lib.hid (HB1.out.ext hx)); (replace HB2 := Lib.hid (HB2.out.ext hx)); (replace HB3 := Lib.hid (HB3.out.ext hx)); (have lw0 : w.heap.size < w3.heap.size := HB0.out.lt); (have lw1 : w.heap.size + 1 < w3.heap.size := HB1.out.lt); (have lw2 : w.heap.size + 2 < w3.heap.size := HB2.out.lt); (have lw3 : w.heap.size + 3 < w3.heap.size := HB3.out.lt); (replace c1_27 := HB1.out.c27); (replace c2_0 := HB2.out.c0); (have hk3 : True := trivial); (clear hx hb)))
  go_upto_region 9 with (first | (with_reducible refine at_list ?_; first | go_skip | refine HB0.out.step (by first | rfl | kernel_rfl) rfl rfl ?_ | refine HB1.out.step (by first | rfl | kernel_rfl) rfl rfl ?_ | refine HB2.out.step (by first | rfl | kernel_rfl) rfl rfl ?_) | (go_at_call 19; refine (HPF.out _ (HX.out.trans (by repeat (first | exact Ext.refl _ | refine Ext.drew ?_ | refine Ext.drewN ?_ _ | refine Ext.alloc ?_ _)))).mono ?_; rintro e w4 ⟨k0, k1, k2, k3, k4, rfl, hown, hb⟩; have hup := Nat.le_of_lt lw0; have hx : Ext w3 w4 := Ext.trans (by repeat (first | exact Ext.refl _ | refine Ext.drew ?_ | refine Ext.drewN ?_ _ | refine Ext.alloc ?_ _)) hb; (replace HX := Lib.hid (HX.out.trans hx)); (replace HB0 := Lib.hid (HB0.out.ext hx)); (replace HB1 := Lib.hid (HB1.out.ext hx)); (replace HB2 := Lib.hid (HB2.out.ext hx)); (replace HB3 := Lib.hid (HB3.out.ext hx)); (have lw0 : w.heap.size < w4.heap.size := HB0.out.lt); (have lw1 : w.heap.size + 1 < w4.heap.size := HB1.out.lt); (have lw2 : w.heap.size + 2 < w4.heap.size := HB2.out.lt); (have lw3 : w.heap.size + 3 < w4.heap.size := HB3.out.lt); (replace c1_27 := HB1.out.c27); (replace c2_0 := HB2.out.c0); have HO := Lib.hid (hown.up hup); clear hx hb hown hup) | (with_reducible refine at_list ?_; refine st_new rfl HO.out.at rfl rfl rfl rfl ?_; intro w5 hbox hx; have lq_0 := lw0; have lq_1 := lw1; have lq_2 := lw2; have lq_3 := lw3; (replace HX := Lib.hid (HX.out.trans hx)); (replace HB0 := Lib.hid (HB0.out.ext hx)); (replace HB1 := Lib.hid (HB1.out.ext hx)); (replace HB2 := Lib.hid (HB2.out.ext hx)); (replace HB3 := Lib.hid (HB3.out.ext hx)); (have lw0 : w.heap.size < w5.heap.size := HB0.out.lt); (have lw1 : w.heap.size + 1 < w5.heap.size := HB1.out.lt); (have lw2 : w.heap.size + 2 < w5.heap.size := HB2.out.lt); (have lw3 : w.heap.size + 3 < w5.heap.size := HB3.out.lt); (replace c1_27 := HB1.out.c27); (replace c2_0 := HB2.out.c0); replace HO := Lib.hid (HO.out.ext hx); have HP := Lib.hid hbox; clear hbox hx))
  clear lq_0 lq_1 lq_2 lq_3
  go_wp2_with (first | (with_reducible refine at_list ?_; first | go_skip | refine HB0.out.step (by first | rfl | kernel_rfl) rfl rfl ?_ | refine HB1.out.step (by first | rfl | kernel_rfl) rfl rfl ?_ | refine HB2.out.step (by first | rfl | kernel_rfl) rfl rfl ?_) | (go_at_call 17; refine (iclone _ I h0 h1 h2 h3 h4 HI.out.good (L.out.ext (by repeat (first | exact HX.out | refine Ext.drew ?_ | refine Ext.drewN ?_ _ | refine Ext.alloc ?_ _)))).mono ?_; rintro e w6 ⟨j0, j1, j2, j3, j4, rfl, hown, hb⟩; have hx : Ext w5 w6 := Ext.trans (by repeat (first | exact Ext.refl _ | refine Ext.drew ?_ | refine Ext.drewN ?_ _ | refine Ext.alloc ?_ _)) hb; replace HX := Lib.hid (HX.out.trans hx); replace HB3 := Lib.hid (HB3.out.ext hx); have HJO := Lib.hid hown; clear hx hb hown) | (with_reducible refine at_list ?_; refine st_old HB3.out HJO.out.at rfl rfl rfl rfl ?_; intro w7 hbox hg; have HR := Lib.hid hbox; replace HX := Lib.hid (ext_grown HX.out hg (fun k hk => by injection hk with hk; omega)); clear hbox hg))
  (try simp only [Exit.inBlock, Exit.then])
  refine BoxI.ret rfl HR.out rfl rfl ?_
  exact ⟨_, rfl, HX.out⟩

set_option maxHeartbeats 8000000 in
theorem step_open (w : World) (n : Int) (hn : 0 ≤ n ∧ n ≤ 9) (sd p o : Int) (y : Bool) (ty : Int) (I J : In) (h0 h1 h2 h3 h4 : Value) (hA : InAt w I h0 h1 h2 h3 h4) (hI : I.Ok) (hbat : I.bat = [.int .u8 0, .int .u8 0, .int .u8 0]) (f4 : Bool) (e4 : (2 == 4) = f4) (hJ4 : ({ J with fr := f4 } : In).Ok)
    (he : ∀ W, Calls Try.prog 16 #[.agg (evC 2 sd p o y ty)] W fun e w' => e = .returned (.int .i64 0) ∧ Ext W w')
    (hp : ∀ W, Ext w W → Calls Try.prog 19 #[.agg (rvC n), .agg (inC I h0 h1 h2 h3 h4), .agg (evC 2 sd p o y ty)] W fun e w' => ∃ k0 k1 k2 k3 k4, e = .returned (.tuple #[.agg (inC J k0 k1 k2 k3 k4), .int .i64 0]) ∧ InOwn W.heap.size w' J k0 k1 k2 k3 k4 ∧ Ext W w') :
    Calls Try.prog 7 #[.agg (rvC n), .agg (inC I h0 h1 h2 h3 h4), .agg (evC 2 sd p o y ty)] w fun e w' => ∃ k0 k1 k2 k3 k4, e = .returned (.tuple #[.agg (inC { J with fr := f4 } k0 k1 k2 k3 k4), .int .i64 0]) ∧ InOwn w.heap.size w' { J with fr := f4 } k0 k1 k2 k3 k4 ∧ Ext w w' := by
  have L := Lib.hid hA
  have HI := Lib.hid hI
  have HN := Lib.hid hn
  have HB := Lib.hid hbat
  have HE := Lib.hid he
  have HPF := Lib.hid hp
  have HJ := Lib.hid hJ4
  clear hA hI hn hbat he hp hJ4
  have hf4 : f4 = false := by rw [← e4]; rfl
  subst hf4
  clear e4
  go_enter Try.func7, Try.ntmps7
  go_upto_region 1 with fail
  obtain ⟨w0, hw0⟩ : ∃ W, W = ((((w.alloc (.cells (rvC n) 25)).alloc (.cells (inC I h0 h1 h2 h3 h4) 34)).alloc (.cells (evC 2 sd p o y ty) 55)).alloc (.cells #[.int .i64 0, .int .i64 0, .int .i64 0, .int .i64 0, .int .i64 0, .int .i64 0, .int .i64 0, .int .i64 0, .int .i64 0, .int .i64 0, .int .i64 0, .int .i64 0, .int .i64 0, .int .i64 0, .slice none 0 0, .int .i64 0, .slice none 0 0, .slice none 0 0, .bool false, .slice none 0 0, .bool false, .int .i64 0, .int .i64 0, .int .i64 0, .slice none 0 0, .int .i64 0, .int .i64 0, .int .u8 0] 34)) := ⟨_, rfl⟩
  have HX := Lib.hid (show Ext w w0 by rw [hw0]; exact (by repeat (first | exact Ext.refl _ | refine Ext.drew ?_ | refine Ext.drewN ?_ _ | refine Ext.alloc ?_ _)))
  have HB0 := Lib.hid (show BoxR w0 (w.heap.size) n by rw [hw0]; exact (BoxR.ext (show BoxR _ (w.heap.size) n from (by have := boxR_new w n; simpa using this)) (by repeat (first | exact Ext.refl _ | refine Ext.drew ?_ | refine Ext.drewN ?_ _ | refine Ext.alloc ?_ _))))
  have HB1 := Lib.hid (show BoxI w0 (w.heap.size + 1) I h0 h1 h2 h3 h4 by rw [hw0]; exact (BoxI.ext (show BoxI _ (w.heap.size + 1) I h0 h1 h2 h3 h4 from (by have := boxI_new (w.alloc (.cells (rvC n) 25)) I h0 h1 h2 h3 h4; simpa using this)) (by repeat (first | exact Ext.refl _ | refine Ext.drew ?_ | refine Ext.drewN ?_ _ | refine Ext.alloc ?_ _))))
  have HB2 := Lib.hid (show BoxE w0 (w.heap.size + 2) 2 sd p o y ty by rw [hw0]; exact (BoxE.ext (show BoxE _ (w.heap.size + 2) 2 sd p o y ty from (by have := boxE_new ((w.alloc (.cells (rvC n) 25)).alloc (.cells (inC I h0 h1 h2 h3 h4) 34)) 2 sd p o y ty; simpa using this)) (by repeat (first | exact Ext.refl _ | refine Ext.drew ?_ | refine Ext.drewN ?_ _ | refine Ext.alloc ?_ _))))
  have HB3 := Lib.hid (show BoxZ w0 (w.heap.size + 3)  by rw [hw0]; exact (BoxZ.ext (show BoxZ _ (w.heap.size + 3)  from (by have := boxZ_new (((w.alloc (.cells (rvC n) 25)).alloc (.cells (inC I h0 h1 h2 h3 h4) 34)).alloc (.cells (evC 2 sd p o y ty) 55)) ; simpa using this)) (by repeat (first | exact Ext.refl _ | refine Ext.drew ?_ | refine Ext.drewN ?_ _ | refine Ext.alloc ?_ _))))
  have lw0 : w.heap.size < w0.heap.size := HB0.out.lt
  have lw1 : w.heap.size + 1 < w0.heap.size := HB1.out.lt
  have lw2 : w.heap.size + 2 < w0.heap.size := HB2.out.lt
  have lw3 : w.heap.size + 3 < w0.heap.size := HB3.out.lt
  have c1_27 := HB1.out.c27
  have c2_0 := HB2.out.c0
  rw [← hw0]
  clear hw0
  go_upto_region 7 with (first | (with_reducible refine at_list ?_; first | go_skip | refine HB0.out.step (by first | rfl | kernel_rfl) rfl rfl ?_ | refine HB1.out.step (by first | rfl | kernel_rfl) rfl rfl ?_ | refine HB2.out.step (by first | rfl | kernel_rfl) rfl rfl ?_) | ((fail_if_success (have hzz := hk1)); go_at_call 15; refine (valid_any _ n HN.out I h0 h1 h2 h3 h4 (L.out.ext (by repeat (first | exact HX.out | refine Ext.drew ?_ | refine Ext.drewN ?_ _ | refine Ext.alloc ?_ _))) HI.out).mono ?_; rintro e w1 ⟨rfl, hb⟩; (have hx : Ext w0 w1 := Ext.trans (by repeat (first | exact Ext.refl _ | refine Ext.drew ?_ | refine Ext.drewN ?_ _ | refine Ext.alloc ?_ _)) hb); (replace HX := Lib.hid (HX.out.trans hx)); (replace HB0 := Lib.hid (HB0.out.ext hx)); (replace HB1 := Lib.hid (HB1.out.ext hx)); (replace HB2 := Lib.hid (HB2.out.ext hx)); (replace HB3 := Lib.hid (HB3.out.ext hx)); (have lw0 : w.heap.size < w1.heap.size := HB0.out.lt); (have lw1 : w.heap.size + 1 < w1.heap.size := HB1.out.lt); (have lw2 : w.heap.size + 2 < w1.heap.size := HB2.out.lt); (have lw3 : w.heap.size + 3 < w1.heap.size := HB3.out.lt); (replace c1_27 := HB1.out.c27); (replace c2_0 := HB2.out.c0); (have hk1 : True := trivial); (clear hx hb)) | ((fail_if_success (have hzz := hk2)); go_at_call 16; refine (HE.out _).mono ?_; rintro e w2 ⟨rfl, hb⟩; (have hx : Ext w1 w2 := Ext.trans (by repeat (first | exact Ext.refl _ | refine Ext.drew ?_ | refine Ext.drewN ?_ _ | refine Ext.alloc ?_ _)) hb); (replace HX := Lib.hid (HX.out.trans hx)); (replace HB0 := Lib.hid (HB0.out.ext hx)); (replace HB1 := Lib.hid (HB1.out.ext hx)); (replace HB2 := Lib.hid (HB2.out.ext hx)); (replace HB3 := Lib.hid (HB3.out.ext hx)); (have lw0 : w.heap.size < w2.heap.size := HB0.out.lt); (have lw1 : w.heap.size + 1 < w2.heap.size := HB1.out.lt); (have lw2 : w.heap.size + 2 < w2.heap.size := HB2.out.lt); (have lw3 : w.heap.size + 3 < w2.heap.size := HB3.out.lt); (replace c1_27 := HB1.out.c27); (replace c2_0 := HB2.out.c0); (have hk2 : True := trivial); (clear hx hb)) | ((fail_if_success (have hzz := hk3)); go_at_call 18; refine (ibegun_no _ I h0 h1 h2 h3 h4 (L.out.ext (by repeat (first | exact HX.out | refine Ext.drew ?_ | refine Ext.drewN ?_ _ | refine Ext.alloc ?_ _))) HB.out).mono ?_; rintro e w3 ⟨rfl, hb⟩; (have hx : Ext w2 w3 := Ext.trans (by repeat (first | exact Ext.refl _ | refine Ext.drew ?_ | refine Ext.drewN ?_ _ | refine Ext.alloc ?_ _)) hb); (replace HX := Lib.hid (HX.out.trans hx)); (replace HB0 := Lib.hid (HB0.out.ext hx)); (replace HB1 := Lib.hid (HB1.out.ext hx)); (replace HB2 := Lib.hid (HB2.out.ext hx)); (replace HB3 := Lib.hid (HB3.out.ext hx)); (have lw0 : w.heap.size < w3.heap.size := HB0.out.lt); (have lw1 : w.heap.size + 1 < w3.heap.size := HB1.out.lt); (have lw2 : w.heap.size + 2 < w3.heap.size := HB2.out.lt); (have lw3 : w.heap.size + 3 < w3.heap.size := HB3.out.lt); (replace c1_27 := HB1.out.c27); (replace c2_0 := HB2.out.c0); (have hk3 : True := trivial); (clear hx hb)))
  go_upto_region 10 with (first | (with_reducible refine at_list ?_; first | go_skip | refine HB0.out.step (by first | rfl | kernel_rfl) rfl rfl ?_ | refine HB1.out.step (by first | rfl | kernel_rfl) rfl rfl ?_ | refine HB2.out.step (by first | rfl | kernel_rfl) rfl rfl ?_) | (go_at_call 19; refine (HPF.out _ (HX.out.trans (by repeat (first | exact Ext.refl _ | refine Ext.drew ?_ | refine Ext.drewN ?_ _ | refine Ext.alloc ?_ _)))).mono ?_; rintro e w4 ⟨k0, k1, k2, k3, k4, rfl, hown, hb⟩; have hup := Nat.le_of_lt lw0; have hx : Ext w3 w4 := Ext.trans (by repeat (first | exact Ext.refl _ | refine Ext.drew ?_ | refine Ext.drewN ?_ _ | refine Ext.alloc ?_ _)) hb; (replace HX := Lib.hid (HX.out.trans hx)); (replace HB0 := Lib.hid (HB0.out.ext hx)); (replace HB1 := Lib.hid (HB1.out.ext hx)); (replace HB2 := Lib.hid (HB2.out.ext hx)); (replace HB3 := Lib.hid (HB3.out.ext hx)); (have lw0 : w.heap.size < w4.heap.size := HB0.out.lt); (have lw1 : w.heap.size + 1 < w4.heap.size := HB1.out.lt); (have lw2 : w.heap.size + 2 < w4.heap.size := HB2.out.lt); (have lw3 : w.heap.size + 3 < w4.heap.size := HB3.out.lt); (replace c1_27 := HB1.out.c27); (replace c2_0 := HB2.out.c0); have HO := Lib.hid (hown.up hup); clear hx hb hown hup) | (with_reducible refine at_list ?_; refine st_new rfl HO.out.at rfl rfl rfl rfl ?_; intro w5 hbox hx; have lq_0 := lw0; have lq_1 := lw1; have lq_2 := lw2; have lq_3 := lw3; (replace HX := Lib.hid (HX.out.trans hx)); (replace HB0 := Lib.hid (HB0.out.ext hx)); (replace HB1 := Lib.hid (HB1.out.ext hx)); (replace HB2 := Lib.hid (HB2.out.ext hx)); (replace HB3 := Lib.hid (HB3.out.ext hx)); (have lw0 : w.heap.size < w5.heap.size := HB0.out.lt); (have lw1 : w.heap.size + 1 < w5.heap.size := HB1.out.lt); (have lw2 : w.heap.size + 2 < w5.heap.size := HB2.out.lt); (have lw3 : w.heap.size + 3 < w5.heap.size := HB3.out.lt); (replace c1_27 := HB1.out.c27); (replace c2_0 := HB2.out.c0); replace HO := Lib.hid (HO.out.ext hx); have HP := Lib.hid hbox; clear hbox hx))
  obtain ⟨q, hq⟩ : ∃ x, x = w4.heap.size := ⟨_, rfl⟩
  rw [← hq] at HP ⊢
  have np0 : w.heap.size ≠ q := by rw [hq]; exact Nat.ne_of_lt lq_0
  have np1 : w.heap.size + 1 ≠ q := by rw [hq]; exact Nat.ne_of_lt lq_1
  have np2 : w.heap.size + 2 ≠ q := by rw [hq]; exact Nat.ne_of_lt lq_2
  have np3 : w.heap.size + 3 ≠ q := by rw [hq]; exact Nat.ne_of_lt lq_3
  have bp : w.heap.size < q := by rw [hq]; exact lq_0
  clear hq
  clear lq_0
  clear lq_1
  clear lq_2
  clear lq_3
  have cp_18 := HP.out.c18
  have cp_27 := HP.out.c27
  have zp_18 := HP.out.fz 18
  have zp_27 := HP.out.fz 27
  go_upto_region 11 with fail
  have q1 : BoxI (w5.setCell ⟨q, 18, none⟩ (.bool false)) q { J with fr := false } k0 k1 k2 k3 k4 := HP.out.set18 false
  have g1 := grown_setCell w5 q 18 (.bool false)
  have o1 := HO.out.kept HP.out.z g1
  have g := g1
  obtain ⟨w6, hw⟩ : ∃ W, W = (w5.setCell ⟨q, 18, none⟩ (.bool false)) := ⟨_, rfl⟩
  rw [← hw] at q1 o1 g ⊢
  replace HX := Lib.hid (ext_grown HX.out g (fun k hk => by injection hk with hk; omega))
  replace HP := Lib.hid q1
  replace HO := Lib.hid o1
  replace HB0 := Lib.hid (HB0.out.grown g np0)
  replace HB1 := Lib.hid (HB1.out.grown g np1)
  replace HB2 := Lib.hid (HB2.out.grown g np2)
  replace HB3 := Lib.hid (HB3.out.grown g np3)
  have lw0 : w.heap.size < w6.heap.size := HB0.out.lt
  have lw1 : w.heap.size + 1 < w6.heap.size := HB1.out.lt
  have lw2 : w.heap.size + 2 < w6.heap.size := HB2.out.lt
  have lw3 : w.heap.size + 3 < w6.heap.size := HB3.out.lt
  replace c1_27 := HB1.out.c27
  replace c2_0 := HB2.out.c0
  replace cp_18 := HP.out.c18
  replace cp_27 := HP.out.c27
  replace zp_18 := HP.out.fz 18
  replace zp_27 := HP.out.fz 27
  clear hw g g1  q1 o1
  go_upto_region 13 with (first | (with_reducible refine at_list ?_; first | go_skip | refine HB0.out.step (by first | rfl | kernel_rfl) rfl rfl ?_ | refine HB1.out.step (by first | rfl | kernel_rfl) rfl rfl ?_ | refine HB2.out.step (by first | rfl | kernel_rfl) rfl rfl ?_) | (with_reducible refine at_list ?_; refine HP.out.step (by first | rfl | kernel_rfl) rfl rfl ?_) | ((fail_if_success (have hzz := hk7)); go_at_call 20; refine (ending_any _ n HN.out { J with fr := false } k0 k1 k2 k3 k4 ⟨HO.out.at.l0.ext (by repeat (first | exact Ext.refl _ | refine Ext.drew ?_ | refine Ext.drewN ?_ _ | refine Ext.alloc ?_ _)), HO.out.at.l1.ext (by repeat (first | exact Ext.refl _ | refine Ext.drew ?_ | refine Ext.drewN ?_ _ | refine Ext.alloc ?_ _)), HO.out.at.l2.ext (by repeat (first | exact Ext.refl _ | refine Ext.drew ?_ | refine Ext.drewN ?_ _ | refine Ext.alloc ?_ _)), HO.out.at.l3.ext (by repeat (first | exact Ext.refl _ | refine Ext.drew ?_ | refine Ext.drewN ?_ _ | refine Ext.alloc ?_ _)), HO.out.at.l4.ext (by repeat (first | exact Ext.refl _ | refine Ext.drew ?_ | refine Ext.drewN ?_ _ | refine Ext.alloc ?_ _)), HO.out.at.n1⟩ HJ.out).mono ?_; rintro e w7 ⟨rfl, hb⟩; (have hx : Ext w6 w7 := Ext.trans (by repeat (first | exact Ext.refl _ | refine Ext.drew ?_ | refine Ext.drewN ?_ _ | refine Ext.alloc ?_ _)) hb); (replace HX := Lib.hid (HX.out.trans hx)); (replace HB0 := Lib.hid (HB0.out.ext hx)); (replace HB1 := Lib.hid (HB1.out.ext hx)); (replace HB2 := Lib.hid (HB2.out.ext hx)); (replace HB3 := Lib.hid (HB3.out.ext hx)); (have lw0 : w.heap.size < w7.heap.size := HB0.out.lt); (have lw1 : w.heap.size + 1 < w7.heap.size := HB1.out.lt); (have lw2 : w.heap.size + 2 < w7.heap.size := HB2.out.lt); (have lw3 : w.heap.size + 3 < w7.heap.size := HB3.out.lt); (replace HP := Lib.hid (HP.out.ext hx)); (replace HO := Lib.hid (HO.out.ext hx)); (replace c1_27 := HB1.out.c27); (replace c2_0 := HB2.out.c0); (replace cp_18 := HP.out.c18); (replace cp_27 := HP.out.c27); (replace zp_18 := HP.out.fz 18); (replace zp_27 := HP.out.fz 27); (have hk7 : True := trivial); (clear hx hb)))
  have q1 : BoxI (w7.setCell ⟨q, 27, none⟩ (.int .u8 0)) q { J with fr := false } k0 k1 k2 k3 k4 := HP.out.set27
  have g1 := grown_setCell w7 q 27 (.int .u8 0)
  have o1 := HO.out.kept HP.out.z g1
  have g := g1
  obtain ⟨w8, hw⟩ : ∃ W, W = (w7.setCell ⟨q, 27, none⟩ (.int .u8 0)) := ⟨_, rfl⟩
  rw [← hw] at q1 o1 g ⊢
  replace HX := Lib.hid (ext_grown HX.out g (fun k hk => by injection hk with hk; omega))
  replace HP := Lib.hid q1
  replace HO := Lib.hid o1
  replace HB0 := Lib.hid (HB0.out.grown g np0)
  replace HB1 := Lib.hid (HB1.out.grown g np1)
  replace HB2 := Lib.hid (HB2.out.grown g np2)
  replace HB3 := Lib.hid (HB3.out.grown g np3)
  have lw0 : w.heap.size < w8.heap.size := HB0.out.lt
  have lw1 : w.heap.size + 1 < w8.heap.size := HB1.out.lt
  have lw2 : w.heap.size + 2 < w8.heap.size := HB2.out.lt
  have lw3 : w.heap.size + 3 < w8.heap.size := HB3.out.lt
  replace c1_27 := HB1.out.c27
  replace c2_0 := HB2.out.c0
  replace cp_18 := HP.out.c18
  replace cp_27 := HP.out.c27
  replace zp_18 := HP.out.fz 18
  replace zp_27 := HP.out.fz 27
  clear hw g g1  q1 o1
  go_wp2_with (first | (with_reducible refine at_list ?_; refine HP.out.step (by first | rfl | kernel_rfl) rfl rfl ?_) | (with_reducible refine at_list ?_; refine st_old HB3.out (show InAt w8 { J with fr := false } k0 k1 k2 k3 k4 from ⟨HO.out.at.l0, HO.out.at.l1, HO.out.at.l2, HO.out.at.l3, HO.out.at.l4, HO.out.at.n1⟩) rfl rfl rfl rfl ?_; intro w9 hbox hg; have HR := Lib.hid hbox; replace HO := Lib.hid (HO.out.kept HB3.out hg); replace HX := Lib.hid (ext_grown HX.out hg (fun k hk => by injection hk with hk; omega)); clear hbox hg))
  (try simp only [Exit.inBlock, Exit.then])
  refine BoxI.ret rfl HR.out rfl rfl ?_
  have hA := HO.out
  exact ⟨_, _, _, _, _, rfl, ⟨hA.l0, hA.l1, hA.l2, hA.l3, hA.l4, hA.n1, hA.d1, hA.d2⟩, HX.out⟩

end Go.Proofs.Ytpeabgfolpgfjaa

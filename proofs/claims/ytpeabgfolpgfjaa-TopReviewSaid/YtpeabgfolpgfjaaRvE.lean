/-
  Rules, keepers and bowlers: what may be done in the law's states.
-/
import Derived.Test.YtpeabgfolpgfjaaRvD
import Derived.Test.YtpeabgfolpgfjaaSymJ
namespace Go.Proofs.Ytpeabgfolpgfjaa
open Go.RowKit Go.Lib
set_option linter.unusedSimpArgs false

def rvR (n : Int) : Ru := ⟨[82], 3, 1, 0, 8, 0, 1, 1, false, 0, 0, n, 3, none, 0, 0⟩
theorem rvchk (n : Int) (h : 0 ≤ n ∧ n ≤ 9) (w : World) : Calls Try.prog 21 #[.agg (rvC n)] w fun e w' => e = .returned (.int .i64 0) ∧ Ext w w' := by
  have := rucheck_any (rvR n) (fun _ _ => 0) 0 0 w (show (1 : Nat) ≤ 9223372036854775807 by decide) ⟨Nat.zero_le _, fun hi => absurd hi (Nat.lt_irrefl 0), fun i _ hi _ => absurd hi (Nat.not_lt_zero i)⟩
  have hv : ckRu (rvR n) (phE (rvR n).pl (fun _ _ => 0) (rvR n).ov) = 0 := by
    have h1 : nmOk (rvR n).nm = true := by show nmOk [82] = true; decide
    have h2 : irB (rvR n) = true := by simp [irB, rvR, rng, h.1]; omega
    unfold ckRu
    rw [h1, h2]
    simp [rvR, phE, phGo]
  rw [hv] at this
  exact this

theorem allowed_rv (n c : Int) (w : World) : Calls Try.prog 92 #[.agg (rvC n), .int .i64 c] w fun e w' => e = .returned (.int .i64 3) ∧ Ext w w' := by
  go_enter Try.func92, Try.ntmps92
  go_upto_region 1 with fail
  obtain ⟨w0, hw0⟩ : ∃ W, W = (w.alloc (.cells (rvC n) 25)) := ⟨_, rfl⟩
  have HX := Lib.hid (show Ext w w0 by rw [hw0]; exact (by repeat (first | exact Ext.refl _ | refine Ext.drew ?_ | refine Ext.drewN ?_ _ | refine Ext.alloc ?_ _)))
  have HB0 := Lib.hid (show BoxR w0 (w.heap.size) n by rw [hw0]; exact (BoxR.ext (show BoxR _ (w.heap.size) n from (by have := boxR_new w n; simpa using this)) (by repeat (first | exact Ext.refl _ | refine Ext.drew ?_ | refine Ext.drewN ?_ _ | refine Ext.alloc ?_ _))))
  have lw0 : w.heap.size < w0.heap.size := HB0.out.lt
  have c0_12 := HB0.out.c12
  have c0_13 := HB0.out.c13
  rw [← hw0]
  clear hw0
  go_wp2
  refine wp_loop_rounds 1 ?_
  rw [rounds_succ]
  go_wp2
  go_ret
  exact ⟨rfl, HX.out.trans (by repeat (first | exact Ext.refl _ | refine Ext.drew ?_ | refine Ext.drewN ?_ _ | refine Ext.alloc ?_ _))⟩

theorem BoxR.yields {S : World → Prop} {b : Nat} {n : Int} {ops : Array Oper} {op : Oper} {a : Act} {x : Operand} (hS : ∀ w, S w → BoxR w b n) (hw : Region.wanted op (yielded ops a.tmps) = true) (ho : op.op = .load 25 x) (hx : a.eval x = .pointer (some ⟨b, 0, none⟩)) : YieldsIf Try.prog ops S op (.agg (rvC n)) a :=
  yieldsIf_load_mid hw 25 x ho b 0 hx [.string ⟨#[82]⟩, .int .i64 3, .int .i64 1, .int .i64 0, .int .i64 8, .int .i64 0, .int .i64 1, .int .i64 1, .bool false, .int .i64 0, .int .i64 0, .int .i64 n, .int .i64 3, .slice none 0 0] _ (fun w h => in_range (hS w h)) Try.underlying25 rfl (by kernel_rfl)
theorem ready_rv (w : World) (n : Int) (I : In) (h0 h1 h2 h3 h4 : Value) (hA : InAt w I h0 h1 h2 h3 h4) (hl : I.sb = [.bool false, .bool false, .bool false]) (hk : I.kp = 3) (hw : I.bw = 1) :
    Calls Try.prog 86 #[.agg (rvC n), .agg (inC I h0 h1 h2 h3 h4)] w fun e w' => e = .returned (.int .i64 0) ∧ Ext w w' := by
  have L := Lib.hid hA
  have HG := Lib.hid hl
  have hb : (I.kp == I.bw) = false := by rw [hk, hw]; rfl
  clear hA hl
  go_enter Try.func86, Try.ntmps86
  go_upto_region 1 with fail
  obtain ⟨w0, hw0⟩ : ∃ W, W = ((w.alloc (.cells (rvC n) 25)).alloc (.cells (inC I h0 h1 h2 h3 h4) 34)) := ⟨_, rfl⟩
  have HX := Lib.hid (show Ext w w0 by rw [hw0]; exact (by repeat (first | exact Ext.refl _ | refine Ext.drew ?_ | refine Ext.drewN ?_ _ | refine Ext.alloc ?_ _)))
  have HB0 := Lib.hid (show BoxR w0 (w.heap.size) n by rw [hw0]; exact (BoxR.ext (show BoxR _ (w.heap.size) n from (by have := boxR_new w n; simpa using this)) (by repeat (first | exact Ext.refl _ | refine Ext.drew ?_ | refine Ext.drewN ?_ _ | refine Ext.alloc ?_ _))))
  have HB1 := Lib.hid (show BoxI w0 (w.heap.size + 1) I h0 h1 h2 h3 h4 by rw [hw0]; exact (BoxI.ext (show BoxI _ (w.heap.size + 1) I h0 h1 h2 h3 h4 from (by have := boxI_new (w.alloc (.cells (rvC n) 25)) I h0 h1 h2 h3 h4; simpa using this)) (by repeat (first | exact Ext.refl _ | refine Ext.drew ?_ | refine Ext.drewN ?_ _ | refine Ext.alloc ?_ _))))
  have lw0 : w.heap.size < w0.heap.size := HB0.out.lt
  have lw1 : w.heap.size + 1 < w0.heap.size := HB1.out.lt
  have c1_22 := HB1.out.c22
  have c1_15 := HB1.out.c15
  have c1_23 := HB1.out.c23
  have c1_10 := HB1.out.c10
  rw [← hw0]
  clear hw0
  go_upto_region 3 with (first | (with_reducible refine at_list ?_; first | go_skip | refine HB0.out.step (by first | rfl | kernel_rfl) rfl rfl ?_) | (with_reducible refine at_list ?_; first | go_skip | refine HB1.out.step (by first | rfl | kernel_rfl) rfl rfl ?_) | ((fail_if_success (have hzz := hk1)); go_at_call 75; refine (fknown_yes _ I h0 h1 h2 h3 h4 (L.out.ext (by repeat (first | exact HX.out | refine Ext.drew ?_ | refine Ext.drewN ?_ _ | refine Ext.alloc ?_ _))) (by rw [HG.out]; rfl) _ (by omega)).mono ?_; rintro e w1 ⟨rfl, hb⟩; (have hx : Ext w0 w1 := Ext.trans (by repeat (first | exact Ext.refl _ | refine Ext.drew ?_ | refine Ext.drewN ?_ _ | refine Ext.alloc ?_ _)) hb); (replace HX := Lib.hid (HX.out.trans hx)); (replace HB0 := Lib.hid (HB0.out.ext hx)); (replace HB1 := Lib.hid (HB1.out.ext hx)); (have lw0 : w.heap.size < w1.heap.size := HB0.out.lt); (have lw1 : w.heap.size + 1 < w1.heap.size := HB1.out.lt); (replace c1_22 := HB1.out.c22); (replace c1_15 := HB1.out.c15); (replace c1_23 := HB1.out.c23); (replace c1_10 := HB1.out.c10); (have hk1 : True := trivial); (clear hx hb)) | ((fail_if_success (have hzz := hk2)); go_at_call 76; refine (replaced_no _ I h0 h1 h2 h3 h4 (L.out.ext (by repeat (first | exact HX.out | refine Ext.drew ?_ | refine Ext.drewN ?_ _ | refine Ext.alloc ?_ _))) HG.out _ (by omega)).mono ?_; rintro e w2 ⟨rfl, hb⟩; (have hx : Ext w1 w2 := Ext.trans (by repeat (first | exact Ext.refl _ | refine Ext.drew ?_ | refine Ext.drewN ?_ _ | refine Ext.alloc ?_ _)) hb); (replace HX := Lib.hid (HX.out.trans hx)); (replace HB0 := Lib.hid (HB0.out.ext hx)); (replace HB1 := Lib.hid (HB1.out.ext hx)); (have lw0 : w.heap.size < w2.heap.size := HB0.out.lt); (have lw1 : w.heap.size + 1 < w2.heap.size := HB1.out.lt); (replace c1_22 := HB1.out.c22); (replace c1_15 := HB1.out.c15); (replace c1_23 := HB1.out.c23); (replace c1_10 := HB1.out.c10); (have hk2 : True := trivial); (clear hx hb)))
  refine wp_region_held_drew (S := (fun w' => BoxR w' w.heap.size n ∧ w'.cell? ⟨w.heap.size + 1, 23, none⟩ = some (.int .i64 0) ∧ w'.cell? ⟨w.heap.size + 1, 10, none⟩ = some (.int .i64 I.c))) (by kernel_rfl) (by exact ⟨HB0.out, c1_23, c1_10⟩) (fun hHeld => ?_)
  refine wpAnyH_take (i := 0) (v := ?v1) rfl (by kernel_rfl) (by kernel_rfl) (by kernel_rfl) (fun _ _ _ h => h) (Or.inl ⟨by rfl, ?y1⟩) (by assumption) ?r1
  case y1 => ((intro w hSw; (try dsimp only at hSw); go_simp; (first | done | with_reducible rfl)))
  (try simp only [List.getElem_toArray, List.getElem_cons_succ, List.getElem_cons_zero, Act.put, List.setIfInBounds_toArray, List.set_cons_zero, List.set_cons_succ])
  refine wpAnyH_take (i := 1) (v := ?v2) rfl (by kernel_rfl) (by kernel_rfl) (by kernel_rfl) (fun _ _ _ h => h) (Or.inl ⟨by rfl, ?y2⟩) (by assumption) ?r2
  case y2 => ((intro w hSw; (try dsimp only at hSw); go_simp; (first | done | with_reducible rfl)))
  (try simp only [List.getElem_toArray, List.getElem_cons_succ, List.getElem_cons_zero, Act.put, List.setIfInBounds_toArray, List.set_cons_zero, List.set_cons_succ])
  refine wpAnyH_take (i := 2) (v := .agg (rvC n)) rfl (by kernel_rfl) (by kernel_rfl) (by kernel_rfl) (fun _ _ _ h => h) (BoxR.yields (fun _ h => h.1) (by rfl) rfl rfl) (by assumption) ?_
  (try simp only [List.getElem_toArray, List.getElem_cons_succ, List.getElem_cons_zero, Act.put, List.setIfInBounds_toArray, List.set_cons_zero, List.set_cons_succ])
  refine wpAnyH_take (i := 3) (v := ?v4) rfl (by kernel_rfl) (by kernel_rfl) (by kernel_rfl) (fun _ _ _ h => h) (Or.inl ⟨by rfl, ?y4⟩) (by assumption) ?r4
  case y4 => ((intro w hSw; (try dsimp only at hSw); go_simp; (first | done | with_reducible rfl)))
  (try simp only [List.getElem_toArray, List.getElem_cons_succ, List.getElem_cons_zero, Act.put, List.setIfInBounds_toArray, List.set_cons_zero, List.set_cons_succ])
  refine wpAnyH_take (i := 4) (v := ?v5) rfl (by kernel_rfl) (by kernel_rfl) (by kernel_rfl) (fun _ _ _ h => h) (Or.inl ⟨by rfl, ?y5⟩) (by assumption) ?r5
  case y5 => ((intro w hSw; (try dsimp only at hSw); go_simp; (first | done | with_reducible rfl)))
  (try simp only [List.getElem_toArray, List.getElem_cons_succ, List.getElem_cons_zero, Act.put, List.setIfInBounds_toArray, List.set_cons_zero, List.set_cons_succ])
  refine wpAnyH_ready (rs := [5]) (by kernel_rfl) (by simp) ?_
  refine AllReadyH.cons rfl (fun K hK => ?_) AllReadyH.nil
  go_simp
  (go_at_call 92; refine (allowed_rv _ _ _).mono ?_; rintro e w3 ⟨rfl, hb⟩; have hx : Ext w2 w3 := Ext.trans (by repeat (first | exact Ext.refl _ | refine Ext.drew ?_ | refine Ext.drewN ?_ _ | refine Ext.alloc ?_ _)) hb)
  refine hK.out _ _ (by exact ⟨HB0.out.ext hx, hx.keep c1_23, hx.keep c1_10⟩) (fun hHeld => ?_)
  clear hK K
  (try simp only [List.getElem_toArray, List.getElem_cons_succ, List.getElem_cons_zero, Act.put, List.setIfInBounds_toArray, List.set_cons_zero, List.set_cons_succ])
  refine wpAnyH_take (i := 6) (v := ?v7) rfl (by kernel_rfl) (by kernel_rfl) (by kernel_rfl) (fun _ _ _ h => h) (Or.inl ⟨by rfl, ?y7⟩) (by assumption) ?r7
  case y7 => ((intro w hSw; (try dsimp only at hSw); go_simp; (first | done | with_reducible rfl)))
  (try simp only [List.getElem_toArray, List.getElem_cons_succ, List.getElem_cons_zero, Act.put, List.setIfInBounds_toArray, List.set_cons_zero, List.set_cons_succ])
  refine wpAnyH_take (i := 7) (v := ?v8) rfl (by kernel_rfl) (by kernel_rfl) (by kernel_rfl) (fun _ _ _ h => h) (Or.inl ⟨by rfl, ?y8⟩) (by assumption) ?r8
  case y8 => ((intro w hSw; (try dsimp only at hSw); go_simp; (first | done | with_reducible rfl)))
  (try simp only [List.getElem_toArray, List.getElem_cons_succ, List.getElem_cons_zero, Act.put, List.setIfInBounds_toArray, List.set_cons_zero, List.set_cons_succ])
  refine wpAnyH_done (by kernel_rfl) ?_ _
  go_wp2
  go_ret
  exact ⟨rfl, (HX.out.trans hx).trans (by repeat (first | exact Ext.refl _ | refine Ext.drew ?_ | refine Ext.drewN ?_ _ | refine Ext.alloc ?_ _))⟩

theorem named_rv (w : World) (I : In) (h0 h1 h2 h3 h4 : Value) : Calls Try.prog 89 #[.agg (inC I h0 h1 h2 h3 h4), .agg dlC] w fun e w' => e = .returned (.int .i64 0) ∧ Ext w w' := by
  go_enter Try.func89, Try.ntmps89
  go_upto_region 1 with fail
  obtain ⟨w0, hw0⟩ : ∃ W, W = ((w.alloc (.cells (inC I h0 h1 h2 h3 h4) 34)).alloc (.cells dlC 53)) := ⟨_, rfl⟩
  have HX := Lib.hid (show Ext w w0 by rw [hw0]; exact (by repeat (first | exact Ext.refl _ | refine Ext.drew ?_ | refine Ext.drewN ?_ _ | refine Ext.alloc ?_ _)))
  have HB0 := Lib.hid (show BoxI w0 (w.heap.size) I h0 h1 h2 h3 h4 by rw [hw0]; exact (BoxI.ext (show BoxI _ (w.heap.size) I h0 h1 h2 h3 h4 from (by have := boxI_new w I h0 h1 h2 h3 h4; simpa using this)) (by repeat (first | exact Ext.refl _ | refine Ext.drew ?_ | refine Ext.drewN ?_ _ | refine Ext.alloc ?_ _))))
  have HB1 := Lib.hid (show BoxL w0 (w.heap.size + 1)  by rw [hw0]; exact (BoxL.ext (show BoxL _ (w.heap.size + 1)  from (by have := boxL_new (w.alloc (.cells (inC I h0 h1 h2 h3 h4) 34)) ; simpa using this)) (by repeat (first | exact Ext.refl _ | refine Ext.drew ?_ | refine Ext.drewN ?_ _ | refine Ext.alloc ?_ _))))
  have lw0 : w.heap.size < w0.heap.size := HB0.out.lt
  have lw1 : w.heap.size + 1 < w0.heap.size := HB1.out.lt
  have c1_8 := HB1.out.c8
  have c1_9 := HB1.out.c9
  have c1_6 := HB1.out.c6
  rw [← hw0]
  clear hw0
  go_wp2
  go_ret
  exact ⟨rfl, HX.out.trans (by repeat (first | exact Ext.refl _ | refine Ext.drew ?_ | refine Ext.drewN ?_ _ | refine Ext.alloc ?_ _))⟩

theorem ixi_nil (w : World) (v : Value) (p : Int) (h : ListAt w v []) : Calls Try.prog 80 #[v, .int .i64 p] w fun e w' => e = .returned (.int .i64 (-1)) ∧ w' = w := by
  obtain ⟨a, d, rfl⟩ := list_sl h
  clear h
  simp only [List.length_nil]
  go_enter Try.func80, Try.ntmps80
  go_wp2
  refine wp_loop_rounds 1 ?_
  rw [rounds_succ]
  go_wp2
  go_ret
  exact ⟨rfl, rfl⟩
theorem ixi_one (w : World) (v : Value) (p : Int) (xs : List Value) (h : ListAt w v (.int .i64 p :: xs)) : Calls Try.prog 80 #[v, .int .i64 p] w fun e w' => e = .returned (.int .i64 0) ∧ w' = w := by
  obtain ⟨g, o, d, rfl, hg, hc⟩ := list_form h (by simp)
  have b0 := hc 0 (.int .i64 p) rfl
  rw [Nat.add_zero] at b0
  clear hc h
  simp only [List.length_cons]
  have hn : (0 : Int) < ((xs.length + 1 : Nat) : Int) := by omega
  go_enter Try.func80, Try.ntmps80
  go_wp2
  refine wp_loop_rounds 1 ?_
  rw [rounds_succ]
  go_wp2
  go_ret
  exact ⟨rfl, rfl⟩
theorem coni_nil (w : World) (v : Value) (p : Int) (h : ListAt w v []) : Calls Try.prog 54 #[v, .int .i64 p] w fun e w' => e = .returned (.bool false) ∧ w' = w := by
  have L := Lib.hid h
  clear h
  go_enter Try.func54, Try.ntmps54
  go_wp2_with (go_at_call 80; refine (ixi_nil _ _ _ L.out).mono ?_; rintro e w' ⟨rfl, rfl⟩)
  go_ret
  exact ⟨rfl, rfl⟩
theorem coni_one (w : World) (v : Value) (p : Int) (xs : List Value) (h : ListAt w v (.int .i64 p :: xs)) : Calls Try.prog 54 #[v, .int .i64 p] w fun e w' => e = .returned (.bool true) ∧ w' = w := by
  have L := Lib.hid h
  clear h
  go_enter Try.func54, Try.ntmps54
  go_wp2_with (go_at_call 80; refine (ixi_one _ _ _ _ L.out).mono ?_; rintro e w' ⟨rfl, rfl⟩)
  go_ret
  exact ⟨rfl, rfl⟩

theorem room_rv (w : World) (n : Int) (hn : 0 ≤ n ∧ n ≤ 9) (I : In) (h0 h1 h2 h3 h4 : Value) (hA : InAt w I h0 h1 h2 h3 h4) (hl : I.bd.length = 3) (p : Int) (hp : 1 ≤ p ∧ p ≤ 3) :
    Calls Try.prog 85 #[.agg (rvC n), .agg (inC I h0 h1 h2 h3 h4), .int .i64 p] w fun e w' => e = .returned (.int .i64 (-1)) ∧ Ext w w' := by
  have L := Lib.hid hA
  have HG := Lib.hid hl
  have HP := Lib.hid hp
  have HN := Lib.hid hn
  clear hA hl hn
  go_enter Try.func85, Try.ntmps85
  go_upto_region 1 with fail
  obtain ⟨w0, hw0⟩ : ∃ W, W = ((w.alloc (.cells (rvC n) 25)).alloc (.cells (inC I h0 h1 h2 h3 h4) 34)) := ⟨_, rfl⟩
  have HX := Lib.hid (show Ext w w0 by rw [hw0]; exact (by repeat (first | exact Ext.refl _ | refine Ext.drew ?_ | refine Ext.drewN ?_ _ | refine Ext.alloc ?_ _)))
  have HB0 := Lib.hid (show BoxR w0 (w.heap.size) n by rw [hw0]; exact (BoxR.ext (show BoxR _ (w.heap.size) n from (by have := boxR_new w n; simpa using this)) (by repeat (first | exact Ext.refl _ | refine Ext.drew ?_ | refine Ext.drewN ?_ _ | refine Ext.alloc ?_ _))))
  have HB1 := Lib.hid (show BoxI w0 (w.heap.size + 1) I h0 h1 h2 h3 h4 by rw [hw0]; exact (BoxI.ext (show BoxI _ (w.heap.size + 1) I h0 h1 h2 h3 h4 from (by have := boxI_new (w.alloc (.cells (rvC n) 25)) I h0 h1 h2 h3 h4; simpa using this)) (by repeat (first | exact Ext.refl _ | refine Ext.drew ?_ | refine Ext.drewN ?_ _ | refine Ext.alloc ?_ _))))
  have lw0 : w.heap.size < w0.heap.size := HB0.out.lt
  have lw1 : w.heap.size + 1 < w0.heap.size := HB1.out.lt
  have c0_5 := HB0.out.c5
  rw [← hw0]
  clear hw0
  go_wp2_with (first | (with_reducible refine at_list ?_; first | go_skip | refine HB0.out.step (by first | rfl | kernel_rfl) rfl rfl ?_) | (with_reducible refine at_list ?_; first | go_skip | refine HB1.out.step (by first | rfl | kernel_rfl) rfl rfl ?_) | ((fail_if_success (have hzz := hk1)); go_at_call 84; refine (sknown_yes _ I h0 h1 h2 h3 h4 (L.out.ext (by repeat (first | exact HX.out | refine Ext.drew ?_ | refine Ext.drewN ?_ _ | refine Ext.alloc ?_ _))) HG.out _ HP.out).mono ?_; rintro e w1 ⟨rfl, hb⟩; (have hx : Ext w0 w1 := Ext.trans (by repeat (first | exact Ext.refl _ | refine Ext.drew ?_ | refine Ext.drewN ?_ _ | refine Ext.alloc ?_ _)) hb); (replace HX := Lib.hid (HX.out.trans hx)); (replace HB0 := Lib.hid (HB0.out.ext hx)); (replace HB1 := Lib.hid (HB1.out.ext hx)); (have lw0 : w.heap.size < w1.heap.size := HB0.out.lt); (have lw1 : w.heap.size + 1 < w1.heap.size := HB1.out.lt); (replace c0_5 := HB0.out.c5); (have hk1 : True := trivial); (clear hx hb)) | ((fail_if_success (have hzz := hk2)); go_at_call 21; refine (rvchk n HN.out _).mono ?_; rintro e w2 ⟨rfl, hb⟩; (have hx : Ext w1 w2 := Ext.trans (by repeat (first | exact Ext.refl _ | refine Ext.drew ?_ | refine Ext.drewN ?_ _ | refine Ext.alloc ?_ _)) hb); (replace HX := Lib.hid (HX.out.trans hx)); (replace HB0 := Lib.hid (HB0.out.ext hx)); (replace HB1 := Lib.hid (HB1.out.ext hx)); (have lw0 : w.heap.size < w2.heap.size := HB0.out.lt); (have lw1 : w.heap.size + 1 < w2.heap.size := HB1.out.lt); (replace c0_5 := HB0.out.c5); (have hk2 : True := trivial); (clear hx hb)))
  go_ret
  exact ⟨rfl, (HX.out.trans (by repeat (first | exact Ext.refl _ | refine Ext.drew ?_ | refine Ext.drewN ?_ _ | refine Ext.alloc ?_ _)))⟩

theorem may_rv (w : World) (n : Int) (hn : 0 ≤ n ∧ n ≤ 9) (I : In) (h0 h1 h2 h3 h4 : Value) (hA : InAt w I h0 h1 h2 h3 h4) (hl : I.bd.length = 3) (hs : I.sb = [.bool false, .bool false, .bool false]) (hk : I.kp = 3) (hw : I.bw = 0) (hf : I.bf = []) :
    Calls Try.prog 65 #[.agg (rvC n), .agg (inC I h0 h1 h2 h3 h4), .int .i64 1] w fun e w' => e = .returned (.int .i64 0) ∧ Ext w w' := by
  have L := Lib.hid hA
  have HG := Lib.hid hl
  have HN := Lib.hid hn
  have HF := Lib.hid hf
  obtain ⟨g, o, d, hh, hg, hc⟩ := list_form hA.l4 (by rw [hs]; decide)
  have b0 := hc 0 (.bool false) (by rw [hs]; rfl)
  rw [Nat.add_zero] at b0
  have hl3 : I.sb.length = 3 := by rw [hs]; rfl
  rw [hl3] at hh
  have HH := Lib.hid hh
  have e1 : ((1 : Int) == I.kp) = false := by rw [hk]; rfl
  have e2 : ((1 : Int) == I.bw) = false := by rw [hw]; rfl
  clear hA hl hn hf hs hl3 hc hh hk hw
  go_enter Try.func65, Try.ntmps65
  go_upto_region 1 with fail
  obtain ⟨w0, hw0⟩ : ∃ W, W = ((w.alloc (.cells (rvC n) 25)).alloc (.cells (inC I h0 h1 h2 h3 h4) 34)) := ⟨_, rfl⟩
  have HX := Lib.hid (show Ext w w0 by rw [hw0]; exact (by repeat (first | exact Ext.refl _ | refine Ext.drew ?_ | refine Ext.drewN ?_ _ | refine Ext.alloc ?_ _)))
  have HB0 := Lib.hid (show BoxR w0 (w.heap.size) n by rw [hw0]; exact (BoxR.ext (show BoxR _ (w.heap.size) n from (by have := boxR_new w n; simpa using this)) (by repeat (first | exact Ext.refl _ | refine Ext.drew ?_ | refine Ext.drewN ?_ _ | refine Ext.alloc ?_ _))))
  have HB1 := Lib.hid (show BoxI w0 (w.heap.size + 1) I h0 h1 h2 h3 h4 by rw [hw0]; exact (BoxI.ext (show BoxI _ (w.heap.size + 1) I h0 h1 h2 h3 h4 from (by have := boxI_new (w.alloc (.cells (rvC n) 25)) I h0 h1 h2 h3 h4; simpa using this)) (by repeat (first | exact Ext.refl _ | refine Ext.drew ?_ | refine Ext.drewN ?_ _ | refine Ext.alloc ?_ _))))
  have lw0 : w.heap.size < w0.heap.size := HB0.out.lt
  have lw1 : w.heap.size + 1 < w0.heap.size := HB1.out.lt
  have c1_24 := HB1.out.c24
  rw [HH.out] at c1_24
  have c1_22 := HB1.out.c22
  have c1_15 := HB1.out.c15
  have c1_17 := HB1.out.c17
  rw [← hw0]
  clear hw0
  have a0 := HX.out.keep b0
  clear b0
  go_wp2_with (first | (with_reducible refine at_list ?_; first | go_skip | refine HB0.out.step (by first | rfl | kernel_rfl) rfl rfl ?_) | (with_reducible refine at_list ?_; first | go_skip | refine HB1.out.step (by first | rfl | kernel_rfl) rfl rfl ?_) | ((fail_if_success (have hzz := hk1)); go_at_call 84; refine (sknown_yes _ I h0 h1 h2 h3 h4 (L.out.ext (by repeat (first | exact HX.out | refine Ext.drew ?_ | refine Ext.drewN ?_ _ | refine Ext.alloc ?_ _))) HG.out _ (by decide)).mono ?_; rintro e w1 ⟨rfl, hb⟩; (have hx : Ext w0 w1 := Ext.trans (by repeat (first | exact Ext.refl _ | refine Ext.drew ?_ | refine Ext.drewN ?_ _ | refine Ext.alloc ?_ _)) hb); (replace HX := Lib.hid (HX.out.trans hx)); (replace HB0 := Lib.hid (HB0.out.ext hx)); (replace HB1 := Lib.hid (HB1.out.ext hx)); (have lw0 : w.heap.size < w1.heap.size := HB0.out.lt); (have lw1 : w.heap.size + 1 < w1.heap.size := HB1.out.lt); (replace c1_24 := HB1.out.c24); (rw [HH.out] at c1_24); (replace c1_22 := HB1.out.c22); (replace c1_15 := HB1.out.c15); (replace c1_17 := HB1.out.c17); (replace a0 := hx.keep a0); (have hk1 : True := trivial); (clear hx hb)) | ((fail_if_success (have hzz := hk2)); go_at_call 21; refine (rvchk n HN.out _).mono ?_; rintro e w2 ⟨rfl, hb⟩; (have hx : Ext w1 w2 := Ext.trans (by repeat (first | exact Ext.refl _ | refine Ext.drew ?_ | refine Ext.drewN ?_ _ | refine Ext.alloc ?_ _)) hb); (replace HX := Lib.hid (HX.out.trans hx)); (replace HB0 := Lib.hid (HB0.out.ext hx)); (replace HB1 := Lib.hid (HB1.out.ext hx)); (have lw0 : w.heap.size < w2.heap.size := HB0.out.lt); (have lw1 : w.heap.size + 1 < w2.heap.size := HB1.out.lt); (replace c1_24 := HB1.out.c24); (rw [HH.out] at c1_24); (replace c1_22 := HB1.out.c22); (replace c1_15 := HB1.out.c15); (replace c1_17 := HB1.out.c17); (replace a0 := hx.keep a0); (have hk2 : True := trivial); (clear hx hb)) | ((fail_if_success (have hzz := hk3)); go_at_call 85; refine (room_rv _ n HN.out I h0 h1 h2 h3 h4 (L.out.ext (by repeat (first | exact HX.out | refine Ext.drew ?_ | refine Ext.drewN ?_ _ | refine Ext.alloc ?_ _))) HG.out _ (by decide)).mono ?_; rintro e w3 ⟨rfl, hb⟩; (have hx : Ext w2 w3 := Ext.trans (by repeat (first | exact Ext.refl _ | refine Ext.drew ?_ | refine Ext.drewN ?_ _ | refine Ext.alloc ?_ _)) hb); (replace HX := Lib.hid (HX.out.trans hx)); (replace HB0 := Lib.hid (HB0.out.ext hx)); (replace HB1 := Lib.hid (HB1.out.ext hx)); (have lw0 : w.heap.size < w3.heap.size := HB0.out.lt); (have lw1 : w.heap.size + 1 < w3.heap.size := HB1.out.lt); (replace c1_24 := HB1.out.c24); (rw [HH.out] at c1_24); (replace c1_22 := HB1.out.c22); (replace c1_15 := HB1.out.c15); (replace c1_17 := HB1.out.c17); (replace a0 := hx.keep a0); (have hk3 : True := trivial); (clear hx hb)) | (go_at_call 54; refine (coni_nil _ _ _ (HF.out ▸ (L.out.l2.ext (by repeat (first | exact HX.out | refine Ext.drew ?_ | refine Ext.drewN ?_ _ | refine Ext.alloc ?_ _))))).mono ?_; rintro e w' ⟨rfl, rfl⟩))
  go_ret
  exact ⟨rfl, (HX.out.trans (by repeat (first | exact Ext.refl _ | refine Ext.drew ?_ | refine Ext.drewN ?_ _ | refine Ext.alloc ?_ _)))⟩

end Go.Proofs.Ytpeabgfolpgfjaa

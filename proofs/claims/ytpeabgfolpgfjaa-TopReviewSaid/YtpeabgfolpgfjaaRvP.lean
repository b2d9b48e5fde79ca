/-
  A fair ball is bowled.
-/
import Derived.Test.YtpeabgfolpgfjaaRvL
import Derived.Test.YtpeabgfolpgfjaaRvO
import Derived.Test.YtpeabgfolpgfjaaSymC
import Derived.Test.YtpeabgfolpgfjaaSymD
namespace Go.Proofs.Ytpeabgfolpgfjaa
open Go.RowKit Go.Lib
set_option linter.unusedSimpArgs false

def crdlC : Array Value := #[.int .i64 0, .int .i64 0, .int .i64 0, .int .i64 0, .int .i64 0, .int .i64 0, .bool true, .bool true, .bool false, .bool false]
def BoxCr (w : World) (b : Nat) : Prop := w.heap[b]? = some (.cells crdlC 117 (0, 0))
theorem BoxCr.lt {w : World} {b : Nat} (h : BoxCr w b) : b < w.heap.size := (Array.getElem?_eq_some_iff.1 h).1
theorem BoxCr.ext {w w' : World} {b : Nat} (h : BoxCr w b) (x : Ext w w') : BoxCr w' b := (x.block b h.lt).trans h
theorem BoxCr.grown {w w' : World} {b q : Nat} (h : BoxCr w b) (g : w.grownBy w' (some q)) (hne : b ≠ q) : BoxCr w' b := (g.block b h.lt (ne_some hne)).trans h
theorem BoxCr.c0 {w : World} {b : Nat} (h : BoxCr w b) : w.cell? ⟨b, 0, none⟩ = some (.int .i64 0) := Lib.cell_of_heap h 0
theorem BoxCr.c1 {w : World} {b : Nat} (h : BoxCr w b) : w.cell? ⟨b, 1, none⟩ = some (.int .i64 0) := Lib.cell_of_heap h 1
theorem BoxCr.c2 {w : World} {b : Nat} (h : BoxCr w b) : w.cell? ⟨b, 2, none⟩ = some (.int .i64 0) := Lib.cell_of_heap h 2
theorem BoxCr.c3 {w : World} {b : Nat} (h : BoxCr w b) : w.cell? ⟨b, 3, none⟩ = some (.int .i64 0) := Lib.cell_of_heap h 3
theorem BoxCr.c4 {w : World} {b : Nat} (h : BoxCr w b) : w.cell? ⟨b, 4, none⟩ = some (.int .i64 0) := Lib.cell_of_heap h 4
theorem BoxCr.c5 {w : World} {b : Nat} (h : BoxCr w b) : w.cell? ⟨b, 5, none⟩ = some (.int .i64 0) := Lib.cell_of_heap h 5
theorem BoxCr.c6 {w : World} {b : Nat} (h : BoxCr w b) : w.cell? ⟨b, 6, none⟩ = some (.bool true) := Lib.cell_of_heap h 6
theorem BoxCr.c7 {w : World} {b : Nat} (h : BoxCr w b) : w.cell? ⟨b, 7, none⟩ = some (.bool true) := Lib.cell_of_heap h 7
theorem BoxCr.c8 {w : World} {b : Nat} (h : BoxCr w b) : w.cell? ⟨b, 8, none⟩ = some (.bool false) := Lib.cell_of_heap h 8
theorem BoxCr.c9 {w : World} {b : Nat} (h : BoxCr w b) : w.cell? ⟨b, 9, none⟩ = some (.bool false) := Lib.cell_of_heap h 9

theorem BoxCr.yields {S : World → Prop} {b : Nat} {ops : Array Oper} {op : Oper} {a : Act} {x : Operand} (hS : ∀ w, S w → BoxCr w b) (hw : Region.wanted op (yielded ops a.tmps) = true) (ho : op.op = .load 117 x) (hx : a.eval x = .pointer (some ⟨b, 0, none⟩)) : YieldsIf Try.prog ops S op (.agg crdlC) a :=
  yieldsIf_load_mid hw 117 x ho b 0 hx [.int .i64 0, .int .i64 0, .int .i64 0, .int .i64 0, .int .i64 0, .int .i64 0, .bool true, .bool true, .bool false, .bool false] _ (fun w h => in_range (hS w h)) Try.underlying117 rfl (by kernel_rfl)
theorem st_newC {w1 : World} {Z : Array Value} (hZ : Z.size = 10) {ops : Array Oper} {Q : Exit → Act → World → Prop} {rest : List Oper} {op : Oper} {a : Act} {x y : Operand} (hgd : op.guard = none) (ho : op.op = .store 117 x y)
    (hx : a.eval x = .pointer (some ⟨w1.heap.size, 0, none⟩)) (hy : a.eval y = .agg crdlC) (k : ∀ w', BoxCr w' w1.heap.size → Ext w1 w' → wpList Try.prog ops Q rest (a.put op.dst undef) w') : wpList Try.prog ops Q (op :: rest) a (w1.alloc (.cells Z 117)) := by
  have hc := heap_alloc_new w1 (.cells Z 117)
  refine wpList_store_mid hgd 117 x y ho w1.heap.size 0 crdlC hx hy (in_there hc (by rw [hZ]; rfl)) (by kernel_rfl) (by simp [crdlC, Value.oneCell']) ?_
  exact k _ (setCells_whole hc (by rw [hZ]; rfl)) (ext_grown ((Ext.refl w1).alloc _) (grown_setCells _ _ 0 _) (fun k hk => by injection hk with hk; omega))
theorem credit_dl (n : Int) (w : World) : Calls Try.prog 67 #[.agg (rvC n), .agg dlC] w fun e w' => e = .returned (.agg crdlC) ∧ Ext w w' := by
  have := credit_any (rvR n) dl0 (lg_ok ⟨by decide, by decide, by decide⟩ (by decide)) (by decide) (by simp [rvR]) (by simp [rvR]) w
  rw [show crV dl0 (rvR n).wi (rvR n).nb = .agg crdlC from rfl] at this
  exact this
theorem total_cr (w : World) : Calls Try.prog 69 #[.agg crdlC] w fun e w' => e = .returned (.int .i64 0) ∧ Ext w w' :=
  total_any 0 0 0 0 0 0 true true false false (by decide) (by decide) (by decide) (by decide) (by decide) w

set_option maxHeartbeats 8000000 in
theorem ball_on (w : World) (n : Int) (I J : In) (h0 h1 h2 h3 h4 : Value) (hA : InAt w I h0 h1 h2 h3 h4) (hI : I.Ok) (hJ : J.Ok) (hk : I.kp = 3) (hw : I.bw = 1)
    (hs : ∀ (W : World) (k0 k1 k2 k3 k4 : Value), InAt W I k0 k1 k2 k3 k4 → Calls Try.prog 70 #[.agg (rvC n), .agg (inC I k0 k1 k2 k3 k4), .bool true] W fun e w' => ∃ k0 k1 k2 k3 k4, e = .returned (.tuple #[.agg (inC J k0 k1 k2 k3 k4), .bool false]) ∧ InOwn W.heap.size w' J k0 k1 k2 k3 k4 ∧ Ext W w') :
    Calls Try.prog 37 #[.agg (rvC n), .agg (inC I h0 h1 h2 h3 h4), .agg dlC] w fun e w' => ∃ k0 k1 k2 k3 k4, e = .returned (.tuple #[.agg (inC J k0 k1 k2 k3 k4), .int .i64 0]) ∧ InOwn w.heap.size w' J k0 k1 k2 k3 k4 ∧ Ext w w' := by
  have L := Lib.hid hA
  have HI := Lib.hid hI
  have HJ := Lib.hid hJ
  have HK := Lib.hid hk
  have HW := Lib.hid hw
  have HS := Lib.hid hs
  have ew0 : IntKind.i64.wrap 0 = 0 := by decide
  clear hA hI hk hw hs hJ
  go_enter Try.func37, Try.ntmps37
  go_upto_region 1 with fail
  obtain ⟨w0, hw0⟩ : ∃ W, W = ((((w.alloc (.cells (rvC n) 25)).alloc (.cells (inC I h0 h1 h2 h3 h4) 34)).alloc (.cells dlC 53)).alloc (.cells #[.int .i64 0, .int .i64 0, .int .i64 0, .int .i64 0, .int .i64 0, .int .i64 0, .int .i64 0, .int .i64 0, .int .i64 0, .int .i64 0, .int .i64 0, .int .i64 0, .int .i64 0, .int .i64 0, .slice none 0 0, .int .i64 0, .slice none 0 0, .slice none 0 0, .bool false, .slice none 0 0, .bool false, .int .i64 0, .int .i64 0, .int .i64 0, .slice none 0 0, .int .i64 0, .int .i64 0, .int .u8 0] 34)) := ⟨_, rfl⟩
  have HX := Lib.hid (show Ext w w0 by rw [hw0]; exact (by repeat (first | exact Ext.refl _ | refine Ext.drew ?_ | refine Ext.drewN ?_ _ | refine Ext.alloc ?_ _)))
  have HB0 := Lib.hid (show BoxR w0 (w.heap.size) n by rw [hw0]; exact (BoxR.ext (show BoxR _ (w.heap.size) n from (by have := boxR_new w n; simpa using this)) (by repeat (first | exact Ext.refl _ | refine Ext.drew ?_ | refine Ext.drewN ?_ _ | refine Ext.alloc ?_ _))))
  have HB1 := Lib.hid (show BoxI w0 (w.heap.size + 1) I h0 h1 h2 h3 h4 by rw [hw0]; exact (BoxI.ext (show BoxI _ (w.heap.size + 1) I h0 h1 h2 h3 h4 from (by have := boxI_new (w.alloc (.cells (rvC n) 25)) I h0 h1 h2 h3 h4; simpa using this)) (by repeat (first | exact Ext.refl _ | refine Ext.drew ?_ | refine Ext.drewN ?_ _ | refine Ext.alloc ?_ _))))
  have HB2 := Lib.hid (show BoxL w0 (w.heap.size + 2)  by rw [hw0]; exact (BoxL.ext (show BoxL _ (w.heap.size + 2)  from (by have := boxL_new ((w.alloc (.cells (rvC n) 25)).alloc (.cells (inC I h0 h1 h2 h3 h4) 34)) ; simpa using this)) (by repeat (first | exact Ext.refl _ | refine Ext.drew ?_ | refine Ext.drewN ?_ _ | refine Ext.alloc ?_ _))))
  have HB3 := Lib.hid (show BoxZ w0 (w.heap.size + 3)  by rw [hw0]; exact (BoxZ.ext (show BoxZ _ (w.heap.size + 3)  from (by have := boxZ_new (((w.alloc (.cells (rvC n) 25)).alloc (.cells (inC I h0 h1 h2 h3 h4) 34)).alloc (.cells dlC 53)) ; simpa using this)) (by repeat (first | exact Ext.refl _ | refine Ext.drew ?_ | refine Ext.drewN ?_ _ | refine Ext.alloc ?_ _))))
  have lw0 : w.heap.size < w0.heap.size := HB0.out.lt
  have lw1 : w.heap.size + 1 < w0.heap.size := HB1.out.lt
  have lw2 : w.heap.size + 2 < w0.heap.size := HB2.out.lt
  have lw3 : w.heap.size + 3 < w0.heap.size := HB3.out.lt
  have c2_0 := HB2.out.c0
  rw [← hw0]
  clear hw0
  go_upto_region 4 with (first | (with_reducible refine at_list ?_; first | go_skip | refine HB0.out.step (by first | rfl | kernel_rfl) rfl rfl ?_ | refine HB1.out.step (by first | rfl | kernel_rfl) rfl rfl ?_ | refine HB2.out.step (by first | rfl | kernel_rfl) rfl rfl ?_) | ((fail_if_success (have hzz := hk1)); go_at_call 66; refine (refused_any _ n I h0 h1 h2 h3 h4 (L.out.ext (by repeat (first | exact HX.out | refine Ext.drew ?_ | refine Ext.drewN ?_ _ | refine Ext.alloc ?_ _))) HI.out HK.out HW.out).mono ?_; rintro e w1 ⟨rfl, hb⟩; (have hx : Ext w0 w1 := Ext.trans (by repeat (first | exact Ext.refl _ | refine Ext.drew ?_ | refine Ext.drewN ?_ _ | refine Ext.alloc ?_ _)) hb); (replace HX := Lib.hid (HX.out.trans hx)); (replace HB0 := Lib.hid (HB0.out.ext hx)); (replace HB1 := Lib.hid (HB1.out.ext hx)); (replace HB2 := Lib.hid (HB2.out.ext hx)); (replace HB3 := Lib.hid (HB3.out.ext hx)); (have lw0 : w.heap.size < w1.heap.size := HB0.out.lt); (have lw1 : w.heap.size + 1 < w1.heap.size := HB1.out.lt); (have lw2 : w.heap.size + 2 < w1.heap.size := HB2.out.lt); (have lw3 : w.heap.size + 3 < w1.heap.size := HB3.out.lt); (replace c2_0 := HB2.out.c0); (have hk1 : True := trivial); (clear hx hb)))
  go_upto_region 5 with (first | (with_reducible refine at_list ?_; first | go_skip | refine HB0.out.step (by first | rfl | kernel_rfl) rfl rfl ?_ | refine HB1.out.step (by first | rfl | kernel_rfl) rfl rfl ?_ | refine HB2.out.step (by first | rfl | kernel_rfl) rfl rfl ?_) | ((fail_if_success (have hzz := hk2)); go_at_call 67; refine (credit_dl n _).mono ?_; rintro e w2 ⟨rfl, hb⟩; (have hx : Ext w1 w2 := Ext.trans (by repeat (first | exact Ext.refl _ | refine Ext.drew ?_ | refine Ext.drewN ?_ _ | refine Ext.alloc ?_ _)) hb); (replace HX := Lib.hid (HX.out.trans hx)); (replace HB0 := Lib.hid (HB0.out.ext hx)); (replace HB1 := Lib.hid (HB1.out.ext hx)); (replace HB2 := Lib.hid (HB2.out.ext hx)); (replace HB3 := Lib.hid (HB3.out.ext hx)); (have lw0 : w.heap.size < w2.heap.size := HB0.out.lt); (have lw1 : w.heap.size + 1 < w2.heap.size := HB1.out.lt); (have lw2 : w.heap.size + 2 < w2.heap.size := HB2.out.lt); (have lw3 : w.heap.size + 3 < w2.heap.size := HB3.out.lt); (replace c2_0 := HB2.out.c0); (have hk2 : True := trivial); (clear hx hb)) | (with_reducible refine at_list ?_; refine st_newC rfl rfl rfl rfl rfl ?_; intro w3 hbox hx; have lq_0 := lw0; have lq_1 := lw1; have lq_2 := lw2; have lq_3 := lw3; (replace HX := Lib.hid (HX.out.trans hx)); (replace HB0 := Lib.hid (HB0.out.ext hx)); (replace HB1 := Lib.hid (HB1.out.ext hx)); (replace HB2 := Lib.hid (HB2.out.ext hx)); (replace HB3 := Lib.hid (HB3.out.ext hx)); (have lw0 : w.heap.size < w3.heap.size := HB0.out.lt); (have lw1 : w.heap.size + 1 < w3.heap.size := HB1.out.lt); (have lw2 : w.heap.size + 2 < w3.heap.size := HB2.out.lt); (have lw3 : w.heap.size + 3 < w3.heap.size := HB3.out.lt); (replace c2_0 := HB2.out.c0); have HC := Lib.hid hbox; clear hbox hx))
  obtain ⟨c, hc⟩ : ∃ q, q = w2.heap.size := ⟨_, rfl⟩
  rw [← hc] at HC ⊢
  have nc0 : w.heap.size ≠ c := by rw [hc]; exact Nat.ne_of_lt lq_0
  have nc1 : w.heap.size + 1 ≠ c := by rw [hc]; exact Nat.ne_of_lt lq_1
  have nc2 : w.heap.size + 2 ≠ c := by rw [hc]; exact Nat.ne_of_lt lq_2
  have nc3 : w.heap.size + 3 ≠ c := by rw [hc]; exact Nat.ne_of_lt lq_3
  clear hc
  clear lq_0
  clear lq_1
  clear lq_2
  clear lq_3
  go_upto_region 6 with (first | (with_reducible refine at_list ?_; first | go_skip | refine HB0.out.step (by first | rfl | kernel_rfl) rfl rfl ?_ | refine HB1.out.step (by first | rfl | kernel_rfl) rfl rfl ?_ | refine HB2.out.step (by first | rfl | kernel_rfl) rfl rfl ?_) | (go_at_call 68; refine (ran_any _ I h0 h1 h2 h3 h4 (L.out.ext (by repeat (first | exact HX.out | refine Ext.drew ?_ | refine Ext.drewN ?_ _ | refine Ext.alloc ?_ _))) HI.out).mono ?_; rintro e w4 ⟨k0, k1, k2, k3, k4, rfl, hown, hb⟩; have hx : Ext w3 w4 := Ext.trans (by repeat (first | exact Ext.refl _ | refine Ext.drew ?_ | refine Ext.drewN ?_ _ | refine Ext.alloc ?_ _)) hb; have hup : w.heap.size ≤ w3.heap.size := Nat.le_of_lt lw0; (replace HX := Lib.hid (HX.out.trans hx)); (replace HB0 := Lib.hid (HB0.out.ext hx)); (replace HB1 := Lib.hid (HB1.out.ext hx)); (replace HB2 := Lib.hid (HB2.out.ext hx)); (replace HB3 := Lib.hid (HB3.out.ext hx)); (have lw0 : w.heap.size < w4.heap.size := HB0.out.lt); (have lw1 : w.heap.size + 1 < w4.heap.size := HB1.out.lt); (have lw2 : w.heap.size + 2 < w4.heap.size := HB2.out.lt); (have lw3 : w.heap.size + 3 < w4.heap.size := HB3.out.lt); (replace c2_0 := HB2.out.c0); (replace HC := Lib.hid (HC.out.ext hx)); have HO := Lib.hid (hown.up hup); clear hx hb hown hup) | (with_reducible refine at_list ?_; refine st_new rfl HO.out.at rfl rfl rfl rfl ?_; intro w5 hbox hx; have lq_0 := lw0; have lq_1 := lw1; have lq_2 := lw2; have lq_3 := lw3; (replace HX := Lib.hid (HX.out.trans hx)); (replace HB0 := Lib.hid (HB0.out.ext hx)); (replace HB1 := Lib.hid (HB1.out.ext hx)); (replace HB2 := Lib.hid (HB2.out.ext hx)); (replace HB3 := Lib.hid (HB3.out.ext hx)); (have lw0 : w.heap.size < w5.heap.size := HB0.out.lt); (have lw1 : w.heap.size + 1 < w5.heap.size := HB1.out.lt); (have lw2 : w.heap.size + 2 < w5.heap.size := HB2.out.lt); (have lw3 : w.heap.size + 3 < w5.heap.size := HB3.out.lt); (replace c2_0 := HB2.out.c0); (replace HO := Lib.hid (HO.out.ext hx)); (have lqc := HC.out.lt); (replace HC := Lib.hid (HC.out.ext hx)); have HP := Lib.hid hbox; clear hbox hx))
  obtain ⟨p, hp⟩ : ∃ q, q = w4.heap.size := ⟨_, rfl⟩
  rw [← hp] at HP ⊢
  have np0 : w.heap.size ≠ p := by rw [hp]; exact Nat.ne_of_lt lq_0
  have np1 : w.heap.size + 1 ≠ p := by rw [hp]; exact Nat.ne_of_lt lq_1
  have np2 : w.heap.size + 2 ≠ p := by rw [hp]; exact Nat.ne_of_lt lq_2
  have np3 : w.heap.size + 3 ≠ p := by rw [hp]; exact Nat.ne_of_lt lq_3
  have npc : c ≠ p := by rw [hp]; exact Nat.ne_of_lt lqc
  have bp : w.heap.size < p := by rw [hp]; exact lq_0
  clear hp lqc
  clear lq_0
  clear lq_1
  clear lq_2
  clear lq_3
  have cp_3 := HP.out.c3
  have zp_3 := HP.out.fz 3
  refine wp_region_held_drew (S := (fun w' => w'.cell? ⟨p, 3, none⟩ = some (.int .i64 0) ∧ BoxCr w' c)) (by kernel_rfl) (by exact ⟨cp_3, HC.out⟩) (fun hHeld => ?_)
  refine wpAnyH_take (i := 0) (v := ?v1) rfl (by kernel_rfl) (by kernel_rfl) (by kernel_rfl) (fun _ _ _ h => h) (Or.inl ⟨by rfl, ?y1⟩) (by assumption) ?r1
  case y1 => ((intro w hSw; (try dsimp only at hSw); go_simp; (first | done | with_reducible rfl)))
  (try simp only [List.getElem_toArray, List.getElem_cons_succ, List.getElem_cons_zero, Act.put, List.setIfInBounds_toArray, List.set_cons_zero, List.set_cons_succ])
  refine wpAnyH_take (i := 1) (v := ?v2) rfl (by kernel_rfl) (by kernel_rfl) (by kernel_rfl) (fun _ _ _ h => h) (Or.inl ⟨by rfl, ?y2⟩) (by assumption) ?r2
  case y2 => ((intro w hSw; (try dsimp only at hSw); go_simp; (first | done | with_reducible rfl)))
  (try simp only [List.getElem_toArray, List.getElem_cons_succ, List.getElem_cons_zero, Act.put, List.setIfInBounds_toArray, List.set_cons_zero, List.set_cons_succ])
  refine wpAnyH_take (i := 2) (v := .agg crdlC) rfl (by kernel_rfl) (by kernel_rfl) (by kernel_rfl) (fun _ _ _ h => h) (BoxCr.yields (fun _ h => h.2) (by rfl) rfl rfl) (by assumption) ?_
  (try simp only [List.getElem_toArray, List.getElem_cons_succ, List.getElem_cons_zero, Act.put, List.setIfInBounds_toArray, List.set_cons_zero, List.set_cons_succ])
  refine wpAnyH_ready (rs := [3]) (by kernel_rfl) (by simp) ?_
  refine AllReadyH.cons rfl (fun K hK => ?_) AllReadyH.nil
  go_simp
  (go_at_call 69; refine (total_cr _).mono ?_; rintro e w6 ⟨rfl, hb⟩; have hx : Ext w5 w6 := Ext.trans (by repeat (first | exact Ext.refl _ | refine Ext.drew ?_ | refine Ext.drewN ?_ _ | refine Ext.alloc ?_ _)) hb; (replace HX := Lib.hid (HX.out.trans hx)); (replace HB0 := Lib.hid (HB0.out.ext hx)); (replace HB1 := Lib.hid (HB1.out.ext hx)); (replace HB2 := Lib.hid (HB2.out.ext hx)); (replace HB3 := Lib.hid (HB3.out.ext hx)); (have lw0 : w.heap.size < w6.heap.size := HB0.out.lt); (have lw1 : w.heap.size + 1 < w6.heap.size := HB1.out.lt); (have lw2 : w.heap.size + 2 < w6.heap.size := HB2.out.lt); (have lw3 : w.heap.size + 3 < w6.heap.size := HB3.out.lt); (replace HP := Lib.hid (HP.out.ext hx)); (replace HO := Lib.hid (HO.out.ext hx)); (replace c2_0 := HB2.out.c0); (replace cp_3 := HP.out.c3); (replace zp_3 := HP.out.fz 3); (replace HC := Lib.hid (HC.out.ext hx)); clear hx hb)
  refine hK.out _ _ (by exact ⟨cp_3, HC.out⟩) (fun hHeld => ?_)
  clear hK K
  (try simp only [List.getElem_toArray, List.getElem_cons_succ, List.getElem_cons_zero, Act.put, List.setIfInBounds_toArray, List.set_cons_zero, List.set_cons_succ])
  refine wpAnyH_take (i := 4) (v := ?v5) rfl (by kernel_rfl) (by kernel_rfl) (by kernel_rfl) (fun _ _ _ h => h) (Or.inl ⟨by rfl, ?y5⟩) (by assumption) ?r5
  case y5 => ((intro w hSw; (try dsimp only at hSw); go_simp; (first | done | with_reducible rfl)))
  (try simp only [List.getElem_toArray, List.getElem_cons_succ, List.getElem_cons_zero, Act.put, List.setIfInBounds_toArray, List.set_cons_zero, List.set_cons_succ])
  refine wpAnyH_take (i := 5) (v := ?v6) rfl (by kernel_rfl) (by kernel_rfl) (by kernel_rfl) (fun _ _ _ h => h) (Or.inl ⟨by rfl, ?y6⟩) (by assumption) ?r6
  case y6 => ((intro w hSw; (try dsimp only at hSw); go_simp; (first | done | with_reducible rfl)))
  (try simp only [List.getElem_toArray, List.getElem_cons_succ, List.getElem_cons_zero, Act.put, List.setIfInBounds_toArray, List.set_cons_zero, List.set_cons_succ])
  refine wpAnyH_ready (rs := [6]) (by kernel_rfl) (by simp) ?_
  refine AllReadyH.cons rfl (fun K hK => ?_) AllReadyH.nil
  go_simp
  skip
  refine hK.out _ _ (by first | exact True.intro | (refine ⟨?_, ?_⟩ <;> first | exact HC.out.grown (grown_setCell _ _ _ _) npc | (simp [go_sem, *]; done))) (fun hHeld => ?_)
  clear hK K
  (try simp only [List.getElem_toArray, List.getElem_cons_succ, List.getElem_cons_zero, Act.put, List.setIfInBounds_toArray, List.set_cons_zero, List.set_cons_succ])
  refine wpAnyH_done (by kernel_rfl) ?_ _
  clear hHeld
  have q1 := HP.out.set3
  have g1 := grown_setCell w6 p 3 (.int .i64 0)
  have o1 := HO.out.kept HP.out.z g1
  have g := g1
  obtain ⟨w7, hw⟩ : ∃ W, W = (w6.setCell ⟨p, 3, none⟩ (.int .i64 0)) := ⟨_, rfl⟩
  rw [← hw] at q1 o1 g ⊢
  replace HX := Lib.hid (ext_grown HX.out g (fun k hk => by injection hk with hk; omega))
  replace HP := Lib.hid q1
  replace HO := Lib.hid o1
  replace HC := Lib.hid (HC.out.grown g npc)
  replace HB0 := Lib.hid (HB0.out.grown g np0)
  replace HB1 := Lib.hid (HB1.out.grown g np1)
  replace HB2 := Lib.hid (HB2.out.grown g np2)
  replace HB3 := Lib.hid (HB3.out.grown g np3)
  have lw0 : w.heap.size < w7.heap.size := HB0.out.lt
  have lw1 : w.heap.size + 1 < w7.heap.size := HB1.out.lt
  have lw2 : w.heap.size + 2 < w7.heap.size := HB2.out.lt
  have lw3 : w.heap.size + 3 < w7.heap.size := HB3.out.lt
  replace c2_0 := HB2.out.c0
  clear hw g g1  q1 o1
  clear cp_3 zp_3
  have cp_5 := HP.out.c5
  have cp_6 := HP.out.c6
  have cp_7 := HP.out.c7
  have cp_8 := HP.out.c8
  have zp_5 := HP.out.fz 5
  have zp_6 := HP.out.fz 6
  have zp_7 := HP.out.fz 7
  have zp_8 := HP.out.fz 8
  have cc_1 := HC.out.c1
  have cc_2 := HC.out.c2
  have cc_3 := HC.out.c3
  have cc_4 := HC.out.c4
  go_upto_region 11 with fail
  have q1 := HP.out.set5
  have g1 := grown_setCell w7 p 5 (.int .i64 0)
  have o1 := HO.out.kept HP.out.z g1
  have q2 := q1.set6
  have g2 := grown_setCell (w7.setCell ⟨p, 5, none⟩ (.int .i64 0)) p 6 (.int .i64 0)
  have o2 := o1.kept q1.z g2
  have q3 := q2.set7
  have g3 := grown_setCell ((w7.setCell ⟨p, 5, none⟩ (.int .i64 0)).setCell ⟨p, 6, none⟩ (.int .i64 0)) p 7 (.int .i64 0)
  have o3 := o2.kept q2.z g3
  have q4 := q3.set8
  have g4 := grown_setCell (((w7.setCell ⟨p, 5, none⟩ (.int .i64 0)).setCell ⟨p, 6, none⟩ (.int .i64 0)).setCell ⟨p, 7, none⟩ (.int .i64 0)) p 8 (.int .i64 0)
  have o4 := o3.kept q3.z g4
  have g := (((g1.trans g2).trans g3).trans g4)
  obtain ⟨w8, hw⟩ : ∃ W, W = ((((w7.setCell ⟨p, 5, none⟩ (.int .i64 0)).setCell ⟨p, 6, none⟩ (.int .i64 0)).setCell ⟨p, 7, none⟩ (.int .i64 0)).setCell ⟨p, 8, none⟩ (.int .i64 0)) := ⟨_, rfl⟩
  rw [← hw] at q4 o4 g ⊢
  replace HX := Lib.hid (ext_grown HX.out g (fun k hk => by injection hk with hk; omega))
  replace HP := Lib.hid q4
  replace HO := Lib.hid o4
  replace HC := Lib.hid (HC.out.grown g npc)
  replace HB0 := Lib.hid (HB0.out.grown g np0)
  replace HB1 := Lib.hid (HB1.out.grown g np1)
  replace HB2 := Lib.hid (HB2.out.grown g np2)
  replace HB3 := Lib.hid (HB3.out.grown g np3)
  have lw0 : w.heap.size < w8.heap.size := HB0.out.lt
  have lw1 : w.heap.size + 1 < w8.heap.size := HB1.out.lt
  have lw2 : w.heap.size + 2 < w8.heap.size := HB2.out.lt
  have lw3 : w.heap.size + 3 < w8.heap.size := HB3.out.lt
  replace c2_0 := HB2.out.c0
  clear hw g g1 g2 g3 g4 q1 o1 q2 o2 q3 o3 q4 o4
  clear cp_5 cp_6 cp_7 cp_8 zp_5 zp_6 zp_7 zp_8 cc_1 cc_2 cc_3 cc_4
  have cc_6 := HC.out.c6
  go_upto_region 14 with (first | (with_reducible refine at_list ?_; first | go_skip | refine HB0.out.step (by first | rfl | kernel_rfl) rfl rfl ?_ | refine HB1.out.step (by first | rfl | kernel_rfl) rfl rfl ?_ | refine HP.out.step (by first | rfl | kernel_rfl) rfl rfl ?_) | (go_at_call 70; refine (HS.out _ _ _ _ _ _ (HO.out.at.ext (by repeat (first | exact Ext.refl _ | refine Ext.drew ?_ | refine Ext.drewN ?_ _ | refine Ext.alloc ?_ _)))).mono ?_; rintro e w9 ⟨j0, j1, j2, j3, j4, rfl, hown, hb⟩; have hx : Ext w8 w9 := Ext.trans (by repeat (first | exact Ext.refl _ | refine Ext.drew ?_ | refine Ext.drewN ?_ _ | refine Ext.alloc ?_ _)) hb; have hup : w.heap.size ≤ w8.heap.size := Nat.le_of_lt lw0; (replace HX := Lib.hid (HX.out.trans hx)); (replace HB0 := Lib.hid (HB0.out.ext hx)); (replace HB1 := Lib.hid (HB1.out.ext hx)); (replace HB2 := Lib.hid (HB2.out.ext hx)); (replace HB3 := Lib.hid (HB3.out.ext hx)); (have lw0 : w.heap.size < w9.heap.size := HB0.out.lt); (have lw1 : w.heap.size + 1 < w9.heap.size := HB1.out.lt); (have lw2 : w.heap.size + 2 < w9.heap.size := HB2.out.lt); (have lw3 : w.heap.size + 3 < w9.heap.size := HB3.out.lt); (replace c2_0 := HB2.out.c0); (replace HP := Lib.hid (HP.out.ext hx)); (replace HC := Lib.hid (HC.out.ext hx)); replace HO := Lib.hid (hown.up hup); clear hx hb hown hup) | (with_reducible refine at_list ?_; refine st_old HP.out.z HO.out.at rfl rfl rfl rfl ?_; intro w10 hbox hg; replace HO := Lib.hid (HO.out.kept HP.out.z hg); replace HX := Lib.hid (ext_grown HX.out hg (fun k hk => by injection hk with hk; omega)); (replace HB0 := Lib.hid (HB0.out.grown hg np0)); (replace HB1 := Lib.hid (HB1.out.grown hg np1)); (replace HB2 := Lib.hid (HB2.out.grown hg np2)); (replace HB3 := Lib.hid (HB3.out.grown hg np3)); (replace HC := Lib.hid (HC.out.grown hg npc)); (have lw0 : w.heap.size < w10.heap.size := HB0.out.lt); (have lw1 : w.heap.size + 1 < w10.heap.size := HB1.out.lt); (have lw2 : w.heap.size + 2 < w10.heap.size := HB2.out.lt); (have lw3 : w.heap.size + 3 < w10.heap.size := HB3.out.lt); (replace c2_0 := HB2.out.c0); replace HP := Lib.hid hbox; clear hbox hg))
  have cp_20 := HP.out.c20
  have zp_20 := HP.out.fz 20
  go_upto_region 18 with fail
  have q1 := HP.out.set20
  have g1 := grown_setCell w10 p 20 (.bool false)
  have o1 := HO.out.kept HP.out.z g1
  have g := g1
  obtain ⟨w11, hw⟩ : ∃ W, W = (w10.setCell ⟨p, 20, none⟩ (.bool false)) := ⟨_, rfl⟩
  rw [← hw] at q1 o1 g ⊢
  replace HX := Lib.hid (ext_grown HX.out g (fun k hk => by injection hk with hk; omega))
  replace HP := Lib.hid q1
  replace HO := Lib.hid o1
  replace HC := Lib.hid (HC.out.grown g npc)
  replace HB0 := Lib.hid (HB0.out.grown g np0)
  replace HB1 := Lib.hid (HB1.out.grown g np1)
  replace HB2 := Lib.hid (HB2.out.grown g np2)
  replace HB3 := Lib.hid (HB3.out.grown g np3)
  have lw0 : w.heap.size < w11.heap.size := HB0.out.lt
  have lw1 : w.heap.size + 1 < w11.heap.size := HB1.out.lt
  have lw2 : w.heap.size + 2 < w11.heap.size := HB2.out.lt
  have lw3 : w.heap.size + 3 < w11.heap.size := HB3.out.lt
  replace c2_0 := HB2.out.c0
  clear hw g g1  q1 o1
  go_wp2_with (first | (with_reducible refine at_list ?_; refine HP.out.step (by first | rfl | kernel_rfl) rfl rfl ?_) | (with_reducible refine at_list ?_; refine st_old HB3.out (show InAt w11 J j0 j1 j2 j3 j4 from ⟨HO.out.at.l0, HO.out.at.l1, HO.out.at.l2, HO.out.at.l3, HO.out.at.l4, HO.out.at.n1⟩) rfl rfl rfl rfl ?_; intro w12 hbox hg; have HR := Lib.hid hbox; replace HO := Lib.hid (HO.out.kept HB3.out hg); replace HX := Lib.hid (ext_grown HX.out hg (fun k hk => by injection hk with hk; omega)); clear hbox hg))
  (try simp only [Exit.inBlock, Exit.then])
  refine BoxI.ret rfl HR.out rfl rfl ?_
  have hA := HO.out
  exact ⟨_, _, _, _, _, rfl, ⟨hA.l0, hA.l1, hA.l2, hA.l3, hA.l4, hA.n1, hA.d1, hA.d2⟩, HX.out⟩

set_option maxHeartbeats 8000000 in
theorem ball_over (w : World) (n : Int) (I J : In) (h0 h1 h2 h3 h4 : Value) (hA : InAt w I h0 h1 h2 h3 h4) (hI : I.Ok) (hJ : J.Ok) (hk : I.kp = 3) (hw : I.bw = 1)
    (hs : ∀ (W : World) (k0 k1 k2 k3 k4 : Value), InAt W I k0 k1 k2 k3 k4 → Calls Try.prog 70 #[.agg (rvC n), .agg (inC I k0 k1 k2 k3 k4), .bool true] W fun e w' => ∃ k0 k1 k2 k3 k4, e = .returned (.tuple #[.agg (inC J k0 k1 k2 k3 k4), .bool true]) ∧ InOwn W.heap.size w' J k0 k1 k2 k3 k4 ∧ Ext W w') :
    Calls Try.prog 37 #[.agg (rvC n), .agg (inC I h0 h1 h2 h3 h4), .agg dlC] w fun e w' => ∃ k0 k1 k2 k3 k4, e = .returned (.tuple #[.agg (inC { J with s := J.o, o := J.s } k0 k1 k2 k3 k4), .int .i64 0]) ∧ InOwn w.heap.size w' { J with s := J.o, o := J.s } k0 k1 k2 k3 k4 ∧ Ext w w' := by
  have L := Lib.hid hA
  have HI := Lib.hid hI
  have HJ := Lib.hid hJ
  have HK := Lib.hid hk
  have HW := Lib.hid hw
  have HS := Lib.hid hs
  have ew0 : IntKind.i64.wrap 0 = 0 := by decide
  clear hA hI hk hw hs hJ
  go_enter Try.func37, Try.ntmps37
  go_upto_region 1 with fail
  obtain ⟨w0, hw0⟩ : ∃ W, W = ((((w.alloc (.cells (rvC n) 25)).alloc (.cells (inC I h0 h1 h2 h3 h4) 34)).alloc (.cells dlC 53)).alloc (.cells #[.int .i64 0, .int .i64 0, .int .i64 0, .int .i64 0, .int .i64 0, .int .i64 0, .int .i64 0, .int .i64 0, .int .i64 0, .int .i64 0, .int .i64 0, .int .i64 0, .int .i64 0, .int .i64 0, .slice none 0 0, .int .i64 0, .slice none 0 0, .slice none 0 0, .bool false, .slice none 0 0, .bool false, .int .i64 0, .int .i64 0, .int .i64 0, .slice none 0 0, .int .i64 0, .int .i64 0, .int .u8 0] 34)) := ⟨_, rfl⟩
  have HX := Lib.hid (show Ext w w0 by rw [hw0]; exact (by repeat (first | exact Ext.refl _ | refine Ext.drew ?_ | refine Ext.drewN ?_ _ | refine Ext.alloc ?_ _)))
  have HB0 := Lib.hid (show BoxR w0 (w.heap.size) n by rw [hw0]; exact (BoxR.ext (show BoxR _ (w.heap.size) n from (by have := boxR_new w n; simpa using this)) (by repeat (first | exact Ext.refl _ | refine Ext.drew ?_ | refine Ext.drewN ?_ _ | refine Ext.alloc ?_ _))))
  have HB1 := Lib.hid (show BoxI w0 (w.heap.size + 1) I h0 h1 h2 h3 h4 by rw [hw0]; exact (BoxI.ext (show BoxI _ (w.heap.size + 1) I h0 h1 h2 h3 h4 from (by have := boxI_new (w.alloc (.cells (rvC n) 25)) I h0 h1 h2 h3 h4; simpa using this)) (by repeat (first | exact Ext.refl _ | refine Ext.drew ?_ | refine Ext.drewN ?_ _ | refine Ext.alloc ?_ _))))
  have HB2 := Lib.hid (show BoxL w0 (w.heap.size + 2)  by rw [hw0]; exact (BoxL.ext (show BoxL _ (w.heap.size + 2)  from (by have := boxL_new ((w.alloc (.cells (rvC n) 25)).alloc (.cells (inC I h0 h1 h2 h3 h4) 34)) ; simpa using this)) (by repeat (first | exact Ext.refl _ | refine Ext.drew ?_ | refine Ext.drewN ?_ _ | refine Ext.alloc ?_ _))))
  have HB3 := Lib.hid (show BoxZ w0 (w.heap.size + 3)  by rw [hw0]; exact (BoxZ.ext (show BoxZ _ (w.heap.size + 3)  from (by have := boxZ_new (((w.alloc (.cells (rvC n) 25)).alloc (.cells (inC I h0 h1 h2 h3 h4) 34)).alloc (.cells dlC 53)) ; simpa using this)) (by repeat (first | exact Ext.refl _ | refine Ext.drew ?_ | refine Ext.drewN ?_ _ | refine Ext.alloc ?_ _))))
  have lw0 : w.heap.size < w0.heap.size := HB0.out.lt
  have lw1 : w.heap.size + 1 < w0.heap.size := HB1.out.lt
  have lw2 : w.heap.size + 2 < w0.heap.size := HB2.out.lt
  have lw3 : w.heap.size + 3 < w0.heap.size := HB3.out.lt
  have c2_0 := HB2.out.c0
  rw [← hw0]
  clear hw0
  go_upto_region 4 with (first | (with_reducible refine at_list ?_; first | go_skip | refine HB0.out.step (by first | rfl | kernel_rfl) rfl rfl ?_ | refine HB1.out.step (by first | rfl | kernel_rfl) rfl rfl ?_ | refine HB2.out.step (by first | rfl | kernel_rfl) rfl rfl ?_) | ((fail_if_success (have hzz := hk1)); go_at_call 66; refine (refused_any _ n I h0 h1 h2 h3 h4 (L.out.ext (by repeat (first | exact HX.out | refine Ext.drew ?_ | refine Ext.drewN ?_ _ | refine Ext.alloc ?_ _))) HI.out HK.out HW.out).mono ?_; rintro e w1 ⟨rfl, hb⟩; (have hx : Ext w0 w1 := Ext.trans (by repeat (first | exact Ext.refl _ | refine Ext.drew ?_ | refine Ext.drewN ?_ _ | refine Ext.alloc ?_ _)) hb); (replace HX := Lib.hid (HX.out.trans hx)); (replace HB0 := Lib.hid (HB0.out.ext hx)); (replace HB1 := Lib.hid (HB1.out.ext hx)); (replace HB2 := Lib.hid (HB2.out.ext hx)); (replace HB3 := Lib.hid (HB3.out.ext hx)); (have lw0 : w.heap.size < w1.heap.size := HB0.out.lt); (have lw1 : w.heap.size + 1 < w1.heap.size := HB1.out.lt); (have lw2 : w.heap.size + 2 < w1.heap.size := HB2.out.lt); (have lw3 : w.heap.size + 3 < w1.heap.size := HB3.out.lt); (replace c2_0 := HB2.out.c0); (have hk1 : True := trivial); (clear hx hb)))
  go_upto_region 5 with (first | (with_reducible refine at_list ?_; first | go_skip | refine HB0.out.step (by first | rfl | kernel_rfl) rfl rfl ?_ | refine HB1.out.step (by first | rfl | kernel_rfl) rfl rfl ?_ | refine HB2.out.step (by first | rfl | kernel_rfl) rfl rfl ?_) | ((fail_if_success (have hzz := hk2)); go_at_call 67; refine (credit_dl n _).mono ?_; rintro e w2 ⟨rfl, hb⟩; (have hx : Ext w1 w2 := Ext.trans (by repeat (first | exact Ext.refl _ | refine Ext.drew ?_ | refine Ext.drewN ?_ _ | refine Ext.alloc ?_ _)) hb); (replace HX := Lib.hid (HX.out.trans hx)); (replace HB0 := Lib.hid (HB0.out.ext hx)); (replace HB1 := Lib.hid (HB1.out.ext hx)); (replace HB2 := Lib.hid (HB2.out.ext hx)); (replace HB3 := Lib.hid (HB3.out.ext hx)); (have lw0 : w.heap.size < w2.heap.size := HB0.out.lt); (have lw1 : w.heap.size + 1 < w2.heap.size := HB1.out.lt); (have lw2 : w.heap.size + 2 < w2.heap.size := HB2.out.lt); (have lw3 : w.heap.size + 3 < w2.heap.size := HB3.out.lt); (replace c2_0 := HB2.out.c0); (have hk2 : True := trivial); (clear hx hb)) | (with_reducible refine at_list ?_; refine st_newC rfl rfl rfl rfl rfl ?_; intro w3 hbox hx; have lq_0 := lw0; have lq_1 := lw1; have lq_2 := lw2; have lq_3 := lw3; (replace HX := Lib.hid (HX.out.trans hx)); (replace HB0 := Lib.hid (HB0.out.ext hx)); (replace HB1 := Lib.hid (HB1.out.ext hx)); (replace HB2 := Lib.hid (HB2.out.ext hx)); (replace HB3 := Lib.hid (HB3.out.ext hx)); (have lw0 : w.heap.size < w3.heap.size := HB0.out.lt); (have lw1 : w.heap.size + 1 < w3.heap.size := HB1.out.lt); (have lw2 : w.heap.size + 2 < w3.heap.size := HB2.out.lt); (have lw3 : w.heap.size + 3 < w3.heap.size := HB3.out.lt); (replace c2_0 := HB2.out.c0); have HC := Lib.hid hbox; clear hbox hx))
  obtain ⟨c, hc⟩ : ∃ q, q = w2.heap.size := ⟨_, rfl⟩
  rw [← hc] at HC ⊢
  have nc0 : w.heap.size ≠ c := by rw [hc]; exact Nat.ne_of_lt lq_0
  have nc1 : w.heap.size + 1 ≠ c := by rw [hc]; exact Nat.ne_of_lt lq_1
  have nc2 : w.heap.size + 2 ≠ c := by rw [hc]; exact Nat.ne_of_lt lq_2
  have nc3 : w.heap.size + 3 ≠ c := by rw [hc]; exact Nat.ne_of_lt lq_3
  clear hc
  clear lq_0
  clear lq_1
  clear lq_2
  clear lq_3
  go_upto_region 6 with (first | (with_reducible refine at_list ?_; first | go_skip | refine HB0.out.step (by first | rfl | kernel_rfl) rfl rfl ?_ | refine HB1.out.step (by first | rfl | kernel_rfl) rfl rfl ?_ | refine HB2.out.step (by first | rfl | kernel_rfl) rfl rfl ?_) | (go_at_call 68; refine (ran_any _ I h0 h1 h2 h3 h4 (L.out.ext (by repeat (first | exact HX.out | refine Ext.drew ?_ | refine Ext.drewN ?_ _ | refine Ext.alloc ?_ _))) HI.out).mono ?_; rintro e w4 ⟨k0, k1, k2, k3, k4, rfl, hown, hb⟩; have hx : Ext w3 w4 := Ext.trans (by repeat (first | exact Ext.refl _ | refine Ext.drew ?_ | refine Ext.drewN ?_ _ | refine Ext.alloc ?_ _)) hb; have hup : w.heap.size ≤ w3.heap.size := Nat.le_of_lt lw0; (replace HX := Lib.hid (HX.out.trans hx)); (replace HB0 := Lib.hid (HB0.out.ext hx)); (replace HB1 := Lib.hid (HB1.out.ext hx)); (replace HB2 := Lib.hid (HB2.out.ext hx)); (replace HB3 := Lib.hid (HB3.out.ext hx)); (have lw0 : w.heap.size < w4.heap.size := HB0.out.lt); (have lw1 : w.heap.size + 1 < w4.heap.size := HB1.out.lt); (have lw2 : w.heap.size + 2 < w4.heap.size := HB2.out.lt); (have lw3 : w.heap.size + 3 < w4.heap.size := HB3.out.lt); (replace c2_0 := HB2.out.c0); (replace HC := Lib.hid (HC.out.ext hx)); have HO := Lib.hid (hown.up hup); clear hx hb hown hup) | (with_reducible refine at_list ?_; refine st_new rfl HO.out.at rfl rfl rfl rfl ?_; intro w5 hbox hx; have lq_0 := lw0; have lq_1 := lw1; have lq_2 := lw2; have lq_3 := lw3; (replace HX := Lib.hid (HX.out.trans hx)); (replace HB0 := Lib.hid (HB0.out.ext hx)); (replace HB1 := Lib.hid (HB1.out.ext hx)); (replace HB2 := Lib.hid (HB2.out.ext hx)); (replace HB3 := Lib.hid (HB3.out.ext hx)); (have lw0 : w.heap.size < w5.heap.size := HB0.out.lt); (have lw1 : w.heap.size + 1 < w5.heap.size := HB1.out.lt); (have lw2 : w.heap.size + 2 < w5.heap.size := HB2.out.lt); (have lw3 : w.heap.size + 3 < w5.heap.size := HB3.out.lt); (replace c2_0 := HB2.out.c0); (replace HO := Lib.hid (HO.out.ext hx)); (have lqc := HC.out.lt); (replace HC := Lib.hid (HC.out.ext hx)); have HP := Lib.hid hbox; clear hbox hx))
  obtain ⟨p, hp⟩ : ∃ q, q = w4.heap.size := ⟨_, rfl⟩
  rw [← hp] at HP ⊢
  have np0 : w.heap.size ≠ p := by rw [hp]; exact Nat.ne_of_lt lq_0
  have np1 : w.heap.size + 1 ≠ p := by rw [hp]; exact Nat.ne_of_lt lq_1
  have np2 : w.heap.size + 2 ≠ p := by rw [hp]; exact Nat.ne_of_lt lq_2
  have np3 : w.heap.size + 3 ≠ p := by rw [hp]; exact Nat.ne_of_lt lq_3
  have npc : c ≠ p := by rw [hp]; exact Nat.ne_of_lt lqc
  have bp : w.heap.size < p := by rw [hp]; exact lq_0
  clear hp lqc
  clear lq_0
  clear lq_1
  clear lq_2
  clear lq_3
  have cp_3 := HP.out.c3
  have zp_3 := HP.out.fz 3
  refine wp_region_held_drew (S := (fun w' => w'.cell? ⟨p, 3, none⟩ = some (.int .i64 0) ∧ BoxCr w' c)) (by kernel_rfl) (by exact ⟨cp_3, HC.out⟩) (fun hHeld => ?_)
  refine wpAnyH_take (i := 0) (v := ?v8) rfl (by kernel_rfl) (by kernel_rfl) (by kernel_rfl) (fun _ _ _ h => h) (Or.inl ⟨by rfl, ?y8⟩) (by assumption) ?r8
  case y8 => ((intro w hSw; (try dsimp only at hSw); go_simp; (first | done | with_reducible rfl)))
  (try simp only [List.getElem_toArray, List.getElem_cons_succ, List.getElem_cons_zero, Act.put, List.setIfInBounds_toArray, List.set_cons_zero, List.set_cons_succ])
  refine wpAnyH_take (i := 1) (v := ?v9) rfl (by kernel_rfl) (by kernel_rfl) (by kernel_rfl) (fun _ _ _ h => h) (Or.inl ⟨by rfl, ?y9⟩) (by assumption) ?r9
  case y9 => ((intro w hSw; (try dsimp only at hSw); go_simp; (first | done | with_reducible rfl)))
  (try simp only [List.getElem_toArray, List.getElem_cons_succ, List.getElem_cons_zero, Act.put, List.setIfInBounds_toArray, List.set_cons_zero, List.set_cons_succ])
  refine wpAnyH_take (i := 2) (v := .agg crdlC) rfl (by kernel_rfl) (by kernel_rfl) (by kernel_rfl) (fun _ _ _ h => h) (BoxCr.yields (fun _ h => h.2) (by rfl) rfl rfl) (by assumption) ?_
  (try simp only [List.getElem_toArray, List.getElem_cons_succ, List.getElem_cons_zero, Act.put, List.setIfInBounds_toArray, List.set_cons_zero, List.set_cons_succ])
  refine wpAnyH_ready (rs := [3]) (by kernel_rfl) (by simp) ?_
  refine AllReadyH.cons rfl (fun K hK => ?_) AllReadyH.nil
  go_simp
  (go_at_call 69; refine (total_cr _).mono ?_; rintro e w6 ⟨rfl, hb⟩; have hx : Ext w5 w6 := Ext.trans (by repeat (first | exact Ext.refl _ | refine Ext.drew ?_ | refine Ext.drewN ?_ _ | refine Ext.alloc ?_ _)) hb; (replace HX := Lib.hid (HX.out.trans hx)); (replace HB0 := Lib.hid (HB0.out.ext hx)); (replace HB1 := Lib.hid (HB1.out.ext hx)); (replace HB2 := Lib.hid (HB2.out.ext hx)); (replace HB3 := Lib.hid (HB3.out.ext hx)); (have lw0 : w.heap.size < w6.heap.size := HB0.out.lt); (have lw1 : w.heap.size + 1 < w6.heap.size := HB1.out.lt); (have lw2 : w.heap.size + 2 < w6.heap.size := HB2.out.lt); (have lw3 : w.heap.size + 3 < w6.heap.size := HB3.out.lt); (replace HP := Lib.hid (HP.out.ext hx)); (replace HO := Lib.hid (HO.out.ext hx)); (replace c2_0 := HB2.out.c0); (replace cp_3 := HP.out.c3); (replace zp_3 := HP.out.fz 3); (replace HC := Lib.hid (HC.out.ext hx)); clear hx hb)
  refine hK.out _ _ (by exact ⟨cp_3, HC.out⟩) (fun hHeld => ?_)
  clear hK K
  (try simp only [List.getElem_toArray, List.getElem_cons_succ, List.getElem_cons_zero, Act.put, List.setIfInBounds_toArray, List.set_cons_zero, List.set_cons_succ])
  refine wpAnyH_take (i := 4) (v := ?v12) rfl (by kernel_rfl) (by kernel_rfl) (by kernel_rfl) (fun _ _ _ h => h) (Or.inl ⟨by rfl, ?y12⟩) (by assumption) ?r12
  case y12 => ((intro w hSw; (try dsimp only at hSw); go_simp; (first | done | with_reducible rfl)))
  (try simp only [List.getElem_toArray, List.getElem_cons_succ, List.getElem_cons_zero, Act.put, List.setIfInBounds_toArray, List.set_cons_zero, List.set_cons_succ])
  refine wpAnyH_take (i := 5) (v := ?v13) rfl (by kernel_rfl) (by kernel_rfl) (by kernel_rfl) (fun _ _ _ h => h) (Or.inl ⟨by rfl, ?y13⟩) (by assumption) ?r13
  case y13 => ((intro w hSw; (try dsimp only at hSw); go_simp; (first | done | with_reducible rfl)))
  (try simp only [List.getElem_toArray, List.getElem_cons_succ, List.getElem_cons_zero, Act.put, List.setIfInBounds_toArray, List.set_cons_zero, List.set_cons_succ])
  refine wpAnyH_ready (rs := [6]) (by kernel_rfl) (by simp) ?_
  refine AllReadyH.cons rfl (fun K hK => ?_) AllReadyH.nil
  go_simp
  skip
  refine hK.out _ _ (by first | exact True.intro | (refine ⟨?_, ?_⟩ <;> first | exact HC.out.grown (grown_setCell _ _ _ _) npc | (simp [go_sem, *]; done))) (fun hHeld => ?_)
  clear hK K
  (try simp only [List.getElem_toArray, List.getElem_cons_succ, List.getElem_cons_zero, Act.put, List.setIfInBounds_toArray, List.set_cons_zero, List.set_cons_succ])
  refine wpAnyH_done (by kernel_rfl) ?_ _
  clear hHeld
  have q1 := HP.out.set3
  have g1 := grown_setCell w6 p 3 (.int .i64 0)
  have o1 := HO.out.kept HP.out.z g1
  have g := g1
  obtain ⟨w7, hw⟩ : ∃ W, W = (w6.setCell ⟨p, 3, none⟩ (.int .i64 0)) := ⟨_, rfl⟩
  rw [← hw] at q1 o1 g ⊢
  replace HX := Lib.hid (ext_grown HX.out g (fun k hk => by injection hk with hk; omega))
  replace HP := Lib.hid q1
  replace HO := Lib.hid o1
  replace HC := Lib.hid (HC.out.grown g npc)
  replace HB0 := Lib.hid (HB0.out.grown g np0)
  replace HB1 := Lib.hid (HB1.out.grown g np1)
  replace HB2 := Lib.hid (HB2.out.grown g np2)
  replace HB3 := Lib.hid (HB3.out.grown g np3)
  have lw0 : w.heap.size < w7.heap.size := HB0.out.lt
  have lw1 : w.heap.size + 1 < w7.heap.size := HB1.out.lt
  have lw2 : w.heap.size + 2 < w7.heap.size := HB2.out.lt
  have lw3 : w.heap.size + 3 < w7.heap.size := HB3.out.lt
  replace c2_0 := HB2.out.c0
  clear hw g g1  q1 o1
  clear cp_3 zp_3
  have cp_5 := HP.out.c5
  have cp_6 := HP.out.c6
  have cp_7 := HP.out.c7
  have cp_8 := HP.out.c8
  have zp_5 := HP.out.fz 5
  have zp_6 := HP.out.fz 6
  have zp_7 := HP.out.fz 7
  have zp_8 := HP.out.fz 8
  have cc_1 := HC.out.c1
  have cc_2 := HC.out.c2
  have cc_3 := HC.out.c3
  have cc_4 := HC.out.c4
  go_upto_region 11 with fail
  have q1 := HP.out.set5
  have g1 := grown_setCell w7 p 5 (.int .i64 0)
  have o1 := HO.out.kept HP.out.z g1
  have q2 := q1.set6
  have g2 := grown_setCell (w7.setCell ⟨p, 5, none⟩ (.int .i64 0)) p 6 (.int .i64 0)
  have o2 := o1.kept q1.z g2
  have q3 := q2.set7
  have g3 := grown_setCell ((w7.setCell ⟨p, 5, none⟩ (.int .i64 0)).setCell ⟨p, 6, none⟩ (.int .i64 0)) p 7 (.int .i64 0)
  have o3 := o2.kept q2.z g3
  have q4 := q3.set8
  have g4 := grown_setCell (((w7.setCell ⟨p, 5, none⟩ (.int .i64 0)).setCell ⟨p, 6, none⟩ (.int .i64 0)).setCell ⟨p, 7, none⟩ (.int .i64 0)) p 8 (.int .i64 0)
  have o4 := o3.kept q3.z g4
  have g := (((g1.trans g2).trans g3).trans g4)
  obtain ⟨w8, hw⟩ : ∃ W, W = ((((w7.setCell ⟨p, 5, none⟩ (.int .i64 0)).setCell ⟨p, 6, none⟩ (.int .i64 0)).setCell ⟨p, 7, none⟩ (.int .i64 0)).setCell ⟨p, 8, none⟩ (.int .i64 0)) := ⟨_, rfl⟩
  rw [← hw] at q4 o4 g ⊢
  replace HX := Lib.hid (ext_grown HX.out g (fun k hk => by injection hk with hk; omega))
  replace HP := Lib.hid q4
  replace HO := Lib.hid o4
  replace HC := Lib.hid (HC.out.grown g npc)
  replace HB0 := Lib.hid (HB0.out.grown g np0)
  replace HB1 := Lib.hid (HB1.out.grown g np1)
  replace HB2 := Lib.hid (HB2.out.grown g np2)
  replace HB3 := Lib.hid (HB3.out.grown g np3)
  have lw0 : w.heap.size < w8.heap.size := HB0.out.lt
  have lw1 : w.heap.size + 1 < w8.heap.size := HB1.out.lt
  have lw2 : w.heap.size + 2 < w8.heap.size := HB2.out.lt
  have lw3 : w.heap.size + 3 < w8.heap.size := HB3.out.lt
  replace c2_0 := HB2.out.c0
  clear hw g g1 g2 g3 g4 q1 o1 q2 o2 q3 o3 q4 o4
  clear cp_5 cp_6 cp_7 cp_8 zp_5 zp_6 zp_7 zp_8 cc_1 cc_2 cc_3 cc_4
  have cc_6 := HC.out.c6
  go_upto_region 13 with (first | (with_reducible refine at_list ?_; first | go_skip | refine HB0.out.step (by first | rfl | kernel_rfl) rfl rfl ?_ | refine HB1.out.step (by first | rfl | kernel_rfl) rfl rfl ?_ | refine HP.out.step (by first | rfl | kernel_rfl) rfl rfl ?_) | (go_at_call 70; refine (HS.out _ _ _ _ _ _ (HO.out.at.ext (by repeat (first | exact Ext.refl _ | refine Ext.drew ?_ | refine Ext.drewN ?_ _ | refine Ext.alloc ?_ _)))).mono ?_; rintro e w9 ⟨j0, j1, j2, j3, j4, rfl, hown, hb⟩; have hx : Ext w8 w9 := Ext.trans (by repeat (first | exact Ext.refl _ | refine Ext.drew ?_ | refine Ext.drewN ?_ _ | refine Ext.alloc ?_ _)) hb; have hup : w.heap.size ≤ w8.heap.size := Nat.le_of_lt lw0; (replace HX := Lib.hid (HX.out.trans hx)); (replace HB0 := Lib.hid (HB0.out.ext hx)); (replace HB1 := Lib.hid (HB1.out.ext hx)); (replace HB2 := Lib.hid (HB2.out.ext hx)); (replace HB3 := Lib.hid (HB3.out.ext hx)); (have lw0 : w.heap.size < w9.heap.size := HB0.out.lt); (have lw1 : w.heap.size + 1 < w9.heap.size := HB1.out.lt); (have lw2 : w.heap.size + 2 < w9.heap.size := HB2.out.lt); (have lw3 : w.heap.size + 3 < w9.heap.size := HB3.out.lt); (replace c2_0 := HB2.out.c0); (replace HP := Lib.hid (HP.out.ext hx)); (replace HC := Lib.hid (HC.out.ext hx)); replace HO := Lib.hid (hown.up hup); clear hx hb hown hup) | (with_reducible refine at_list ?_; refine st_old HP.out.z HO.out.at rfl rfl rfl rfl ?_; intro w10 hbox hg; replace HO := Lib.hid (HO.out.kept HP.out.z hg); replace HX := Lib.hid (ext_grown HX.out hg (fun k hk => by injection hk with hk; omega)); (replace HB0 := Lib.hid (HB0.out.grown hg np0)); (replace HB1 := Lib.hid (HB1.out.grown hg np1)); (replace HB2 := Lib.hid (HB2.out.grown hg np2)); (replace HB3 := Lib.hid (HB3.out.grown hg np3)); (replace HC := Lib.hid (HC.out.grown hg npc)); (have lw0 : w.heap.size < w10.heap.size := HB0.out.lt); (have lw1 : w.heap.size + 1 < w10.heap.size := HB1.out.lt); (have lw2 : w.heap.size + 2 < w10.heap.size := HB2.out.lt); (have lw3 : w.heap.size + 3 < w10.heap.size := HB3.out.lt); (replace c2_0 := HB2.out.c0); replace HP := Lib.hid hbox; clear hbox hg))
  go_upto_region 14 with (first | (with_reducible refine at_list ?_; first | go_skip | refine HB0.out.step (by first | rfl | kernel_rfl) rfl rfl ?_ | refine HB1.out.step (by first | rfl | kernel_rfl) rfl rfl ?_ | refine HP.out.step (by first | rfl | kernel_rfl) rfl rfl ?_) | (go_at_call 71; refine (change_any _ J j0 j1 j2 j3 j4 (HO.out.at.ext (by repeat (first | exact Ext.refl _ | refine Ext.drew ?_ | refine Ext.drewN ?_ _ | refine Ext.alloc ?_ _))) HJ.out).mono ?_; rintro e w11 ⟨i0, i1, i2, i3, i4, rfl, hown, hb⟩; have hx : Ext w10 w11 := Ext.trans (by repeat (first | exact Ext.refl _ | refine Ext.drew ?_ | refine Ext.drewN ?_ _ | refine Ext.alloc ?_ _)) hb; have hup : w.heap.size ≤ w10.heap.size := Nat.le_of_lt lw0; (replace HX := Lib.hid (HX.out.trans hx)); (replace HB0 := Lib.hid (HB0.out.ext hx)); (replace HB1 := Lib.hid (HB1.out.ext hx)); (replace HB2 := Lib.hid (HB2.out.ext hx)); (replace HB3 := Lib.hid (HB3.out.ext hx)); (have lw0 : w.heap.size < w11.heap.size := HB0.out.lt); (have lw1 : w.heap.size + 1 < w11.heap.size := HB1.out.lt); (have lw2 : w.heap.size + 2 < w11.heap.size := HB2.out.lt); (have lw3 : w.heap.size + 3 < w11.heap.size := HB3.out.lt); (replace c2_0 := HB2.out.c0); (replace HP := Lib.hid (HP.out.ext hx)); (replace HC := Lib.hid (HC.out.ext hx)); replace HO := Lib.hid (hown.up hup); clear hx hb hown hup) | (with_reducible refine at_list ?_; refine st_old HP.out.z HO.out.at rfl rfl rfl rfl ?_; intro w12 hbox hg; replace HO := Lib.hid (HO.out.kept HP.out.z hg); replace HX := Lib.hid (ext_grown HX.out hg (fun k hk => by injection hk with hk; omega)); (replace HB0 := Lib.hid (HB0.out.grown hg np0)); (replace HB1 := Lib.hid (HB1.out.grown hg np1)); (replace HB2 := Lib.hid (HB2.out.grown hg np2)); (replace HB3 := Lib.hid (HB3.out.grown hg np3)); (replace HC := Lib.hid (HC.out.grown hg npc)); (have lw0 : w.heap.size < w12.heap.size := HB0.out.lt); (have lw1 : w.heap.size + 1 < w12.heap.size := HB1.out.lt); (have lw2 : w.heap.size + 2 < w12.heap.size := HB2.out.lt); (have lw3 : w.heap.size + 3 < w12.heap.size := HB3.out.lt); (replace c2_0 := HB2.out.c0); replace HP := Lib.hid hbox; clear hbox hg))
  have cp_20 := HP.out.c20
  have zp_20 := HP.out.fz 20
  go_upto_region 18 with fail
  have q1 := HP.out.set20
  have g1 := grown_setCell w12 p 20 (.bool false)
  have o1 := HO.out.kept HP.out.z g1
  have g := g1
  obtain ⟨w13, hw⟩ : ∃ W, W = (w12.setCell ⟨p, 20, none⟩ (.bool false)) := ⟨_, rfl⟩
  rw [← hw] at q1 o1 g ⊢
  replace HX := Lib.hid (ext_grown HX.out g (fun k hk => by injection hk with hk; omega))
  replace HP := Lib.hid q1
  replace HO := Lib.hid o1
  replace HC := Lib.hid (HC.out.grown g npc)
  replace HB0 := Lib.hid (HB0.out.grown g np0)
  replace HB1 := Lib.hid (HB1.out.grown g np1)
  replace HB2 := Lib.hid (HB2.out.grown g np2)
  replace HB3 := Lib.hid (HB3.out.grown g np3)
  have lw0 : w.heap.size < w13.heap.size := HB0.out.lt
  have lw1 : w.heap.size + 1 < w13.heap.size := HB1.out.lt
  have lw2 : w.heap.size + 2 < w13.heap.size := HB2.out.lt
  have lw3 : w.heap.size + 3 < w13.heap.size := HB3.out.lt
  replace c2_0 := HB2.out.c0
  clear hw g g1  q1 o1
  go_wp2_with (first | (with_reducible refine at_list ?_; refine HP.out.step (by first | rfl | kernel_rfl) rfl rfl ?_) | (with_reducible refine at_list ?_; refine st_old HB3.out (show InAt w13 { J with s := J.o, o := J.s } i0 i1 i2 i3 i4 from ⟨HO.out.at.l0, HO.out.at.l1, HO.out.at.l2, HO.out.at.l3, HO.out.at.l4, HO.out.at.n1⟩) rfl rfl rfl rfl ?_; intro w14 hbox hg; have HR := Lib.hid hbox; replace HO := Lib.hid (HO.out.kept HB3.out hg); replace HX := Lib.hid (ext_grown HX.out hg (fun k hk => by injection hk with hk; omega)); clear hbox hg))
  (try simp only [Exit.inBlock, Exit.then])
  refine BoxI.ret rfl HR.out rfl rfl ?_
  have hA := HO.out
  exact ⟨_, _, _, _, _, rfl, ⟨hA.l0, hA.l1, hA.l2, hA.l3, hA.l4, hA.n1, hA.d1, hA.d2⟩, HX.out⟩

end Go.Proofs.Ytpeabgfolpgfjaa

/-
  Open and review.
-/
import Derived.Test.YtpeabgfolpgfjaaRvJ
import Derived.Test.YtpeabgfolpgfjaaRvE
import Derived.Test.YtpeabgfolpgfjaaRvG
import Derived.Test.YtpeabgfolpgfjaaRvC
namespace Go.Proofs.Ytpeabgfolpgfjaa
open Go.RowKit Go.Lib
set_option linter.unusedSimpArgs false

theorem own_blk {w : World} {base : Nat} {e : TypeId} {g n cap : Nat} {xs : List Value} (h : w.ownsRow base e 1 (.slice (some ⟨g, 0, none⟩) n cap) n xs) : ∃ cur, w.heap[g]? = some (.cells cur e (0, 0)) := by
  rcases h.2 with ⟨h', _⟩ | ⟨g', cap', cur, h', _, hg, _⟩
  · simp at h'
  · simp only [Value.slice.injEq, Option.some.injEq, Addr.mk.injEq, and_true, true_and] at h'
    obtain ⟨rfl, rfl⟩ := h'
    exact ⟨cur, hg⟩
theorem own_far {w w' : World} {base : Nat} {e e' : TypeId} {v : Value} {n g : Nat} {xs : List Value} {cur : Array Value} (h : w.ownsRow base e 1 v n xs) (hg : w.heap[g]? = some (.cells cur e' (0, 0))) (hne : e ≠ e') (gr : w.grownBy w' (some g)) : w'.ownsRow base e 1 v n xs := h.kept gr (own_ne_blk h hg hne)
theorem blk_ne {w : World} {g b : Nat} {c c' : Array Value} {e e' : TypeId} {m m' : Nat × Nat} (h : w.heap[g]? = some (.cells c e m)) (h' : w.heap[b]? = some (.cells c' e' m')) (hne : e ≠ e') : b ≠ g := by
  rintro rfl
  rw [h] at h'
  injection h' with h'
  injection h' with _ h' _
  exact hne h'

set_option maxHeartbeats 8000000 in
theorem open_any (w : World) (I : In) (h0 h1 h2 h3 h4 : Value) (hA : InAt w I h0 h1 h2 h3 h4) (hI : I.Ok) (hb : I.bat = [.int .u8 0, .int .u8 0, .int .u8 0]) : Calls Try.prog 35 #[.agg (inC I h0 h1 h2 h3 h4), .int .i64 1, .int .i64 2] w fun e w' => ∃ k0 k1 k2 k3 k4, e = .returned (.tuple #[.agg (inC { I with s := 1, o := 2, bat := [.int .u8 1, .int .u8 1, .int .u8 0] } k0 k1 k2 k3 k4), .int .i64 0]) ∧ InOwn w.heap.size w' { I with s := 1, o := 2, bat := [.int .u8 1, .int .u8 1, .int .u8 0] } k0 k1 k2 k3 k4 ∧ Ext w w' := by
  have L := Lib.hid hA
  have HI := Lib.hid hI
  have HBT := Lib.hid hb
  clear hA hI hb
  go_enter Try.func35, Try.ntmps35
  go_upto_region 1 with fail
  obtain ⟨w0, hw0⟩ : ∃ W, W = ((w.alloc (.cells (inC I h0 h1 h2 h3 h4) 34)).alloc (.cells #[.int .i64 0, .int .i64 0, .int .i64 0, .int .i64 0, .int .i64 0, .int .i64 0, .int .i64 0, .int .i64 0, .int .i64 0, .int .i64 0, .int .i64 0, .int .i64 0, .int .i64 0, .int .i64 0, .slice none 0 0, .int .i64 0, .slice none 0 0, .slice none 0 0, .bool false, .slice none 0 0, .bool false, .int .i64 0, .int .i64 0, .int .i64 0, .slice none 0 0, .int .i64 0, .int .i64 0, .int .u8 0] 34)) := ⟨_, rfl⟩
  have HX := Lib.hid (show Ext w w0 by rw [hw0]; exact (by repeat (first | exact Ext.refl _ | refine Ext.drew ?_ | refine Ext.drewN ?_ _ | refine Ext.alloc ?_ _)))
  have HB0 := Lib.hid (show BoxI w0 (w.heap.size) I h0 h1 h2 h3 h4 by rw [hw0]; exact (BoxI.ext (show BoxI _ (w.heap.size) I h0 h1 h2 h3 h4 from (by have := boxI_new w I h0 h1 h2 h3 h4; simpa using this)) (by repeat (first | exact Ext.refl _ | refine Ext.drew ?_ | refine Ext.drewN ?_ _ | refine Ext.alloc ?_ _))))
  have HB1 := Lib.hid (show BoxZ w0 (w.heap.size + 1)  by rw [hw0]; exact (BoxZ.ext (show BoxZ _ (w.heap.size + 1)  from (by have := boxZ_new (w.alloc (.cells (inC I h0 h1 h2 h3 h4) 34)) ; simpa using this)) (by repeat (first | exact Ext.refl _ | refine Ext.drew ?_ | refine Ext.drewN ?_ _ | refine Ext.alloc ?_ _))))
  have lw0 : w.heap.size < w0.heap.size := HB0.out.lt
  have lw1 : w.heap.size + 1 < w0.heap.size := HB1.out.lt
  rw [← hw0]
  clear hw0
  go_upto_region 2 with (first | (with_reducible refine at_list ?_; first | go_skip | refine HB0.out.step (by first | rfl | kernel_rfl) rfl rfl ?_) | (go_at_call 61; refine (cown _ I h0 h1 h2 h3 h4 HI.out.good (L.out.ext (by repeat (first | exact HX.out | refine Ext.drew ?_ | refine Ext.drewN ?_ _ | refine Ext.alloc ?_ _)))).mono ?_; rintro e w1 ⟨k0, k1, k2, k3, k4, rfl, hown, hb⟩; have hup := Nat.le_of_lt lw0; have hx : Ext w0 w1 := Ext.trans (by repeat (first | exact Ext.refl _ | refine Ext.drew ?_ | refine Ext.drewN ?_ _ | refine Ext.alloc ?_ _)) hb; (replace HX := Lib.hid (HX.out.trans hx)); (replace HB0 := Lib.hid (HB0.out.ext hx)); (replace HB1 := Lib.hid (HB1.out.ext hx)); (have lw0 : w.heap.size < w1.heap.size := HB0.out.lt); (have lw1 : w.heap.size + 1 < w1.heap.size := HB1.out.lt); have HO := Lib.hid (hown.up hup); clear hx hb hown) | (with_reducible refine at_list ?_; refine st_new rfl HO.out.at rfl rfl rfl rfl ?_; intro w2 hbox hx; have lw1_0 := lw0; have lw1_1 := lw1; (replace HX := Lib.hid (HX.out.trans hx)); (replace HB0 := Lib.hid (HB0.out.ext hx)); (replace HB1 := Lib.hid (HB1.out.ext hx)); (have lw0 : w.heap.size < w2.heap.size := HB0.out.lt); (have lw1 : w.heap.size + 1 < w2.heap.size := HB1.out.lt); have HP := Lib.hid hbox; replace HO := Lib.hid (HO.out.ext hx); clear hx hbox))
  obtain ⟨p, hp⟩ : ∃ q, q = w1.heap.size := ⟨_, rfl⟩
  rw [← hp] at HP ⊢
  have np0 : w.heap.size ≠ p := by rw [hp]; exact Nat.ne_of_lt lw1_0
  have np1 : w.heap.size + 1 ≠ p := by rw [hp]; exact Nat.ne_of_lt lw1_1
  have lp : p < w2.heap.size := HP.out.lt
  have bp : w.heap.size < p := by rw [hp]; exact lw1_0
  clear hp
  clear lw1_0
  clear lw1_1
  go_upto_region 8 with (first | (with_reducible refine at_list ?_; first | go_skip | refine HB0.out.step (by first | rfl | kernel_rfl) rfl rfl ?_) | ((fail_if_success (have hzz := hk3)); go_at_call 62; refine (cbegun_no _ I h0 h1 h2 h3 h4 (L.out.ext (by repeat (first | exact HX.out | refine Ext.drew ?_ | refine Ext.drewN ?_ _ | refine Ext.alloc ?_ _))) HBT.out).mono ?_; rintro e w3 ⟨rfl, hb⟩; (have hx : Ext w2 w3 := Ext.trans (by repeat (first | exact Ext.refl _ | refine Ext.drew ?_ | refine Ext.drewN ?_ _ | refine Ext.alloc ?_ _)) hb); (replace HX := Lib.hid (HX.out.trans hx)); (replace HB0 := Lib.hid (HB0.out.ext hx)); (replace HB1 := Lib.hid (HB1.out.ext hx)); (have lw0 : w.heap.size < w3.heap.size := HB0.out.lt); (have lw1 : w.heap.size + 1 < w3.heap.size := HB1.out.lt); (replace HP := Lib.hid (HP.out.ext hx)); (replace HO := Lib.hid (HO.out.ext hx)); (have hk3 : True := trivial); (clear hx hb)) | ((fail_if_success (have hzz := hk4)); go_at_call 63; refine (cknown_yes _ I h0 h1 h2 h3 h4 (L.out.ext (by repeat (first | exact HX.out | refine Ext.drew ?_ | refine Ext.drewN ?_ _ | refine Ext.alloc ?_ _))) HI.out.batl _ (by decide)).mono ?_; rintro e w4 ⟨rfl, hb⟩; (have hx : Ext w3 w4 := Ext.trans (by repeat (first | exact Ext.refl _ | refine Ext.drew ?_ | refine Ext.drewN ?_ _ | refine Ext.alloc ?_ _)) hb); (replace HX := Lib.hid (HX.out.trans hx)); (replace HB0 := Lib.hid (HB0.out.ext hx)); (replace HB1 := Lib.hid (HB1.out.ext hx)); (have lw0 : w.heap.size < w4.heap.size := HB0.out.lt); (have lw1 : w.heap.size + 1 < w4.heap.size := HB1.out.lt); (replace HP := Lib.hid (HP.out.ext hx)); (replace HO := Lib.hid (HO.out.ext hx)); (have hk4 : True := trivial); (clear hx hb)) | ((fail_if_success (have hzz := hk5)); go_at_call 63; refine (cknown_yes _ I h0 h1 h2 h3 h4 (L.out.ext (by repeat (first | exact HX.out | refine Ext.drew ?_ | refine Ext.drewN ?_ _ | refine Ext.alloc ?_ _))) HI.out.batl _ (by decide)).mono ?_; rintro e w5 ⟨rfl, hb⟩; (have hx : Ext w4 w5 := Ext.trans (by repeat (first | exact Ext.refl _ | refine Ext.drew ?_ | refine Ext.drewN ?_ _ | refine Ext.alloc ?_ _)) hb); (replace HX := Lib.hid (HX.out.trans hx)); (replace HB0 := Lib.hid (HB0.out.ext hx)); (replace HB1 := Lib.hid (HB1.out.ext hx)); (have lw0 : w.heap.size < w5.heap.size := HB0.out.lt); (have lw1 : w.heap.size + 1 < w5.heap.size := HB1.out.lt); (replace HP := Lib.hid (HP.out.ext hx)); (replace HO := Lib.hid (HO.out.ext hx)); (have hk5 : True := trivial); (clear hx hb)))
  have o0 := HO.out.l0
  rw [HBT.out] at o0
  obtain ⟨g, cap, rfl, hgb, hgl⟩ := own_form o0 (by decide)
  simp only [List.length_cons, List.length_nil, Nat.zero_add, Nat.reduceAdd] at o0 HO HP ⊢
  obtain ⟨cur, hcur⟩ := own_blk o0
  have ngp := blk_ne hcur HP.out (by decide)
  have ng0 := blk_ne hcur HB0.out (by decide)
  have ng1 : w.heap.size + 1 ≠ g := by obtain ⟨c, _, hc⟩ := HB1.out; exact blk_ne hcur hc (by decide)
  have cp_14 := HP.out.c14
  have q0 := o0.cellAt 0 (by decide)
  have q1 := o0.cellAt 1 (by decide)
  have z0 := o0.frozenAt 0
  have z1 := o0.frozenAt 1
  simp only [List.getElem?_cons_zero, List.getElem?_cons_succ] at q0 q1
  have ew0 : IntKind.i64.wrap 0 = 0 := by decide
  have ew1 : IntKind.i64.wrap 1 = 1 := by decide
  refine wp_region_held_drew (S := (fun w' => w'.cell? ⟨p, 14, none⟩ = some (.slice (some ⟨g, 0, none⟩) 3 cap))) (by kernel_rfl) (by first | exact cp_14 | (simp [go_sem, *]; done)) (fun hHeld => ?_)
  refine wpAnyH_take (i := 0) (v := ?v1) rfl (by kernel_rfl) (by kernel_rfl) (by kernel_rfl) (fun _ _ _ h => h) (Or.inl ⟨by rfl, ?y1⟩) (by assumption) ?r1
  case y1 => ((intro w hSw; (try dsimp only at hSw); go_simp; (first | done | with_reducible rfl)))
  (try simp only [List.getElem_toArray, List.getElem_cons_succ, List.getElem_cons_zero, Act.put, List.setIfInBounds_toArray, List.set_cons_zero, List.set_cons_succ])
  refine wpAnyH_take (i := 1) (v := ?v2) rfl (by kernel_rfl) (by kernel_rfl) (by kernel_rfl) (fun _ _ _ h => h) (Or.inl ⟨by rfl, ?y2⟩) (by assumption) ?r2
  case y2 => ((intro w hSw; (try dsimp only at hSw); go_simp; (first | done | with_reducible rfl)))
  (try simp only [List.getElem_toArray, List.getElem_cons_succ, List.getElem_cons_zero, Act.put, List.setIfInBounds_toArray, List.set_cons_zero, List.set_cons_succ])
  refine wpAnyH_take (i := 2) (v := ?v3) rfl (by kernel_rfl) (by kernel_rfl) (by kernel_rfl) (fun _ _ _ h => h) (Or.inl ⟨by rfl, ?y3⟩) (by assumption) ?r3
  case y3 => ((intro w hSw; (try dsimp only at hSw); go_simp; (first | done | with_reducible rfl)))
  (try simp only [List.getElem_toArray, List.getElem_cons_succ, List.getElem_cons_zero, Act.put, List.setIfInBounds_toArray, List.set_cons_zero, List.set_cons_succ])
  refine wpAnyH_take (i := 3) (v := ?v4) rfl (by kernel_rfl) (by kernel_rfl) (by kernel_rfl) (fun _ _ _ h => h) (Or.inl ⟨by rfl, ?y4⟩) (by assumption) ?r4
  case y4 => ((intro w hSw; (try dsimp only at hSw); go_simp; (first | done | with_reducible rfl)))
  (try simp only [List.getElem_toArray, List.getElem_cons_succ, List.getElem_cons_zero, Act.put, List.setIfInBounds_toArray, List.set_cons_zero, List.set_cons_succ])
  refine wpAnyH_take (i := 4) (v := ?v5) rfl (by kernel_rfl) (by kernel_rfl) (by kernel_rfl) (fun _ _ _ h => h) (Or.inl ⟨by rfl, ?y5⟩) (by assumption) ?r5
  case y5 => ((intro w hSw; (try dsimp only at hSw); go_simp; (first | done | with_reducible rfl)))
  (try simp only [List.getElem_toArray, List.getElem_cons_succ, List.getElem_cons_zero, Act.put, List.setIfInBounds_toArray, List.set_cons_zero, List.set_cons_succ])
  refine wpAnyH_take (i := 5) (v := ?v6) rfl (by kernel_rfl) (by kernel_rfl) (by kernel_rfl) (fun _ _ _ h => h) (Or.inl ⟨by rfl, ?y6⟩) (by assumption) ?r6
  case y6 => ((intro w hSw; (try dsimp only at hSw); go_simp; (first | done | with_reducible rfl)))
  (try simp only [List.getElem_toArray, List.getElem_cons_succ, List.getElem_cons_zero, Act.put, List.setIfInBounds_toArray, List.set_cons_zero, List.set_cons_succ])
  refine wpAnyH_take (i := 6) (v := ?v7) rfl (by kernel_rfl) (by kernel_rfl) (by kernel_rfl) (fun _ _ _ h => h) (Or.inl ⟨by rfl, ?y7⟩) (by assumption) ?r7
  case y7 => ((intro w hSw; (try dsimp only at hSw); go_simp; (first | done | with_reducible rfl)))
  (try simp only [List.getElem_toArray, List.getElem_cons_succ, List.getElem_cons_zero, Act.put, List.setIfInBounds_toArray, List.set_cons_zero, List.set_cons_succ])
  refine wpAnyH_take (i := 7) (v := ?v8) rfl (by kernel_rfl) (by kernel_rfl) (by kernel_rfl) (fun _ _ _ h => h) (Or.inl ⟨by rfl, ?y8⟩) (by assumption) ?r8
  case y8 => ((intro w hSw; (try dsimp only at hSw); go_simp; (first | done | with_reducible rfl)))
  (try simp only [List.getElem_toArray, List.getElem_cons_succ, List.getElem_cons_zero, Act.put, List.setIfInBounds_toArray, List.set_cons_zero, List.set_cons_succ])
  refine wpAnyH_take (i := 8) (v := ?v9) rfl (by kernel_rfl) (by kernel_rfl) (by kernel_rfl) (fun _ _ _ h => h) (Or.inl ⟨by rfl, ?y9⟩) (by assumption) ?r9
  case y9 => ((intro w hSw; (try dsimp only at hSw); go_simp; (first | done | with_reducible rfl)))
  (try simp only [List.getElem_toArray, List.getElem_cons_succ, List.getElem_cons_zero, Act.put, List.setIfInBounds_toArray, List.set_cons_zero, List.set_cons_succ])
  refine wpAnyH_ready (rs := [9]) (by kernel_rfl) (by simp) ?_
  refine AllReadyH.cons rfl (fun K hK => ?_) AllReadyH.nil
  go_simp
  skip
  refine hK.out _ _ (by first | exact cp_14 | (simp [go_sem, *]; done)) (fun hHeld => ?_)
  clear hK K
  (try simp only [List.getElem_toArray, List.getElem_cons_succ, List.getElem_cons_zero, Act.put, List.setIfInBounds_toArray, List.set_cons_zero, List.set_cons_succ])
  refine wpAnyH_take (i := 10) (v := ?v11) rfl (by kernel_rfl) (by kernel_rfl) (by kernel_rfl) (fun _ _ _ h => h) (Or.inl ⟨by rfl, ?y11⟩) (by assumption) ?r11
  case y11 => ((intro w hSw; (try dsimp only at hSw); go_simp; (first | done | with_reducible rfl)))
  (try simp only [List.getElem_toArray, List.getElem_cons_succ, List.getElem_cons_zero, Act.put, List.setIfInBounds_toArray, List.set_cons_zero, List.set_cons_succ])
  refine wpAnyH_ready (rs := [11]) (by kernel_rfl) (by simp) ?_
  refine AllReadyH.cons rfl (fun K hK => ?_) AllReadyH.nil
  go_simp
  skip
  refine hK.out _ _ (by first | exact cp_14 | (simp [go_sem, *]; done)) (fun hHeld => ?_)
  clear hK K
  (try simp only [List.getElem_toArray, List.getElem_cons_succ, List.getElem_cons_zero, Act.put, List.setIfInBounds_toArray, List.set_cons_zero, List.set_cons_succ])
  refine wpAnyH_done (by kernel_rfl) ?_ _
  clear hHeld
  obtain ⟨s1, g1⟩ := o0.stored 0 (.int .u8 1)
  obtain ⟨s2, g2⟩ := s1.stored 1 (.int .u8 1)
  have gg : w5.grownBy (((w5.setCell ⟨g, 0, none⟩ (.int .u8 1)).setCell ⟨g, 1, none⟩ (.int .u8 1)).drew) (some g) := ⟨(g1.trans g2).os, (g1.trans g2).tape, (g1.trans g2).output, (g1.trans g2).size, (g1.trans g2).block⟩
  have s3 : (((w5.setCell ⟨g, 0, none⟩ (.int .u8 1)).setCell ⟨g, 1, none⟩ (.int .u8 1)).drew).ownsRow w.heap.size 92 1 (.slice (some ⟨g, 0, none⟩) 3 cap) 3 [.int .u8 1, .int .u8 1, .int .u8 0] := s2
  obtain ⟨w6, hw⟩ : ∃ W, W = ((w5.setCell ⟨g, 0, none⟩ (.int .u8 1)).setCell ⟨g, 1, none⟩ (.int .u8 1)).drew := ⟨_, rfl⟩
  rw [← hw] at gg s3 ⊢
  have hO := HO.out
  replace HO : Hid (InOwn w.heap.size w6 { I with bat := [.int .u8 1, .int .u8 1, .int .u8 0] } (.slice (some ⟨g, 0, none⟩) 3 cap) k1 k2 k3 k4) := Lib.hid ⟨s3, own_far hO.l1 hcur (by decide) gg, own_far hO.l2 hcur (by decide) gg, own_far hO.l3 hcur (by decide) gg, own_far hO.l4 hcur (by decide) gg, hO.n1, hO.d1, hO.d2⟩
  replace HX := Lib.hid (ext_grown HX.out gg (fun k hk => by injection hk with hk; omega))
  replace HP := Lib.hid ((HP.out.grown gg ngp).as_bat [.int .u8 1, .int .u8 1, .int .u8 0])
  replace HB0 := Lib.hid (HB0.out.grown gg ng0)
  replace HB1 := Lib.hid (HB1.out.grown gg ng1)
  have lw0 : w.heap.size < w6.heap.size := HB0.out.lt
  have lw1 : w.heap.size + 1 < w6.heap.size := HB1.out.lt
  clear hw gg g1 g2 s1 s2 s3 o0 hO hcur cp_14
  have cp_12 := HP.out.c12
  have cp_13 := HP.out.c13
  have zp_12 := HP.out.fz 12
  have zp_13 := HP.out.fz 13
  go_upto_region 10 with fail
  have q1 := HP.out.set12 1
  have g1 := grown_setCell w6 p 12 (.int .i64 1)
  have o1 := HO.out.kept HP.out.z g1
  have q2 := q1.set13 2
  have g2 := grown_setCell (w6.setCell ⟨p, 12, none⟩ (.int .i64 1)) p 13 (.int .i64 2)
  have o2 := o1.kept q1.z g2
  have g := (g1.trans g2)
  obtain ⟨w7, hw⟩ : ∃ W, W = ((w6.setCell ⟨p, 12, none⟩ (.int .i64 1)).setCell ⟨p, 13, none⟩ (.int .i64 2)) := ⟨_, rfl⟩
  rw [← hw] at q2 o2 g ⊢
  replace HX := Lib.hid (ext_grown HX.out g (fun k hk => by injection hk with hk; omega))
  replace HP := Lib.hid q2
  replace HO := Lib.hid o2
  replace HB0 := Lib.hid (HB0.out.grown g np0)
  replace HB1 := Lib.hid (HB1.out.grown g np1)
  have lw0 : w.heap.size < w7.heap.size := HB0.out.lt
  have lw1 : w.heap.size + 1 < w7.heap.size := HB1.out.lt
  clear hw g g1 g2 q1 o1 q2 o2
  go_wp2_with (first | (with_reducible refine at_list ?_; refine HP.out.step (by first | rfl | kernel_rfl) rfl rfl ?_) | (with_reducible refine at_list ?_; refine st_old HB1.out (show InAt w7 { I with s := 1, o := 2, bat := [.int .u8 1, .int .u8 1, .int .u8 0] } (.slice (some ⟨g, 0, none⟩) 3 cap) k1 k2 k3 k4 from ⟨HO.out.at.l0, HO.out.at.l1, HO.out.at.l2, HO.out.at.l3, HO.out.at.l4, HO.out.at.n1⟩) rfl rfl rfl rfl ?_; intro w8 hbox hg; have HR := Lib.hid hbox; replace HO := Lib.hid (HO.out.kept HB1.out hg); replace HX := Lib.hid (ext_grown HX.out hg (fun k hk => by injection hk with hk; omega)); clear hbox hg))
  (try simp only [Exit.inBlock, Exit.then])
  refine BoxI.ret rfl HR.out rfl rfl ?_
  have hA := HO.out
  exact ⟨_, _, _, _, _, rfl, ⟨hA.l0, hA.l1, hA.l2, hA.l3, hA.l4, hA.n1, hA.d1, hA.d2⟩, HX.out⟩

end Go.Proofs.Ytpeabgfolpgfjaa

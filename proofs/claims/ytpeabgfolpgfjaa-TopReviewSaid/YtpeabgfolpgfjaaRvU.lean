/-
  What the walk of the law needs.
-/
import Derived.Test.YtpeabgfolpgfjaaRvT
import Derived.Test.YtpeabgfolpgfjaaRevB
namespace Go.Proofs.Ytpeabgfolpgfjaa
open Go.RowKit Go.Lib
set_option linter.unusedSimpArgs false

set_option maxHeartbeats 8000000 in
theorem step_ref2 (w : World) (n : Int) (hn : 0 ≤ n ∧ n ≤ 9) (k sd p o : Int) (y : Bool) (ty : Int) (e1 : (k == 1) = false) (e12 : (k == 12) = false) (e16 : (k == 16) = false) (I J : In) (h0 h1 h2 h3 h4 : Value) (hA : InAt w I h0 h1 h2 h3 h4) (hI : I.Ok) (hbat : I.bat = [.int .u8 1, .int .u8 1, .int .u8 0]) (l : Int) (hl : (l != 0) = true)
    (he : ∀ W, Calls Try.prog 16 #[.agg (evC k sd p o y ty)] W fun e w' => e = .returned (.int .i64 0) ∧ Ext W w')
    (hp : ∀ W, Ext w W → Calls Try.prog 19 #[.agg (rvC n), .agg (inC I h0 h1 h2 h3 h4), .agg (evC k sd p o y ty)] W fun e w' => ∃ k0 k1 k2 k3 k4, e = .returned (.tuple #[.agg (inC J k0 k1 k2 k3 k4), .int .i64 l]) ∧ InOwn W.heap.size w' J k0 k1 k2 k3 k4 ∧ Ext W w') :
    Calls Try.prog 7 #[.agg (rvC n), .agg (inC I h0 h1 h2 h3 h4), .agg (evC k sd p o y ty)] w fun e w' => ∃ k0 k1 k2 k3 k4, e = .returned (.tuple #[.agg (inC I k0 k1 k2 k3 k4), .int .i64 l]) ∧ InOwn w.heap.size w' I k0 k1 k2 k3 k4 ∧ Ext w w' := by
  have L := Lib.hid hA
  have HI := Lib.hid hI
  have HN := Lib.hid hn
  have HB := Lib.hid hbat
  have HE := Lib.hid he
  have HPF := Lib.hid hp
  clear hA hI hn hbat he hp
  go_enter Try.func7, Try.ntmps7
  go_upto_region 1 with fail
  obtain ⟨w0, hw0⟩ : ∃ W, W = ((((w.alloc (.cells (rvC n) 25)).alloc (.cells (inC I h0 h1 h2 h3 h4) 34)).alloc (.cells (evC k sd p o y ty) 55)).alloc (.cells #[.int .i64 0, .int .i64 0, .int .i64 0, .int .i64 0, .int .i64 0, .int .i64 0, .int .i64 0, .int .i64 0, .int .i64 0, .int .i64 0, .int .i64 0, .int .i64 0, .int .i64 0, .int .i64 0, .slice none 0 0, .int .i64 0, .slice none 0 0, .slice none 0 0, .bool false, .slice none 0 0, .bool false, .int .i64 0, .int .i64 0, .int .i64 0, .slice none 0 0, .int .i64 0, .int .i64 0, .int .u8 0] 34)) := ⟨_, rfl⟩
  have HX := Lib.hid (show Ext w w0 by rw [hw0]; exact (by repeat (first | exact Ext.refl _ | refine Ext.drew ?_ | refine Ext.drewN ?_ _ | refine Ext.alloc ?_ _)))
  have HB0 := Lib.hid (show BoxR w0 (w.heap.size) n by rw [hw0]; exact (BoxR.ext (show BoxR _ (w.heap.size) n from (by have := boxR_new w n; simpa using this)) (by repeat (first | exact Ext.refl _ | refine Ext.drew ?_ | refine Ext.drewN ?_ _ | refine Ext.alloc ?_ _))))
  have HB1 := Lib.hid (show BoxI w0 (w.heap.size + 1) I h0 h1 h2 h3 h4 by rw [hw0]; exact (BoxI.ext (show BoxI _ (w.heap.size + 1) I h0 h1 h2 h3 h4 from (by have := boxI_new (w.alloc (.cells (rvC n) 25)) I h0 h1 h2 h3 h4; simpa using this)) (by repeat (first | exact Ext.refl _ | refine Ext.drew ?_ | refine Ext.drewN ?_ _ | refine Ext.alloc ?_ _))))
  have HB2 := Lib.hid (show BoxE w0 (w.heap.size + 2) k sd p o y ty by rw [hw0]; exact (BoxE.ext (show BoxE _ (w.heap.size + 2) k sd p o y ty from (by have := boxE_new ((w.alloc (.cells (rvC n) 25)).alloc (.cells (inC I h0 h1 h2 h3 h4) 34)) k sd p o y ty; simpa using this)) (by repeat (first | exact Ext.refl _ | refine Ext.drew ?_ | refine Ext.drewN ?_ _ | refine Ext.alloc ?_ _))))
  have HB3 := Lib.hid (show BoxZ w0 (w.heap.size + 3)  by rw [hw0]; exact (BoxZ.ext (show BoxZ _ (w.heap.size + 3)  from (by have := boxZ_new (((w.alloc (.cells (rvC n) 25)).alloc (.cells (inC I h0 h1 h2 h3 h4) 34)).alloc (.cells (evC k sd p o y ty) 55)) ; simpa using this)) (by repeat (first | exact Ext.refl _ | refine Ext.drew ?_ | refine Ext.drewN ?_ _ | refine Ext.alloc ?_ _))))
  have lw0 : w.heap.size < w0.heap.size := HB0.out.lt
  have lw1 : w.heap.size + 1 < w0.heap.size := HB1.out.lt
  have lw2 : w.heap.size + 2 < w0.heap.size := HB2.out.lt
  have lw3 : w.heap.size + 3 < w0.heap.size := HB3.out.lt
  have c1_27 := HB1.out.c27
  have c2_0 := HB2.out.c0
  rw [← hw0]
  clear hw0
  go_upto_region 7 with (first | (with_reducible refine at_list ?_; first | go_skip | refine HB0.out.step (by first | rfl | kernel_rfl) rfl rfl ?_ | refine HB1.out.step (by first | rfl | kernel_rfl) rfl rfl ?_ | refine HB2.out.step (by first | rfl | kernel_rfl) rfl rfl ?_) | ((fail_if_success (have hzz := hk1)); go_at_call 15; refine (valid_any _ n HN.out I h0 h1 h2 h3 h4 (L.out.ext (by repeat (first | exact HX.out | refine Ext.drew ?_ | refine Ext.drewN ?_ _ | refine Ext.alloc ?_ _))) HI.out).mono ?_; rintro e w1 ⟨rfl, hb⟩; (have hx : Ext w0 w1 := Ext.trans (by repeat (first | exact Ext.refl _ | refine Ext.drew ?_ | refine Ext.drewN ?_ _ | refine Ext.alloc ?_ _)) hb); (replace HX := Lib.hid (HX.out.trans hx)); (replace HB0 := Lib.hid (HB0.out.ext hx)); (replace HB1 := Lib.hid (HB1.out.ext hx)); (replace HB2 := Lib.hid (HB2.out.ext hx)); (replace HB3 := Lib.hid (HB3.out.ext hx)); (have lw0 : w.heap.size < w1.heap.size := HB0.out.lt); (have lw1 : w.heap.size + 1 < w1.heap.size := HB1.out.lt); (have lw2 : w.heap.size + 2 < w1.heap.size := HB2.out.lt); (have lw3 : w.heap.size + 3 < w1.heap.size := HB3.out.lt); (replace c1_27 := HB1.out.c27); (replace c2_0 := HB2.out.c0); (have hk1 : True := trivial); (clear hx hb)) | ((fail_if_success (have hzz := hk2)); go_at_call 16; refine (HE.out _).mono ?_; rintro e w2 ⟨rfl, hb⟩; (have hx : Ext w1 w2 := Ext.trans (by repeat (first | exact Ext.refl _ | refine Ext.drew ?_ | refine Ext.drewN ?_ _ | refine Ext.alloc ?_ _)) hb); (replace HX := Lib.hid (HX.out.trans hx)); (replace HB0 := Lib.hid (HB0.out.ext hx)); (replace HB1 := Lib.hid (HB1.out.ext hx)); (replace HB2 := Lib.hid (HB2.out.ext hx)); (replace HB3 := Lib.hid (HB3.out.ext hx)); (have lw0 : w.heap.size < w2.heap.size := HB0.out.lt); (have lw1 : w.heap.size + 1 < w2.heap.size := HB1.out.lt); (have lw2 : w.heap.size + 2 < w2.heap.size := HB2.out.lt); (have lw3 : w.heap.size + 3 < w2.heap.size := HB3.out.lt); (replace c1_27 := HB1.out.c27); (replace c2_0 := HB2.out.c0); (have hk2 : True := trivial); (clear hx hb)) | ((fail_if_success (have hzz := hk3)); go_at_call 18; refine (ibegun_yes _ I h0 h1 h2 h3 h4 (L.out.ext (by repeat (first | exact HX.out | refine Ext.drew ?_ | refine Ext.drewN ?_ _ | refine Ext.alloc ?_ _))) HB.out).mono ?_; rintro e w3 ⟨rfl, hb⟩; (have hx : Ext w2 w3 := Ext.trans (by repeat (first | exact Ext.refl _ | refine Ext.drew ?_ | refine Ext.drewN ?_ _ | refine Ext.alloc ?_ _)) hb); (replace HX := Lib.hid (HX.out.trans hx)); (replace HB0 := Lib.hid (HB0.out.ext hx)); (replace HB1 := Lib.hid (HB1.out.ext hx)); (replace HB2 := Lib.hid (HB2.out.ext hx)); (replace HB3 := Lib.hid (HB3.out.ext hx)); (have lw0 : w.heap.size < w3.heap.size := HB0.out.lt); (have lw1 : w.heap.size + 1 < w3.heap.size := HB1.out.lt); (have lw2 : w.heap.size + 2 < w3.heap.size := HB2.out.lt); (have lw3 : w.heap.size + 3 < w3.heap.size := HB3.out.lt); (replace c1_27 := HB1.out.c27); (replace c2_0 := HB2.out.c0); (have hk3 : True := trivial); (clear hx hb)))
  go_upto_region 9 with (first | (with_reducible refine at_list ?_; first | go_skip | refine HB0.out.step (by first | rfl | kernel_rfl) rfl rfl ?_ | refine HB1.out.step (by first | rfl | kernel_rfl) rfl rfl ?_ | refine HB2.out.step (by first | rfl | kernel_rfl) rfl rfl ?_) | (go_at_call 19; refine (HPF.out _ (HX.out.trans (by repeat (first | exact Ext.refl _ | refine Ext.drew ?_ | refine Ext.drewN ?_ _ | refine Ext.alloc ?_ _)))).mono ?_; rintro e w4 ⟨k0, k1, k2, k3, k4, rfl, hown, hb⟩; have hup := Nat.le_of_lt lw0; have hx : Ext w3 w4 := Ext.trans (by repeat (first | exact Ext.refl _ | refine Ext.drew ?_ | refine Ext.drewN ?_ _ | refine Ext.alloc ?_ _)) hb; (replace HX := Lib.hid (HX.out.trans hx)); (replace HB0 := Lib.hid (HB0.out.ext hx)); (replace HB1 := Lib.hid (HB1.out.ext hx)); (replace HB2 := Lib.hid (HB2.out.ext hx)); (replace HB3 := Lib.hid (HB3.out.ext hx)); (have lw0 : w.heap.size < w4.heap.size := HB0.out.lt); (have lw1 : w.heap.size + 1 < w4.heap.size := HB1.out.lt); (have lw2 : w.heap.size + 2 < w4.heap.size := HB2.out.lt); (have lw3 : w.heap.size + 3 < w4.heap.size := HB3.out.lt); (replace c1_27 := HB1.out.c27); (replace c2_0 := HB2.out.c0); have HO := Lib.hid (hown.up hup); clear hx hb hown hup) | (with_reducible refine at_list ?_; refine st_new rfl HO.out.at rfl rfl rfl rfl ?_; intro w5 hbox hx; (replace HX := Lib.hid (HX.out.trans hx)); (replace HB0 := Lib.hid (HB0.out.ext hx)); (replace HB1 := Lib.hid (HB1.out.ext hx)); (replace HB2 := Lib.hid (HB2.out.ext hx)); (replace HB3 := Lib.hid (HB3.out.ext hx)); (have lw0 : w.heap.size < w5.heap.size := HB0.out.lt); (have lw1 : w.heap.size + 1 < w5.heap.size := HB1.out.lt); (have lw2 : w.heap.size + 2 < w5.heap.size := HB2.out.lt); (have lw3 : w.heap.size + 3 < w5.heap.size := HB3.out.lt); (replace c1_27 := HB1.out.c27); (replace c2_0 := HB2.out.c0); replace HO := Lib.hid (HO.out.ext hx); have HP := Lib.hid hbox; clear hbox hx))
  go_wp2_with (first | (with_reducible refine at_list ?_; first | go_skip | refine HB0.out.step (by first | rfl | kernel_rfl) rfl rfl ?_ | refine HB1.out.step (by first | rfl | kernel_rfl) rfl rfl ?_ | refine HB2.out.step (by first | rfl | kernel_rfl) rfl rfl ?_) | (go_at_call 17; refine (iclone _ I h0 h1 h2 h3 h4 HI.out.good (L.out.ext (by repeat (first | exact HX.out | refine Ext.drew ?_ | refine Ext.drewN ?_ _ | refine Ext.alloc ?_ _)))).mono ?_; rintro e w6 ⟨j0, j1, j2, j3, j4, rfl, hown, hb⟩; have hup := Nat.le_of_lt lw0; have hx : Ext w5 w6 := Ext.trans (by repeat (first | exact Ext.refl _ | refine Ext.drew ?_ | refine Ext.drewN ?_ _ | refine Ext.alloc ?_ _)) hb; replace HX := Lib.hid (HX.out.trans hx); replace HB3 := Lib.hid (HB3.out.ext hx); have HJO := Lib.hid (hown.up hup); clear hx hb hown hup) | (with_reducible refine at_list ?_; refine st_old HB3.out HJO.out.at rfl rfl rfl rfl ?_; intro w7 hbox hg; have HR := Lib.hid hbox; replace HJO := Lib.hid (HJO.out.kept HB3.out hg); replace HX := Lib.hid (ext_grown HX.out hg (fun k hk => by injection hk with hk; omega)); clear hbox hg))
  (try simp only [Exit.inBlock, Exit.then])
  refine BoxI.ret rfl HR.out rfl rfl ?_
  exact ⟨_, _, _, _, _, rfl, HJO.out, HX.out⟩
theorem sq_ref1 (w : World) (n : Int) (hn : 0 ≤ n ∧ n ≤ 9) (k a b : Int) (hk : 0 ≤ k ∧ k ≤ 7) (ha : 0 ≤ a ∧ a ≤ 9) (hb : 0 ≤ b ∧ b ≤ 9) (hl : n ≤ a) (y : Bool) (h0 h1 h2 h3 h4 : Value) (hA : InAt w (stN k a b true) h0 h1 h2 h3 h4) : Calls Try.prog 7 #[.agg (rvC n), .agg (inC (stN k a b true) h0 h1 h2 h3 h4), .agg (evC 14 1 0 0 y 0)] w fun e w' => ∃ k0 k1 k2 k3 k4, e = .returned (.tuple #[.agg (inC (stN k a b true) k0 k1 k2 k3 k4), .int .i64 24]) ∧ InOwn w.heap.size w' (stN k a b true) k0 k1 k2 k3 k4 ∧ Ext w w' :=
  step_ref2 w n hn 14 1 0 0 y 0 rfl rfl rfl (stN k a b true) (stN k a b true) h0 h1 h2 h3 h4 hA (okN k a b true hk ha hb) rfl 24 rfl (ev_rev 1 (by decide) y) (fun W hx => perform_rev W n 1 y (stN k a b true) (stN k a b true) 24 h0 h1 h2 h3 h4 (fun W' hx' => review_ref1 W' n y (stN k a b true) h0 h1 h2 h3 h4 (hA.ext (hx.trans hx')) (okN k a b true hk ha hb) rfl hl))
theorem sq_ref2 (w : World) (n : Int) (hn : 0 ≤ n ∧ n ≤ 9) (k a b : Int) (hk : 0 ≤ k ∧ k ≤ 7) (ha : 0 ≤ a ∧ a ≤ 9) (hb : 0 ≤ b ∧ b ≤ 9) (hl : n ≤ b) (y : Bool) (h0 h1 h2 h3 h4 : Value) (hA : InAt w (stN k a b true) h0 h1 h2 h3 h4) : Calls Try.prog 7 #[.agg (rvC n), .agg (inC (stN k a b true) h0 h1 h2 h3 h4), .agg (evC 14 2 0 0 y 0)] w fun e w' => ∃ k0 k1 k2 k3 k4, e = .returned (.tuple #[.agg (inC (stN k a b true) k0 k1 k2 k3 k4), .int .i64 24]) ∧ InOwn w.heap.size w' (stN k a b true) k0 k1 k2 k3 k4 ∧ Ext w w' :=
  step_ref2 w n hn 14 2 0 0 y 0 rfl rfl rfl (stN k a b true) (stN k a b true) h0 h1 h2 h3 h4 hA (okN k a b true hk ha hb) rfl 24 rfl (ev_rev 2 (by decide) y) (fun W hx => perform_rev W n 2 y (stN k a b true) (stN k a b true) 24 h0 h1 h2 h3 h4 (fun W' hx' => review_ref2 W' n y (stN k a b true) h0 h1 h2 h3 h4 (hA.ext (hx.trans hx')) (okN k a b true hk ha hb) rfl hl))

/-- What the room counts: so many lost by each side, none asks. -/
structure RInv (J n a b : Int) (R : Rm) : Prop where
  l0 : R.l0 = n - a
  x0 : R.x0 = a
  l1 : R.l1 = n - b
  x1 : R.x1 = b
  ask : R.a = 0
  w0 : 0 ≤ R.w0 ∧ R.w0 ≤ J
  o0 : 0 ≤ R.o0 ∧ R.o0 ≤ J
  w1 : 0 ≤ R.w1 ∧ R.w1 ≤ J
  o1 : 0 ≤ R.o1 ∧ R.o1 ≤ J
theorem RInv.small {J n a b : Int} {R : Rm} (h : RInv J n a b R) (hJ : J ≤ 10) (hn : 0 ≤ n ∧ n ≤ 9) (ha : 0 ≤ a ∧ a ≤ n) (hb : 0 ≤ b ∧ b ≤ n) : R.small := by
  obtain ⟨h1, h2, h3, h4, h5, h6, h7, h8, h9⟩ := h
  constructor <;> omega
theorem RInv.up {J J' n a b : Int} {R : Rm} (h : RInv J n a b R) (hJ : J ≤ J') : RInv J' n a b R := by
  obtain ⟨h1, h2, h3, h4, h5, h6, h7, h8, h9⟩ := h
  constructor <;> first | assumption | omega
theorem rinv_new (n : Int) : RInv 0 n 0 0 (newR n) := by constructor <;> simp [newR]
/-- What a side has left. -/
def lefts (n a b sd : Int) : Int := if sd = 1 then n - a else n - b
theorem lf_inv {J n a b : Int} {R : Rm} (h : RInv J n a b R) {sd : Int} (hs : sd = 1 ∨ sd = 2) : lfN R sd = lefts n a b sd := by
  rcases hs with rfl | rfl <;> simp [lfN, lefts, h.l0, h.l1]
theorem side_of {sd : Int} (hs : sd = 1 ∨ sd = 2) : sideB sd = true := by rcases hs with rfl | rfl <;> rfl
theorem giv_of {c : Int} (hs : c = 1 ∨ c = 2) : givB c = true := by rcases hs with rfl | rfl <;> rfl
theorem ask_no {J n a b : Int} {R : Rm} (h : RInv J n a b R) (p : Nat) (sd cl : Int) (hs : sd = 1 ∨ sd = 2) (hc : cl = 1 ∨ cl = 2) (hl : lefts n a b sd = 0) (w : World) (hR : RoomAt p R w) :
    Calls Try.prog 6 #[.pointer (some ⟨p, 0, none⟩), .int .i64 sd, .int .u8 cl] w fun e w' => e = .returned (.int .i64 9) ∧ RoomAt p R w' ∧ Turn p w w' := by
  have := ask_any p R sd cl w hR
  have he : askE R sd cl = 9 := by simp [askE, side_of hs, giv_of hc, h.ask, lf_inv h hs, hl]
  unfold AskOK at this
  rw [(ask_vals he rfl).1, (ask_vals he rfl).2] at this
  exact this
theorem ask_go {J n a b : Int} {R : Rm} (h : RInv J n a b R) (p : Nat) (sd cl : Int) (hs : sd = 1 ∨ sd = 2) (hc : cl = 1 ∨ cl = 2) (hl : lefts n a b sd ≠ 0) (w : World) (hR : RoomAt p R w) :
    Calls Try.prog 6 #[.pointer (some ⟨p, 0, none⟩), .int .i64 sd, .int .u8 cl] w fun e w' => e = .returned (.int .i64 0) ∧ RoomAt p { R with a := sd, c := cl } w' ∧ Turn p w w' := by
  have := ask_any p R sd cl w hR
  have he : askE R sd cl = 0 := by simp [askE, side_of hs, giv_of hc, h.ask, lf_inv h hs, hl]
  unfold AskOK at this
  rw [(ask_ok he).1, (ask_ok he).2] at this
  exact this
/-- The room behind a decision. -/
def roomD (R : Rm) (sd cl vd : Int) : Rm := decS { R with a := sd, c := cl } vd
theorem dec_go (p : Nat) (R : Rm) (sd cl vd : Int) (hs : sd = 1 ∨ sd = 2) (hv : vd = 1 ∨ vd = 2 ∨ vd = 3) (hB : R.small) (w : World) (hR : RoomAt p { R with a := sd, c := cl } w) :
    Calls Try.prog 9 #[.pointer (some ⟨p, 0, none⟩), .agg #[.int .u8 vd, .int .u8 0, .int .u8 0, .int .u8 0]] w fun e w' => e = .returned (.tuple #[.int .u8 (if vd == 3 then cl else vd), .int .i64 0]) ∧ RoomAt p (roomD R sd cl vd) w' ∧ Turn p w w' := by
  have := decide_any p { R with a := sd, c := cl } vd w hR ⟨hB.l0, hB.w0, hB.x0, hB.o0, hB.l1, hB.w1, hB.x1, hB.o1, by first | exact hB.a | (rcases hs with rfl | rfl <;> decide) | (rcases hs with rfl | rfl <;> simp)⟩
  have he : decE { R with a := sd, c := cl } vd = 0 := by rcases hs with rfl | rfl <;> rcases hv with rfl | rfl | rfl <;> rfl
  unfold DecOK at this
  rw [(dec_ok he).1, (dec_ok he).2.1, (dec_ok he).2.2] at this
  exact this
/-- The three ways of a decision: the side's loss. -/
def lostN (cl vd : Int) : Int := if vd = cl then 1 else 0
theorem room_way {J n a b : Int} {R : Rm} (h : RInv J n a b R) (sd cl vd : Int) (hs : sd = 1 ∨ sd = 2) (hc : cl = 1 ∨ cl = 2) (hv : vd = 1 ∨ vd = 2 ∨ vd = 3) :
    RInv (J + 1) n (if sd = 1 then a + lostN cl vd else a) (if sd = 1 then b else b + lostN cl vd) (roomD R sd cl vd) := by
  obtain ⟨h1, h2, h3, h4, h5, h6, h7, h8, h9⟩ := h
  rcases hs with rfl | rfl <;> rcases hc with rfl | rfl <;> rcases hv with rfl | rfl | rfl <;> constructor <;> simp [roomD, decS, lostN, h1, h2, h3, h4] <;> omega
theorem InOwn.turn {base p : Nat} {w w' : World} {R : Rm} {I : In} {h0 h1 h2 h3 h4 : Value} (h : InOwn base w I h0 h1 h2 h3 h4) (hR : RoomAt p R w) (k : Turn p w w') : InOwn base w' I h0 h1 h2 h3 h4 := by
  have key : ∀ {e : TypeId} {v : Value} {m : Nat} {xs : List Value}, e ≠ 72 → w.ownsRow base e 1 v m xs → w'.ownsRow base e 1 v m xs := by
    intro e v m xs hne hh
    refine ⟨hh.1, ?_⟩
    rcases hh.2 with hq | ⟨g, cap, cur, h1, hb, hg, hrest⟩
    · exact .inl hq
    · exact .inr ⟨g, cap, cur, h1, hb, k.other g _ (Ne.symm (blk_ne hg hR hne)) hg, hrest⟩
  exact ⟨key (by decide) h.l0, key (by decide) h.l1, key (by decide) h.l2, key (by decide) h.l3, key (by decide) h.l4, h.n1, h.d1, h.d2⟩
theorem BoxR.turn {w w' : World} {b p : Nat} {n : Int} (h : BoxR w b n) (k : Turn p w w') (hne : b ≠ p) : BoxR w' b n := k.other b _ hne h
theorem BoxI.turn {w w' : World} {b p : Nat} {I : In} {h0 h1 h2 h3 h4 : Value} (h : BoxI w b I h0 h1 h2 h3 h4) (k : Turn p w w') (hne : b ≠ p) : BoxI w' b I h0 h1 h2 h3 h4 := k.other b _ hne h
theorem RoomAt.grown {p q : Nat} {R : Rm} {w w' : World} (h : RoomAt p R w) (g : w.grownBy w' (some q)) (hne : p ≠ q) : RoomAt p R w' := (g.block p h.lt (ne_some hne)).trans h
theorem left_go {J n a b : Int} {R : Rm} (h : RInv J n a b R) (p : Nat) (sd : Int) (hs : sd = 1 ∨ sd = 2) (w : World) (hR : RoomAt p R w) :
    Calls Try.prog 8 #[.pointer (some ⟨p, 0, none⟩), .int .i64 sd] w fun e w' => e = .returned (.int .i64 (lefts n a b sd)) ∧ Ext w w' := by
  have := left_any p R sd w hR
  rw [lf_inv h hs] at this
  exact this
/-- While a side asks. -/
theorem left_ask {J n a b : Int} {R : Rm} (h : RInv J n a b R) (p : Nat) (sd cl : Int) (hs : sd = 1 ∨ sd = 2) (w : World) (hR : RoomAt p { R with a := sd, c := cl } w) :
    Calls Try.prog 8 #[.pointer (some ⟨p, 0, none⟩), .int .i64 sd] w fun e w' => e = .returned (.int .i64 (lefts n a b sd)) ∧ Ext w w' := by
  have := left_any p _ sd w hR
  rw [show lfN { R with a := sd, c := cl } sd = lefts n a b sd from lf_inv h hs] at this
  exact this
theorem count_go {J n a b : Int} {R : Rm} (h : RInv J n a b R) (hB : R.small) (p : Nat) (sd : Int) (hs : sd = 1 ∨ sd = 2) (w : World) (hR : RoomAt p R w) :
    Calls Try.prog 10 #[.pointer (some ⟨p, 0, none⟩), .int .i64 sd] w fun e w' => ∃ x y z, e = .returned (.tuple #[.int .i64 x, .int .i64 y, .int .i64 (if sd = 1 then a else b), .int .i64 z]) ∧ Ext w w' := by
  refine (count_any p R sd w hR hB).mono ?_
  rintro e w' ⟨rfl, hx⟩
  refine ⟨asN R sd, wnN R sd, opN R sd, ?_, hx⟩
  unfold cntV
  rw [show lsN R sd = (if sd = 1 then a else b) by rcases hs with rfl | rfl <;> simp [lsN, h.x0, h.x1]]
/-- The list of reviews that came in. -/
structure RvAt (w : World) (A0 : Option Addr) (m : Nat) (S O : Nat → Bool) (V : Nat → Int) (b off : Nat) : Prop where
  nle : m ≤ 9223372036854775807
  top : 0 < m → A0 = some ⟨b, off, none⟩ ∧ b < w.heap.size
  cell : ∀ i, i < m → w.cell? ⟨b, off + i * 3, none⟩ = some (.bool (S i)) ∧ w.cell? ⟨b, off + i * 3 + 1, none⟩ = some (.bool (O i)) ∧ w.cell? ⟨b, off + i * 3 + 2, none⟩ = some (.int .u8 (V i))
  val : ∀ i, i < m → 0 ≤ V i ∧ V i ≤ 255
theorem RvAt.ext {w w' : World} {A0 : Option Addr} {m : Nat} {S O : Nat → Bool} {V : Nat → Int} {b off : Nat} (h : RvAt w A0 m S O V b off) (x : Ext w w') : RvAt w' A0 m S O V b off :=
  ⟨h.nle, fun k => ⟨(h.top k).1, x.lt (h.top k).2⟩, fun i hi => ⟨x.keep (h.cell i hi).1, x.keep (h.cell i hi).2.1, x.keep (h.cell i hi).2.2⟩, h.val⟩

end Go.Proofs.Ytpeabgfolpgfjaa

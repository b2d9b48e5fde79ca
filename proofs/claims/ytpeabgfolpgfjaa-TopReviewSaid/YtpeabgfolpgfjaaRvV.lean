/-
  TopReview walked.
-/
import Derived.Test.YtpeabgfolpgfjaaRvU
import Derived.Deep.CutBlock
import Derived.Deep.CutRange
namespace Go.Proofs.Ytpeabgfolpgfjaa
open Go.RowKit Go.Lib
set_option linter.unusedSimpArgs false

theorem rev_go (w : World) (n : Int) (hn : 0 ≤ n ∧ n ≤ 9) (k a b : Int) (hk : 0 ≤ k ∧ k ≤ 7) (ha : 0 ≤ a ∧ a ≤ n) (hb : 0 ≤ b ∧ b ≤ n) (sd cl vd : Int) (hs : sd = 1 ∨ sd = 2) (hl : lefts n a b sd ≠ 0) (h0 h1 h2 h3 h4 : Value) (hA : InAt w (stN k a b true) h0 h1 h2 h3 h4) :
    Calls Try.prog 7 #[.agg (rvC n), .agg (inC (stN k a b true) h0 h1 h2 h3 h4), .agg (evC 14 sd 0 0 (vd != cl) 0)] w fun e w' => ∃ k0 k1 k2 k3 k4, e = .returned (.tuple #[.agg (inC (stN k (if sd = 1 then a + lostN cl vd else a) (if sd = 1 then b else b + lostN cl vd) false) k0 k1 k2 k3 k4), .int .i64 0]) ∧ InOwn w.heap.size w' (stN k (if sd = 1 then a + lostN cl vd else a) (if sd = 1 then b else b + lostN cl vd) false) k0 k1 k2 k3 k4 ∧ Ext w w' := by
  rcases hs with rfl | rfl
  · have hl' : a < n := by simp only [lefts, if_pos] at hl; omega
    rw [if_pos rfl, if_pos rfl]
    by_cases hv : vd = cl
    · rw [show (vd != cl) = false by simp [hv], show lostN cl vd = 1 by simp [lostN, hv]]
      exact sr_no1 w n hn k a b hk (by omega) (by omega) hl' h0 h1 h2 h3 h4 hA
    · rw [show (vd != cl) = true by simp [hv], show lostN cl vd = 0 by simp [lostN, hv], Int.add_zero]
      exact sr_yes1 w n hn k a b hk (by omega) (by omega) hl' h0 h1 h2 h3 h4 hA
  · have hl' : b < n := by
      rw [lefts, if_neg (by decide)] at hl
      omega
    rw [if_neg (by decide), if_neg (by decide)]
    by_cases hv : vd = cl
    · rw [show (vd != cl) = false by simp [hv], show lostN cl vd = 1 by simp [lostN, hv]]
      exact sr_no2 w n hn k a b hk (by omega) (by omega) hl' h0 h1 h2 h3 h4 hA
    · rw [show (vd != cl) = true by simp [hv], show lostN cl vd = 0 by simp [lostN, hv], Int.add_zero]
      exact sr_yes2 w n hn k a b hk (by omega) (by omega) hl' h0 h1 h2 h3 h4 hA
theorem ref_go (w : World) (n : Int) (hn : 0 ≤ n ∧ n ≤ 9) (k a b : Int) (hk : 0 ≤ k ∧ k ≤ 7) (ha : 0 ≤ a ∧ a ≤ n) (hb : 0 ≤ b ∧ b ≤ n) (sd : Int) (hs : sd = 1 ∨ sd = 2) (hl : lefts n a b sd = 0) (y : Bool) (h0 h1 h2 h3 h4 : Value) (hA : InAt w (stN k a b true) h0 h1 h2 h3 h4) :
    Calls Try.prog 7 #[.agg (rvC n), .agg (inC (stN k a b true) h0 h1 h2 h3 h4), .agg (evC 14 sd 0 0 y 0)] w fun e w' => ∃ k0 k1 k2 k3 k4, e = .returned (.tuple #[.agg (inC (stN k a b true) k0 k1 k2 k3 k4), .int .i64 24]) ∧ InOwn w.heap.size w' (stN k a b true) k0 k1 k2 k3 k4 ∧ Ext w w' := by
  rcases hs with rfl | rfl
  · exact sq_ref1 w n hn k a b hk (by omega) (by omega) (by simp only [lefts, if_pos] at hl; omega) y h0 h1 h2 h3 h4 hA
  · exact sq_ref2 w n hn k a b hk (by omega) (by omega) (by rw [lefts, if_neg (by decide)] at hl; omega) y h0 h1 h2 h3 h4 hA
theorem ext_blk {w w' : World} {b : Nat} {o : Obj} (x : Ext w w') (h : w.heap[b]? = some o) : w'.heap[b]? = some o := (x.block b (Array.getElem?_eq_some_iff.1 h).1).trans h
def nxt (k a b : Int) : In := if k = 7 then stL a b true else stN (k + 1) a b true
theorem nxt_ra (k a b : Int) : (nxt k a b).ra = a := by unfold nxt; split <;> rfl
theorem nxt_rb (k a b : Int) : (nxt k a b).rb = b := by unfold nxt; split <;> rfl
theorem nxt_k (k a b : Int) : (nxt k a b).k = if k = 7 then 0 else k + 1 := by unfold nxt; split <;> rfl
theorem ball_go (w : World) (n : Int) (hn : 0 ≤ n ∧ n ≤ 9) (k a b : Int) (fr : Bool) (hk : 0 ≤ k ∧ k ≤ 7) (ha : 0 ≤ a ∧ a ≤ 9) (hb : 0 ≤ b ∧ b ≤ 9) (h0 h1 h2 h3 h4 : Value) (hA : InAt w (stN k a b fr) h0 h1 h2 h3 h4) :
    Calls Try.prog 7 #[.agg (rvC n), .agg (inC (stN k a b fr) h0 h1 h2 h3 h4), .agg (evC 4 0 0 0 false 1)] w fun e w' => ∃ k0 k1 k2 k3 k4, e = .returned (.tuple #[.agg (inC (nxt k a b) k0 k1 k2 k3 k4), .int .i64 0]) ∧ InOwn w.heap.size w' (nxt k a b) k0 k1 k2 k3 k4 ∧ Ext w w' := by
  unfold nxt
  by_cases h7 : k = 7
  · subst h7
    rw [if_pos rfl]
    exact sl_ball w n hn a b fr ha hb h0 h1 h2 h3 h4 hA
  · rw [if_neg h7]
    exact sn_ball w n hn k a b fr (by omega) ha hb h0 h1 h2 h3 h4 hA
theorem kept_is (n a b sd cl vd : Int) (hs : sd = 1 ∨ sd = 2) : (lefts n (if sd = 1 then a + lostN cl vd else a) (if sd = 1 then b else b + lostN cl vd) sd == lefts n a b sd) = (vd != cl) := by
  rcases hs with rfl | rfl <;> by_cases hv : vd = cl <;> simp [lefts, lostN, hv] <;> omega
theorem after_bd {n a b sd : Int} (hs : sd = 1 ∨ sd = 2) (hl : lefts n a b sd ≠ 0) (ha : 0 ≤ a ∧ a ≤ n) (hb : 0 ≤ b ∧ b ≤ n) (cl vd : Int) : (0 ≤ (if sd = 1 then a + lostN cl vd else a) ∧ (if sd = 1 then a + lostN cl vd else a) ≤ n) ∧ (0 ≤ (if sd = 1 then b else b + lostN cl vd) ∧ (if sd = 1 then b else b + lostN cl vd) ≤ n) := by
  have h0 : lostN cl vd = 0 ∨ lostN cl vd = 1 := by unfold lostN; split <;> simp
  rcases hs with rfl | rfl
  · simp only [lefts, if_pos] at hl ⊢
    omega
  · rw [lefts, if_neg (by decide)] at hl
    rw [if_neg (by decide), if_neg (by decide)]
    omega
theorem st_oldR {w : World} {p : Nat} (hz : BoxZR w p) (n : Int) {ops : Array Oper} {Q : Exit → Act → World → Prop} {rest : List Oper} {op : Oper} {a : Act} {x y : Operand} (hgd : op.guard = none) (ho : op.op = .store 25 x y)
    (hx : a.eval x = .pointer (some ⟨p, 0, none⟩)) (hy : a.eval y = .agg (rvC n)) (k : ∀ w', BoxR w' p n → w.grownBy w' (some p) → wpList Try.prog ops Q rest (a.put op.dst undef) w') : wpList Try.prog ops Q (op :: rest) a w := by
  obtain ⟨c, hs, hc⟩ := hz
  refine wpList_store_mid hgd 25 x y ho p 0 (rvC n) hx hy (in_there hc (by rw [hs]; rfl)) (by kernel_rfl) (rvC_one n) ?_
  exact k _ (setCells_whole hc (by rw [hs]; rfl)) (grown_setCells p _ 0 w)
set_option maxRecDepth 20000 in
set_option maxHeartbeats 16000000 in
theorem law_any (w : World) (v : Int) (hv : 0 ≤ v ∧ v ≤ 255) (A0 : Option Addr) (m C : Nat) (S O : Nat → Bool) (Vd : Nat → Int) (lb off : Nat) (hmC : m ≤ C) (T : RvAt w A0 m S O Vd lb off) :
    Calls Try.prog 3 #[.int .u8 v, .slice A0 m C] w fun e w' => e = .returned (.bool true) ∧ Ext w w' := by
  have HT := Lib.hid T
  have hml := T.nle
  clear T
  obtain ⟨n, hn⟩ : ∃ n, n = v % 6 := ⟨_, rfl⟩
  have hn9 : 0 ≤ n ∧ n ≤ 9 := by omega
  have hn5 : 0 ≤ n ∧ n ≤ 5 := by omega
  obtain ⟨M, hM⟩ : ∃ M : Nat, M = min m 7 := ⟨_, rfl⟩
  have hM7 : M ≤ 7 := by omega
  have hMm : M ≤ m := by omega
  have hmin : min (m : Int) 7 = (M : Int) := by omega
  have hmax : max (M : Int) 0 = (M : Int) := by omega
  clear hM
  go_enter Try.func3, Try.ntmps3
  go_upto_region 2 with fail
  rw [← hn]
  clear hn
  go_upto_region 3 with (first | (go_at_call 4; refine (oneBall_any _ n hn9).mono ?_; rintro e w1 ⟨k0, k1, k2, k3, k4, rfl, hown, hb⟩; (have hx : Ext w w1 := Ext.trans (by repeat (first | exact Ext.refl _ | refine Ext.drew ?_ | refine Ext.drewN ?_ _ | refine Ext.alloc ?_ _)) hb); have HX := Lib.hid hx; have HX1 := Lib.hid hx; have hs1 := hx.size; have HO := Lib.hid hown; clear hx hb hown) | (with_reducible refine at_list ?_; refine st_oldR (show BoxZR ((w1.alloc (.cells #[.string ⟨#[]⟩, .int .i64 0, .int .i64 0, .int .i64 0, .int .i64 0, .int .i64 0, .int .i64 0, .int .i64 0, .bool false, .int .i64 0, .int .i64 0, .int .i64 0, .int .i64 0, .slice none 0 0] 25)).alloc (.cells #[.int .i64 0, .int .i64 0, .int .i64 0, .int .i64 0, .int .i64 0, .int .i64 0, .int .i64 0, .int .i64 0, .int .i64 0, .int .i64 0, .int .i64 0, .int .i64 0, .int .i64 0, .int .i64 0, .slice none 0 0, .int .i64 0, .slice none 0 0, .slice none 0 0, .bool false, .slice none 0 0, .bool false, .int .i64 0, .int .i64 0, .int .i64 0, .slice none 0 0, .int .i64 0, .int .i64 0, .int .u8 0] 34)) w1.heap.size from (boxZR_new w1).ext ((Ext.refl _).alloc _)) n rfl rfl rfl rfl ?_; intro w2 hbox hg; have H6 := Lib.hid hbox; have hx : Ext w1 w2 := ext_grown (((Ext.refl w1).alloc _).alloc _) hg (fun k hk => by injection hk with hk; omega); have HZ7 := Lib.hid (BoxZ.grown (show BoxZ ((w1.alloc (.cells #[.string ⟨#[]⟩, .int .i64 0, .int .i64 0, .int .i64 0, .int .i64 0, .int .i64 0, .int .i64 0, .int .i64 0, .bool false, .int .i64 0, .int .i64 0, .int .i64 0, .int .i64 0, .slice none 0 0] 25)).alloc (.cells #[.int .i64 0, .int .i64 0, .int .i64 0, .int .i64 0, .int .i64 0, .int .i64 0, .int .i64 0, .int .i64 0, .int .i64 0, .int .i64 0, .int .i64 0, .int .i64 0, .int .i64 0, .int .i64 0, .slice none 0 0, .int .i64 0, .slice none 0 0, .slice none 0 0, .bool false, .slice none 0 0, .bool false, .int .i64 0, .int .i64 0, .int .i64 0, .slice none 0 0, .int .i64 0, .int .i64 0, .int .u8 0] 34)) (w1.heap.size + 1) from (by have := boxZ_new (w1.alloc (.cells #[.string ⟨#[]⟩, .int .i64 0, .int .i64 0, .int .i64 0, .int .i64 0, .int .i64 0, .int .i64 0, .int .i64 0, .bool false, .int .i64 0, .int .i64 0, .int .i64 0, .int .i64 0, .slice none 0 0] 25)); simpa using this)) hg (by omega)); replace HX := Lib.hid (HX.out.trans hx); replace HO := Lib.hid (HO.out.ext hx); clear hbox hg hx) | (with_reducible refine at_list ?_; refine st_old HZ7.out HO.out.at rfl rfl rfl rfl ?_; intro w3 hbox hg; have H7 := Lib.hid hbox; replace H6 := Lib.hid (H6.out.grown hg (by omega)); replace HO := Lib.hid (HO.out.kept HZ7.out hg); replace HX := Lib.hid (ext_grown HX.out hg (fun k hk => by injection hk with hk; omega)); clear HZ7 hbox hg))
  obtain ⟨c6, hc6⟩ : ∃ x, x = w1.heap.size := ⟨_, rfl⟩
  rw [← hc6] at H6 H7 ⊢
  have hw6 : w.heap.size ≤ c6 := by rw [hc6]; exact (by first | exact HX1.out.size | omega)
  clear hc6
  go_upto_region 6 with (go_at_call 5; refine (new_any n _ hn9.1 (by omega)).mono ?_; rintro e w4 ⟨rfl, hR, hx⟩; have HP := Lib.hid hR; have l7 := H7.out.lt; replace H6 := Lib.hid (H6.out.ext hx); replace H7 := Lib.hid (H7.out.ext hx); replace HO := Lib.hid (HO.out.ext hx); replace HX := Lib.hid (HX.out.trans hx); clear hR hx)
  obtain ⟨p, hp⟩ : ∃ x, x = w3.heap.size := ⟨_, rfl⟩
  rw [← hp] at HP l7 ⊢
  clear hp
  go_wp2_with fail
  clear hmin hmax
  go_loopw [55] (fun i wr => ∃ (j : Nat) (k a b : Int) (R : Rm) (k0 k1 k2 k3 k4 : Value), j ≤ M ∧ i = .int .i64 j ∧ (1 ≤ k ∧ k ≤ 1 + j ∧ k ≤ 7) ∧ (0 ≤ a ∧ a ≤ n) ∧ (0 ≤ b ∧ b ≤ n) ∧ BoxR wr c6 n ∧ BoxI wr (c6 + 1) (stN k a b true) k0 k1 k2 k3 k4 ∧ InOwn w.heap.size wr (stN k a b true) k0 k1 k2 k3 k4 ∧ RoomAt p R wr ∧ RInv j n a b R ∧ Ext w wr) (fun i _ => M - (RowKit.intOf i).toNat)
  case atStart => exact ⟨0, 1, 0, 0, newR n, k0, k1, k2, k3, k4, Nat.zero_le _, rfl, by omega, by omega, by omega, H6.out, H7.out, HO.out, HP.out, rinv_new n, HX.out⟩
  case round =>
    clear H6 H7 HO HP HX HX1
    obtain ⟨j, k, a, b, R, r0, r1, r2, r3, r4, hj, rfl, ⟨hk1, hk2, hk3⟩, hab, hbb, h6, h7, ho, hp, hri, hx⟩ := hrel
    have H6 := Lib.hid h6
    have H7 := Lib.hid h7
    have HO := Lib.hid ho
    have HP := Lib.hid hp
    have HP0 := Lib.hid hp
    have HRI := Lib.hid hri
    have HX := Lib.hid hx
    clear h6 h7 ho hp hri hx
    by_cases hlt : j < M
    · obtain ⟨rfl, hlb⟩ := HT.out.top (by omega)
      obtain ⟨q0, q1, q2⟩ := (HT.out.ext HX.out).cell j (by omega)
      have hV := HT.out.val j (by omega)
      obtain ⟨sB, hsB⟩ : ∃ x, S j = x := ⟨_, rfl⟩
      obtain ⟨oB, hoB⟩ : ∃ x, O j = x := ⟨_, rfl⟩
      obtain ⟨vv, hvv⟩ : ∃ x, Vd j = x := ⟨_, rfl⟩
      rw [hsB] at q0
      rw [hoB] at q1
      rw [hvv] at q2 hV
      clear hsB hoB hvv
      have hltI : (j : Int) < (M : Int) := by omega
      go_upto_if 60 with fail
      obtain ⟨w8, hw8⟩ : ∃ W, W = wr.alloc (.cells #[.bool sB, .bool oB, .int .u8 vv] 43) := ⟨_, rfl⟩
      have hx8 : Ext wr w8 := by rw [hw8]; exact (Ext.refl wr).alloc _
      have hb8 : w8.heap[wr.heap.size]? = some (.cells #[.bool sB, .bool oB, .int .u8 vv] 43 (0, 0)) := by rw [hw8]; exact heap_alloc_new wr _
      rw [← hw8]
      clear hw8 q0 q1 q2
      obtain ⟨xb, hxb⟩ : ∃ x, x = wr.heap.size := ⟨_, rfl⟩
      have hpxb : p < xb := by rw [hxb]; exact HP0.out.lt
      rw [← hxb] at hb8 ⊢
      clear hxb HP0
      have HB := Lib.hid hb8
      replace H6 := Lib.hid (H6.out.ext hx8)
      replace H7 := Lib.hid (H7.out.ext hx8)
      replace HO := Lib.hid (HO.out.ext hx8)
      replace HP := Lib.hid (HP.out.ext hx8)
      replace HX := Lib.hid (HX.out.trans hx8)
      have x0 := Lib.cell_of_heap hb8 0
      have x1 := Lib.cell_of_heap hb8 1
      have x2 := Lib.cell_of_heap hb8 2
      have hpx : p < xb := hpxb
      have n6p : c6 ≠ p := by omega
      have n7p : c6 + 1 ≠ p := by omega
      have nxp : xb ≠ p := by omega
      have hwp : w.heap.size ≤ p := by omega
      simp only [List.getElem?_toArray, List.getElem?_cons_succ, List.getElem?_cons_zero] at x0 x1 x2
      clear hb8 hx8
      go_cut [13] from 56 to 189 (fun s wx => ∃ sd : Int, s = .int .i64 sd ∧ (sd = 1 ∨ sd = 2) ∧ wx = w8)
      case first =>
        as_aux_lemma =>
          cases sB <;> (go_wp2_with fail; go_meet; exact ⟨_, rfl, by first | exact .inl rfl | exact .inr rfl, rfl⟩)
      obtain ⟨sd, rfl, hsd, hwc⟩ := hcut
      replace hwc := hwc.symm
      subst hwc
      go_upto_if 62 with fail
      go_cut [14] from 56 to 189 (fun s wx => ∃ cl : Int, s = .int .u8 cl ∧ (cl = 1 ∨ cl = 2) ∧ wx = w8)
      case first =>
        as_aux_lemma =>
          cases oB <;> (go_wp2_with fail; go_meet; exact ⟨_, rfl, by first | exact .inl rfl | exact .inr rfl, rfl⟩)
      obtain ⟨cl, rfl, hcl, hwc⟩ := hcut
      replace hwc := hwc.symm
      subst hwc
      rename_i aW
      refine aW _ _ ?_
      refine wp_seq_k (fun K15 aK15 => ?_)
      go_cut [15] from 56 to 189 (fun s wx => s = .int .u8 vv ∧ wx = w8)
      case first =>
        as_aux_lemma =>
          go_wp2_with fail
          go_meet
          exact ⟨rfl, rfl⟩
      obtain ⟨rfl, hwc⟩ := hcut
      replace hwc := hwc.symm
      subst hwc
      refine aK15 _ _ ?_
      refine wp_seq_k (fun K16 aK16 => ?_)
      go_cut [15] from 56 to 189 (fun s wx => ∃ vd : Int, s = .int .u8 vd ∧ (vd = 1 ∨ vd = 2 ∨ vd = 3) ∧ wx = w8)
      case first =>
        as_aux_lemma =>
          by_cases hv1 : vv < 1
          · go_wp2_with fail
            go_meet
            exact ⟨3, rfl, .inr (.inr rfl), rfl⟩
          · by_cases hv3 : 3 < vv
            · go_wp2_with fail
              go_meet
              exact ⟨3, rfl, .inr (.inr rfl), rfl⟩
            · go_wp2_with fail
              go_meet
              exact ⟨vv, rfl, by omega, rfl⟩
      obtain ⟨vd, rfl, hvd, hwc⟩ := hcut
      replace hwc := hwc.symm
      subst hwc
      by_cases hl : lefts n a b sd = 0
      · as_aux_lemma =>
          go_upto_region 19 with (first | (with_reducible refine at_list ?_; first | go_skip | (refine H6.out.step (by first | rfl | kernel_rfl) rfl rfl ?_; (try simp only [List.getElem_toArray, List.getElem_cons_succ, List.getElem_cons_zero, Act.put, List.setIfInBounds_toArray, List.set_cons_zero, List.set_cons_succ])) | (refine H7.out.step (by first | rfl | kernel_rfl) rfl rfl ?_; (try simp only [List.getElem_toArray, List.getElem_cons_succ, List.getElem_cons_zero, Act.put, List.setIfInBounds_toArray, List.set_cons_zero, List.set_cons_succ]))) | (go_at_call 6; refine (ask_no HRI.out p sd cl hsd hcl hl _ HP.out).mono ?_; rintro e w9 ⟨rfl, hR, hk⟩; (replace HO := Lib.hid (HO.out.turn HP.out hk)); (replace H6 := Lib.hid (H6.out.turn hk n6p)); (replace H7 := Lib.hid (H7.out.turn hk n7p)); (replace HX := Lib.hid (Turn.then HX.out hk hwp)); (replace HB := Lib.hid (hk.other xb _ nxp HB.out)); replace HP := Lib.hid hR; have x1 := Lib.cell_of_heap HB.out 1; simp only [List.getElem?_toArray, List.getElem?_cons_succ, List.getElem?_cons_zero] at x1; clear hR hk) | (go_at_call 7; refine (ref_go _ n hn9 k a b (by omega) hab hbb sd hsd hl _ r0 r1 r2 r3 r4 (HO.out.at.ext (by repeat (first | exact Ext.refl _ | refine Ext.drew ?_ | refine Ext.drewN ?_ _ | refine Ext.alloc ?_ _)))).mono ?_; rintro e w10 ⟨j0, j1, j2, j3, j4, rfl, hown, hb⟩; (have hx : Ext w9 w10 := Ext.trans (by repeat (first | exact Ext.refl _ | refine Ext.drew ?_ | refine Ext.drewN ?_ _ | refine Ext.alloc ?_ _)) hb); (replace HX := Lib.hid (HX.out.trans hx)); (replace H6 := Lib.hid (H6.out.ext hx)); (replace H7 := Lib.hid (H7.out.ext hx)); (replace HP := Lib.hid (HP.out.ext hx)); (replace HO := Lib.hid (HO.out.ext hx)); (replace HB := Lib.hid (ext_blk hx HB.out)); have HJ := Lib.hid hown; clear hx hb hown) | (with_reducible refine at_list ?_; refine st_new rfl HJ.out.at rfl rfl rfl rfl ?_; intro w11 hbox hx; (replace HX := Lib.hid (HX.out.trans hx)); (replace H6 := Lib.hid (H6.out.ext hx)); (replace H7 := Lib.hid (H7.out.ext hx)); (replace HP := Lib.hid (HP.out.ext hx)); (replace HO := Lib.hid (HO.out.ext hx)); (replace HB := Lib.hid (ext_blk hx HB.out)); clear HJ hbox hx))
          go_wp2_with (go_at_call 8; refine (left_go HRI.out p sd hsd _ HP.out).mono ?_; rintro e w12 ⟨rfl, hb⟩; (have hx : Ext w11 w12 := Ext.trans (by repeat (first | exact Ext.refl _ | refine Ext.drew ?_ | refine Ext.drewN ?_ _ | refine Ext.alloc ?_ _)) hb); (replace HX := Lib.hid (HX.out.trans hx)); (replace H6 := Lib.hid (H6.out.ext hx)); (replace H7 := Lib.hid (H7.out.ext hx)); (replace HP := Lib.hid (HP.out.ext hx)); (replace HO := Lib.hid (HO.out.ext hx)); (replace HB := Lib.hid (ext_blk hx HB.out)); clear hx hb)
          go_roundw
          case rel => exact ⟨j + 1, k, a, b, R, r0, r1, r2, r3, r4, by omega, by go_num, ⟨by omega, by omega, by omega⟩, hab, hbb, H6.out, H7.out, HO.out, HP.out, HRI.out.up (by omega), HX.out⟩
          case measure => simp [RowKit.intOf]; omega
      · have hbd := after_bd hsd hl hab hbb cl vd
        have HSM := Lib.hid (HRI.out.small (by omega) hn9 hab hbb)
        have hW := room_way HRI.out sd cl vd hsd hcl hvd
        have hkp := kept_is n a b sd cl vd hsd
        have hrg := fun (W : World) (q0 q1 q2 q3 q4 : Value) (hq : InAt W (stN k a b true) q0 q1 q2 q3 q4) => rev_go W n hn9 k a b (by omega) hab hbb sd cl vd hsd hl q0 q1 q2 q3 q4 hq
        have hdec := fun (W : World) (hq : RoomAt p { R with a := sd, c := cl } W) => dec_go p R sd cl vd hsd hvd HSM.out W hq
        obtain ⟨A', hA'⟩ : ∃ x, (if sd = 1 then a + lostN cl vd else a) = x := ⟨_, rfl⟩
        obtain ⟨B', hB'⟩ : ∃ x, (if sd = 1 then b else b + lostN cl vd) = x := ⟨_, rfl⟩
        rw [hA', hB'] at hW hkp hbd
        simp only [hA', hB'] at hrg
        obtain ⟨Kp, hKp⟩ : ∃ x, (vd != cl) = x := ⟨_, rfl⟩
        rw [hKp] at hkp
        simp only [hKp] at hrg
        obtain ⟨fin, hfin⟩ : ∃ x, (if vd == 3 then cl else vd) = x := ⟨_, rfl⟩
        simp only [hfin] at hdec
        obtain ⟨hA0, hB0⟩ := hbd
        have HW := Lib.hid hW
        have HRG := Lib.hid hrg
        have HDEC := Lib.hid hdec
        have HKP := Lib.hid hKp
        have HFI := Lib.hid hfin
        have HAB := Lib.hid (And.intro hA' hB')
        obtain ⟨RD, hRD⟩ : ∃ x, roomD R sd cl vd = x := ⟨_, rfl⟩
        rw [hRD] at HW HDEC
        clear hW hrg hdec hKp hfin hA' hB' hRD
        go_upto_region 22 with (first | (go_at_call 6; refine (ask_go HRI.out p sd cl hsd hcl hl _ HP.out).mono ?_; rintro e w9 ⟨rfl, hR, hk⟩; (replace HO := Lib.hid (HO.out.turn HP.out hk)); (replace H6 := Lib.hid (H6.out.turn hk n6p)); (replace H7 := Lib.hid (H7.out.turn hk n7p)); (replace HX := Lib.hid (Turn.then HX.out hk hwp)); replace HP := Lib.hid hR; clear hR hk) | (go_at_call 8; refine (left_ask HRI.out p sd cl hsd _ HP.out).mono ?_; rintro e w10 ⟨rfl, hb⟩; (have hx : Ext w9 w10 := Ext.trans (by repeat (first | exact Ext.refl _ | refine Ext.drew ?_ | refine Ext.drewN ?_ _ | refine Ext.alloc ?_ _)) hb); (replace HX := Lib.hid (HX.out.trans hx)); (replace H6 := Lib.hid (H6.out.ext hx)); (replace H7 := Lib.hid (H7.out.ext hx)); (replace HP := Lib.hid (HP.out.ext hx)); (replace HO := Lib.hid (HO.out.ext hx)); clear hx hb))
        go_upto_region 23 with (go_at_call 9; refine (HDEC.out _ HP.out).mono ?_; rintro e w11 ⟨rfl, hR, hk⟩; (replace HO := Lib.hid (HO.out.turn HP.out hk)); (replace H6 := Lib.hid (H6.out.turn hk n6p)); (replace H7 := Lib.hid (H7.out.turn hk n7p)); (replace HX := Lib.hid (Turn.then HX.out hk hwp)); replace HP := Lib.hid hR; clear hR hk)
        go_cut [21] from 56 to 189 (fun s wx => s = .bool Kp ∧ BoxR wx c6 n ∧ BoxI wx (c6 + 1) (stN k a b true) r0 r1 r2 r3 r4 ∧ InOwn w.heap.size wx (stN k a b true) r0 r1 r2 r3 r4 ∧ RoomAt p RD wx ∧ Ext w wx)
        case first =>
          as_aux_lemma =>
            go_wp2_with (go_at_call 8; refine (left_go HW.out p sd hsd _ HP.out).mono ?_; rintro e w12 ⟨rfl, hb⟩; (have hx : Ext w11 w12 := Ext.trans (by repeat (first | exact Ext.refl _ | refine Ext.drew ?_ | refine Ext.drewN ?_ _ | refine Ext.alloc ?_ _)) hb); (replace HX := Lib.hid (HX.out.trans hx)); (replace H6 := Lib.hid (H6.out.ext hx)); (replace H7 := Lib.hid (H7.out.ext hx)); (replace HP := Lib.hid (HP.out.ext hx)); (replace HO := Lib.hid (HO.out.ext hx)); clear hx hb)
            go_meet
            exact ⟨rfl, H6.out, H7.out, HO.out, HP.out, HX.out⟩
        clear H6 H7 HO HP HX hkp
        obtain ⟨rfl, h6, h7, ho, hp, hx⟩ := hcut
        obtain ⟨w13, rfl⟩ : ∃ x, x = wc := ⟨_, rfl⟩
        have H6 := Lib.hid h6
        have H7 := Lib.hid h7
        have HO := Lib.hid ho
        have HP := Lib.hid hp
        have HX := Lib.hid hx
        clear h6 h7 ho hp hx
        rename_i aV
        refine aV _ _ ?_
        refine wp_seq_k (fun K24 aK24 => ?_)
        go_cut [] from 56 to 189 (fun wx => wx = w13)
        case first =>
          as_aux_lemma =>
            have hKp := HKP.out
            have hfin := HFI.out
            clear HRG HDEC HKP HFI HAB HW
            subst hKp
            subst hfin
            rcases hcl with rfl | rfl <;> rcases hvd with rfl | rfl | rfl
            all_goals
              go_wp2_with fail
              go_meet
              rfl
        replace hcut := hcut.symm
        subst hcut
        clear HB
        go_upto_region 29 with (first | (with_reducible refine at_list ?_; first | go_skip | (refine H6.out.step (by first | rfl | kernel_rfl) rfl rfl ?_; (try simp only [List.getElem_toArray, List.getElem_cons_succ, List.getElem_cons_zero, Act.put, List.setIfInBounds_toArray, List.set_cons_zero, List.set_cons_succ])) | (refine H7.out.step (by first | rfl | kernel_rfl) rfl rfl ?_; (try simp only [List.getElem_toArray, List.getElem_cons_succ, List.getElem_cons_zero, Act.put, List.setIfInBounds_toArray, List.set_cons_zero, List.set_cons_succ]))) | (go_at_call 7; refine (HRG.out _ _ _ _ _ _ (HO.out.at.ext (by repeat (first | exact Ext.refl _ | refine Ext.drew ?_ | refine Ext.drewN ?_ _ | refine Ext.alloc ?_ _)))).mono ?_; rintro e w14 ⟨j0, j1, j2, j3, j4, rfl, hown, hb⟩; (have hx : Ext w13 w14 := Ext.trans (by repeat (first | exact Ext.refl _ | refine Ext.drew ?_ | refine Ext.drewN ?_ _ | refine Ext.alloc ?_ _)) hb); have hup := HX.out.size; (replace HX := Lib.hid (HX.out.trans hx)); (replace H6 := Lib.hid (H6.out.ext hx)); (replace H7 := Lib.hid (H7.out.ext hx)); (replace HP := Lib.hid (HP.out.ext hx)); (replace HO := Lib.hid (HO.out.ext hx)); have HJ := Lib.hid (hown.up hup); clear hx hb hown hup) | (with_reducible refine at_list ?_; refine st_new rfl HJ.out.at rfl rfl rfl rfl ?_; intro w15 hbox hx; have l7w := H7.out.lt; have lpw := HP.out.lt; (replace HX := Lib.hid (HX.out.trans hx)); (replace H6 := Lib.hid (H6.out.ext hx)); (replace H7 := Lib.hid (H7.out.ext hx)); (replace HP := Lib.hid (HP.out.ext hx)); (replace HO := Lib.hid (HO.out.ext hx)); replace HJ := Lib.hid (HJ.out.ext hx); have H22 := Lib.hid hbox; clear hbox hx))
        obtain ⟨c22, hc22⟩ : ∃ x, x = w14.heap.size := ⟨_, rfl⟩
        rw [← hc22] at H22 l7w lpw ⊢
        clear hc22 HO
        go_upto_region 32 with (first | (with_reducible refine at_list ?_; first | go_skip | (refine H6.out.step (by first | rfl | kernel_rfl) rfl rfl ?_; (try simp only [List.getElem_toArray, List.getElem_cons_succ, List.getElem_cons_zero, Act.put, List.setIfInBounds_toArray, List.set_cons_zero, List.set_cons_succ])) | (refine H22.out.step (by first | rfl | kernel_rfl) rfl rfl ?_; (try simp only [List.getElem_toArray, List.getElem_cons_succ, List.getElem_cons_zero, Act.put, List.setIfInBounds_toArray, List.set_cons_zero, List.set_cons_succ]))) | (go_at_call 7; refine (ball_go _ n hn9 k A' B' false (by omega) (by omega) (by omega) j0 j1 j2 j3 j4 (HJ.out.at.ext (by repeat (first | exact Ext.refl _ | refine Ext.drew ?_ | refine Ext.drewN ?_ _ | refine Ext.alloc ?_ _)))).mono ?_; rintro e w16 ⟨i0, i1, i2, i3, i4, rfl, hown, hb⟩; (have hx : Ext w15 w16 := Ext.trans (by repeat (first | exact Ext.refl _ | refine Ext.drew ?_ | refine Ext.drewN ?_ _ | refine Ext.alloc ?_ _)) hb); have hup := HX.out.size; (replace HX := Lib.hid (HX.out.trans hx)); (replace H6 := Lib.hid (H6.out.ext hx)); (replace H7 := Lib.hid (H7.out.ext hx)); (replace HP := Lib.hid (HP.out.ext hx)); (replace H22 := Lib.hid (H22.out.ext hx)); have HN := Lib.hid (hown.up hup); clear hx hb hown hup) | (with_reducible refine at_list ?_; refine st_old H7.out.z HN.out.at rfl rfl rfl rfl ?_; intro w17 hbox hg; replace HN := Lib.hid (HN.out.kept H7.out.z hg); replace H6 := Lib.hid (H6.out.grown hg (by omega)); replace HP := Lib.hid (HP.out.grown hg (Ne.symm n7p)); replace HX := Lib.hid (ext_grown HX.out hg (fun k hk => by injection hk with hk; omega)); replace H7 := Lib.hid hbox; clear hbox hg))
        clear H22
        as_aux_lemma =>
          have HSD := Lib.hid (HW.out.small (by omega) hn9 hA0 hB0)
          have HC1 : Hid (∀ W, RoomAt p RD W → Calls Try.prog 10 #[.pointer (some ⟨p, 0, none⟩), .int .i64 1] W fun e w' => ∃ x y z, e = .returned (.tuple #[.int .i64 x, .int .i64 y, .int .i64 A', .int .i64 z]) ∧ Ext W w') := fun W h => count_go HW.out HSD.out p 1 (.inl rfl) W h
          have HC2 : Hid (∀ W, RoomAt p RD W → Calls Try.prog 10 #[.pointer (some ⟨p, 0, none⟩), .int .i64 2] W fun e w' => ∃ x y z, e = .returned (.tuple #[.int .i64 x, .int .i64 y, .int .i64 B', .int .i64 z]) ∧ Ext W w') := fun W h => count_go HW.out HSD.out p 2 (.inr rfl) W h
          have HL1 : Hid (∀ W, RoomAt p RD W → Calls Try.prog 8 #[.pointer (some ⟨p, 0, none⟩), .int .i64 1] W fun e w' => e = .returned (.int .i64 (n - A')) ∧ Ext W w') := fun W h => left_go HW.out p 1 (.inl rfl) W h
          have HL2 : Hid (∀ W, RoomAt p RD W → Calls Try.prog 8 #[.pointer (some ⟨p, 0, none⟩), .int .i64 2] W fun e w' => e = .returned (.int .i64 (n - B')) ∧ Ext W w') := fun W h => left_go HW.out p 2 (.inr rfl) W h
          have ewA : IntKind.i64.wrap (n - A' + A') = n := by rw [Int.sub_add_cancel]; exact IntWalk.i64_in _ (by omega)
          have ewB : IntKind.i64.wrap (n - B' + B') = n := by rw [Int.sub_add_cancel]; exact IntWalk.i64_in _ (by omega)
          have esA : n - A' + A' = n := Int.sub_add_cancel _ _
          have esB : n - B' + B' = n := Int.sub_add_cancel _ _
          have c25 := H7.out.c25
          have c26 := H7.out.c26
          have c11 := H7.out.c11
          rw [nxt_ra] at c25
          rw [nxt_rb] at c26
          rw [nxt_k] at c11
          obtain ⟨kk, hkk⟩ : ∃ x, (if k = 7 then (0 : Int) else k + 1) = x := ⟨_, rfl⟩
          rw [hkk] at c11
          go_wp2_with fail
          refine wp_loop_rounds 3 ?_
          rw [rounds_succ]
          go_wp2_with (first | ((fail_if_success (have hzz := hn18)); go_at_call 10; refine (HC1.out _ HP.out).mono ?_; rintro e w18 ⟨x, y, z, rfl, hb⟩; (have hx : Ext w17 w18 := Ext.trans (by repeat (first | exact Ext.refl _ | refine Ext.drew ?_ | refine Ext.drewN ?_ _ | refine Ext.alloc ?_ _)) hb); (replace HX := Lib.hid (HX.out.trans hx)); (replace H6 := Lib.hid (H6.out.ext hx)); (replace H7 := Lib.hid (H7.out.ext hx)); (replace HP := Lib.hid (HP.out.ext hx)); replace HN := Lib.hid (HN.out.ext hx); have hn18 : True := trivial; replace c25 := hx.keep c25; replace c26 := hx.keep c26; replace c11 := hx.keep c11; clear hx hb) | ((fail_if_success (have hzz := hn19)); go_at_call 8; refine (HL1.out _ HP.out).mono ?_; rintro e w19 ⟨rfl, hb⟩; (have hx : Ext w18 w19 := Ext.trans (by repeat (first | exact Ext.refl _ | refine Ext.drew ?_ | refine Ext.drewN ?_ _ | refine Ext.alloc ?_ _)) hb); (replace HX := Lib.hid (HX.out.trans hx)); (replace H6 := Lib.hid (H6.out.ext hx)); (replace H7 := Lib.hid (H7.out.ext hx)); (replace HP := Lib.hid (HP.out.ext hx)); replace HN := Lib.hid (HN.out.ext hx); have hn19 : True := trivial; replace c25 := hx.keep c25; replace c26 := hx.keep c26; replace c11 := hx.keep c11; clear hx hb))
          rw [rounds_succ]
          go_wp2_with (first | ((fail_if_success (have hzz := hn20)); go_at_call 10; refine (HC2.out _ HP.out).mono ?_; rintro e w20 ⟨x, y, z, rfl, hb⟩; (have hx : Ext w19 w20 := Ext.trans (by repeat (first | exact Ext.refl _ | refine Ext.drew ?_ | refine Ext.drewN ?_ _ | refine Ext.alloc ?_ _)) hb); (replace HX := Lib.hid (HX.out.trans hx)); (replace H6 := Lib.hid (H6.out.ext hx)); (replace H7 := Lib.hid (H7.out.ext hx)); (replace HP := Lib.hid (HP.out.ext hx)); replace HN := Lib.hid (HN.out.ext hx); have hn20 : True := trivial; replace c25 := hx.keep c25; replace c26 := hx.keep c26; replace c11 := hx.keep c11; clear hx hb) | ((fail_if_success (have hzz := hn21)); go_at_call 8; refine (HL2.out _ HP.out).mono ?_; rintro e w21 ⟨rfl, hb⟩; (have hx : Ext w20 w21 := Ext.trans (by repeat (first | exact Ext.refl _ | refine Ext.drew ?_ | refine Ext.drewN ?_ _ | refine Ext.alloc ?_ _)) hb); (replace HX := Lib.hid (HX.out.trans hx)); (replace H6 := Lib.hid (H6.out.ext hx)); (replace H7 := Lib.hid (H7.out.ext hx)); (replace HP := Lib.hid (HP.out.ext hx)); replace HN := Lib.hid (HN.out.ext hx); have hn21 : True := trivial; replace c25 := hx.keep c25; replace c26 := hx.keep c26; replace c11 := hx.keep c11; clear hx hb))
          rw [rounds_succ]
          by_cases hk7 : k = 7
          · have hkz : kk = 0 := by rw [← hkk, if_pos hk7]
            subst hkz
            go_wp2_with fail
            go_ret
            exact ⟨rfl, HX.out⟩
          · rw [if_neg hk7] at hkk
            have hkz : (kk == 0) = false := by simp; omega
            go_wp2_with fail
            have hnx : nxt k A' B' = stN (k + 1) A' B' true := if_neg hk7
            rw [hnx] at H7 HN
            go_roundw
            case rel => exact ⟨j + 1, k + 1, A', B', RD, i0, i1, i2, i3, i4, by omega, by go_num, ⟨by omega, by omega, by omega⟩, hA0, hB0, H6.out, H7.out, HN.out, HP.out, HW.out, HX.out⟩
            case measure => simp [RowKit.intOf]; omega
    · obtain rfl : j = M := by omega
      go_wp2_with fail
      go_ret
      exact ⟨rfl, HX.out⟩

end Go.Proofs.Ytpeabgfolpgfjaa

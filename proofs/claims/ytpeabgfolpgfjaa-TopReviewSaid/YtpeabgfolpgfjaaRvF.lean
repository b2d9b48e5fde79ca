/-
  The states of the law are valid and have not ended.
-/
import Derived.Test.YtpeabgfolpgfjaaRvE
import Derived.OwnWalk
namespace Go.Proofs.Ytpeabgfolpgfjaa
open Go.RowKit Go.Lib
set_option linter.unusedSimpArgs false

/-- The states that the law reaches. -/
structure In.Ok (I : In) : Prop where
  c : 0 ≤ I.c ∧ I.c ≤ 1
  k : 0 ≤ I.k ∧ I.k ≤ 7
  so : (I.s = 0 ∧ I.o = 0 ∧ I.bat = [.int .u8 0, .int .u8 0, .int .u8 0]) ∨ (I.s = 1 ∧ I.o = 2 ∧ I.bat = [.int .u8 1, .int .u8 1, .int .u8 0]) ∨ (I.s = 2 ∧ I.o = 1 ∧ I.bat = [.int .u8 1, .int .u8 1, .int .u8 0])
  kp : 0 ≤ I.kp ∧ I.kp ≤ 3
  bw : 0 ≤ I.bw ∧ I.bw ≤ 3
  bl : I.bl = [] ∨ I.bl = [.int .i64 1]
  bf : I.bf = [] ∨ I.bf = [.int .i64 1]
  bd : ∃ m, 0 ≤ m ∧ m ≤ 8 ∧ I.bd = [.int .i64 m, .int .i64 0, .int .i64 0]
  sb : I.sb = [.bool false, .bool false, .bool false]
  age : 0 ≤ I.age ∧ I.age ≤ 8
  ra : 0 ≤ I.ra ∧ I.ra ≤ 9
  rb : 0 ≤ I.rb ∧ I.rb ≤ 9
theorem In.Ok.batl {I : In} (h : I.Ok) : I.bat.length = 3 := by rcases h.so with ⟨_, _, h⟩ | ⟨_, _, h⟩ | ⟨_, _, h⟩ <;> rw [h] <;> rfl
theorem In.Ok.sbl {I : In} (h : I.Ok) : I.sb.length = 3 := by rw [h.sb]; rfl
theorem In.Ok.bdl {I : In} (h : I.Ok) : I.bd.length = 3 := by obtain ⟨m, _, _, h⟩ := h.bd; rw [h]; rfl
theorem In.Ok.good {I : In} (h : I.Ok) : I.good where
  n0 := by rw [h.batl]; decide
  n1 := by rcases h.bl with h | h <;> rw [h] <;> decide
  n2 := by rcases h.bf with h | h <;> rw [h] <;> decide
  n3 := by rw [h.bdl]; decide
  n4 := by rw [h.sbl]; decide
  o0 := by rcases h.so with ⟨_, _, h⟩ | ⟨_, _, h⟩ | ⟨_, _, h⟩ <;> rw [h] <;> simp [Value.oneCell']
  o1 := by rcases h.bl with h | h <;> rw [h] <;> simp [Value.oneCell']
  o2 := by rcases h.bf with h | h <;> rw [h] <;> simp [Value.oneCell']
  o3 := by obtain ⟨m, _, _, h⟩ := h.bd; rw [h]; simp [Value.oneCell']
  o4 := by rw [h.sb]; simp [Value.oneCell']

theorem diff_nil (w : World) (v : Value) (h : ListAt w v []) : Calls Try.prog 24 #[v, .int .i64 3] w fun e w' => e = .returned (.bool true) ∧ w' = w := by
  obtain ⟨a, d, rfl⟩ := list_sl h
  clear h
  simp only [List.length_nil]
  go_enter Try.func24, Try.ntmps24
  go_wp2
  refine wp_loop_rounds 1 ?_
  rw [rounds_succ]
  go_wp2
  go_ret
  exact ⟨rfl, rfl⟩
theorem diff_one (w : World) (v : Value) (h : ListAt w v [.int .i64 1]) : Calls Try.prog 24 #[v, .int .i64 3] w fun e w' => e = .returned (.bool true) ∧ w' = w := by
  obtain ⟨g, o, d, rfl, hg, hc⟩ := list_form h (by simp)
  have b0 := hc 0 (.int .i64 1) rfl
  rw [Nat.add_zero] at b0
  clear hc h
  simp only [List.length_cons, List.length_nil, Nat.zero_add]
  go_enter Try.func24, Try.ntmps24
  go_wp2
  refine wp_loop_rounds 2 ?_
  iterate 2
    rw [rounds_succ]
    go_wp2_with (first | (go_at_call 22; refine (ibet_yes _ _ _ _ (by first | decide | omega)).mono ?_; rintro e w' ⟨rfl, rfl⟩) | (go_at_call 54; refine (coni_nil _ _ _ (Or.inr ⟨_, _, _, rfl, hg, fun j u hu => by simp at hu⟩)).mono ?_; rintro e w' ⟨rfl, rfl⟩))
  go_ret
  exact ⟨rfl, rfl⟩
theorem diff_any (w : World) (v : Value) (l : List Value) (hl : l = [] ∨ l = [.int .i64 1]) (h : ListAt w v l) : Calls Try.prog 24 #[v, .int .i64 3] w fun e w' => e = .returned (.bool true) ∧ w' = w := by
  rcases hl with rfl | rfl
  · exact diff_nil w v h
  · exact diff_one w v h

set_option maxHeartbeats 4000000 in
theorem batters_0 (w : World) (I : In) (h0 h1 h2 h3 h4 : Value) (hA : InAt w I h0 h1 h2 h3 h4) (hs : I.s = 0) (ho : I.o = 0) (hl : I.bat = [.int .u8 0, .int .u8 0, .int .u8 0]) : Calls Try.prog 23 #[.agg (inC I h0 h1 h2 h3 h4), .int .i64 3] w fun e w' => e = .returned (.bool true) ∧ Ext w w' := by
  obtain ⟨g, o, d, hh, hg, hc⟩ := list_form hA.l0 (by rw [hl]; decide)
  have b0 := hc 0 (.int .u8 0) (by rw [hl]; rfl)
  have b1 := hc 1 (.int .u8 0) (by rw [hl]; rfl)
  have b2 := hc 2 (.int .u8 0) (by rw [hl]; rfl)
  rw [Nat.add_zero] at b0
  rw [show I.bat.length = 3 by rw [hl]; rfl] at hh
  have HH := Lib.hid hh
  have HS := Lib.hid hs
  have HO := Lib.hid ho
  clear hA hs ho hl hc hh
  go_enter Try.func23, Try.ntmps23
  go_upto_region 1 with fail
  obtain ⟨w0, hw0⟩ : ∃ W, W = (w.alloc (.cells (inC I h0 h1 h2 h3 h4) 34)) := ⟨_, rfl⟩
  have HX := Lib.hid (show Ext w w0 by rw [hw0]; exact (by repeat (first | exact Ext.refl _ | refine Ext.drew ?_ | refine Ext.drewN ?_ _ | refine Ext.alloc ?_ _)))
  have HB0 := Lib.hid (show BoxI w0 (w.heap.size) I h0 h1 h2 h3 h4 by rw [hw0]; exact (BoxI.ext (show BoxI _ (w.heap.size) I h0 h1 h2 h3 h4 from (by have := boxI_new w I h0 h1 h2 h3 h4; simpa using this)) (by repeat (first | exact Ext.refl _ | refine Ext.drew ?_ | refine Ext.drewN ?_ _ | refine Ext.alloc ?_ _))))
  have lw0 : w.heap.size < w0.heap.size := HB0.out.lt
  have c0_14 := HB0.out.c14
  rw [HH.out] at c0_14
  have c0_12 := HB0.out.c12
  rw [HS.out] at c0_12
  have c0_13 := HB0.out.c13
  rw [HO.out] at c0_13
  have c0_4 := HB0.out.c4
  rw [← hw0]
  clear hw0
  have a0 := HX.out.keep b0
  have a1 := HX.out.keep b1
  have a2 := HX.out.keep b2
  clear b0 b1 b2
  go_wp2
  refine wp_loop_rounds 4 ?_
  iterate 4
    rw [rounds_succ]
    go_wp2_with (go_at_call 22; refine (ibet_yes _ _ _ _ (by first | decide | omega)).mono ?_; rintro e w' ⟨rfl, rfl⟩)
  go_ret
  exact ⟨rfl, HX.out.trans (by repeat (first | exact Ext.refl _ | refine Ext.drew ?_ | refine Ext.drewN ?_ _ | refine Ext.alloc ?_ _))⟩

set_option maxHeartbeats 4000000 in
theorem batters_1 (w : World) (I : In) (h0 h1 h2 h3 h4 : Value) (hA : InAt w I h0 h1 h2 h3 h4) (hs : I.s = 1) (ho : I.o = 2) (hl : I.bat = [.int .u8 1, .int .u8 1, .int .u8 0]) : Calls Try.prog 23 #[.agg (inC I h0 h1 h2 h3 h4), .int .i64 3] w fun e w' => e = .returned (.bool true) ∧ Ext w w' := by
  obtain ⟨g, o, d, hh, hg, hc⟩ := list_form hA.l0 (by rw [hl]; decide)
  have b0 := hc 0 (.int .u8 1) (by rw [hl]; rfl)
  have b1 := hc 1 (.int .u8 1) (by rw [hl]; rfl)
  have b2 := hc 2 (.int .u8 0) (by rw [hl]; rfl)
  rw [Nat.add_zero] at b0
  rw [show I.bat.length = 3 by rw [hl]; rfl] at hh
  have HH := Lib.hid hh
  have HS := Lib.hid hs
  have HO := Lib.hid ho
  clear hA hs ho hl hc hh
  go_enter Try.func23, Try.ntmps23
  go_upto_region 1 with fail
  obtain ⟨w0, hw0⟩ : ∃ W, W = (w.alloc (.cells (inC I h0 h1 h2 h3 h4) 34)) := ⟨_, rfl⟩
  have HX := Lib.hid (show Ext w w0 by rw [hw0]; exact (by repeat (first | exact Ext.refl _ | refine Ext.drew ?_ | refine Ext.drewN ?_ _ | refine Ext.alloc ?_ _)))
  have HB0 := Lib.hid (show BoxI w0 (w.heap.size) I h0 h1 h2 h3 h4 by rw [hw0]; exact (BoxI.ext (show BoxI _ (w.heap.size) I h0 h1 h2 h3 h4 from (by have := boxI_new w I h0 h1 h2 h3 h4; simpa using this)) (by repeat (first | exact Ext.refl _ | refine Ext.drew ?_ | refine Ext.drewN ?_ _ | refine Ext.alloc ?_ _))))
  have lw0 : w.heap.size < w0.heap.size := HB0.out.lt
  have c0_14 := HB0.out.c14
  rw [HH.out] at c0_14
  have c0_12 := HB0.out.c12
  rw [HS.out] at c0_12
  have c0_13 := HB0.out.c13
  rw [HO.out] at c0_13
  have c0_4 := HB0.out.c4
  rw [← hw0]
  clear hw0
  have a0 := HX.out.keep b0
  have a1 := HX.out.keep b1
  have a2 := HX.out.keep b2
  clear b0 b1 b2
  go_wp2
  refine wp_loop_rounds 4 ?_
  iterate 4
    rw [rounds_succ]
    go_wp2_with (go_at_call 22; refine (ibet_yes _ _ _ _ (by first | decide | omega)).mono ?_; rintro e w' ⟨rfl, rfl⟩)
  go_ret
  exact ⟨rfl, HX.out.trans (by repeat (first | exact Ext.refl _ | refine Ext.drew ?_ | refine Ext.drewN ?_ _ | refine Ext.alloc ?_ _))⟩

set_option maxHeartbeats 4000000 in
theorem batters_2 (w : World) (I : In) (h0 h1 h2 h3 h4 : Value) (hA : InAt w I h0 h1 h2 h3 h4) (hs : I.s = 2) (ho : I.o = 1) (hl : I.bat = [.int .u8 1, .int .u8 1, .int .u8 0]) : Calls Try.prog 23 #[.agg (inC I h0 h1 h2 h3 h4), .int .i64 3] w fun e w' => e = .returned (.bool true) ∧ Ext w w' := by
  obtain ⟨g, o, d, hh, hg, hc⟩ := list_form hA.l0 (by rw [hl]; decide)
  have b0 := hc 0 (.int .u8 1) (by rw [hl]; rfl)
  have b1 := hc 1 (.int .u8 1) (by rw [hl]; rfl)
  have b2 := hc 2 (.int .u8 0) (by rw [hl]; rfl)
  rw [Nat.add_zero] at b0
  rw [show I.bat.length = 3 by rw [hl]; rfl] at hh
  have HH := Lib.hid hh
  have HS := Lib.hid hs
  have HO := Lib.hid ho
  clear hA hs ho hl hc hh
  go_enter Try.func23, Try.ntmps23
  go_upto_region 1 with fail
  obtain ⟨w0, hw0⟩ : ∃ W, W = (w.alloc (.cells (inC I h0 h1 h2 h3 h4) 34)) := ⟨_, rfl⟩
  have HX := Lib.hid (show Ext w w0 by rw [hw0]; exact (by repeat (first | exact Ext.refl _ | refine Ext.drew ?_ | refine Ext.drewN ?_ _ | refine Ext.alloc ?_ _)))
  have HB0 := Lib.hid (show BoxI w0 (w.heap.size) I h0 h1 h2 h3 h4 by rw [hw0]; exact (BoxI.ext (show BoxI _ (w.heap.size) I h0 h1 h2 h3 h4 from (by have := boxI_new w I h0 h1 h2 h3 h4; simpa using this)) (by repeat (first | exact Ext.refl _ | refine Ext.drew ?_ | refine Ext.drewN ?_ _ | refine Ext.alloc ?_ _))))
  have lw0 : w.heap.size < w0.heap.size := HB0.out.lt
  have c0_14 := HB0.out.c14
  rw [HH.out] at c0_14
  have c0_12 := HB0.out.c12
  rw [HS.out] at c0_12
  have c0_13 := HB0.out.c13
  rw [HO.out] at c0_13
  have c0_4 := HB0.out.c4
  rw [← hw0]
  clear hw0
  have a0 := HX.out.keep b0
  have a1 := HX.out.keep b1
  have a2 := HX.out.keep b2
  clear b0 b1 b2
  go_wp2
  refine wp_loop_rounds 4 ?_
  iterate 4
    rw [rounds_succ]
    go_wp2_with (go_at_call 22; refine (ibet_yes _ _ _ _ (by first | decide | omega)).mono ?_; rintro e w' ⟨rfl, rfl⟩)
  go_ret
  exact ⟨rfl, HX.out.trans (by repeat (first | exact Ext.refl _ | refine Ext.drew ?_ | refine Ext.drewN ?_ _ | refine Ext.alloc ?_ _))⟩

theorem batters_any (w : World) (I : In) (h0 h1 h2 h3 h4 : Value) (hA : InAt w I h0 h1 h2 h3 h4) (hI : I.Ok) : Calls Try.prog 23 #[.agg (inC I h0 h1 h2 h3 h4), .int .i64 3] w fun e w' => e = .returned (.bool true) ∧ Ext w w' := by
  rcases hI.so with ⟨g1, g2, g3⟩ | ⟨g1, g2, g3⟩ | ⟨g1, g2, g3⟩
  · exact batters_0 w I h0 h1 h2 h3 h4 hA g1 g2 g3
  · exact batters_1 w I h0 h1 h2 h3 h4 hA g1 g2 g3
  · exact batters_2 w I h0 h1 h2 h3 h4 hA g1 g2 g3

theorem num1_any (x : Int) (h : 0 ≤ x ∧ x ≤ 1000000000) (w : World) : Calls Try.prog 56 #[.int .i64 x] w fun e w' => e = .returned (.bool false) ∧ w' = w := by
  go_enter Try.func56, Try.ntmps56
  go_wp2_with (go_at_call 22; refine (ibet_yes _ _ _ _ (by first | decide | omega)).mono ?_; rintro e w' ⟨rfl, rfl⟩)
  go_ret
  exact ⟨rfl, rfl⟩
set_option maxHeartbeats 4000000 in
theorem nix_no (w : World) (v : Value) (xs : List Value) (h : ListAt w v xs) (hn : xs.length ≤ 1000) (hx : ∀ j, j < xs.length → ∃ n : Int, xs[j]? = some (.int .i64 n) ∧ 0 ≤ n ∧ n ≤ 1000000000) :
    Calls Try.prog 81 #[v, .func (.func 56) #[] #[]] w fun e w' => e = .returned (.int .i64 (-1)) ∧ w' = w := by
  rcases h with ⟨rfl, rfl⟩ | ⟨g, o, d, rfl, hg, hc⟩
  · clear hx hn
    go_enter Try.func81, Try.ntmps81
    go_wp2
    refine wp_loop_rounds 1 ?_
    rw [rounds_succ]
    go_wp2
    go_ret
    exact ⟨rfl, rfl⟩
  · have HC := Lib.hid hc
    have HXX := Lib.hid hx
    clear hc hx
    go_enter Try.func81, Try.ntmps81
    go_wp2
    go_loop [8] (fun i => ∃ k : Nat, k ≤ xs.length ∧ i = .int .i64 k) (fun i => xs.length - (RowKit.intOf i).toNat)
    case atStart => exact ⟨0, by omega, rfl⟩
    case round =>
      obtain ⟨k, hk, rfl⟩ := hrel
      by_cases hlt : k < xs.length
      · obtain ⟨n, hn0, hn1, hn2⟩ := HXX.out k hlt
        have ck := HC.out k _ hn0
        clear hn0
        go_wp2_with (go_at_call 56; refine (num1_any _ ⟨hn1, hn2⟩ _).mono ?_; rintro e w' ⟨rfl, rfl⟩)
        go_round
        case rel => exact ⟨k + 1, by omega, by go_num⟩
        case measure => simp [RowKit.intOf]; omega
      · obtain rfl : k = xs.length := by omega
        go_wp2
        go_ret
        exact ⟨rfl, rfl⟩
theorem nco_no (w : World) (v : Value) (xs : List Value) (h : ListAt w v xs) (hn : xs.length ≤ 1000) (hx : ∀ j, j < xs.length → ∃ n : Int, xs[j]? = some (.int .i64 n) ∧ 0 ≤ n ∧ n ≤ 1000000000) :
    Calls Try.prog 55 #[v, .func (.func 56) #[] #[]] w fun e w' => e = .returned (.bool false) ∧ w' = w := by
  have HI := Lib.hid (nix_no w v xs h hn hx)
  clear h hn hx
  go_enter Try.func55, Try.ntmps55
  go_wp2_with (go_at_call 81; refine HI.out.mono ?_; rintro e w' ⟨rfl, rfl⟩)
  go_ret
  exact ⟨rfl, rfl⟩
theorem own_built (w : World) (xs : List Value) (e : TypeId) (b : Nat) (hb : b ≤ w.heap.size) (hm : xs.length ≤ 1000) : (w.alloc (.cells xs.toArray e)).ownsRow b e 1 (.slice (some ⟨w.heap.size, 0, none⟩) xs.length xs.length) xs.length xs :=
  ⟨by simp, .inr ⟨w.heap.size, xs.length, xs.toArray, rfl, hb, heap_alloc_new w _, Nat.le_refl _, by unfold maxLen; omega, by simp, by simp⟩⟩
set_option maxHeartbeats 8000000 in
theorem numbers_any (w : World) (I : In) (h0 h1 h2 h3 h4 : Value) (hA : InAt w I h0 h1 h2 h3 h4) (hI : I.Ok) : Calls Try.prog 25 #[.agg (inC I h0 h1 h2 h3 h4)] w fun e w' => e = .returned (.bool true) ∧ Ext w w' := by
  obtain ⟨m, hm0, hm1, hl⟩ := hI.bd
  obtain ⟨g, o, d, hh, hg, hc⟩ := list_form hA.l3 (by rw [hl]; simp)
  rw [hl] at hc
  rw [show I.bd.length = 3 by rw [hl]; rfl] at hh
  have HH := Lib.hid hh
  have HC := Lib.hid hc
  have HI := Lib.hid hI
  have HM := Lib.hid (And.intro hm0 hm1)
  obtain ⟨i0, hi, hz0, hz1, hz2⟩ := info_parts info_int
  clear hA hl hc hh hI hm0 hm1
  go_enter Try.func25, Try.ntmps25
  go_upto_region 1 with fail
  obtain ⟨w0, hw0⟩ : ∃ W, W = (w.alloc (.cells (inC I h0 h1 h2 h3 h4) 34)) := ⟨_, rfl⟩
  have HX := Lib.hid (show Ext w w0 by rw [hw0]; exact (by repeat (first | exact Ext.refl _ | refine Ext.drew ?_ | refine Ext.drewN ?_ _ | refine Ext.alloc ?_ _)))
  have HB0 := Lib.hid (show BoxI w0 (w.heap.size) I h0 h1 h2 h3 h4 by rw [hw0]; exact (BoxI.ext (show BoxI _ (w.heap.size) I h0 h1 h2 h3 h4 from (by have := boxI_new w I h0 h1 h2 h3 h4; simpa using this)) (by repeat (first | exact Ext.refl _ | refine Ext.drew ?_ | refine Ext.drewN ?_ _ | refine Ext.alloc ?_ _))))
  have lw0 : w.heap.size < w0.heap.size := HB0.out.lt
  have c0_5 := HB0.out.c5
  have c0_6 := HB0.out.c6
  have c0_7 := HB0.out.c7
  have c0_8 := HB0.out.c8
  have c0_9 := HB0.out.c9
  have c0_1 := HB0.out.c1
  have c0_3 := HB0.out.c3
  have c0_10 := HB0.out.c10
  have c0_21 := HB0.out.c21
  have c0_23 := HB0.out.c23
  have c0_25 := HB0.out.c25
  have c0_26 := HB0.out.c26
  have c0_19 := HB0.out.c19
  rw [HH.out] at c0_19
  rw [← hw0]
  clear hw0
  have hs1 : (w0.alloc (.cells #[.int .i64 0, .int .i64 0, .int .i64 0, .int .i64 0, .int .i64 0] 27)).heap.size = w0.heap.size + 1 := by simp
  have HOW : Hid (((w0.alloc (.cells #[.int .i64 0, .int .i64 0, .int .i64 0, .int .i64 0, .int .i64 0] 27)).alloc (.cells #[.int .i64 0, .int .i64 0, .int .i64 0, .int .i64 0, .int .i64 0, .int .i64 0, .int .i64 0, .int .i64 I.c, .int .i64 I.age, .int .i64 0, .int .i64 I.ra, .int .i64 I.rb] 3)).ownsRow w.heap.size 3 1 (.slice (some ⟨w0.heap.size + 1, 0, none⟩) 12 12) 12 [.int .i64 0, .int .i64 0, .int .i64 0, .int .i64 0, .int .i64 0, .int .i64 0, .int .i64 0, .int .i64 I.c, .int .i64 I.age, .int .i64 0, .int .i64 I.ra, .int .i64 I.rb]) := by
    have := own_built (w0.alloc (.cells #[.int .i64 0, .int .i64 0, .int .i64 0, .int .i64 0, .int .i64 0] 27)) [.int .i64 0, .int .i64 0, .int .i64 0, .int .i64 0, .int .i64 0, .int .i64 0, .int .i64 0, .int .i64 I.c, .int .i64 I.age, .int .i64 0, .int .i64 I.ra, .int .i64 I.rb] 3 w.heap.size (by omega) (by simp)
    rw [hs1] at this
    exact this
  clear hs1
  go_upto_region 3 with (at_builtin; refine wpList_append_own _ rfl _ _ 29 rfl w.heap.size 3 i0 (.int .i64 0) 1 8 Try.underlying29 hi hz0 hz1 hz2 rfl (by decide) _ _ _ rfl HOW.out ⟨g, o, none⟩ 3 d [.int .i64 m, .int .i64 0, .int .i64 0] rfl rfl ?qc1 ?qc2 ?qc3 ?qc4 ?qc5 ?_)
  case qc1 =>
    intro j u hj
    rw [Addr.add_lit]
    exact (HX.out.trans (by repeat (first | exact Ext.refl _ | refine Ext.drew ?_ | refine Ext.drewN ?_ _ | refine Ext.alloc ?_ _))).keep (HC.out j u hj)
  case qc2 => intro u hu; simp at hu; rcases hu with rfl | rfl <;> rfl
  case qc3 => unfold maxLen; omega
  case qc4 => omega
  case qc5 => simp; omega
  intro v' w2 hown' hgrow hnil
  have HL : Hid (ListAt w2 v' ([.int .i64 0, .int .i64 0, .int .i64 0, .int .i64 0, .int .i64 0, .int .i64 0, .int .i64 0, .int .i64 I.c, .int .i64 I.age, .int .i64 0, .int .i64 I.ra, .int .i64 I.rb] ++ [.int .i64 m, .int .i64 0, .int .i64 0])) := own_list hown'
  have HX2 : Hid (Ext w w2) := Lib.hid (ext_grown (HX.out.trans (by repeat (first | exact Ext.refl _ | refine Ext.drew ?_ | refine Ext.drewN ?_ _ | refine Ext.alloc ?_ _))) hgrow (own_row_ge HOW.out))
  clear hown' hgrow hnil HOW
  have HN : Hid (∀ j, j < ([.int .i64 0, .int .i64 0, .int .i64 0, .int .i64 0, .int .i64 0, .int .i64 0, .int .i64 0, .int .i64 I.c, .int .i64 I.age, .int .i64 0, .int .i64 I.ra, .int .i64 I.rb] ++ [.int .i64 m, .int .i64 0, .int .i64 0] : List Value).length → ∃ n : Int, ([.int .i64 0, .int .i64 0, .int .i64 0, .int .i64 0, .int .i64 0, .int .i64 0, .int .i64 0, .int .i64 I.c, .int .i64 I.age, .int .i64 0, .int .i64 I.ra, .int .i64 I.rb] ++ [.int .i64 m, .int .i64 0, .int .i64 0] : List Value)[j]? = some (.int .i64 n) ∧ 0 ≤ n ∧ n ≤ 1000000000) := by
    intro j hj
    have hc := HI.out.c
    have ha := HI.out.age
    have h3 := HI.out.ra
    have h4 := HI.out.rb
    have hm := HM.out
    rcases j with _ | _ | _ | _ | _ | _ | _ | _ | _ | _ | _ | _ | _ | _ | _ | j
    all_goals first | exact ⟨_, rfl, by omega, by omega⟩ | (exfalso; simp at hj; omega) | (simp at hj)
  go_wp2_with (go_at_call 55; refine (nco_no _ _ _ HL.out (by simp) HN.out).mono ?_; rintro e w' ⟨rfl, rfl⟩)
  go_ret
  exact ⟨rfl, HX2.out.trans (by repeat (first | exact Ext.refl _ | refine Ext.drew ?_ | refine Ext.drewN ?_ _ | refine Ext.alloc ?_ _))⟩

end Go.Proofs.Ytpeabgfolpgfjaa

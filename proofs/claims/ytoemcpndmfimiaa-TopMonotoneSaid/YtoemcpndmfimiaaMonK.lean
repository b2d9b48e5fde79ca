/-
  The law TopMonotone, walked: the repaired tables, the stops and what is left.
-/
import Derived.Test.YtoemcpndmfimiaaMonJ
import Derived.Deep.DeepCutAuto
import Derived.Deep.RegionLawGrows
namespace Go.Proofs.Ytoemcpndmfimiaa
open Go.RowKit
set_option linter.unusedSimpArgs false

theorem infoS : (Try.prog.info? 37).map (fun i => (i.zero, i.size, i.bytes)) = some (some (.agg #[.int .i64 0, .int .i64 0, .int .i64 0]), 3, 24) := by kernel_rfl
theorem stops_of {w : World} {base : Nat} {v : Value} {e : TypeId} {p q s K : Int} (h : w.ownsRow base e 3 v 2 [.int .i64 p, .int .i64 q, .int .i64 K, .int .i64 q, .int .i64 s, .int .i64 K]) :
    ∃ g2 cap, v = .slice (some ⟨g2, 0, none⟩) 2 cap ∧ 2 ≤ cap ∧ StopsAt w (some ⟨g2, 0, none⟩) 2 g2 0 (stF p q s K) := by
  rcases h.2 with ⟨_, h0⟩ | ⟨g, cap, cur, rfl, hb, hg, hn, hm, hs, ht⟩
  · omega
  · refine ⟨g, cap, rfl, hn, fun _ => ⟨rfl, (Array.getElem?_eq_some_iff.1 hg).1⟩, fun i j hi hj => ?_⟩
    have hij : i = 0 ∨ i = 1 := by omega
    have hjj : j = 0 ∨ j = 1 ∨ j = 2 := by omega
    have hc := h.cells (g := g) rfl
    rcases hij with rfl | rfl <;> rcases hjj with rfl | rfl | rfl
    · have := hc 0 _ rfl; rwa [add_off] at this
    · have := hc 1 _ rfl; rwa [add_off] at this
    · have := hc 2 _ rfl; rwa [add_off] at this
    · have := hc 3 _ rfl; rwa [add_off] at this
    · have := hc 4 _ rfl; rwa [add_off] at this
    · have := hc 5 _ rfl; rwa [add_off] at this
/-- What the repair of the second table leaves. -/
def UpP (w4 : World) (n' : Nat) (L' : Nat → Nat) (R' : Nat → Nat → Int) (s9 s10 : Value) (wx : World) : Prop :=
  Ext w4 wx ∧ ∃ (p9 : Nat) (E : Int), s9 = .pointer (some ⟨p9, 0, none⟩) ∧ s10 = .int .i64 E ∧ (E ≠ 0 ∨ (E = 0 ∧ ∃ (ub d : Nat) (G2 C2 : Nat → Nat) (U : Nat → Nat → Int), wx.cell? ⟨p9, 0, none⟩ = some (.slice (some ⟨ub, 0, none⟩) n' d) ∧
    TabAt wx (some ⟨ub, 0, none⟩) n' (fun i => some ⟨G2 i, 0, none⟩) (fun _ => L' 0) C2 U ub 0 G2 (fun _ => 0) ∧ Good n' (L' 0) R' U ∧ Stable n' (L' 0) U ∧ checkV n' (fun _ => L' 0) U = 0 ∧ shapeV n' L' R' = 0))

set_option maxRecDepth 20000 in
set_option maxHeartbeats 16000000 in
theorem mono_main (w : World) {A0 : Option Addr} {n : Nat} {A : Nat → Option Addr} {L C : Nat → Nat} {R : Nat → Nat → Int} {b off : Nat} {G O : Nat → Nat} (c0 : Nat) (T : TabAt w A0 n A L C R b off G O) {A1 : Option Addr} {n' : Nat} {A' : Nat → Option Addr} {L' C' : Nat → Nat} {R' : Nat → Nat → Int} {b' off' : Nat} {G' O' : Nat → Nat} (c1 : Nat) (T' : TabAt w A1 n' A' L' C' R' b' off' G' O') (x0 x1 x2 x3 : Int) (h1 : n ≤ 8) (h2 : n' ≤ 8) (h0 : 0 < n) (h6 : L 0 ≤ 6) (h : rendsV n L R = 0) :
    Calls Try.prog 3 #[.agg #[.slice A0 n c0], .agg #[.slice A1 n' c1], .agg #[.int .i64 x0, .int .i64 x1, .int .i64 x2, .int .i64 x3]] w fun e w' => e = .returned (.bool true) ∧ Ext w w' := by
  have hn := T.nle
  have hn' := T'.nle
  obtain ⟨n1, n2, l1, l2, hL, hV⟩ := shape_zero (rends_zero h).1
  have HSR := Lib.hid (rends_zero h).1
  have HLL := Lib.hid hL
  have HO := Lib.hid (@ovV_pos n (by omega))
  have HW := Lib.hid (@wkV_pos n (fun _ => L 0) (by omega))
  have HE := Lib.hid (ends_zero (rends_zero h).2).2
  obtain ⟨rfl, hbl⟩ := T.top h0
  have hl0 := T.lle 0 h0
  have hr0 : w.cell? ⟨b, off, none⟩ = some (.slice (A 0) (L 0) (C 0)) := by simpa using T.row 0 h0
  have HR := Lib.hid h
  clear h hL hV
  go_enter Try.func3, Try.ntmps3
  go_wp2_with ((fail_if_success (have hzz := hb1)); go_at_call 4; refine (rainAwake_any _).mono ?_; rintro e w1 ⟨rfl, hb1⟩; have TX := T.ext (((((Ext.refl _).alloc _).alloc _).alloc _).trans hb1); have TY := T'.ext (((((Ext.refl _).alloc _).alloc _).alloc _).trans hb1); have hX1 : Ext w w1 := ((((Ext.refl _).alloc _).alloc _).alloc _).trans hb1; have a3_1 : w1.cell? ⟨w.heap.size, 0, none⟩ = some (.slice (some ⟨b, off, none⟩) n c0) := hb1.keep (by simp [go_sem]); have a4_1 : w1.cell? ⟨w.heap.size + 1, 0, none⟩ = some (.slice A1 n' c1) := hb1.keep (by simp [go_sem]); have ax0_1 : w1.cell? ⟨w.heap.size + 2, 0, none⟩ = some (.int .i64 x0) := hb1.keep (by simp [go_sem]); have ax1_1 : w1.cell? ⟨w.heap.size + 2, 1, none⟩ = some (.int .i64 x1) := hb1.keep (by simp [go_sem]); have ax2_1 : w1.cell? ⟨w.heap.size + 2, 2, none⟩ = some (.int .i64 x2) := hb1.keep (by simp [go_sem]); have ax3_1 : w1.cell? ⟨w.heap.size + 2, 3, none⟩ = some (.int .i64 x3) := hb1.keep (by simp [go_sem]); have r0_1 : w1.cell? ⟨b, off, none⟩ = some (.slice (A 0) (L 0) (C 0)) := hX1.keep hr0)
  refine (above_ok _ c0 TX HR.out).mono ?_
  rintro e w2 ⟨tb, c, G1, C1, Z, rfl, hb2, hRows, hG, hS⟩
  have hc : checkV n (fun _ => L 0) Z = 0 := check_of (L := fun _ => L 0) hG hS n1 n2 l1 l2 (fun _ _ => rfl) HE.out
  have HC := Lib.hid hc
  have HSH := Lib.hid (rends_zero (check_zero hc).1).1
  have HCV := Lib.hid (@covers_yes n n (fun _ => L 0) L Z R rfl rfl (fun u w hu hw => hG.lo u w hu hw))
  have HGZ := Lib.hid hG
  have HSZ := Lib.hid hS
  have e2 : Ext w2 (w2.alloc (.cells #[.slice (some ⟨tb, 0, none⟩) n c] 24)) := (Ext.refl _).alloc _
  have TR2 := (hRows.ext e2).tab n2 l2
  have TX2 := (TX.ext hb2).ext e2
  have TY2 := (TY.ext hb2).ext e2
  skip; have a3_2 : w2.cell? ⟨w.heap.size, 0, none⟩ = some (.slice (some ⟨b, off, none⟩) n c0) := hb2.keep (a3_1); have a4_2 : w2.cell? ⟨w.heap.size + 1, 0, none⟩ = some (.slice A1 n' c1) := hb2.keep (a4_1); have ax0_2 : w2.cell? ⟨w.heap.size + 2, 0, none⟩ = some (.int .i64 x0) := hb2.keep (ax0_1); have ax1_2 : w2.cell? ⟨w.heap.size + 2, 1, none⟩ = some (.int .i64 x1) := hb2.keep (ax1_1); have ax2_2 : w2.cell? ⟨w.heap.size + 2, 2, none⟩ = some (.int .i64 x2) := hb2.keep (ax2_1); have ax3_2 : w2.cell? ⟨w.heap.size + 2, 3, none⟩ = some (.int .i64 x3) := hb2.keep (ax3_1)
  have l2b : w.heap.size + 2 < w2.heap.size := cell_lt ax0_2
  clear hc hG hS hRows
  go_wp2_with fail
  refine (check_any _ c TR2).mono ?_
  rintro e w3 ⟨rfl, hb3⟩
  rw [HC.out]
  have TR3 := TR2.ext hb3
  have TX3 := TX2.ext hb3
  have TY3 := TY2.ext hb3
  have a3_3 : w3.cell? ⟨w.heap.size, 0, none⟩ = some (.slice (some ⟨b, off, none⟩) n c0) := hb3.keep (e2.keep a3_2)
  have a4_3 : w3.cell? ⟨w.heap.size + 1, 0, none⟩ = some (.slice A1 n' c1) := hb3.keep (e2.keep a4_2)
  have ax0_3 : w3.cell? ⟨w.heap.size + 2, 0, none⟩ = some (.int .i64 x0) := hb3.keep (e2.keep ax0_2)
  have ax1_3 : w3.cell? ⟨w.heap.size + 2, 1, none⟩ = some (.int .i64 x1) := hb3.keep (e2.keep ax1_2)
  have ax2_3 : w3.cell? ⟨w.heap.size + 2, 2, none⟩ = some (.int .i64 x2) := hb3.keep (e2.keep ax2_2)
  have ax3_3 : w3.cell? ⟨w.heap.size + 2, 3, none⟩ = some (.int .i64 x3) := hb3.keep (e2.keep ax3_2)
  have a7_3 : w3.cell? ⟨w2.heap.size, 0, none⟩ = some (.slice (some ⟨tb, 0, none⟩) n c) := hb3.keep (by simp [go_sem])
  have la3_3 := cell_lt a3_3
  have la4_3 := cell_lt a4_3
  have lax0_3 := cell_lt ax0_3
  have la7_3 := cell_lt a7_3
  go_wp2_with fail
  refine (covers_any _ c TR3 c0 TX3 HSH.out HSR.out).mono ?_
  rintro e w4 ⟨rfl, hb4⟩
  rw [HCV.out]
  have TR4 := TR3.ext hb4
  have TX4 := TX3.ext hb4
  have TY4 := TY3.ext hb4
  have a3_4 : w4.cell? ⟨w.heap.size, 0, none⟩ = some (.slice (some ⟨b, off, none⟩) n c0) := hb4.keep (a3_3)
  have a4_4 : w4.cell? ⟨w.heap.size + 1, 0, none⟩ = some (.slice A1 n' c1) := hb4.keep (a4_3)
  have ax0_4 : w4.cell? ⟨w.heap.size + 2, 0, none⟩ = some (.int .i64 x0) := hb4.keep (ax0_3)
  have ax1_4 : w4.cell? ⟨w.heap.size + 2, 1, none⟩ = some (.int .i64 x1) := hb4.keep (ax1_3)
  have ax2_4 : w4.cell? ⟨w.heap.size + 2, 2, none⟩ = some (.int .i64 x2) := hb4.keep (ax2_3)
  have ax3_4 : w4.cell? ⟨w.heap.size + 2, 3, none⟩ = some (.int .i64 x3) := hb4.keep (ax3_3)
  have a7_4 : w4.cell? ⟨w2.heap.size, 0, none⟩ = some (.slice (some ⟨tb, 0, none⟩) n c) := hb4.keep (a7_3)
  have la3_4 := cell_lt a3_4
  have la4_4 := cell_lt a4_4
  have lax0_4 := cell_lt ax0_4
  have la7_4 := cell_lt a7_4
  clear TX TY
  clear TX2 TY2 TR2 TX3 TY3 TR3
  have hX4 : Ext w w4 := (((hX1.trans hb2).trans e2).trans hb3).trans hb4
  have HL4 := hX4.size
  go_upto_region 10 with fail
  go_cut [9, 10] (fun s9 s10 wx => UpP w4 n' L' R' s9 s10 wx)
  case first =>
    by_cases hm : rendsV n' L' R' = 0
    · have hsh := (rends_zero hm).1
      obtain ⟨m1, m2, k1, k2, hLm, hVm⟩ := shape_zero hsh
      have hem := (ends_zero (rends_zero hm).2).2
      have HM := Lib.hid hm
      have HSM := Lib.hid hsh
      clear hm hsh hLm hVm
      go_wp2_with fail
      refine (above_ok _ c1 TY4 HM.out).mono ?_
      rintro e w5 ⟨ub, d, G2, C2, U, rfl, hb5, hRows, hG, hS⟩
      have hcu : checkV n' (fun _ => L' 0) U = 0 := check_of (L := fun _ => L' 0) hG hS m1 m2 k1 k2 (fun _ _ => rfl) hem
      have e5 : Ext w5 (w5.alloc (.cells #[.slice (some ⟨ub, 0, none⟩) n' d] 24)) := (Ext.refl _).alloc _
      have TU5 := (hRows.ext e5).tab m2 k2
      go_wp2_with fail
      go_meet
      exact ⟨hb5.trans e5, w5.heap.size, 0, rfl, rfl, .inr ⟨rfl, ub, d, G2, C2, U, by simp [go_sem], TU5, hG, hS, hcu, HSM.out⟩⟩
    · have HM := Lib.hid hm
      clear hm
      go_wp2_with fail
      refine (above_no _ c1 TY4 HM.out).mono ?_
      rintro e w5 ⟨rfl, hb5⟩
      go_wp2_with fail
      go_meet
      exact ⟨hb5.trans ((Ext.refl _).alloc _), w5.heap.size, _, rfl, rfl, .inl HM.out⟩
  case rest =>
  obtain ⟨hb5, p9, E, rfl, rfl, hcase⟩ := hcut
  obtain ⟨w5, rfl⟩ : ∃ w5, w5 = wc := ⟨_, rfl⟩
  have TR5 := TR4.ext hb5
  have TX5 := TX4.ext hb5
  have TY5 := TY4.ext hb5
  have a3_5 : w5.cell? ⟨w.heap.size, 0, none⟩ = some (.slice (some ⟨b, off, none⟩) n c0) := hb5.keep a3_4
  have a4_5 : w5.cell? ⟨w.heap.size + 1, 0, none⟩ = some (.slice A1 n' c1) := hb5.keep a4_4
  have ax0_5 : w5.cell? ⟨w.heap.size + 2, 0, none⟩ = some (.int .i64 x0) := hb5.keep ax0_4
  have ax1_5 : w5.cell? ⟨w.heap.size + 2, 1, none⟩ = some (.int .i64 x1) := hb5.keep ax1_4
  have ax2_5 : w5.cell? ⟨w.heap.size + 2, 2, none⟩ = some (.int .i64 x2) := hb5.keep ax2_4
  have ax3_5 : w5.cell? ⟨w.heap.size + 2, 3, none⟩ = some (.int .i64 x3) := hb5.keep ax3_4
  have a7_5 : w5.cell? ⟨w2.heap.size, 0, none⟩ = some (.slice (some ⟨tb, 0, none⟩) n c) := hb5.keep a7_4
  have la3_5 := cell_lt a3_5
  have la4_5 := cell_lt a4_5
  have lax0_5 := cell_lt ax0_5
  have la7_5 := cell_lt a7_5
  clear a3_4 a4_4 ax0_4 ax1_4 ax2_4 ax3_4 a7_4 la3_4 la4_4 lax0_4 la7_4
  go_upto_region 11 with fail
  go_cut [82] (fun s82 wx => s82 = .bool false ∧ Ext w5 wx)
  case first =>
    rcases hcase with hE | ⟨rfl, ub, d, G2, C2, U, u9, TU5, hG, hS, hcu, hsm⟩
    · have hE' : (E == 0) = false := by simpa using hE
      clear hE
      go_wp2_with fail
      go_meet
      exact ⟨rfl, Ext.refl _⟩
    · have HSU := Lib.hid (rends_zero (check_zero hcu).1).1
      have HSM := Lib.hid hsm
      clear hcu hsm
      go_wp2_with fail
      by_cases hq : coversV n' n L' L R' R = true
      · have HQ := Lib.hid hq
        obtain ⟨hq1, hq2, hq3⟩ := covers_says hq
        have HT := Lib.hid (@covers_yes n' n (fun _ => L' 0) (fun _ => L 0) U Z hq1 hq2 (by subst hq1; exact covers_least hq2 HGZ.out hG hS hq3))
        clear hq hq1 hq2 hq3 hG hS
        refine (covers_any _ c1 TY5 c0 TX5 HSM.out HSR.out).mono ?_
        rintro e w6 ⟨rfl, hb6⟩
        rw [HQ.out]
        have TR6 := TR5.ext hb6
        have TU6 := TU5.ext hb6
        have u9_6 := hb6.keep u9
        have a3_6 : w6.cell? ⟨w.heap.size, 0, none⟩ = some (.slice (some ⟨b, off, none⟩) n c0) := hb6.keep (a3_5)
        have a4_6 : w6.cell? ⟨w.heap.size + 1, 0, none⟩ = some (.slice A1 n' c1) := hb6.keep (a4_5)
        have ax0_6 : w6.cell? ⟨w.heap.size + 2, 0, none⟩ = some (.int .i64 x0) := hb6.keep (ax0_5)
        have ax1_6 : w6.cell? ⟨w.heap.size + 2, 1, none⟩ = some (.int .i64 x1) := hb6.keep (ax1_5)
        have ax2_6 : w6.cell? ⟨w.heap.size + 2, 2, none⟩ = some (.int .i64 x2) := hb6.keep (ax2_5)
        have ax3_6 : w6.cell? ⟨w.heap.size + 2, 3, none⟩ = some (.int .i64 x3) := hb6.keep (ax3_5)
        have a7_6 : w6.cell? ⟨w2.heap.size, 0, none⟩ = some (.slice (some ⟨tb, 0, none⟩) n c) := hb6.keep (a7_5)
        have la3_6 := cell_lt a3_6
        have la4_6 := cell_lt a4_6
        have lax0_6 := cell_lt ax0_6
        have la7_6 := cell_lt a7_6
        clear a3_5 a4_5 ax0_5 ax1_5 ax2_5 ax3_5 a7_5 la3_5 la4_5 lax0_5 la7_5
        go_wp2_with fail
        refine (covers_any _ d TU6 c TR6 HSU.out HSH.out).mono ?_
        rintro e w7 ⟨rfl, hb7⟩
        rw [HT.out]
        go_wp2_with fail
        go_meet
        exact ⟨rfl, hb6.trans hb7⟩
      · have HQ := Lib.hid (show coversV n' n L' L R' R = false by simpa using hq)
        clear hq
        refine (covers_any _ c1 TY5 c0 TX5 HSM.out HSR.out).mono ?_
        rintro e w6 ⟨rfl, hb6⟩
        rw [HQ.out]
        go_wp2_with fail
        go_meet
        exact ⟨rfl, hb6⟩
  case rest =>
  obtain ⟨rfl, hXy⟩ := hcut
  obtain ⟨wy, rfl⟩ : ∃ wy, wy = wc := ⟨_, rfl⟩
  have TRz := TR5.ext hXy
  have hXz := (hX4.trans hb5).trans hXy
  clear hcase TX5 TY5
  have a7_y : wy.cell? ⟨w2.heap.size, 0, none⟩ = some (.slice (some ⟨tb, 0, none⟩) n c) := hXy.keep a7_5
  have ax0_y : wy.cell? ⟨w.heap.size + 2, 0, none⟩ = some (.int .i64 x0) := hXy.keep ax0_5
  have ax1_y : wy.cell? ⟨w.heap.size + 2, 1, none⟩ = some (.int .i64 x1) := hXy.keep ax1_5
  have ax2_y : wy.cell? ⟨w.heap.size + 2, 2, none⟩ = some (.int .i64 x2) := hXy.keep ax2_5
  have ax3_y : wy.cell? ⟨w.heap.size + 2, 3, none⟩ = some (.int .i64 x3) := hXy.keep ax3_5
  clear a3_5 a4_5 ax0_5 ax1_5 ax2_5 ax3_5 a7_5 la3_5 la4_5 lax0_5 la7_5
  go_wp2_with fail
  refine (overs_any _ _ n c hn).mono ?_
  rintro e wd ⟨rfl, hbd⟩
  rw [HO.out]
  have a7_d : wd.cell? ⟨w2.heap.size, 0, none⟩ = some (.slice (some ⟨tb, 0, none⟩) n c) := hbd.keep (a7_y)
  have la7_d := cell_lt a7_d
  have ax0_d : wd.cell? ⟨w.heap.size + 2, 0, none⟩ = some (.int .i64 x0) := hbd.keep (ax0_y)
  have lax0_d := cell_lt ax0_d
  have ax1_d : wd.cell? ⟨w.heap.size + 2, 1, none⟩ = some (.int .i64 x1) := hbd.keep (ax1_y)
  have lax1_d := cell_lt ax1_d
  have ax2_d : wd.cell? ⟨w.heap.size + 2, 2, none⟩ = some (.int .i64 x2) := hbd.keep (ax2_y)
  have lax2_d := cell_lt ax2_d
  have ax3_d : wd.cell? ⟨w.heap.size + 2, 3, none⟩ = some (.int .i64 x3) := hbd.keep (ax3_y)
  have lax3_d := cell_lt ax3_d
  have TRd := TRz.ext hbd
  have hXd := hXz.trans hbd
  have eb : Ext wd (wd.alloc (.cells #[.int .i64 (((n : Int) - 1) * 6)] 2)) := (Ext.refl _).alloc _
  have hB0 : 0 ≤ (((n : Int) - 1) * 6) := by omega
  have hB1 : (((n : Int) - 1) * 6) ≤ 1000000 := by omega
  have hB2 : 6 ≤ (((n : Int) - 1) * 6) := by omega
  have HAT := Lib.hid (fun (W : World) (x : Int) (hc : W.cell? ⟨wd.heap.size, 0, none⟩ = some (.int .i64 (((n : Int) - 1) * 6))) => rem_any W x _ wd.heap.size hc hB0 hB1)
  obtain ⟨r00, r01⟩ := rem_bd x0 hB0 hB1
  obtain ⟨r10, r11⟩ := rem_bd x1 hB0 hB1
  go_upto_region 15 with fail
  have b11_d : (wd.alloc (.cells #[.int .i64 (((n : Int) - 1) * 6)] 2)).cell? ⟨wd.heap.size, 0, none⟩ = some (.int .i64 (((n : Int) - 1) * 6)) := by simp [go_sem]
  replace a7_d := eb.keep a7_d
  clear la7_d
  replace ax0_d := eb.keep ax0_d
  clear lax0_d
  replace ax1_d := eb.keep ax1_d
  clear lax1_d
  replace ax2_d := eb.keep ax2_d
  clear lax2_d
  replace ax3_d := eb.keep ax3_d
  clear lax3_d
  replace TRd := TRd.ext eb
  replace hXd := hXd.trans eb
  clear hbd eb
  generalize wd.alloc (.cells #[.int .i64 (((n : Int) - 1) * 6)] 2) = we at *
  go_cut [13, 14] (fun s13 s14 wx => ∃ p q : Int, s13 = .int .i64 p ∧ s14 = .int .i64 q ∧ 0 ≤ q ∧ q ≤ p ∧ p ≤ (((n : Int) - 1) * 6) ∧ Ext we wx)
  case first =>
    have htri : (remV x0 (((n : Int) - 1) * 6) < remV x1 (((n : Int) - 1) * 6) ∧ ¬ remV x1 (((n : Int) - 1) * 6) < remV x0 (((n : Int) - 1) * 6)) ∨ (¬ remV x0 (((n : Int) - 1) * 6) < remV x1 (((n : Int) - 1) * 6) ∧ remV x1 (((n : Int) - 1) * 6) < remV x0 (((n : Int) - 1) * 6)) ∨ (¬ remV x0 (((n : Int) - 1) * 6) < remV x1 (((n : Int) - 1) * 6) ∧ ¬ remV x1 (((n : Int) - 1) * 6) < remV x0 (((n : Int) - 1) * 6)) := by omega
    rcases htri with ⟨hcm, hcn⟩ | ⟨hcm, hcn⟩ | ⟨hcm, hcn⟩
    all_goals
      go_quiet ((go_at_call 9; refine Calls.quiet_of_same (HAT.out _ _ (by simp [go_sem, *]))))
      go_wp2_with fail
      go_meet
      exact ⟨_, _, rfl, rfl, by first | assumption | omega, by first | assumption | omega, by first | assumption | omega, by first | exact Ext.refl _ | exact (Ext.refl _).drewN _⟩
  case rest =>
    obtain ⟨p, q, rfl, rfl, g1, g2', g3, hXc⟩ := hcut
    obtain ⟨wv, rfl⟩ : ∃ wv, wv = wc := ⟨_, rfl⟩
    have TRv := TRd.ext hXc
    have hXv := hXd.trans hXc
    have a7_v : wv.cell? ⟨w2.heap.size, 0, none⟩ = some (.slice (some ⟨tb, 0, none⟩) n c) := hXc.keep a7_d
    have la7_v := cell_lt a7_v
    have ax2_v : wv.cell? ⟨w.heap.size + 2, 2, none⟩ = some (.int .i64 x2) := hXc.keep ax2_d
    have lax2_v := cell_lt ax2_v
    have ax3_v : wv.cell? ⟨w.heap.size + 2, 3, none⟩ = some (.int .i64 x3) := hXc.keep ax3_d
    have lax3_v := cell_lt ax3_v
    have b11_v : wv.cell? ⟨wd.heap.size, 0, none⟩ = some (.int .i64 (((n : Int) - 1) * 6)) := hXc.keep b11_d
    have lb11_v := cell_lt b11_v
    clear a7_d ax0_d ax1_d ax2_d ax3_d b11_d
    clear TRd hXd
    have v1 : IntKind.i64.wrap ((L 0 : Int) + 1) = (L 0 : Int) + 1 := IntWalk.i64_in _ (by omega)
    have v2 : IntKind.u64.wrap ((L 0 : Int) + 1) = (L 0 : Int) + 1 := by rw [IntKind.wrap_u64]; omega
    have v3 : ¬ ((L 0 : Int) + 1 = 0) := by omega
    have hK := rem_bd x2 (m := (L 0 : Int)) (by omega) (by omega)
    have hK2 := hK
    unfold remV at hK2
    have hK3 := hK2
    rw [IntWalk.i64_left] at hK3
    go_upto_region 16 with fail
    go_cut [15] (fun s15 wx => ∃ (g : Nat) (kw : Int), s15 = .slice (some ⟨g, 0, none⟩) 1 1 ∧ 0 ≤ kw ∧ kw ≤ (L 0 : Int) ∧ wx.heap[g]? = some (.cells #[.int .i64 p, .int .i64 q, .int .i64 kw] 37 (0, 0)) ∧ wv.heap.size ≤ g ∧ Ext wv wx)
    case first =>
      refine wp_region_held_drew (S := (fun w' => w'.cell? ⟨w2.heap.size, 0, none⟩ = some (.slice (some ⟨tb, 0, none⟩) n c) ∧ w'.cell? ⟨w.heap.size + 2, 2, none⟩ = some (.int .i64 x2))) (by kernel_rfl) (by simp [go_sem, *]) (fun hHeld => ?_)
      refine wpAnyH_take (i := 0) (v := ?v1) rfl (by kernel_rfl) (by kernel_rfl) (by kernel_rfl) (fun _ _ _ h => h) (Or.inl ⟨by rfl, ?y1⟩) (by assumption) ?r1
      case y1 => ((intro w hSw; (try dsimp only at hSw); go_simp; (first | done | with_reducible rfl)))
      (try simp only [List.getElem_toArray, List.getElem_cons_succ, List.getElem_cons_zero, Act.put, List.setIfInBounds_toArray, List.set_cons_zero, List.set_cons_succ])
      refine wpAnyH_take (i := 1) (v := ?v2) rfl (by kernel_rfl) (by kernel_rfl) (by kernel_rfl) (fun _ _ _ h => h) (Or.inl ⟨by rfl, ?y2⟩) (by assumption) ?r2
      case y2 => ((intro w hSw; (try dsimp only at hSw); go_simp; (first | done | with_reducible rfl)))
      (try simp only [List.getElem_toArray, List.getElem_cons_succ, List.getElem_cons_zero, Act.put, List.setIfInBounds_toArray, List.set_cons_zero, List.set_cons_succ])
      refine wpAnyH_take (i := 2) (v := ?v3) rfl (by kernel_rfl) (by kernel_rfl) (by kernel_rfl) (fun _ _ _ h => h) (Or.inl ⟨by rfl, ?y3⟩) (by assumption) ?r3
      case y3 => ((intro w hSw; (try dsimp only at hSw); go_simp; (first | done | with_reducible rfl)))
      (try simp only [List.getElem_toArray, List.getElem_cons_succ, List.getElem_cons_zero, Act.put, List.setIfInBounds_toArray, List.set_cons_zero, List.set_cons_succ])
      refine wpAnyH_take (i := 3) (v := ?v4) rfl (by kernel_rfl) (by kernel_rfl) (by kernel_rfl) (fun _ _ _ h => h) (Or.inl ⟨by rfl, ?y4⟩) (by assumption) ?r4
      case y4 => ((intro w hSw; (try dsimp only at hSw); go_simp; (first | done | with_reducible rfl)))
      (try simp only [List.getElem_toArray, List.getElem_cons_succ, List.getElem_cons_zero, Act.put, List.setIfInBounds_toArray, List.set_cons_zero, List.set_cons_succ])
      refine wpAnyH_take (i := 4) (v := ?v5) rfl (by kernel_rfl) (by kernel_rfl) (by kernel_rfl) (fun _ _ _ h => h) (Or.inl ⟨by rfl, ?y5⟩) (by assumption) ?r5
      case y5 => ((intro w hSw; (try dsimp only at hSw); go_simp; (first | done | with_reducible rfl)))
      (try simp only [List.getElem_toArray, List.getElem_cons_succ, List.getElem_cons_zero, Act.put, List.setIfInBounds_toArray, List.set_cons_zero, List.set_cons_succ])
      refine wpAnyH_take (i := 5) (v := ?v6) rfl (by kernel_rfl) (by kernel_rfl) (by kernel_rfl) (fun _ _ _ h => h) (Or.inl ⟨by rfl, ?y6⟩) (by assumption) ?r6
      case y6 => ((intro w hSw; (try dsimp only at hSw); go_simp; (first | done | with_reducible rfl)))
      (try simp only [List.getElem_toArray, List.getElem_cons_succ, List.getElem_cons_zero, Act.put, List.setIfInBounds_toArray, List.set_cons_zero, List.set_cons_succ])
      refine wpAnyH_ready (rs := [6]) (by kernel_rfl) (by simp) ?_
      refine AllReadyH.cons rfl (fun K hK => ?_) AllReadyH.nil
      go_simp
      (go_at_call 10; refine (wkts_any _ c (TRv.ext ((Ext.refl _).drew))).mono ?_; rintro e wf ⟨rfl, hbf⟩; rw [HW.out]; have hXf : Ext wv wf := ((Ext.refl wv).drew).trans hbf; have a7_f := hXf.keep a7_v; have ax2_f := hXf.keep ax2_v; have la7_f := cell_lt a7_f; have lax2_f := cell_lt ax2_f)
      refine hK.out _ _ (by first | (dsimp only; simp [go_sem, *]; done) | (simp [go_sem, *])) (fun hHeld => ?_)
      clear hK K
      (try simp only [List.getElem_toArray, List.getElem_cons_succ, List.getElem_cons_zero, Act.put, List.setIfInBounds_toArray, List.set_cons_zero, List.set_cons_succ])
      refine wpAnyH_take (i := 7) (v := ?v7) rfl (by kernel_rfl) (by kernel_rfl) (by kernel_rfl) (fun _ _ _ h => h) (Or.inl ⟨by rfl, ?y7⟩) (by assumption) ?r7
      case y7 => ((intro w hSw; (try dsimp only at hSw); go_simp; (first | done | with_reducible rfl)))
      (try simp only [List.getElem_toArray, List.getElem_cons_succ, List.getElem_cons_zero, Act.put, List.setIfInBounds_toArray, List.set_cons_zero, List.set_cons_succ])
      refine wpAnyH_take (i := 8) (v := ?v8) rfl (by kernel_rfl) (by kernel_rfl) (by kernel_rfl) (fun _ _ _ h => h) (Or.inl ⟨by rfl, ?y8⟩) (by assumption) ?r8
      case y8 => ((intro w hSw; (try dsimp only at hSw); go_simp; (first | done | with_reducible rfl)))
      (try simp only [List.getElem_toArray, List.getElem_cons_succ, List.getElem_cons_zero, Act.put, List.setIfInBounds_toArray, List.set_cons_zero, List.set_cons_succ])
      refine wpAnyH_take (i := 9) (v := ?v9) rfl (by kernel_rfl) (by kernel_rfl) (by kernel_rfl) (fun _ _ _ h => h) (Or.inl ⟨by rfl, ?y9⟩) (by assumption) ?r9
      case y9 => ((intro w hSw; (try dsimp only at hSw); go_simp; (first | done | with_reducible rfl)))
      (try simp only [List.getElem_toArray, List.getElem_cons_succ, List.getElem_cons_zero, Act.put, List.setIfInBounds_toArray, List.set_cons_zero, List.set_cons_succ])
      refine wpAnyH_take (i := 10) (v := ?v10) rfl (by kernel_rfl) (by kernel_rfl) (by kernel_rfl) (fun _ _ _ h => h) (Or.inl ⟨by rfl, ?y10⟩) (by assumption) ?r10
      case y10 => ((intro w hSw; (try dsimp only at hSw); go_simp; (first | done | with_reducible rfl)))
      (try simp only [List.getElem_toArray, List.getElem_cons_succ, List.getElem_cons_zero, Act.put, List.setIfInBounds_toArray, List.set_cons_zero, List.set_cons_succ])
      refine wpAnyH_take (i := 11) (v := ?v11) rfl (by kernel_rfl) (by kernel_rfl) (by kernel_rfl) (fun _ _ _ h => h) (Or.inl ⟨by rfl, ?y11⟩) (by assumption) ?r11
      case y11 => ((intro w hSw; (try dsimp only at hSw); go_simp; (first | done | with_reducible rfl)))
      (try simp only [List.getElem_toArray, List.getElem_cons_succ, List.getElem_cons_zero, Act.put, List.setIfInBounds_toArray, List.set_cons_zero, List.set_cons_succ])
      refine wpAnyH_ready (rs := [12]) (by kernel_rfl) (by simp) ?_
      refine AllReadyH.cons rfl (fun K hK => ?_) AllReadyH.nil
      go_simp
      skip
      refine hK.out _ _ (by first | (dsimp only; simp [go_sem, *]; done) | (simp [go_sem, *])) (fun hHeld => ?_)
      clear hK K
      (try simp only [List.getElem_toArray, List.getElem_cons_succ, List.getElem_cons_zero, Act.put, List.setIfInBounds_toArray, List.set_cons_zero, List.set_cons_succ])
      refine wpAnyH_ready (rs := [13]) (by kernel_rfl) (by simp) ?_
      refine AllReadyH.cons rfl (fun K hK => ?_) AllReadyH.nil
      go_simp
      skip
      refine hK.out _ _ (by first | (dsimp only; simp [go_sem, *]; done) | (simp [go_sem, *])) (fun hHeld => ?_)
      clear hK K
      (try simp only [List.getElem_toArray, List.getElem_cons_succ, List.getElem_cons_zero, Act.put, List.setIfInBounds_toArray, List.set_cons_zero, List.set_cons_succ])
      refine wpAnyH_done (by kernel_rfl) ?_ _
      go_wp2_with fail
      go_meet
      exact ⟨wf.heap.size, _, rfl, by first | exact hK2.1 | exact hK3.1 | exact hK.1, by first | exact hK2.2 | exact hK3.2 | exact hK.2, heap_alloc_new _ _, hXf.size, hXf.alloc _⟩
    case rest =>
      obtain ⟨g, kw, rfl, K0, K1, hg, hgn, hXg⟩ := hcut
      obtain ⟨wu, rfl⟩ : ∃ wu, wu = wc := ⟨_, rfl⟩
      have TRu := TRv.ext hXg
      have hXu := hXv.trans hXg
      have a7_u : wu.cell? ⟨w2.heap.size, 0, none⟩ = some (.slice (some ⟨tb, 0, none⟩) n c) := hXg.keep a7_v
      have la7_u := cell_lt a7_u
      have ax3_u : wu.cell? ⟨w.heap.size + 2, 3, none⟩ = some (.int .i64 x3) := hXg.keep ax3_v
      have lax3_u := cell_lt ax3_u
      have b11_u : wu.cell? ⟨wd.heap.size, 0, none⟩ = some (.int .i64 (((n : Int) - 1) * 6)) := hXg.keep b11_v
      have lb11_u := cell_lt b11_u
      have hgl := (Array.getElem?_eq_some_iff.1 hg).1
      have cp : wu.cell? ⟨g, 0, none⟩ = some (.int .i64 p) := by simp [World.cell?, hg]
      have cq : wu.cell? ⟨g, 1, none⟩ = some (.int .i64 q) := by simp [World.cell?, hg]
      have ck : wu.cell? ⟨g, 2, none⟩ = some (.int .i64 kw) := by simp [World.cell?, hg]
      clear a7_v ax2_v ax3_v b11_v la7_v lax2_v lax3_v lb11_v hK hK2 hK3 v1 v2 v3 TRv hXv
      obtain ⟨r30, r31⟩ := rem_bd x3 hB0 hB1
      have hB3 : (((n : Int) - 1) * 6) ≤ 42 := by omega
      have hB4 : ¬ ((((n : Int) - 1) * 6) < 1) := by omega
      have hB5 : ¬ ((((n : Int) - 1) * 6) = 0) := by omega
      obtain ⟨b30, b31⟩ := mul_bd r30 (show remV x3 (((n : Int) - 1) * 6) ≤ 42 by omega) g1 (show q ≤ 42 by omega)
      have v4 : IntKind.i64.wrap (remV x3 (((n : Int) - 1) * 6) * q) = remV x3 (((n : Int) - 1) * 6) * q := IntWalk.i64_in _ (by omega)
      obtain ⟨s, hs⟩ : ∃ s, s = Int.tdiv (remV x3 (((n : Int) - 1) * 6) * q) (((n : Int) - 1) * 6) := ⟨_, rfl⟩
      have hs2 := hs
      rw [Int.tdiv_eq_ediv_of_nonneg b30] at hs2
      have s0 : 0 ≤ s := by rw [hs2]; exact Int.ediv_nonneg b30 hB0
      have s1 : s ≤ q := by
        rw [hs2]
        refine Int.ediv_le_of_le_mul (by omega) ?_
        rw [Int.mul_comm]
        exact Int.mul_le_mul_of_nonneg_left r31 g1
      have v5 := hs.symm
      have v6 : IntKind.i64.wrap s = s := IntWalk.i64_in _ (by omega)
      clear hs hs2
      obtain ⟨iS, hSi, hSz, hSs, hSb⟩ := info_parts infoS
      go_upto_region 17 with fail
      go_cut [15] (fun s15 wx => ∃ (g2 cap : Nat) (s : Int), s15 = .slice (some ⟨g2, 0, none⟩) 2 cap ∧ 2 ≤ cap ∧ 0 ≤ s ∧ s ≤ q ∧ StopsAt wx (some ⟨g2, 0, none⟩) 2 g2 0 (stF p q s kw) ∧ Ext wu wx)
      case first =>
        refine wp_region_held_drew (S := (fun w' => w'.cell? ⟨w.heap.size + 2, 3, none⟩ = some (.int .i64 x3) ∧ w'.cell? ⟨wd.heap.size, 0, none⟩ = some (.int .i64 (((n : Int) - 1) * 6)) ∧ w'.cell? ⟨g, 2, none⟩ = some (.int .i64 kw))) (by kernel_rfl) (by simp [go_sem, *]) (fun hHeld => ?_)
        refine wpAnyH_take (i := 0) (v := ?v12) rfl (by kernel_rfl) (by kernel_rfl) (by kernel_rfl) (fun _ _ _ h => h) (Or.inl ⟨by rfl, ?y12⟩) (by assumption) ?r12
        case y12 => ((intro w hSw; (try dsimp only at hSw); go_simp; (first | done | with_reducible rfl)))
        (try simp only [List.getElem_toArray, List.getElem_cons_succ, List.getElem_cons_zero, Act.put, List.setIfInBounds_toArray, List.set_cons_zero, List.set_cons_succ])
        refine wpAnyH_take (i := 1) (v := ?v13) rfl (by kernel_rfl) (by kernel_rfl) (by kernel_rfl) (fun _ _ _ h => h) (Or.inl ⟨by rfl, ?y13⟩) (by assumption) ?r13
        case y13 => ((intro w hSw; (try dsimp only at hSw); go_simp; (first | done | with_reducible rfl)))
        (try simp only [List.getElem_toArray, List.getElem_cons_succ, List.getElem_cons_zero, Act.put, List.setIfInBounds_toArray, List.set_cons_zero, List.set_cons_succ])
        refine wpAnyH_take (i := 2) (v := ?v14) rfl (by kernel_rfl) (by kernel_rfl) (by kernel_rfl) (fun _ _ _ h => h) (Or.inl ⟨by rfl, ?y14⟩) (by assumption) ?r14
        case y14 => ((intro w hSw; (try dsimp only at hSw); go_simp; (first | done | with_reducible rfl)))
        (try simp only [List.getElem_toArray, List.getElem_cons_succ, List.getElem_cons_zero, Act.put, List.setIfInBounds_toArray, List.set_cons_zero, List.set_cons_succ])
        refine wpAnyH_take (i := 3) (v := ?v15) rfl (by kernel_rfl) (by kernel_rfl) (by kernel_rfl) (fun _ _ _ h => h) (Or.inl ⟨by rfl, ?y15⟩) (by assumption) ?r15
        case y15 => ((intro w hSw; (try dsimp only at hSw); go_simp; (first | done | with_reducible rfl)))
        (try simp only [List.getElem_toArray, List.getElem_cons_succ, List.getElem_cons_zero, Act.put, List.setIfInBounds_toArray, List.set_cons_zero, List.set_cons_succ])
        refine wpAnyH_take (i := 4) (v := ?v16) rfl (by kernel_rfl) (by kernel_rfl) (by kernel_rfl) (fun _ _ _ h => h) (Or.inl ⟨by rfl, ?y16⟩) (by assumption) ?r16
        case y16 => ((intro w hSw; (try dsimp only at hSw); go_simp; (first | done | with_reducible rfl)))
        (try simp only [List.getElem_toArray, List.getElem_cons_succ, List.getElem_cons_zero, Act.put, List.setIfInBounds_toArray, List.set_cons_zero, List.set_cons_succ])
        refine wpAnyH_take (i := 6) (v := ?v17) rfl (by kernel_rfl) (by kernel_rfl) (by kernel_rfl) (fun _ _ _ h => h) (Or.inl ⟨by rfl, ?y17⟩) (by assumption) ?r17
        case y17 => ((intro w hSw; (try dsimp only at hSw); go_simp; (first | done | with_reducible rfl)))
        (try simp only [List.getElem_toArray, List.getElem_cons_succ, List.getElem_cons_zero, Act.put, List.setIfInBounds_toArray, List.set_cons_zero, List.set_cons_succ])
        refine wpAnyH_take (i := 8) (v := ?v18) rfl (by kernel_rfl) (by kernel_rfl) (by kernel_rfl) (fun _ _ _ h => h) (Or.inl ⟨by rfl, ?y18⟩) (by assumption) ?r18
        case y18 => ((intro w hSw; (try dsimp only at hSw); go_simp; (first | done | with_reducible rfl)))
        (try simp only [List.getElem_toArray, List.getElem_cons_succ, List.getElem_cons_zero, Act.put, List.setIfInBounds_toArray, List.set_cons_zero, List.set_cons_succ])
        refine wpAnyH_take (i := 9) (v := ?v19) rfl (by kernel_rfl) (by kernel_rfl) (by kernel_rfl) (fun _ _ _ h => h) (Or.inl ⟨by rfl, ?y19⟩) (by assumption) ?r19
        case y19 => ((intro w hSw; (try dsimp only at hSw); go_simp; (first | done | with_reducible rfl)))
        (try simp only [List.getElem_toArray, List.getElem_cons_succ, List.getElem_cons_zero, Act.put, List.setIfInBounds_toArray, List.set_cons_zero, List.set_cons_succ])
        refine wpAnyH_take (i := 11) (v := ?v20) rfl (by kernel_rfl) (by kernel_rfl) (by kernel_rfl) (fun _ _ _ h => h) (Or.inl ⟨by rfl, ?y20⟩) (by assumption) ?r20
        case y20 => ((intro w hSw; (try dsimp only at hSw); go_simp; (first | done | with_reducible rfl)))
        (try simp only [List.getElem_toArray, List.getElem_cons_succ, List.getElem_cons_zero, Act.put, List.setIfInBounds_toArray, List.set_cons_zero, List.set_cons_succ])
        refine wpAnyH_take (i := 12) (v := ?v21) rfl (by kernel_rfl) (by kernel_rfl) (by kernel_rfl) (fun _ _ _ h => h) (Or.inl ⟨by rfl, ?y21⟩) (by assumption) ?r21
        case y21 => ((intro w hSw; (try dsimp only at hSw); go_simp; (first | done | with_reducible rfl)))
        (try simp only [List.getElem_toArray, List.getElem_cons_succ, List.getElem_cons_zero, Act.put, List.setIfInBounds_toArray, List.set_cons_zero, List.set_cons_succ])
        refine wpAnyH_take (i := 13) (v := ?v22) rfl (by kernel_rfl) (by kernel_rfl) (by kernel_rfl) (fun _ _ _ h => h) (Or.inl ⟨by rfl, ?y22⟩) (by assumption) ?r22
        case y22 => ((intro w hSw; (try dsimp only at hSw); go_simp; (first | done | with_reducible rfl)))
        (try simp only [List.getElem_toArray, List.getElem_cons_succ, List.getElem_cons_zero, Act.put, List.setIfInBounds_toArray, List.set_cons_zero, List.set_cons_succ])
        refine wpAnyH_take (i := 14) (v := ?v23) rfl (by kernel_rfl) (by kernel_rfl) (by kernel_rfl) (fun _ _ _ h => h) (Or.inl ⟨by rfl, ?y23⟩) (by assumption) ?r23
        case y23 => ((intro w hSw; (try dsimp only at hSw); go_simp; (first | done | with_reducible rfl)))
        (try simp only [List.getElem_toArray, List.getElem_cons_succ, List.getElem_cons_zero, Act.put, List.setIfInBounds_toArray, List.set_cons_zero, List.set_cons_succ])
        refine wpAnyH_ready (rs := [5]) (by kernel_rfl) (by simp) ?_
        refine AllReadyH.cons rfl (fun K hK => ?_) AllReadyH.nil
        go_simp
        (go_at_call 9; refine (HAT.out _ _ (by simp [go_sem, *])).mono ?_; rintro e w' ⟨rfl, rfl⟩)
        refine hK.out _ _ (by first | (dsimp only; simp [go_sem, *]; done) | (simp [go_sem, *])) (fun hHeld => ?_)
        clear hK K
        (try simp only [List.getElem_toArray, List.getElem_cons_succ, List.getElem_cons_zero, Act.put, List.setIfInBounds_toArray, List.set_cons_zero, List.set_cons_succ])
        refine wpAnyH_take (i := 7) (v := ?v24) rfl (by kernel_rfl) (by kernel_rfl) (by kernel_rfl) (fun _ _ _ h => h) (Or.inl ⟨by rfl, ?y24⟩) (by assumption) ?r24
        case y24 => ((intro w hSw; (try dsimp only at hSw); go_simp; (first | done | with_reducible rfl)))
        (try simp only [List.getElem_toArray, List.getElem_cons_succ, List.getElem_cons_zero, Act.put, List.setIfInBounds_toArray, List.set_cons_zero, List.set_cons_succ])
        refine wpAnyH_take (i := 10) (v := ?v25) rfl (by kernel_rfl) (by kernel_rfl) (by kernel_rfl) (fun _ _ _ h => h) (Or.inl ⟨by rfl, ?y25⟩) (by assumption) ?r25
        case y25 => ((intro w hSw; (try dsimp only at hSw); go_simp; (first | done | with_reducible rfl)))
        (try simp only [List.getElem_toArray, List.getElem_cons_succ, List.getElem_cons_zero, Act.put, List.setIfInBounds_toArray, List.set_cons_zero, List.set_cons_succ])
        refine wpAnyH_take (i := 15) (v := ?v26) rfl (by kernel_rfl) (by kernel_rfl) (by kernel_rfl) (fun _ _ _ h => h) (Or.inl ⟨by rfl, ?y26⟩) (by assumption) ?r26
        case y26 => ((intro w hSw; (try dsimp only at hSw); go_simp; (first | done | with_reducible rfl)))
        (try simp only [List.getElem_toArray, List.getElem_cons_succ, List.getElem_cons_zero, Act.put, List.setIfInBounds_toArray, List.set_cons_zero, List.set_cons_succ])
        refine wpAnyH_ready (rs := [16]) (by kernel_rfl) (by simp) ?_
        refine AllReadyH.cons rfl (fun K hK => ?_) AllReadyH.nil
        go_simp
        skip
        refine hK.out _ _ (by first | (dsimp only; simp [go_sem, *]; done) | (simp [go_sem, *])) (fun hHeld => ?_)
        clear hK K
        (try simp only [List.getElem_toArray, List.getElem_cons_succ, List.getElem_cons_zero, Act.put, List.setIfInBounds_toArray, List.set_cons_zero, List.set_cons_succ])
        refine wpAnyH_ready (rs := [17]) (by kernel_rfl) (by simp) ?_
        refine AllReadyH.cons rfl (fun K hK => ?_) AllReadyH.nil
        refine step_append_grows rfl _ _ 38 rfl 37 iS (.agg #[.int .i64 0, .int .i64 0, .int .i64 0]) 3 24 Try.underlying38 hSi hSz hSs hSb rfl (by decide) (some ⟨g, 0, none⟩) 1 1 [.int .i64 p, .int .i64 q, .int .i64 kw] rfl (fun h => by cases h) rfl ?o1 ⟨wu.heap.size, 0, none⟩ 1 1 [.int .i64 q, .int .i64 s, .int .i64 kw] rfl rfl ?o2 ?o3 (by decide) (by decide) (by decide) ?o4
        case o1 =>
          intro b0 hb0 j u hu
          cases hb0
          rw [add_off]
          rcases j with _ | _ | _ | j
          · simp at hu; subst hu; simp [go_sem, *]
          · simp at hu; subst hu; simp [go_sem, *]
          · simp at hu; subst hu; simp [go_sem, *]
          · simp at hu
        case o2 =>
          intro j u hu
          rw [add_off]
          rcases j with _ | _ | _ | j
          · simp at hu; subst hu; simp [go_sem, *]
          · simp at hu; subst hu; simp [go_sem, *]
          · simp at hu; subst hu; simp [go_sem, *]
          · simp at hu
        case o3 => intro u hu; simp at hu; rcases hu with rfl | rfl | rfl <;> rfl
        intro v' w' hown hgr
        obtain ⟨g2, cap, rfl, hcap, hU⟩ := stops_of hown
        have hXw := ext_grown (Ext.refl _) hgr (fun _ h => by cases h)
        have hXw2 : Ext wu w' := Ext.trans (by repeat (first | exact Ext.refl _ | refine Ext.drew ?_ | refine Ext.drewN ?_ _ | refine Ext.alloc ?_ _)) hXw
        have ax3_w := hXw2.keep ax3_u
        have b11_w := hXw2.keep b11_u
        have ck_w := hXw2.keep ck
        refine hK.out _ _ (by first | (dsimp only; simp [go_sem, *]; done) | (simp [go_sem, *])) (fun hHeld => ?_)
        clear hK K
        (try simp only [List.getElem_toArray, List.getElem_cons_succ, List.getElem_cons_zero, Act.put, List.setIfInBounds_toArray, List.set_cons_zero, List.set_cons_succ])
        refine wpAnyH_ready (rs := [18]) (by kernel_rfl) (by simp) ?_
        refine AllReadyH.cons rfl (fun K hK => ?_) AllReadyH.nil
        go_simp
        skip
        refine hK.out _ _ (by first | (dsimp only; simp [go_sem, *]; done) | (simp [go_sem, *])) (fun hHeld => ?_)
        clear hK K
        (try simp only [List.getElem_toArray, List.getElem_cons_succ, List.getElem_cons_zero, Act.put, List.setIfInBounds_toArray, List.set_cons_zero, List.set_cons_succ])
        refine wpAnyH_done (by kernel_rfl) ?_ _
        go_wp2_with fail
        go_meet
        exact ⟨g2, cap, s, rfl, hcap, s0, s1, hU, hXw2⟩
      case rest =>
        obtain ⟨g2, cap, s, rfl, hcap, s0, s1, U, hXs⟩ := hcut
        obtain ⟨wt, rfl⟩ : ∃ wt, wt = wc := ⟨_, rfl⟩
        have TRt := TRu.ext hXs
        have hXt := hXu.trans hXs
        have a7_t : wt.cell? ⟨w2.heap.size, 0, none⟩ = some (.slice (some ⟨tb, 0, none⟩) n c) := hXs.keep a7_u
        have la7_t := cell_lt a7_t
        have b11_t : wt.cell? ⟨wd.heap.size, 0, none⟩ = some (.int .i64 (((n : Int) - 1) * 6)) := hXs.keep b11_u
        have lb11_t := cell_lt b11_t
        clear TRu hXu hgl cp cq ck a7_u ax3_u b11_u la7_u lax3_u lb11_u v4 v5 v6 b30 b31 hg
        have hLD := left_down (n := n) (L := fun _ => L 0) (Z := Z) HC.out s0 s1 g2' g3 K0 K1
        obtain ⟨F, hF⟩ : ∃ F : Nat → Int, F = leftV n (fun _ => L 0) Z 6 (((n : Int) - 1) * 6) (stF p q s kw) := ⟨_, rfl⟩
        rw [← hF] at hLD
        have hFb : ∀ j, j ≤ 2 → 0 ≤ F j ∧ F j ≤ 60000 := fun j hj => by
          have : j = 0 ∨ j = 1 ∨ j = 2 := by omega
          rcases this with rfl | rfl | rfl <;> omega
        have hFs : ∀ j, j < 2 → F (j + 1) ≤ F j := fun j hj => by
          have : j = 0 ∨ j = 1 := by omega
          rcases this with rfl | rfl
          · show F 1 ≤ F 0; omega
          · show F 2 ≤ F 1; omega
        have HF := Lib.hid (show ∀ j, leftV n (fun _ => L 0) Z 6 (((n : Int) - 1) * 6) (stF p q s kw) j = F j from fun j => by rw [hF])
        have hSO : ∀ j, j ≤ 2 → StopsOk (fun _ => L 0) (((n : Int) - 1) * 6) j (stF p q s kw) := fun j hj => stops_ok (L := fun _ => L 0) s0 s1 g2' g3 K0 K1 hj
        have HSO := Lib.hid hSO
        have HFB := Lib.hid hFb
        have HFS := Lib.hid hFs
        have HF0 := Lib.hid hLD.1
        clear hF hLD hFb hFs hSO
        go_wp2_with fail
        go_loopw [16, 17, 18, 19, 20, 21, 22] (fun la go k _ _ _ _ wr => ∃ (j : Nat) (last goal : Int), j ≤ 3 ∧ k = .int .i64 j ∧ la = .int .i64 last ∧ go = .int .i64 goal ∧ (j ≤ 2 → F j ≤ last ∧ (0 < j → goalV (F j) ≤ goal)) ∧ Ext wt wr) (fun _ _ k _ _ _ _ _ => 3 - (intOf k).toNat)
        case atStart => exact ⟨0, 60001, 0, by omega, rfl, rfl, rfl, fun _ => ⟨by rw [HF0.out]; omega, fun h => absurd h (by omega)⟩, Ext.refl _⟩
        case round =>
          obtain ⟨j, last, goal, hj, rfl, rfl, rfl, hlg, hX⟩ := hrel
          have a7_r := hX.keep a7_t
          have b11_r := hX.keep b11_t
          have la7_r := cell_lt a7_r
          have lb11_r := cell_lt b11_r
          by_cases hlt : j ≤ 2
          · obtain ⟨hl1, hl2⟩ := hlg hlt
            clear hlg
            obtain ⟨y0, y1⟩ := HFB.out j hlt
            have HY := Lib.hid (HF.out j)
            obtain ⟨y, hy⟩ : ∃ y, y = F j := ⟨_, rfl⟩
            rw [← hy] at hl1 hl2 y0 y1 HY
            have HYF := Lib.hid hy
            clear hy
            have hU := U.upto hlt
            have hSO := HSO.out j hlt
            have j1 : (j : Int) ≤ (cap : Int) := by omega
            go_wp2_with fail
            refine wp_region_held_drew (S := (fun w' => w'.cell? ⟨w2.heap.size, 0, none⟩ = some (.slice (some ⟨tb, 0, none⟩) n c) ∧ w'.cell? ⟨wd.heap.size, 0, none⟩ = some (.int .i64 (((n : Int) - 1) * 6)))) (by kernel_rfl) (by simp [go_sem, *]) (fun hHeld => ?_)
            refine wpAnyH_take (i := 0) (v := ?v27) rfl (by kernel_rfl) (by kernel_rfl) (by kernel_rfl) (fun _ _ _ h => h) (Or.inl ⟨by rfl, ?y27⟩) (by assumption) ?r27
            case y27 => ((intro w hSw; (try dsimp only at hSw); go_simp; (first | done | with_reducible rfl)))
            (try simp only [List.getElem_toArray, List.getElem_cons_succ, List.getElem_cons_zero, Act.put, List.setIfInBounds_toArray, List.set_cons_zero, List.set_cons_succ])
            refine wpAnyH_take (i := 1) (v := ?v28) rfl (by kernel_rfl) (by kernel_rfl) (by kernel_rfl) (fun _ _ _ h => h) (Or.inl ⟨by rfl, ?y28⟩) (by assumption) ?r28
            case y28 => ((intro w hSw; (try dsimp only at hSw); go_simp; (first | done | with_reducible rfl)))
            (try simp only [List.getElem_toArray, List.getElem_cons_succ, List.getElem_cons_zero, Act.put, List.setIfInBounds_toArray, List.set_cons_zero, List.set_cons_succ])
            refine wpAnyH_take (i := 2) (v := ?v29) rfl (by kernel_rfl) (by kernel_rfl) (by kernel_rfl) (fun _ _ _ h => h) (Or.inl ⟨by rfl, ?y29⟩) (by assumption) ?r29
            case y29 => ((intro w hSw; (try dsimp only at hSw); go_simp; (first | done | with_reducible rfl)))
            (try simp only [List.getElem_toArray, List.getElem_cons_succ, List.getElem_cons_zero, Act.put, List.setIfInBounds_toArray, List.set_cons_zero, List.set_cons_succ])
            refine wpAnyH_take (i := 3) (v := ?v30) rfl (by kernel_rfl) (by kernel_rfl) (by kernel_rfl) (fun _ _ _ h => h) (Or.inl ⟨by rfl, ?y30⟩) (by assumption) ?r30
            case y30 => ((intro w hSw; (try dsimp only at hSw); go_simp; (first | done | with_reducible rfl)))
            (try simp only [List.getElem_toArray, List.getElem_cons_succ, List.getElem_cons_zero, Act.put, List.setIfInBounds_toArray, List.set_cons_zero, List.set_cons_succ])
            refine wpAnyH_take (i := 4) (v := ?v31) rfl (by kernel_rfl) (by kernel_rfl) (by kernel_rfl) (fun _ _ _ h => h) (Or.inl ⟨by rfl, ?y31⟩) (by assumption) ?r31
            case y31 => ((intro w hSw; (try dsimp only at hSw); go_simp; (first | done | with_reducible rfl)))
            (try simp only [List.getElem_toArray, List.getElem_cons_succ, List.getElem_cons_zero, Act.put, List.setIfInBounds_toArray, List.set_cons_zero, List.set_cons_succ])
            refine wpAnyH_ready (rs := [5]) (by kernel_rfl) (by simp) ?_
            refine AllReadyH.cons rfl (fun K hK => ?_) AllReadyH.nil
            go_simp
            (go_at_call 11; refine (left_ok _ c 6 (((n : Int) - 1) * 6) (TRt.ext hX.drew) HC.out (by omega) (by omega) (by omega) (Int.le_refl _) cap (hU.ext hX.drew) (by omega) hSO).mono ?_; rintro e w8 ⟨rfl, hb8⟩; rw [HY.out]; have hX8 := hX.drew.trans hb8; have a7_8 := hX8.keep a7_t; have b11_8 := hX8.keep b11_t; have la7_8 := cell_lt a7_8; have lb11_8 := cell_lt b11_8)
            refine hK.out _ _ (by first | (dsimp only; simp [go_sem, *]; done) | (simp [go_sem, *])) (fun hHeld => ?_)
            clear hK K
            (try simp only [List.getElem_toArray, List.getElem_cons_succ, List.getElem_cons_zero, Act.put, List.setIfInBounds_toArray, List.set_cons_zero, List.set_cons_succ])
            refine wpAnyH_take (i := 6) (v := ?v32) rfl (by kernel_rfl) (by kernel_rfl) (by kernel_rfl) (fun _ _ _ h => h) (Or.inl ⟨by rfl, ?y32⟩) (by assumption) ?r32
            case y32 => ((intro w hSw; (try dsimp only at hSw); go_simp; (first | done | with_reducible rfl)))
            (try simp only [List.getElem_toArray, List.getElem_cons_succ, List.getElem_cons_zero, Act.put, List.setIfInBounds_toArray, List.set_cons_zero, List.set_cons_succ])
            refine wpAnyH_take (i := 7) (v := ?v33) rfl (by kernel_rfl) (by kernel_rfl) (by kernel_rfl) (fun _ _ _ h => h) (Or.inl ⟨by rfl, ?y33⟩) (by assumption) ?r33
            case y33 => ((intro w hSw; (try dsimp only at hSw); go_simp; (first | done | with_reducible rfl)))
            (try simp only [List.getElem_toArray, List.getElem_cons_succ, List.getElem_cons_zero, Act.put, List.setIfInBounds_toArray, List.set_cons_zero, List.set_cons_succ])
            refine wpAnyH_take (i := 8) (v := ?v34) rfl (by kernel_rfl) (by kernel_rfl) (by kernel_rfl) (fun _ _ _ h => h) (Or.inl ⟨by rfl, ?y34⟩) (by assumption) ?r34
            case y34 => ((intro w hSw; (try dsimp only at hSw); go_simp; (first | done | with_reducible rfl)))
            (try simp only [List.getElem_toArray, List.getElem_cons_succ, List.getElem_cons_zero, Act.put, List.setIfInBounds_toArray, List.set_cons_zero, List.set_cons_succ])
            refine wpAnyH_ready (rs := [9]) (by kernel_rfl) (by simp) ?_
            refine AllReadyH.cons rfl (fun K hK => ?_) AllReadyH.nil
            go_simp
            skip
            refine hK.out _ _ (by first | (dsimp only; simp [go_sem, *]; done) | (simp [go_sem, *])) (fun hHeld => ?_)
            clear hK K
            (try simp only [List.getElem_toArray, List.getElem_cons_succ, List.getElem_cons_zero, Act.put, List.setIfInBounds_toArray, List.set_cons_zero, List.set_cons_succ])
            refine wpAnyH_ready (rs := [10]) (by kernel_rfl) (by simp) ?_
            refine AllReadyH.cons rfl (fun K hK => ?_) AllReadyH.nil
            go_simp
            skip
            refine hK.out _ _ (by first | (dsimp only; simp [go_sem, *]; done) | (simp [go_sem, *])) (fun hHeld => ?_)
            clear hK K
            (try simp only [List.getElem_toArray, List.getElem_cons_succ, List.getElem_cons_zero, Act.put, List.setIfInBounds_toArray, List.set_cons_zero, List.set_cons_succ])
            refine wpAnyH_done (by kernel_rfl) ?_ _
            go_wp2_with fail
            refine wp_region_held_drew (S := (fun w' => w'.cell? ⟨w2.heap.size, 0, none⟩ = some (.slice (some ⟨tb, 0, none⟩) n c) ∧ w'.cell? ⟨wd.heap.size, 0, none⟩ = some (.int .i64 (((n : Int) - 1) * 6)))) (by kernel_rfl) (by simp [go_sem, *]) (fun hHeld => ?_)
            refine wpAnyH_take (i := 0) (v := ?v35) rfl (by kernel_rfl) (by kernel_rfl) (by kernel_rfl) (fun _ _ _ h => h) (Or.inl ⟨by rfl, ?y35⟩) (by assumption) ?r35
            case y35 => ((intro w hSw; (try dsimp only at hSw); go_simp; (first | done | with_reducible rfl)))
            (try simp only [List.getElem_toArray, List.getElem_cons_succ, List.getElem_cons_zero, Act.put, List.setIfInBounds_toArray, List.set_cons_zero, List.set_cons_succ])
            refine wpAnyH_take (i := 1) (v := ?v36) rfl (by kernel_rfl) (by kernel_rfl) (by kernel_rfl) (fun _ _ _ h => h) (Or.inl ⟨by rfl, ?y36⟩) (by assumption) ?r36
            case y36 => ((intro w hSw; (try dsimp only at hSw); go_simp; (first | done | with_reducible rfl)))
            (try simp only [List.getElem_toArray, List.getElem_cons_succ, List.getElem_cons_zero, Act.put, List.setIfInBounds_toArray, List.set_cons_zero, List.set_cons_succ])
            refine wpAnyH_take (i := 2) (v := ?v37) rfl (by kernel_rfl) (by kernel_rfl) (by kernel_rfl) (fun _ _ _ h => h) (Or.inl ⟨by rfl, ?y37⟩) (by assumption) ?r37
            case y37 => ((intro w hSw; (try dsimp only at hSw); go_simp; (first | done | with_reducible rfl)))
            (try simp only [List.getElem_toArray, List.getElem_cons_succ, List.getElem_cons_zero, Act.put, List.setIfInBounds_toArray, List.set_cons_zero, List.set_cons_succ])
            refine wpAnyH_take (i := 3) (v := ?v38) rfl (by kernel_rfl) (by kernel_rfl) (by kernel_rfl) (fun _ _ _ h => h) (Or.inl ⟨by rfl, ?y38⟩) (by assumption) ?r38
            case y38 => ((intro w hSw; (try dsimp only at hSw); go_simp; (first | done | with_reducible rfl)))
            (try simp only [List.getElem_toArray, List.getElem_cons_succ, List.getElem_cons_zero, Act.put, List.setIfInBounds_toArray, List.set_cons_zero, List.set_cons_succ])
            refine wpAnyH_take (i := 4) (v := ?v39) rfl (by kernel_rfl) (by kernel_rfl) (by kernel_rfl) (fun _ _ _ h => h) (Or.inl ⟨by rfl, ?y39⟩) (by assumption) ?r39
            case y39 => ((intro w hSw; (try dsimp only at hSw); go_simp; (first | done | with_reducible rfl)))
            (try simp only [List.getElem_toArray, List.getElem_cons_succ, List.getElem_cons_zero, Act.put, List.setIfInBounds_toArray, List.set_cons_zero, List.set_cons_succ])
            refine wpAnyH_take (i := 5) (v := ?v40) rfl (by kernel_rfl) (by kernel_rfl) (by kernel_rfl) (fun _ _ _ h => h) (Or.inl ⟨by rfl, ?y40⟩) (by assumption) ?r40
            case y40 => ((intro w hSw; (try dsimp only at hSw); go_simp; (first | done | with_reducible rfl)))
            (try simp only [List.getElem_toArray, List.getElem_cons_succ, List.getElem_cons_zero, Act.put, List.setIfInBounds_toArray, List.set_cons_zero, List.set_cons_succ])
            refine wpAnyH_ready (rs := [6]) (by kernel_rfl) (by simp) ?_
            refine AllReadyH.cons rfl (fun K hK => ?_) AllReadyH.nil
            go_simp
            (go_at_call 12; refine (target_ok _ c (TRt.ext hX8.drew) HC.out cap (hU.ext hX8.drew) (by omega) hSO y HY.out y0 y1).mono ?_; rintro e w9 ⟨rfl, hb9⟩; have hX9 := hX8.drew.trans hb9; have a7_9 := hX9.keep a7_t; have b11_9 := hX9.keep b11_t; have la7_9 := cell_lt a7_9; have lb11_9 := cell_lt b11_9)
            refine hK.out _ _ (by first | (dsimp only; simp [go_sem, *]; done) | (simp [go_sem, *])) (fun hHeld => ?_)
            clear hK K
            (try simp only [List.getElem_toArray, List.getElem_cons_succ, List.getElem_cons_zero, Act.put, List.setIfInBounds_toArray, List.set_cons_zero, List.set_cons_succ])
            refine wpAnyH_take (i := 7) (v := ?v41) rfl (by kernel_rfl) (by kernel_rfl) (by kernel_rfl) (fun _ _ _ h => h) (Or.inl ⟨by rfl, ?y41⟩) (by assumption) ?r41
            case y41 => ((intro w hSw; (try dsimp only at hSw); go_simp; (first | done | with_reducible rfl)))
            (try simp only [List.getElem_toArray, List.getElem_cons_succ, List.getElem_cons_zero, Act.put, List.setIfInBounds_toArray, List.set_cons_zero, List.set_cons_succ])
            refine wpAnyH_take (i := 8) (v := ?v42) rfl (by kernel_rfl) (by kernel_rfl) (by kernel_rfl) (fun _ _ _ h => h) (Or.inl ⟨by rfl, ?y42⟩) (by assumption) ?r42
            case y42 => ((intro w hSw; (try dsimp only at hSw); go_simp; (first | done | with_reducible rfl)))
            (try simp only [List.getElem_toArray, List.getElem_cons_succ, List.getElem_cons_zero, Act.put, List.setIfInBounds_toArray, List.set_cons_zero, List.set_cons_succ])
            refine wpAnyH_take (i := 9) (v := ?v43) rfl (by kernel_rfl) (by kernel_rfl) (by kernel_rfl) (fun _ _ _ h => h) (Or.inl ⟨by rfl, ?y43⟩) (by assumption) ?r43
            case y43 => ((intro w hSw; (try dsimp only at hSw); go_simp; (first | done | with_reducible rfl)))
            (try simp only [List.getElem_toArray, List.getElem_cons_succ, List.getElem_cons_zero, Act.put, List.setIfInBounds_toArray, List.set_cons_zero, List.set_cons_succ])
            refine wpAnyH_ready (rs := [10]) (by kernel_rfl) (by simp) ?_
            refine AllReadyH.cons rfl (fun K hK => ?_) AllReadyH.nil
            go_simp
            skip
            refine hK.out _ _ (by first | (dsimp only; simp [go_sem, *]; done) | (simp [go_sem, *])) (fun hHeld => ?_)
            clear hK K
            (try simp only [List.getElem_toArray, List.getElem_cons_succ, List.getElem_cons_zero, Act.put, List.setIfInBounds_toArray, List.set_cons_zero, List.set_cons_succ])
            refine wpAnyH_ready (rs := [11]) (by kernel_rfl) (by simp) ?_
            refine AllReadyH.cons rfl (fun K hK => ?_) AllReadyH.nil
            go_simp
            skip
            refine hK.out _ _ (by first | (dsimp only; simp [go_sem, *]; done) | (simp [go_sem, *])) (fun hHeld => ?_)
            clear hK K
            (try simp only [List.getElem_toArray, List.getElem_cons_succ, List.getElem_cons_zero, Act.put, List.setIfInBounds_toArray, List.set_cons_zero, List.set_cons_succ])
            refine wpAnyH_done (by kernel_rfl) ?_ _
            have hgy : 0 < j → goalV y ≤ goal := hl2
            clear hl2
            rcases Nat.eq_zero_or_pos j with hj0 | hj0
            · subst hj0
              go_wp2_with fail
              go_roundw
              case rel => exact ⟨0 + 1, y, goalV y, by omega, by go_num, rfl, rfl, fun _ => ⟨by rw [HYF.out]; exact HFS.out 0 (by omega), fun _ => goal_le (HFB.out 1 (by omega)).1 (by rw [HYF.out]; exact HFS.out 0 (by omega))⟩, by repeat (first | exact hX9 | refine Ext.drew ?_ | refine Ext.drewN ?_ _)⟩
              case measure => simp [intOf]
            · have hgy := hgy hj0
              have j2 : (0 : Int) < (j : Int) := by omega
              go_wp2_with fail
              go_roundw
              case rel => exact ⟨j + 1, y, goalV y, by omega, by go_num, rfl, rfl, fun h => ⟨by rw [HYF.out]; exact HFS.out j (by omega), fun _ => goal_le (HFB.out (j + 1) (by omega)).1 (by rw [HYF.out]; exact HFS.out j (by omega))⟩, by repeat (first | exact hX9 | refine Ext.drew ?_ | refine Ext.drewN ?_ _)⟩
              case measure => simp [intOf]; omega
          · obtain rfl : j = 3 := by omega
            go_wp2_with fail
            go_ret
            exact ⟨rfl, hXt.trans hX⟩

end Go.Proofs.Ytoemcpndmfimiaa

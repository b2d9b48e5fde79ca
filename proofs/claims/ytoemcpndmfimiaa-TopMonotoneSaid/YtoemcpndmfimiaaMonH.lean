/-
  target.Revise, resources and Target where nothing is wrong; rainAwake.
-/
import Derived.Test.YtoemcpndmfimiaaMonG
namespace Go.Proofs.Ytoemcpndmfimiaa
open Go.RowKit
set_option linter.unusedSimpArgs false

theorem total_ok (w : World) (x : Int) (h0 : 0 ≤ x) (h1 : x ≤ 10000) : Calls Try.prog 26 #[.int .i64 x] w fun e w' => e = .returned (.bool true) ∧ w = w' := by
  go_enter Try.func26, Try.ntmps26
  go_wp2
  go_ret
  exact ⟨retb (by first | (simp; done) | (simp; omega)), rfl⟩
def goalV (x : Int) : Int := Int.tdiv (150 * x) 60000 + 1
theorem goal_le {x y : Int} (h : 0 ≤ x) (h' : x ≤ y) : goalV x ≤ goalV y := by
  unfold goalV
  rw [Int.tdiv_eq_ediv_of_nonneg (by omega), Int.tdiv_eq_ediv_of_nonneg (by omega)]
  omega

set_option maxHeartbeats 4000000 in
theorem revise_ok (w : World) (x : Int) (h0 : 0 ≤ x) (h1 : x ≤ 60000) :
    Calls Try.prog 25 #[.int .i64 150, .int .i64 60000, .int .i64 x, .int .i64 60000, .int .i64 200] w fun e w' => e = .returned (.tuple #[.int .i64 (goalV x), .int .i64 0]) ∧ w = w' := by
  obtain ⟨q, hq⟩ : ∃ q, q = Int.tdiv (150 * x) 60000 := ⟨_, rfl⟩
  have hq' := hq
  rw [Int.tdiv_eq_ediv_of_nonneg (by omega)] at hq'
  have q1 : 0 ≤ q := by omega
  have q2 : q ≤ 150 := by omega
  have HV : Hid (goalV x = q + 1) := by unfold Hid goalV; rw [hq]
  have hqq := hq.symm
  clear hq hq'
  go_enter Try.func25, Try.ntmps25
  go_wp2_with (go_at_call 26; refine (total_ok _ _ (by omega) (by omega)).mono ?_; rintro e w' ⟨rfl, rfl⟩)
  go_ret2
  exact ⟨by rw [HV.out]; rfl, rfl⟩

set_option maxHeartbeats 4000000 in
theorem resources_ok (w : World) {A0 : Option Addr} {n : Nat} {A : Nat → Option Addr} {L C : Nat → Nat} {Z : Nat → Nat → Int} {b off : Nat} {G O : Nat → Nat} (c0 : Nat) (tot wo : Int) (T : TabAt w A0 n A L C Z b off G O) (hc : checkV n L Z = 0)
    {A1 : Option Addr} {k b1 o1 : Nat} {f : Nat → Nat → Int} (c1 : Nat) (U : StopsAt w A1 k b1 o1 f) (hk : k ≤ 20) (hU : StopsOk L (((n : Int) - 1) * 6) k f) :
    Calls Try.prog 24 #[.agg #[.slice A0 n c0, .int .i64 6, .int .i64 tot, .int .i64 wo, .int .i64 (((n : Int) - 1) * 6), .slice none 0 0, .slice A1 k c1]] w
      fun e w' => e = .returned (.tuple #[.int .i64 60000, .int .i64 (leftV n L Z 6 (((n : Int) - 1) * 6) f k), .int .i64 60000, .int .i64 0]) ∧ Ext w w' := by
  have hn2 := (check_facts hc).1
  have HF : Hid (leftV n L Z 6 (((n : Int) - 1) * 6) f 0 = 60000) := (at_full hc (p := 6) (by omega) (by omega)).1
  have hb1 : 1 ≤ ((n : Int) - 1) * 6 := by omega
  have hb2 : ((n : Int) - 1) * 6 ≤ ((n : Int) - 1) * 6 := Int.le_refl _
  obtain ⟨BL, hBL⟩ : ∃ BL, BL = ((n : Int) - 1) * 6 := ⟨_, rfl⟩
  rw [← hBL] at HF hb1 hb2 hU ⊢
  have HB := Lib.hid (show BL ≤ ((n : Int) - 1) * 6 by omega)
  have HC := Lib.hid hc
  have e0 : Ext w (w.alloc (.cells #[.slice A0 n c0, .int .i64 6, .int .i64 tot, .int .i64 wo, .int .i64 BL, .slice none 0 0, .slice A1 k c1] 44)) := (Ext.refl _).alloc _
  have TX := T.ext e0
  have UX := U.ext e0
  have U0 : StopsAt (w.alloc (.cells #[.slice A0 n c0, .int .i64 6, .int .i64 tot, .int .i64 wo, .int .i64 BL, .slice none 0 0, .slice A1 k c1] 44)) none 0 0 0 f := ⟨fun h => absurd h (by omega), fun i j h => absurd h (by omega)⟩
  have hU0 : StopsOk L BL 0 f := ⟨fun i h => absurd h (by omega), fun i h => absurd h (by omega), fun i h => absurd h (by omega), fun i h => absurd h (by omega)⟩
  clear hc hBL hb2 e0
  go_enter Try.func24, Try.ntmps24
  go_wp2_with (first
    | ((fail_if_success (have hzz := hE)); go_at_call 11; refine (left_ok _ c0 6 BL TX HC.out (by omega) (by omega) hb1 HB.out 0 U0 (by omega) hU0).mono ?_; rintro e w1 ⟨rfl, hE⟩; rw [HF.out]; have TY := TX.ext hE; have UY := UX.ext hE; obtain ⟨hcell, hfr⟩ := hE.cells)
    | (go_at_call 11; refine (left_ok _ c0 6 BL TY HC.out (by omega) (by omega) hb1 HB.out c1 UY hk hU).mono ?_; rintro e w2 ⟨rfl, hE2⟩; have hE3 := hE.trans hE2; clear hcell hfr; obtain ⟨hcell, hfr⟩ := hE3.cells))
  go_quiet (fail)
  go_wp2
  refine bodyPost_ret (v := .tuple #[.int .i64 60000, .int .i64 (leftV n L Z 6 BL f k), .int .i64 60000, .int .i64 0]) (by simp [results, Try.results24, go_sem, *]) rfl ?_
  exact ⟨rfl, ((Ext.refl _).alloc _).trans (by first | exact hE3 | exact hE3.drew | exact hE3.drewN _)⟩

set_option maxHeartbeats 4000000 in
theorem target_ok (w : World) {A0 : Option Addr} {n : Nat} {A : Nat → Option Addr} {L C : Nat → Nat} {Z : Nat → Nat → Int} {b off : Nat} {G O : Nat → Nat} (c0 : Nat) (T : TabAt w A0 n A L C Z b off G O) (hc : checkV n L Z = 0)
    {A1 : Option Addr} {k b1 o1 : Nat} {f : Nat → Nat → Int} (c1 : Nat) (U : StopsAt w A1 k b1 o1 f) (hk : k ≤ 20) (hU : StopsOk L (((n : Int) - 1) * 6) k f)
    (x : Int) (hx : leftV n L Z 6 (((n : Int) - 1) * 6) f k = x) (h0 : 0 ≤ x) (h1 : x ≤ 60000) :
    Calls Try.prog 12 #[.agg #[.slice A0 n c0, .int .i64 6, .int .i64 150, .int .i64 200, .int .i64 (((n : Int) - 1) * 6), .slice none 0 0, .slice A1 k c1]] w
      fun e w' => e = .returned (.tuple #[.int .i64 (goalV x), .int .i64 0]) ∧ Ext w w' := by
  have HX := Lib.hid hx
  have HC := Lib.hid hc
  obtain ⟨BL, hBL⟩ : ∃ BL, BL = ((n : Int) - 1) * 6 := ⟨_, rfl⟩
  have e0 : Ext w (w.alloc (.cells #[.slice A0 n c0, .int .i64 6, .int .i64 150, .int .i64 200, .int .i64 (((n : Int) - 1) * 6), .slice none 0 0, .slice A1 k c1] 44)) := (Ext.refl _).alloc _
  have TX := T.ext e0
  have UX := U.ext e0
  have HR := Lib.hid (fun W TT UU => resources_ok W c0 150 200 (A0 := A0) (n := n) (A := A) (L := L) (C := C) (Z := Z) (b := b) (off := off) (G := G) (O := O) TT hc (A1 := A1) (k := k) (b1 := b1) (o1 := o1) (f := f) c1 UU hk hU)
  rw [← hBL] at HX HR e0 TX UX ⊢
  clear hc hx hBL hU
  go_enter Try.func12, Try.ntmps12
  go_wp2_with (first
    | (go_at_call 24; refine (HR.out _ TX UX).mono ?_; rintro e w1 ⟨rfl, hE⟩; rw [HX.out]; obtain ⟨hcell, hfr⟩ := hE.cells)
    | (go_at_call 25; refine (revise_ok _ x h0 h1).mono ?_; rintro e w2 ⟨rfl, rfl⟩))
  go_ret2
  exact ⟨rfl, e0.trans hE⟩

theorem awake_left : leftV 5 (fun _ => 5) (linZ (lq 4 5) 5) 6 24 (fun _ j => if j = 0 then 18 else if j = 1 then 6 else 1) 1 = 36000 := by
  have hc : checkV 5 (fun _ => 5) (linZ (lq 4 5) 5) = 0 := lin_check (o := 4) (k := 5) (p := 500) (by omega) (by omega) (by omega) (by omega) (by omega)
  have e1 := (at_some hc (per := 6) (balls := 24) (wk := 0) (by unfold AtR; simp) (by simp)).1
  have e2 := (at_some hc (per := 6) (balls := 18) (wk := 1) (by unfold AtR; simp) (by simp)).1
  have e3 := (at_some hc (per := 6) (balls := 6) (wk := 1) (by unfold AtR; simp) (by simp)).1
  show atV 5 (fun _ => 5) (linZ (lq 4 5) 5) 6 24 0 - (atV 5 (fun _ => 5) (linZ (lq 4 5) 5) 6 18 1 - atV 5 (fun _ => 5) (linZ (lq 4 5) 5) 6 6 1) = 36000
  rw [e1, e2, e3]
  decide +kernel

set_option maxHeartbeats 4000000 in
theorem rainAwake_any (w : World) :
    Calls Try.prog 4 #[] w fun e w' => e = .returned (.bool true) ∧ Ext w w' := by
  have hc := Lib.hid (show checkV 5 (fun _ => 5) (linZ (lq 4 5) 5) = 0 from lin_check (o := 4) (k := 5) (p := 500) (by omega) (by omega) (by omega) (by omega) (by omega))
  have HA := Lib.hid awake_left
  have hlin := Lib.hid (fun W => lin_ok W 4 5 500 (by omega) (by omega) (by omega) (by omega) (by omega))
  have hU : Hid (StopsOk (fun _ => 5) 24 1 (fun _ j => if j = 0 then 18 else if j = 1 then 6 else 1)) := ⟨fun i h => by simp, fun i h => by simp, fun i h => by simp, fun i h => absurd h (by omega)⟩
  go_enter Try.func4, Try.ntmps4
  go_wp2_with (go_at_call 13; refine (hlin.out _).mono ?_; rintro e w1 ⟨g, c, A, C, G, O, rfl, hE1, hT⟩)
  have e1 : Ext w1 ((w1.alloc (.cells #[.slice (some ⟨g, 0, none⟩) 5 c] 24)).alloc (.cells #[.int .i64 18, .int .i64 6, .int .i64 1] 37)) := ((Ext.refl _).alloc _).alloc _
  have TX := hT.ext e1
  have UX : StopsAt ((w1.alloc (.cells #[.slice (some ⟨g, 0, none⟩) 5 c] 24)).alloc (.cells #[.int .i64 18, .int .i64 6, .int .i64 1] 37)) (some ⟨w1.heap.size + 1, 0, none⟩) 1 (w1.heap.size + 1) 0 (fun _ j => if j = 0 then 18 else if j = 1 then 6 else 1) := by
    refine ⟨fun _ => ⟨rfl, by simp⟩, fun i j hi hj => ?_⟩
    obtain rfl : i = 0 := by omega
    have : j = 0 ∨ j = 1 ∨ j = 2 := by omega
    rcases this with rfl | rfl | rfl <;> simp [go_sem]
  refine (left_ok _ c 6 24 TX hc.out (by omega) (by omega) (by omega) (by omega) 1 UX (by omega) hU.out).mono ?_
  rintro e w2 ⟨rfl, hE2⟩
  rw [HA.out]
  clear TX UX
  go_wp2
  go_ret
  exact ⟨rfl, (hE1.trans e1).trans hE2⟩

end Go.Proofs.Ytoemcpndmfimiaa

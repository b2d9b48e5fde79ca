/-
  raw, alike and Covers of package fit.
-/
import Derived.Test.YtoemcpndmfimiaaMonC
namespace Go.Proofs.Ytoemcpndmfimiaa
open Go.RowKit
set_option linter.unusedSimpArgs false

set_option maxHeartbeats 2000000 in
theorem raw_any (w : World) {A0 : Option Addr} {n : Nat} {A : Nat → Option Addr} {L C : Nat → Nat} {Z : Nat → Nat → Int} {b off : Nat} {G O : Nat → Nat} (c0 : Nat) (T : TabAt w A0 n A L C Z b off G O) :
    Calls Try.prog 14 #[.agg #[.slice A0 n c0]] w fun e w' => e = .returned (.int .i64 (rendsV n L Z)) ∧ Ext w w' := by
  by_cases hs : shapeV n L Z = 0
  · skip
    have HS := Lib.hid hs
    obtain ⟨n1, n2, l1, l2, hL, hV⟩ := shape_zero hs
    clear hs
    have HL := Lib.hid hL
    clear hL hV
    obtain ⟨rfl, hb⟩ := T.top (by omega)
    have TX : TabAt (w.alloc (.cells #[.slice (some ⟨b, off, none⟩) n c0] 24)) (some ⟨b, off, none⟩) n A L C Z b off G O := T.ext ((Ext.refl _).alloc _)
    have hr0 : w.cell? ⟨b, off, none⟩ = some (.slice (A 0) (L 0) (C 0)) := by simpa using T.row 0 (by omega)
    obtain ⟨hA, hG⟩ := T.got 0 (by omega) (by omega)
    rw [hA] at hr0
    have hrn := T.row (n - 1) (by omega)
    have hln : 0 < L (n - 1) := by rw [HL.out (n - 1) (by omega)]; omega
    obtain ⟨hA', hG'⟩ := T.got (n - 1) (by omega) hln
    rw [hA'] at hrn
    have hcn : w.cell? ⟨G (n - 1), O (n - 1), none⟩ = some (.int .i64 (Z (n - 1) 0)) := by simpa using T.cell (n - 1) 0 (by omega) hln
    clear hA hA'
    go_enter Try.func14, Try.ntmps14
    go_wp2_with (go_at_call 18; refine (shape_any _ c0 TX).mono ?_; rintro e w1 ⟨rfl, hb1⟩; rw [HS.out]; obtain ⟨hcell, hfr⟩ := hb1.cells)
    go_loop [5, 16] (fun _ i => ∃ k : Nat, k ≤ L 0 ∧ i = .int .i64 k ∧ ZeroTo Z k) (fun _ i => L 0 - (intOf i).toNat)
    case atStart => exact ⟨0, Nat.zero_le _, rfl, zero_zero⟩
    case round =>
      obtain ⟨k, hk, rfl, hZ⟩ := hrel
      by_cases hlt : k < L 0
      · have hc := T.cell 0 k (by omega) hlt
        obtain ⟨hz1, hz2⟩ := T.wf 0 k (by omega) hlt
        by_cases hz : Z 0 k = 0
        · have HZ := Lib.hid hz
          have hzb : (Z 0 k != 0) = false := by simp [hz]
          clear hz
          go_wp2
          go_round
          case rel => exact ⟨k + 1, by omega, by go_num, zero_succ hZ HZ.out⟩
          case measure => simp [intOf]; omega
        · have HV := Lib.hid (@ends_arg n L Z k hlt hz)
          have hzb : (Z 0 k != 0) = true := by simp [hz]
          clear hz
          go_wp2
          go_ret
          exact ⟨ret1 ((rends_ends HS.out).trans HV.out).symm, ((Ext.refl _).alloc _).trans hb1⟩
      · obtain rfl : k = L 0 := by omega
        by_cases hz : Z (n - 1) 0 = 10000
        · have HV := Lib.hid (@ends_ok n L Z hZ hz)
          have hzb : (Z (n - 1) 0 != 10000) = false := by simp [hz]
          clear hz
          go_wp2
          go_ret
          exact ⟨ret1 ((rends_ends HS.out).trans HV.out).symm, ((Ext.refl _).alloc _).trans hb1⟩
        · have HV := Lib.hid (@ends_sum n L Z hZ hz)
          have hzb : (Z (n - 1) 0 != 10000) = true := by simp [hz]
          clear hz
          go_wp2
          go_ret
          exact ⟨ret1 ((rends_ends HS.out).trans HV.out).symm, ((Ext.refl _).alloc _).trans hb1⟩
  · have HV := Lib.hid (@rends_shape n L Z hs)
    have hsb : (shapeV n L Z != 0) = true := by simp [hs]
    have TX : TabAt (w.alloc (.cells #[.slice A0 n c0] 24)) A0 n A L C Z b off G O := T.ext ((Ext.refl _).alloc _)
    clear hs
    go_enter Try.func14, Try.ntmps14
    go_wp2_with (go_at_call 18; refine (shape_any _ c0 TX).mono ?_; rintro e w1 ⟨rfl, hb1⟩)
    go_ret
    exact ⟨ret1 HV.out.symm, ((Ext.refl _).alloc _).trans hb1⟩


open Classical in
noncomputable def alikeV (n n' : Nat) (L L' : Nat → Nat) : Bool := decide (n = n' ∧ L 0 = L' 0)
open Classical in
noncomputable def coversV (n n' : Nat) (L L' : Nat → Nat) (Z Z' : Nat → Nat → Int) : Bool := decide (n = n' ∧ L 0 = L' 0 ∧ ∀ u w, u < n → w < L 0 → Z' u w ≤ Z u w)
theorem alike_yes {n n' : Nat} {L L' : Nat → Nat} (h : n = n') (h' : L 0 = L' 0) : alikeV n n' L L' = true := by simp [alikeV, h, h']
theorem alike_no {n n' : Nat} {L L' : Nat → Nat} (h : ¬ (n = n' ∧ L 0 = L' 0)) : alikeV n n' L L' = false := by unfold alikeV; exact @decide_eq_false _ _ h
theorem covers_shape {n n' : Nat} {L L' : Nat → Nat} {Z Z' : Nat → Nat → Int} (h : ¬ (n = n' ∧ L 0 = L' 0)) : coversV n n' L L' Z Z' = false := by unfold coversV; rw [decide_eq_false_iff_not]; exact fun g => h ⟨g.1, g.2.1⟩
theorem covers_no {n n' : Nat} {L L' : Nat → Nat} {Z Z' : Nat → Nat → Int} {u w : Nat} (hu : u < n) (hw : w < L 0) (h : Z u w < Z' u w) : coversV n n' L L' Z Z' = false := by unfold coversV; rw [decide_eq_false_iff_not]; exact fun g => by have := g.2.2 u w hu hw; omega
theorem covers_yes {n n' : Nat} {L L' : Nat → Nat} {Z Z' : Nat → Nat → Int} (h : n = n') (h' : L 0 = L' 0) (g : ∀ u w, u < n → w < L 0 → Z' u w ≤ Z u w) : coversV n n' L L' Z Z' = true := by unfold coversV; simp only [decide_eq_true_eq]; exact ⟨h, h', g⟩
theorem covers_says {n n' : Nat} {L L' : Nat → Nat} {Z Z' : Nat → Nat → Int} (h : coversV n n' L L' Z Z' = true) : n = n' ∧ L 0 = L' 0 ∧ ∀ u w, u < n → w < L 0 → Z' u w ≤ Z u w := by unfold coversV at h; simp only [decide_eq_true_eq] at h; exact h

set_option maxHeartbeats 4000000 in
theorem alike_any (w : World) {A0 : Option Addr} {n : Nat} {A : Nat → Option Addr} {L C : Nat → Nat} {Z : Nat → Nat → Int} {b off : Nat} {G O : Nat → Nat} (c0 : Nat) (T : TabAt w A0 n A L C Z b off G O) {A1 : Option Addr} {n' : Nat} {A' : Nat → Option Addr} {L' C' : Nat → Nat} {Z' : Nat → Nat → Int} {b' off' : Nat} {G' O' : Nat → Nat} (c1 : Nat) (T' : TabAt w A1 n' A' L' C' Z' b' off' G' O') (hs : shapeV n L Z = 0) (hs' : shapeV n' L' Z' = 0) :
    Calls Try.prog 20 #[.agg #[.slice A0 n c0], .agg #[.slice A1 n' c1]] w fun e w' => e = .returned (.bool (alikeV n n' L L')) ∧ Ext w w' := by
  have hn := T.nle
  have hn' := T'.nle
  have HS := Lib.hid hs
  have HS' := Lib.hid hs'
  obtain ⟨n1, n2, l1, l2, hL, hV⟩ := shape_zero hs
  obtain ⟨n1', n2', l1', l2', hL', hV'⟩ := shape_zero hs'
  clear hs hs' hL hV hL' hV'
  have HO := Lib.hid (@ovV_pos n (by omega))
  have HO' := Lib.hid (@ovV_pos n' (by omega))
  have HW := Lib.hid (@wkV_pos n L (by omega))
  have HW' := Lib.hid (@wkV_pos n' L' (by omega))
  have hE : Ext ((w.alloc (.cells #[.slice A0 n c0] 24)).alloc (.cells #[.slice A1 n' c1] 24)) ((w.alloc (.cells #[.slice A0 n c0] 24)).alloc (.cells #[.slice A1 n' c1] 24)) := Ext.refl _
  obtain ⟨hcell, hfr⟩ := hE.cells
  have TX : TabAt ((w.alloc (.cells #[.slice A0 n c0] 24)).alloc (.cells #[.slice A1 n' c1] 24)) A0 n A L C Z b off G O := T.ext (((Ext.refl _).alloc _).alloc _)
  have TY : TabAt ((w.alloc (.cells #[.slice A0 n c0] 24)).alloc (.cells #[.slice A1 n' c1] 24)) A1 n' A' L' C' Z' b' off' G' O' := T'.ext (((Ext.refl _).alloc _).alloc _)
  by_cases h1 : n = n'
  · by_cases h2 : L 0 = L' 0
    · have HV := Lib.hid (@alike_yes n n' L L' h1 h2)
      have e1 : (((n : Int) - 1) == ((n' : Int) - 1)) = true := by simp [h1]
      have e2 : ((L 0 : Int) == (L' 0 : Int)) = true := by simp [h2]
      clear h1 h2
      go_enter Try.func20, Try.ntmps20
      go_wp2
      refine wp_region_held_drew (S := (fun w' => w'.cell? ⟨w.heap.size, 0, none⟩ = some (.slice A0 n c0) ∧ w'.cell? ⟨w.heap.size + 1, 0, none⟩ = some (.slice A1 n' c1))) (by kernel_rfl) (by simp [go_sem, *]) (fun hHeld => ?_)
      refine wpAnyH_take (i := 0) (v := ?v1) rfl (by kernel_rfl) (by kernel_rfl) (by kernel_rfl) (fun _ _ _ h => h) (Or.inl ⟨by rfl, ?y1⟩) (by assumption) ?r1
      case y1 => ((intro w hSw; (try dsimp only at hSw); go_simp; (first | done | with_reducible rfl)))
      (try simp only [List.getElem_toArray, List.getElem_cons_succ, List.getElem_cons_zero, Act.put, List.setIfInBounds_toArray, List.set_cons_zero, List.set_cons_succ])
      refine wpAnyH_ready (rs := [1]) (by kernel_rfl) (by simp) ?_
      refine AllReadyH.cons rfl (fun K hK => ?_) AllReadyH.nil
      go_simp
      (go_at_call 18; refine (shape_any _ c0 (TX.ext (by first | exact hE | exact hE.drew | exact hE.drewN _))).mono ?_; rintro e w' ⟨rfl, hb⟩; (first | (replace hE := hE.trans hb) | (replace hE := hE.drew.trans hb) | (replace hE := (hE.drewN _).trans hb)); clear hb hcell hfr; obtain ⟨hcell, hfr⟩ := hE.cells; rw [HS.out])
      refine hK.out _ _ (by first | (dsimp only; simp [go_sem, *]; done) | (simp [go_sem, *])) (fun hHeld => ?_)
      clear hK K
      (try simp only [List.getElem_toArray, List.getElem_cons_succ, List.getElem_cons_zero, Act.put, List.setIfInBounds_toArray, List.set_cons_zero, List.set_cons_succ])
      refine wpAnyH_take (i := 2) (v := ?v2) rfl (by kernel_rfl) (by kernel_rfl) (by kernel_rfl) (fun _ _ _ h => h) (Or.inl ⟨by rfl, ?y2⟩) (by assumption) ?r2
      case y2 => ((intro w hSw; (try dsimp only at hSw); go_simp; (first | done | with_reducible rfl)))
      (try simp only [List.getElem_toArray, List.getElem_cons_succ, List.getElem_cons_zero, Act.put, List.setIfInBounds_toArray, List.set_cons_zero, List.set_cons_succ])
      refine wpAnyH_take (i := 3) (v := ?v3) rfl (by kernel_rfl) (by kernel_rfl) (by kernel_rfl) (fun _ _ _ h => h) (Or.inl ⟨by rfl, ?y3⟩) (by assumption) ?r3
      case y3 => ((intro w hSw; (try dsimp only at hSw); go_simp; (first | done | with_reducible rfl)))
      (try simp only [List.getElem_toArray, List.getElem_cons_succ, List.getElem_cons_zero, Act.put, List.setIfInBounds_toArray, List.set_cons_zero, List.set_cons_succ])
      refine wpAnyH_take (i := 4) (v := ?v4) rfl (by kernel_rfl) (by kernel_rfl) (by kernel_rfl) (fun _ _ _ h => h) (Or.inl ⟨by rfl, ?y4⟩) (by assumption) ?r4
      case y4 => ((intro w hSw; (try dsimp only at hSw); go_simp; (first | done | with_reducible rfl)))
      (try simp only [List.getElem_toArray, List.getElem_cons_succ, List.getElem_cons_zero, Act.put, List.setIfInBounds_toArray, List.set_cons_zero, List.set_cons_succ])
      refine wpAnyH_ready (rs := [5]) (by kernel_rfl) (by simp) ?_
      refine AllReadyH.cons rfl (fun K hK => ?_) AllReadyH.nil
      go_simp
      (go_at_call 18; refine (shape_any _ c1 (TY.ext (by first | exact hE | exact hE.drew | exact hE.drewN _))).mono ?_; rintro e w' ⟨rfl, hb⟩; (first | (replace hE := hE.trans hb) | (replace hE := hE.drew.trans hb) | (replace hE := (hE.drewN _).trans hb)); clear hb hcell hfr; obtain ⟨hcell, hfr⟩ := hE.cells; rw [HS'.out])
      refine hK.out _ _ (by first | (dsimp only; simp [go_sem, *]; done) | (simp [go_sem, *])) (fun hHeld => ?_)
      clear hK K
      (try simp only [List.getElem_toArray, List.getElem_cons_succ, List.getElem_cons_zero, Act.put, List.setIfInBounds_toArray, List.set_cons_zero, List.set_cons_succ])
      refine wpAnyH_take (i := 6) (v := ?v5) rfl (by kernel_rfl) (by kernel_rfl) (by kernel_rfl) (fun _ _ _ h => h) (Or.inl ⟨by rfl, ?y5⟩) (by assumption) ?r5
      case y5 => ((intro w hSw; (try dsimp only at hSw); go_simp; (first | done | with_reducible rfl)))
      (try simp only [List.getElem_toArray, List.getElem_cons_succ, List.getElem_cons_zero, Act.put, List.setIfInBounds_toArray, List.set_cons_zero, List.set_cons_succ])
      refine wpAnyH_take (i := 7) (v := ?v6) rfl (by kernel_rfl) (by kernel_rfl) (by kernel_rfl) (fun _ _ _ h => h) (Or.inl ⟨by rfl, ?y6⟩) (by assumption) ?r6
      case y6 => ((intro w hSw; (try dsimp only at hSw); go_simp; (first | done | with_reducible rfl)))
      (try simp only [List.getElem_toArray, List.getElem_cons_succ, List.getElem_cons_zero, Act.put, List.setIfInBounds_toArray, List.set_cons_zero, List.set_cons_succ])
      refine wpAnyH_take (i := 8) (v := ?v7) rfl (by kernel_rfl) (by kernel_rfl) (by kernel_rfl) (fun _ _ _ h => h) (Or.inl ⟨by rfl, ?y7⟩) (by assumption) ?r7
      case y7 => ((intro w hSw; (try dsimp only at hSw); go_simp; (first | done | with_reducible rfl)))
      (try simp only [List.getElem_toArray, List.getElem_cons_succ, List.getElem_cons_zero, Act.put, List.setIfInBounds_toArray, List.set_cons_zero, List.set_cons_succ])
      refine wpAnyH_take (i := 9) (v := ?v8) rfl (by kernel_rfl) (by kernel_rfl) (by kernel_rfl) (fun _ _ _ h => h) (Or.inl ⟨by rfl, ?y8⟩) (by assumption) ?r8
      case y8 => ((intro w hSw; (try dsimp only at hSw); go_simp; (first | done | with_reducible rfl)))
      (try simp only [List.getElem_toArray, List.getElem_cons_succ, List.getElem_cons_zero, Act.put, List.setIfInBounds_toArray, List.set_cons_zero, List.set_cons_succ])
      refine wpAnyH_take (i := 11) (v := ?v9) rfl (by kernel_rfl) (by kernel_rfl) (by kernel_rfl) (fun _ _ _ h => h) (Or.inl ⟨by rfl, ?y9⟩) (by assumption) ?r9
      case y9 => ((intro w hSw; (try dsimp only at hSw); go_simp; (first | done | with_reducible rfl)))
      (try simp only [List.getElem_toArray, List.getElem_cons_succ, List.getElem_cons_zero, Act.put, List.setIfInBounds_toArray, List.set_cons_zero, List.set_cons_succ])
      refine wpAnyH_ready (rs := [10]) (by kernel_rfl) (by simp) ?_
      refine AllReadyH.cons rfl (fun K hK => ?_) AllReadyH.nil
      go_simp
      (go_at_call 8; refine (overs_any _ _ n c0 hn).mono ?_; rintro e w' ⟨rfl, hb⟩; (first | (replace hE := hE.trans hb) | (replace hE := hE.drew.trans hb) | (replace hE := (hE.drewN _).trans hb)); clear hb hcell hfr; obtain ⟨hcell, hfr⟩ := hE.cells; rw [HO.out])
      refine hK.out _ _ (by first | (dsimp only; simp [go_sem, *]; done) | (simp [go_sem, *])) (fun hHeld => ?_)
      clear hK K
      (try simp only [List.getElem_toArray, List.getElem_cons_succ, List.getElem_cons_zero, Act.put, List.setIfInBounds_toArray, List.set_cons_zero, List.set_cons_succ])
      refine wpAnyH_ready (rs := [12]) (by kernel_rfl) (by simp) ?_
      refine AllReadyH.cons rfl (fun K hK => ?_) AllReadyH.nil
      go_simp
      (go_at_call 8; refine (overs_any _ _ n' c1 hn').mono ?_; rintro e w' ⟨rfl, hb⟩; (first | (replace hE := hE.trans hb) | (replace hE := hE.drew.trans hb) | (replace hE := (hE.drewN _).trans hb)); clear hb hcell hfr; obtain ⟨hcell, hfr⟩ := hE.cells; rw [HO'.out])
      refine hK.out _ _ (by first | (dsimp only; simp [go_sem, *]; done) | (simp [go_sem, *])) (fun hHeld => ?_)
      clear hK K
      (try simp only [List.getElem_toArray, List.getElem_cons_succ, List.getElem_cons_zero, Act.put, List.setIfInBounds_toArray, List.set_cons_zero, List.set_cons_succ])
      refine wpAnyH_take (i := 13) (v := ?v10) rfl (by kernel_rfl) (by kernel_rfl) (by kernel_rfl) (fun _ _ _ h => h) (Or.inl ⟨by rfl, ?y10⟩) (by assumption) ?r10
      case y10 => ((intro w hSw; (try dsimp only at hSw); go_simp; (first | done | with_reducible rfl)))
      (try simp only [List.getElem_toArray, List.getElem_cons_succ, List.getElem_cons_zero, Act.put, List.setIfInBounds_toArray, List.set_cons_zero, List.set_cons_succ])
      refine wpAnyH_take (i := 14) (v := ?v11) rfl (by kernel_rfl) (by kernel_rfl) (by kernel_rfl) (fun _ _ _ h => h) (Or.inl ⟨by rfl, ?y11⟩) (by assumption) ?r11
      case y11 => ((intro w hSw; (try dsimp only at hSw); go_simp; (first | done | with_reducible rfl)))
      (try simp only [List.getElem_toArray, List.getElem_cons_succ, List.getElem_cons_zero, Act.put, List.setIfInBounds_toArray, List.set_cons_zero, List.set_cons_succ])
      refine wpAnyH_take (i := 15) (v := ?v12) rfl (by kernel_rfl) (by kernel_rfl) (by kernel_rfl) (fun _ _ _ h => h) (Or.inl ⟨by rfl, ?y12⟩) (by assumption) ?r12
      case y12 => ((intro w hSw; (try dsimp only at hSw); go_simp; (first | done | with_reducible rfl)))
      (try simp only [List.getElem_toArray, List.getElem_cons_succ, List.getElem_cons_zero, Act.put, List.setIfInBounds_toArray, List.set_cons_zero, List.set_cons_succ])
      refine wpAnyH_take (i := 16) (v := ?v13) rfl (by kernel_rfl) (by kernel_rfl) (by kernel_rfl) (fun _ _ _ h => h) (Or.inl ⟨by rfl, ?y13⟩) (by assumption) ?r13
      case y13 => ((intro w hSw; (try dsimp only at hSw); go_simp; (first | done | with_reducible rfl)))
      (try simp only [List.getElem_toArray, List.getElem_cons_succ, List.getElem_cons_zero, Act.put, List.setIfInBounds_toArray, List.set_cons_zero, List.set_cons_succ])
      refine wpAnyH_take (i := 18) (v := ?v14) rfl (by kernel_rfl) (by kernel_rfl) (by kernel_rfl) (fun _ _ _ h => h) (Or.inl ⟨by rfl, ?y14⟩) (by assumption) ?r14
      case y14 => ((intro w hSw; (try dsimp only at hSw); go_simp; (first | done | with_reducible rfl)))
      (try simp only [List.getElem_toArray, List.getElem_cons_succ, List.getElem_cons_zero, Act.put, List.setIfInBounds_toArray, List.set_cons_zero, List.set_cons_succ])
      refine wpAnyH_ready (rs := [17]) (by kernel_rfl) (by simp) ?_
      refine AllReadyH.cons rfl (fun K hK => ?_) AllReadyH.nil
      go_simp
      (go_at_call 10; refine (wkts_any _ c0 (TX.ext (by first | exact hE | exact hE.drew | exact hE.drewN _))).mono ?_; rintro e w' ⟨rfl, hb⟩; (first | (replace hE := hE.trans hb) | (replace hE := hE.drew.trans hb) | (replace hE := (hE.drewN _).trans hb)); clear hb hcell hfr; obtain ⟨hcell, hfr⟩ := hE.cells; rw [HW.out])
      refine hK.out _ _ (by first | (dsimp only; simp [go_sem, *]; done) | (simp [go_sem, *])) (fun hHeld => ?_)
      clear hK K
      (try simp only [List.getElem_toArray, List.getElem_cons_succ, List.getElem_cons_zero, Act.put, List.setIfInBounds_toArray, List.set_cons_zero, List.set_cons_succ])
      refine wpAnyH_ready (rs := [19]) (by kernel_rfl) (by simp) ?_
      refine AllReadyH.cons rfl (fun K hK => ?_) AllReadyH.nil
      go_simp
      (go_at_call 10; refine (wkts_any _ c1 (TY.ext (by first | exact hE | exact hE.drew | exact hE.drewN _))).mono ?_; rintro e w' ⟨rfl, hb⟩; (first | (replace hE := hE.trans hb) | (replace hE := hE.drew.trans hb) | (replace hE := (hE.drewN _).trans hb)); clear hb hcell hfr; obtain ⟨hcell, hfr⟩ := hE.cells; rw [HW'.out])
      refine hK.out _ _ (by first | (dsimp only; simp [go_sem, *]; done) | (simp [go_sem, *])) (fun hHeld => ?_)
      clear hK K
      (try simp only [List.getElem_toArray, List.getElem_cons_succ, List.getElem_cons_zero, Act.put, List.setIfInBounds_toArray, List.set_cons_zero, List.set_cons_succ])
      refine wpAnyH_take (i := 20) (v := ?v15) rfl (by kernel_rfl) (by kernel_rfl) (by kernel_rfl) (fun _ _ _ h => h) (Or.inl ⟨by rfl, ?y15⟩) (by assumption) ?r15
      case y15 => ((intro w hSw; (try dsimp only at hSw); go_simp; (first | done | with_reducible rfl)))
      (try simp only [List.getElem_toArray, List.getElem_cons_succ, List.getElem_cons_zero, Act.put, List.setIfInBounds_toArray, List.set_cons_zero, List.set_cons_succ])
      refine wpAnyH_take (i := 21) (v := ?v16) rfl (by kernel_rfl) (by kernel_rfl) (by kernel_rfl) (fun _ _ _ h => h) (Or.inl ⟨by rfl, ?y16⟩) (by assumption) ?r16
      case y16 => ((intro w hSw; (try dsimp only at hSw); go_simp; (first | done | with_reducible rfl)))
      (try simp only [List.getElem_toArray, List.getElem_cons_succ, List.getElem_cons_zero, Act.put, List.setIfInBounds_toArray, List.set_cons_zero, List.set_cons_succ])
      refine wpAnyH_ready (rs := [22]) (by kernel_rfl) (by simp) ?_
      refine AllReadyH.cons rfl (fun K hK => ?_) AllReadyH.nil
      go_simp
      skip
      refine hK.out _ _ (by first | (dsimp only; simp [go_sem, *]; done) | (simp [go_sem, *])) (fun hHeld => ?_)
      clear hK K
      (try simp only [List.getElem_toArray, List.getElem_cons_succ, List.getElem_cons_zero, Act.put, List.setIfInBounds_toArray, List.set_cons_zero, List.set_cons_succ])
      refine wpAnyH_done (by kernel_rfl) ?_ _
      go_wp2
      go_ret
      exact ⟨retb HV.out.symm, (((Ext.refl _).alloc _).alloc _).trans (by first | exact hE | exact hE.drew | exact hE.drewN _)⟩
    · have HV := Lib.hid (@alike_no n n' L L' (fun g => h2 g.2))
      have e1 : (((n : Int) - 1) == ((n' : Int) - 1)) = true := by simp [h1]
      have e2 : ((L 0 : Int) == (L' 0 : Int)) = false := by simp; omega
      clear h1 h2
      go_enter Try.func20, Try.ntmps20
      go_wp2
      refine wp_region_held_drew (S := (fun w' => w'.cell? ⟨w.heap.size, 0, none⟩ = some (.slice A0 n c0) ∧ w'.cell? ⟨w.heap.size + 1, 0, none⟩ = some (.slice A1 n' c1))) (by kernel_rfl) (by simp [go_sem, *]) (fun hHeld => ?_)
      refine wpAnyH_take (i := 0) (v := ?v17) rfl (by kernel_rfl) (by kernel_rfl) (by kernel_rfl) (fun _ _ _ h => h) (Or.inl ⟨by rfl, ?y17⟩) (by assumption) ?r17
      case y17 => ((intro w hSw; (try dsimp only at hSw); go_simp; (first | done | with_reducible rfl)))
      (try simp only [List.getElem_toArray, List.getElem_cons_succ, List.getElem_cons_zero, Act.put, List.setIfInBounds_toArray, List.set_cons_zero, List.set_cons_succ])
      refine wpAnyH_ready (rs := [1]) (by kernel_rfl) (by simp) ?_
      refine AllReadyH.cons rfl (fun K hK => ?_) AllReadyH.nil
      go_simp
      (go_at_call 18; refine (shape_any _ c0 (TX.ext (by first | exact hE | exact hE.drew | exact hE.drewN _))).mono ?_; rintro e w' ⟨rfl, hb⟩; (first | (replace hE := hE.trans hb) | (replace hE := hE.drew.trans hb) | (replace hE := (hE.drewN _).trans hb)); clear hb hcell hfr; obtain ⟨hcell, hfr⟩ := hE.cells; rw [HS.out])
      refine hK.out _ _ (by first | (dsimp only; simp [go_sem, *]; done) | (simp [go_sem, *])) (fun hHeld => ?_)
      clear hK K
      (try simp only [List.getElem_toArray, List.getElem_cons_succ, List.getElem_cons_zero, Act.put, List.setIfInBounds_toArray, List.set_cons_zero, List.set_cons_succ])
      refine wpAnyH_take (i := 2) (v := ?v18) rfl (by kernel_rfl) (by kernel_rfl) (by kernel_rfl) (fun _ _ _ h => h) (Or.inl ⟨by rfl, ?y18⟩) (by assumption) ?r18
      case y18 => ((intro w hSw; (try dsimp only at hSw); go_simp; (first | done | with_reducible rfl)))
      (try simp only [List.getElem_toArray, List.getElem_cons_succ, List.getElem_cons_zero, Act.put, List.setIfInBounds_toArray, List.set_cons_zero, List.set_cons_succ])
      refine wpAnyH_take (i := 3) (v := ?v19) rfl (by kernel_rfl) (by kernel_rfl) (by kernel_rfl) (fun _ _ _ h => h) (Or.inl ⟨by rfl, ?y19⟩) (by assumption) ?r19
      case y19 => ((intro w hSw; (try dsimp only at hSw); go_simp; (first | done | with_reducible rfl)))
      (try simp only [List.getElem_toArray, List.getElem_cons_succ, List.getElem_cons_zero, Act.put, List.setIfInBounds_toArray, List.set_cons_zero, List.set_cons_succ])
      refine wpAnyH_take (i := 4) (v := ?v20) rfl (by kernel_rfl) (by kernel_rfl) (by kernel_rfl) (fun _ _ _ h => h) (Or.inl ⟨by rfl, ?y20⟩) (by assumption) ?r20
      case y20 => ((intro w hSw; (try dsimp only at hSw); go_simp; (first | done | with_reducible rfl)))
      (try simp only [List.getElem_toArray, List.getElem_cons_succ, List.getElem_cons_zero, Act.put, List.setIfInBounds_toArray, List.set_cons_zero, List.set_cons_succ])
      refine wpAnyH_ready (rs := [5]) (by kernel_rfl) (by simp) ?_
      refine AllReadyH.cons rfl (fun K hK => ?_) AllReadyH.nil
      go_simp
      (go_at_call 18; refine (shape_any _ c1 (TY.ext (by first | exact hE | exact hE.drew | exact hE.drewN _))).mono ?_; rintro e w' ⟨rfl, hb⟩; (first | (replace hE := hE.trans hb) | (replace hE := hE.drew.trans hb) | (replace hE := (hE.drewN _).trans hb)); clear hb hcell hfr; obtain ⟨hcell, hfr⟩ := hE.cells; rw [HS'.out])
      refine hK.out _ _ (by first | (dsimp only; simp [go_sem, *]; done) | (simp [go_sem, *])) (fun hHeld => ?_)
      clear hK K
      (try simp only [List.getElem_toArray, List.getElem_cons_succ, List.getElem_cons_zero, Act.put, List.setIfInBounds_toArray, List.set_cons_zero, List.set_cons_succ])
      refine wpAnyH_take (i := 6) (v := ?v21) rfl (by kernel_rfl) (by kernel_rfl) (by kernel_rfl) (fun _ _ _ h => h) (Or.inl ⟨by rfl, ?y21⟩) (by assumption) ?r21
      case y21 => ((intro w hSw; (try dsimp only at hSw); go_simp; (first | done | with_reducible rfl)))
      (try simp only [List.getElem_toArray, List.getElem_cons_succ, List.getElem_cons_zero, Act.put, List.setIfInBounds_toArray, List.set_cons_zero, List.set_cons_succ])
      refine wpAnyH_take (i := 7) (v := ?v22) rfl (by kernel_rfl) (by kernel_rfl) (by kernel_rfl) (fun _ _ _ h => h) (Or.inl ⟨by rfl, ?y22⟩) (by assumption) ?r22
      case y22 => ((intro w hSw; (try dsimp only at hSw); go_simp; (first | done | with_reducible rfl)))
      (try simp only [List.getElem_toArray, List.getElem_cons_succ, List.getElem_cons_zero, Act.put, List.setIfInBounds_toArray, List.set_cons_zero, List.set_cons_succ])
      refine wpAnyH_take (i := 8) (v := ?v23) rfl (by kernel_rfl) (by kernel_rfl) (by kernel_rfl) (fun _ _ _ h => h) (Or.inl ⟨by rfl, ?y23⟩) (by assumption) ?r23
      case y23 => ((intro w hSw; (try dsimp only at hSw); go_simp; (first | done | with_reducible rfl)))
      (try simp only [List.getElem_toArray, List.getElem_cons_succ, List.getElem_cons_zero, Act.put, List.setIfInBounds_toArray, List.set_cons_zero, List.set_cons_succ])
      refine wpAnyH_take (i := 9) (v := ?v24) rfl (by kernel_rfl) (by kernel_rfl) (by kernel_rfl) (fun _ _ _ h => h) (Or.inl ⟨by rfl, ?y24⟩) (by assumption) ?r24
      case y24 => ((intro w hSw; (try dsimp only at hSw); go_simp; (first | done | with_reducible rfl)))
      (try simp only [List.getElem_toArray, List.getElem_cons_succ, List.getElem_cons_zero, Act.put, List.setIfInBounds_toArray, List.set_cons_zero, List.set_cons_succ])
      refine wpAnyH_take (i := 11) (v := ?v25) rfl (by kernel_rfl) (by kernel_rfl) (by kernel_rfl) (fun _ _ _ h => h) (Or.inl ⟨by rfl, ?y25⟩) (by assumption) ?r25
      case y25 => ((intro w hSw; (try dsimp only at hSw); go_simp; (first | done | with_reducible rfl)))
      (try simp only [List.getElem_toArray, List.getElem_cons_succ, List.getElem_cons_zero, Act.put, List.setIfInBounds_toArray, List.set_cons_zero, List.set_cons_succ])
      refine wpAnyH_ready (rs := [10]) (by kernel_rfl) (by simp) ?_
      refine AllReadyH.cons rfl (fun K hK => ?_) AllReadyH.nil
      go_simp
      (go_at_call 8; refine (overs_any _ _ n c0 hn).mono ?_; rintro e w' ⟨rfl, hb⟩; (first | (replace hE := hE.trans hb) | (replace hE := hE.drew.trans hb) | (replace hE := (hE.drewN _).trans hb)); clear hb hcell hfr; obtain ⟨hcell, hfr⟩ := hE.cells; rw [HO.out])
      refine hK.out _ _ (by first | (dsimp only; simp [go_sem, *]; done) | (simp [go_sem, *])) (fun hHeld => ?_)
      clear hK K
      (try simp only [List.getElem_toArray, List.getElem_cons_succ, List.getElem_cons_zero, Act.put, List.setIfInBounds_toArray, List.set_cons_zero, List.set_cons_succ])
      refine wpAnyH_ready (rs := [12]) (by kernel_rfl) (by simp) ?_
      refine AllReadyH.cons rfl (fun K hK => ?_) AllReadyH.nil
      go_simp
      (go_at_call 8; refine (overs_any _ _ n' c1 hn').mono ?_; rintro e w' ⟨rfl, hb⟩; (first | (replace hE := hE.trans hb) | (replace hE := hE.drew.trans hb) | (replace hE := (hE.drewN _).trans hb)); clear hb hcell hfr; obtain ⟨hcell, hfr⟩ := hE.cells; rw [HO'.out])
      refine hK.out _ _ (by first | (dsimp only; simp [go_sem, *]; done) | (simp [go_sem, *])) (fun hHeld => ?_)
      clear hK K
      (try simp only [List.getElem_toArray, List.getElem_cons_succ, List.getElem_cons_zero, Act.put, List.setIfInBounds_toArray, List.set_cons_zero, List.set_cons_succ])
      refine wpAnyH_take (i := 13) (v := ?v26) rfl (by kernel_rfl) (by kernel_rfl) (by kernel_rfl) (fun _ _ _ h => h) (Or.inl ⟨by rfl, ?y26⟩) (by assumption) ?r26
      case y26 => ((intro w hSw; (try dsimp only at hSw); go_simp; (first | done | with_reducible rfl)))
      (try simp only [List.getElem_toArray, List.getElem_cons_succ, List.getElem_cons_zero, Act.put, List.setIfInBounds_toArray, List.set_cons_zero, List.set_cons_succ])
      refine wpAnyH_take (i := 14) (v := ?v27) rfl (by kernel_rfl) (by kernel_rfl) (by kernel_rfl) (fun _ _ _ h => h) (Or.inl ⟨by rfl, ?y27⟩) (by assumption) ?r27
      case y27 => ((intro w hSw; (try dsimp only at hSw); go_simp; (first | done | with_reducible rfl)))
      (try simp only [List.getElem_toArray, List.getElem_cons_succ, List.getElem_cons_zero, Act.put, List.setIfInBounds_toArray, List.set_cons_zero, List.set_cons_succ])
      refine wpAnyH_take (i := 15) (v := ?v28) rfl (by kernel_rfl) (by kernel_rfl) (by kernel_rfl) (fun _ _ _ h => h) (Or.inl ⟨by rfl, ?y28⟩) (by assumption) ?r28
      case y28 => ((intro w hSw; (try dsimp only at hSw); go_simp; (first | done | with_reducible rfl)))
      (try simp only [List.getElem_toArray, List.getElem_cons_succ, List.getElem_cons_zero, Act.put, List.setIfInBounds_toArray, List.set_cons_zero, List.set_cons_succ])
      refine wpAnyH_take (i := 16) (v := ?v29) rfl (by kernel_rfl) (by kernel_rfl) (by kernel_rfl) (fun _ _ _ h => h) (Or.inl ⟨by rfl, ?y29⟩) (by assumption) ?r29
      case y29 => ((intro w hSw; (try dsimp only at hSw); go_simp; (first | done | with_reducible rfl)))
      (try simp only [List.getElem_toArray, List.getElem_cons_succ, List.getElem_cons_zero, Act.put, List.setIfInBounds_toArray, List.set_cons_zero, List.set_cons_succ])
      refine wpAnyH_take (i := 18) (v := ?v30) rfl (by kernel_rfl) (by kernel_rfl) (by kernel_rfl) (fun _ _ _ h => h) (Or.inl ⟨by rfl, ?y30⟩) (by assumption) ?r30
      case y30 => ((intro w hSw; (try dsimp only at hSw); go_simp; (first | done | with_reducible rfl)))
      (try simp only [List.getElem_toArray, List.getElem_cons_succ, List.getElem_cons_zero, Act.put, List.setIfInBounds_toArray, List.set_cons_zero, List.set_cons_succ])
      refine wpAnyH_ready (rs := [17]) (by kernel_rfl) (by simp) ?_
      refine AllReadyH.cons rfl (fun K hK => ?_) AllReadyH.nil
      go_simp
      (go_at_call 10; refine (wkts_any _ c0 (TX.ext (by first | exact hE | exact hE.drew | exact hE.drewN _))).mono ?_; rintro e w' ⟨rfl, hb⟩; (first | (replace hE := hE.trans hb) | (replace hE := hE.drew.trans hb) | (replace hE := (hE.drewN _).trans hb)); clear hb hcell hfr; obtain ⟨hcell, hfr⟩ := hE.cells; rw [HW.out])
      refine hK.out _ _ (by first | (dsimp only; simp [go_sem, *]; done) | (simp [go_sem, *])) (fun hHeld => ?_)
      clear hK K
      (try simp only [List.getElem_toArray, List.getElem_cons_succ, List.getElem_cons_zero, Act.put, List.setIfInBounds_toArray, List.set_cons_zero, List.set_cons_succ])
      refine wpAnyH_ready (rs := [19]) (by kernel_rfl) (by simp) ?_
      refine AllReadyH.cons rfl (fun K hK => ?_) AllReadyH.nil
      go_simp
      (go_at_call 10; refine (wkts_any _ c1 (TY.ext (by first | exact hE | exact hE.drew | exact hE.drewN _))).mono ?_; rintro e w' ⟨rfl, hb⟩; (first | (replace hE := hE.trans hb) | (replace hE := hE.drew.trans hb) | (replace hE := (hE.drewN _).trans hb)); clear hb hcell hfr; obtain ⟨hcell, hfr⟩ := hE.cells; rw [HW'.out])
      refine hK.out _ _ (by first | (dsimp only; simp [go_sem, *]; done) | (simp [go_sem, *])) (fun hHeld => ?_)
      clear hK K
      (try simp only [List.getElem_toArray, List.getElem_cons_succ, List.getElem_cons_zero, Act.put, List.setIfInBounds_toArray, List.set_cons_zero, List.set_cons_succ])
      refine wpAnyH_take (i := 20) (v := ?v31) rfl (by kernel_rfl) (by kernel_rfl) (by kernel_rfl) (fun _ _ _ h => h) (Or.inl ⟨by rfl, ?y31⟩) (by assumption) ?r31
      case y31 => ((intro w hSw; (try dsimp only at hSw); go_simp; (first | done | with_reducible rfl)))
      (try simp only [List.getElem_toArray, List.getElem_cons_succ, List.getElem_cons_zero, Act.put, List.setIfInBounds_toArray, List.set_cons_zero, List.set_cons_succ])
      refine wpAnyH_take (i := 21) (v := ?v32) rfl (by kernel_rfl) (by kernel_rfl) (by kernel_rfl) (fun _ _ _ h => h) (Or.inl ⟨by rfl, ?y32⟩) (by assumption) ?r32
      case y32 => ((intro w hSw; (try dsimp only at hSw); go_simp; (first | done | with_reducible rfl)))
      (try simp only [List.getElem_toArray, List.getElem_cons_succ, List.getElem_cons_zero, Act.put, List.setIfInBounds_toArray, List.set_cons_zero, List.set_cons_succ])
      refine wpAnyH_ready (rs := [22]) (by kernel_rfl) (by simp) ?_
      refine AllReadyH.cons rfl (fun K hK => ?_) AllReadyH.nil
      go_simp
      skip
      refine hK.out _ _ (by first | (dsimp only; simp [go_sem, *]; done) | (simp [go_sem, *])) (fun hHeld => ?_)
      clear hK K
      (try simp only [List.getElem_toArray, List.getElem_cons_succ, List.getElem_cons_zero, Act.put, List.setIfInBounds_toArray, List.set_cons_zero, List.set_cons_succ])
      refine wpAnyH_done (by kernel_rfl) ?_ _
      go_wp2
      go_ret
      exact ⟨retb HV.out.symm, (((Ext.refl _).alloc _).alloc _).trans (by first | exact hE | exact hE.drew | exact hE.drewN _)⟩
  · have HV := Lib.hid (@alike_no n n' L L' (fun g => h1 g.1))
    have e1 : (((n : Int) - 1) == ((n' : Int) - 1)) = false := by simp; omega
    clear h1
    go_enter Try.func20, Try.ntmps20
    go_wp2
    refine wp_region_held_drew (S := (fun w' => w'.cell? ⟨w.heap.size, 0, none⟩ = some (.slice A0 n c0) ∧ w'.cell? ⟨w.heap.size + 1, 0, none⟩ = some (.slice A1 n' c1))) (by kernel_rfl) (by simp [go_sem, *]) (fun hHeld => ?_)
    refine wpAnyH_take (i := 0) (v := ?v33) rfl (by kernel_rfl) (by kernel_rfl) (by kernel_rfl) (fun _ _ _ h => h) (Or.inl ⟨by rfl, ?y33⟩) (by assumption) ?r33
    case y33 => ((intro w hSw; (try dsimp only at hSw); go_simp; (first | done | with_reducible rfl)))
    (try simp only [List.getElem_toArray, List.getElem_cons_succ, List.getElem_cons_zero, Act.put, List.setIfInBounds_toArray, List.set_cons_zero, List.set_cons_succ])
    refine wpAnyH_ready (rs := [1]) (by kernel_rfl) (by simp) ?_
    refine AllReadyH.cons rfl (fun K hK => ?_) AllReadyH.nil
    go_simp
    (go_at_call 18; refine (shape_any _ c0 (TX.ext (by first | exact hE | exact hE.drew | exact hE.drewN _))).mono ?_; rintro e w' ⟨rfl, hb⟩; (first | (replace hE := hE.trans hb) | (replace hE := hE.drew.trans hb) | (replace hE := (hE.drewN _).trans hb)); clear hb hcell hfr; obtain ⟨hcell, hfr⟩ := hE.cells; rw [HS.out])
    refine hK.out _ _ (by first | (dsimp only; simp [go_sem, *]; done) | (simp [go_sem, *])) (fun hHeld => ?_)
    clear hK K
    (try simp only [List.getElem_toArray, List.getElem_cons_succ, List.getElem_cons_zero, Act.put, List.setIfInBounds_toArray, List.set_cons_zero, List.set_cons_succ])
    refine wpAnyH_take (i := 2) (v := ?v34) rfl (by kernel_rfl) (by kernel_rfl) (by kernel_rfl) (fun _ _ _ h => h) (Or.inl ⟨by rfl, ?y34⟩) (by assumption) ?r34
    case y34 => ((intro w hSw; (try dsimp only at hSw); go_simp; (first | done | with_reducible rfl)))
    (try simp only [List.getElem_toArray, List.getElem_cons_succ, List.getElem_cons_zero, Act.put, List.setIfInBounds_toArray, List.set_cons_zero, List.set_cons_succ])
    refine wpAnyH_take (i := 3) (v := ?v35) rfl (by kernel_rfl) (by kernel_rfl) (by kernel_rfl) (fun _ _ _ h => h) (Or.inl ⟨by rfl, ?y35⟩) (by assumption) ?r35
    case y35 => ((intro w hSw; (try dsimp only at hSw); go_simp; (first | done | with_reducible rfl)))
    (try simp only [List.getElem_toArray, List.getElem_cons_succ, List.getElem_cons_zero, Act.put, List.setIfInBounds_toArray, List.set_cons_zero, List.set_cons_succ])
    refine wpAnyH_take (i := 4) (v := ?v36) rfl (by kernel_rfl) (by kernel_rfl) (by kernel_rfl) (fun _ _ _ h => h) (Or.inl ⟨by rfl, ?y36⟩) (by assumption) ?r36
    case y36 => ((intro w hSw; (try dsimp only at hSw); go_simp; (first | done | with_reducible rfl)))
    (try simp only [List.getElem_toArray, List.getElem_cons_succ, List.getElem_cons_zero, Act.put, List.setIfInBounds_toArray, List.set_cons_zero, List.set_cons_succ])
    refine wpAnyH_ready (rs := [5]) (by kernel_rfl) (by simp) ?_
    refine AllReadyH.cons rfl (fun K hK => ?_) AllReadyH.nil
    go_simp
    (go_at_call 18; refine (shape_any _ c1 (TY.ext (by first | exact hE | exact hE.drew | exact hE.drewN _))).mono ?_; rintro e w' ⟨rfl, hb⟩; (first | (replace hE := hE.trans hb) | (replace hE := hE.drew.trans hb) | (replace hE := (hE.drewN _).trans hb)); clear hb hcell hfr; obtain ⟨hcell, hfr⟩ := hE.cells; rw [HS'.out])
    refine hK.out _ _ (by first | (dsimp only; simp [go_sem, *]; done) | (simp [go_sem, *])) (fun hHeld => ?_)
    clear hK K
    (try simp only [List.getElem_toArray, List.getElem_cons_succ, List.getElem_cons_zero, Act.put, List.setIfInBounds_toArray, List.set_cons_zero, List.set_cons_succ])
    refine wpAnyH_take (i := 6) (v := ?v37) rfl (by kernel_rfl) (by kernel_rfl) (by kernel_rfl) (fun _ _ _ h => h) (Or.inl ⟨by rfl, ?y37⟩) (by assumption) ?r37
    case y37 => ((intro w hSw; (try dsimp only at hSw); go_simp; (first | done | with_reducible rfl)))
    (try simp only [List.getElem_toArray, List.getElem_cons_succ, List.getElem_cons_zero, Act.put, List.setIfInBounds_toArray, List.set_cons_zero, List.set_cons_succ])
    refine wpAnyH_take (i := 7) (v := ?v38) rfl (by kernel_rfl) (by kernel_rfl) (by kernel_rfl) (fun _ _ _ h => h) (Or.inl ⟨by rfl, ?y38⟩) (by assumption) ?r38
    case y38 => ((intro w hSw; (try dsimp only at hSw); go_simp; (first | done | with_reducible rfl)))
    (try simp only [List.getElem_toArray, List.getElem_cons_succ, List.getElem_cons_zero, Act.put, List.setIfInBounds_toArray, List.set_cons_zero, List.set_cons_succ])
    refine wpAnyH_take (i := 8) (v := ?v39) rfl (by kernel_rfl) (by kernel_rfl) (by kernel_rfl) (fun _ _ _ h => h) (Or.inl ⟨by rfl, ?y39⟩) (by assumption) ?r39
    case y39 => ((intro w hSw; (try dsimp only at hSw); go_simp; (first | done | with_reducible rfl)))
    (try simp only [List.getElem_toArray, List.getElem_cons_succ, List.getElem_cons_zero, Act.put, List.setIfInBounds_toArray, List.set_cons_zero, List.set_cons_succ])
    refine wpAnyH_take (i := 9) (v := ?v40) rfl (by kernel_rfl) (by kernel_rfl) (by kernel_rfl) (fun _ _ _ h => h) (Or.inl ⟨by rfl, ?y40⟩) (by assumption) ?r40
    case y40 => ((intro w hSw; (try dsimp only at hSw); go_simp; (first | done | with_reducible rfl)))
    (try simp only [List.getElem_toArray, List.getElem_cons_succ, List.getElem_cons_zero, Act.put, List.setIfInBounds_toArray, List.set_cons_zero, List.set_cons_succ])
    refine wpAnyH_take (i := 11) (v := ?v41) rfl (by kernel_rfl) (by kernel_rfl) (by kernel_rfl) (fun _ _ _ h => h) (Or.inl ⟨by rfl, ?y41⟩) (by assumption) ?r41
    case y41 => ((intro w hSw; (try dsimp only at hSw); go_simp; (first | done | with_reducible rfl)))
    (try simp only [List.getElem_toArray, List.getElem_cons_succ, List.getElem_cons_zero, Act.put, List.setIfInBounds_toArray, List.set_cons_zero, List.set_cons_succ])
    refine wpAnyH_ready (rs := [10]) (by kernel_rfl) (by simp) ?_
    refine AllReadyH.cons rfl (fun K hK => ?_) AllReadyH.nil
    go_simp
    (go_at_call 8; refine (overs_any _ _ n c0 hn).mono ?_; rintro e w' ⟨rfl, hb⟩; (first | (replace hE := hE.trans hb) | (replace hE := hE.drew.trans hb) | (replace hE := (hE.drewN _).trans hb)); clear hb hcell hfr; obtain ⟨hcell, hfr⟩ := hE.cells; rw [HO.out])
    refine hK.out _ _ (by first | (dsimp only; simp [go_sem, *]; done) | (simp [go_sem, *])) (fun hHeld => ?_)
    clear hK K
    (try simp only [List.getElem_toArray, List.getElem_cons_succ, List.getElem_cons_zero, Act.put, List.setIfInBounds_toArray, List.set_cons_zero, List.set_cons_succ])
    refine wpAnyH_ready (rs := [12]) (by kernel_rfl) (by simp) ?_
    refine AllReadyH.cons rfl (fun K hK => ?_) AllReadyH.nil
    go_simp
    (go_at_call 8; refine (overs_any _ _ n' c1 hn').mono ?_; rintro e w' ⟨rfl, hb⟩; (first | (replace hE := hE.trans hb) | (replace hE := hE.drew.trans hb) | (replace hE := (hE.drewN _).trans hb)); clear hb hcell hfr; obtain ⟨hcell, hfr⟩ := hE.cells; rw [HO'.out])
    refine hK.out _ _ (by first | (dsimp only; simp [go_sem, *]; done) | (simp [go_sem, *])) (fun hHeld => ?_)
    clear hK K
    (try simp only [List.getElem_toArray, List.getElem_cons_succ, List.getElem_cons_zero, Act.put, List.setIfInBounds_toArray, List.set_cons_zero, List.set_cons_succ])
    refine wpAnyH_take (i := 13) (v := ?v42) rfl (by kernel_rfl) (by kernel_rfl) (by kernel_rfl) (fun _ _ _ h => h) (Or.inl ⟨by rfl, ?y42⟩) (by assumption) ?r42
    case y42 => ((intro w hSw; (try dsimp only at hSw); go_simp; (first | done | with_reducible rfl)))
    (try simp only [List.getElem_toArray, List.getElem_cons_succ, List.getElem_cons_zero, Act.put, List.setIfInBounds_toArray, List.set_cons_zero, List.set_cons_succ])
    refine wpAnyH_take (i := 14) (v := ?v43) rfl (by kernel_rfl) (by kernel_rfl) (by kernel_rfl) (fun _ _ _ h => h) (Or.inl ⟨by rfl, ?y43⟩) (by assumption) ?r43
    case y43 => ((intro w hSw; (try dsimp only at hSw); go_simp; (first | done | with_reducible rfl)))
    (try simp only [List.getElem_toArray, List.getElem_cons_succ, List.getElem_cons_zero, Act.put, List.setIfInBounds_toArray, List.set_cons_zero, List.set_cons_succ])
    refine wpAnyH_take (i := 15) (v := ?v44) rfl (by kernel_rfl) (by kernel_rfl) (by kernel_rfl) (fun _ _ _ h => h) (Or.inl ⟨by rfl, ?y44⟩) (by assumption) ?r44
    case y44 => ((intro w hSw; (try dsimp only at hSw); go_simp; (first | done | with_reducible rfl)))
    (try simp only [List.getElem_toArray, List.getElem_cons_succ, List.getElem_cons_zero, Act.put, List.setIfInBounds_toArray, List.set_cons_zero, List.set_cons_succ])
    refine wpAnyH_take (i := 16) (v := undef) rfl (by kernel_rfl) (by kernel_rfl) (by kernel_rfl) (fun _ _ _ h => h) (Or.inr ⟨by rfl, rfl⟩) (by assumption) ?_
    (try simp only [List.getElem_toArray, List.getElem_cons_succ, List.getElem_cons_zero, Act.put, List.setIfInBounds_toArray, List.set_cons_zero, List.set_cons_succ])
    refine wpAnyH_take (i := 17) (v := undef) rfl (by kernel_rfl) (by kernel_rfl) (by kernel_rfl) (fun _ _ _ h => h) (Or.inr ⟨by rfl, rfl⟩) (by assumption) ?_
    (try simp only [List.getElem_toArray, List.getElem_cons_succ, List.getElem_cons_zero, Act.put, List.setIfInBounds_toArray, List.set_cons_zero, List.set_cons_succ])
    refine wpAnyH_take (i := 18) (v := undef) rfl (by kernel_rfl) (by kernel_rfl) (by kernel_rfl) (fun _ _ _ h => h) (Or.inr ⟨by rfl, rfl⟩) (by assumption) ?_
    (try simp only [List.getElem_toArray, List.getElem_cons_succ, List.getElem_cons_zero, Act.put, List.setIfInBounds_toArray, List.set_cons_zero, List.set_cons_succ])
    refine wpAnyH_take (i := 19) (v := undef) rfl (by kernel_rfl) (by kernel_rfl) (by kernel_rfl) (fun _ _ _ h => h) (Or.inr ⟨by rfl, rfl⟩) (by assumption) ?_
    (try simp only [List.getElem_toArray, List.getElem_cons_succ, List.getElem_cons_zero, Act.put, List.setIfInBounds_toArray, List.set_cons_zero, List.set_cons_succ])
    refine wpAnyH_take (i := 20) (v := undef) rfl (by kernel_rfl) (by kernel_rfl) (by kernel_rfl) (fun _ _ _ h => h) (Or.inr ⟨by rfl, rfl⟩) (by assumption) ?_
    (try simp only [List.getElem_toArray, List.getElem_cons_succ, List.getElem_cons_zero, Act.put, List.setIfInBounds_toArray, List.set_cons_zero, List.set_cons_succ])
    refine wpAnyH_take (i := 21) (v := ?v45) rfl (by kernel_rfl) (by kernel_rfl) (by kernel_rfl) (fun _ _ _ h => h) (Or.inl ⟨by rfl, ?y45⟩) (by assumption) ?r45
    case y45 => ((intro w hSw; (try dsimp only at hSw); go_simp; (first | done | with_reducible rfl)))
    (try simp only [List.getElem_toArray, List.getElem_cons_succ, List.getElem_cons_zero, Act.put, List.setIfInBounds_toArray, List.set_cons_zero, List.set_cons_succ])
    refine wpAnyH_ready (rs := [22]) (by kernel_rfl) (by simp) ?_
    refine AllReadyH.cons rfl (fun K hK => ?_) AllReadyH.nil
    go_simp
    skip
    refine hK.out _ _ (by first | (dsimp only; simp [go_sem, *]; done) | (simp [go_sem, *])) (fun hHeld => ?_)
    clear hK K
    (try simp only [List.getElem_toArray, List.getElem_cons_succ, List.getElem_cons_zero, Act.put, List.setIfInBounds_toArray, List.set_cons_zero, List.set_cons_succ])
    refine wpAnyH_done (by kernel_rfl) ?_ _
    go_wp2
    go_ret
    exact ⟨retb HV.out.symm, (((Ext.refl _).alloc _).alloc _).trans (by first | exact hE | exact hE.drew | exact hE.drewN _)⟩

set_option maxHeartbeats 4000000 in
theorem covers_any (w : World) {A0 : Option Addr} {n : Nat} {A : Nat → Option Addr} {L C : Nat → Nat} {Z : Nat → Nat → Int} {b off : Nat} {G O : Nat → Nat} (c0 : Nat) (T : TabAt w A0 n A L C Z b off G O) {A1 : Option Addr} {n' : Nat} {A' : Nat → Option Addr} {L' C' : Nat → Nat} {Z' : Nat → Nat → Int} {b' off' : Nat} {G' O' : Nat → Nat} (c1 : Nat) (T' : TabAt w A1 n' A' L' C' Z' b' off' G' O') (hs : shapeV n L Z = 0) (hs' : shapeV n' L' Z' = 0) :
    Calls Try.prog 7 #[.agg #[.slice A0 n c0], .agg #[.slice A1 n' c1]] w fun e w' => e = .returned (.bool (coversV n n' L L' Z Z')) ∧ Ext w w' := by
  have HS := Lib.hid hs
  have HS' := Lib.hid hs'
  have TX : TabAt ((w.alloc (.cells #[.slice A0 n c0] 24)).alloc (.cells #[.slice A1 n' c1] 24)) A0 n A L C Z b off G O := T.ext (((Ext.refl _).alloc _).alloc _)
  have TY : TabAt ((w.alloc (.cells #[.slice A0 n c0] 24)).alloc (.cells #[.slice A1 n' c1] 24)) A1 n' A' L' C' Z' b' off' G' O' := T'.ext (((Ext.refl _).alloc _).alloc _)
  by_cases hq : n = n' ∧ L 0 = L' 0
  · obtain ⟨n1, n2, l1, l2, hL, hV⟩ := shape_zero hs
    obtain ⟨n1', n2', l1', l2', hL', hV'⟩ := shape_zero hs'
    have HA := Lib.hid (alike_yes hq.1 hq.2)
    obtain ⟨rfl, h2⟩ := hq
    have H2 := Lib.hid h2
    obtain ⟨rfl, hbl⟩ := T.top (by omega)
    obtain ⟨rfl, hbl'⟩ := T'.top (by omega)
    clear hs hs' h2 hV hV'
    go_enter Try.func7, Try.ntmps7
    go_wp2_with (go_at_call 20; refine (alike_any _ c0 TX c1 TY HS.out HS'.out).mono ?_; rintro e w1 ⟨rfl, hE⟩; rw [HA.out]; obtain ⟨hcell, hfr⟩ := hE.cells; have T1 := TX.ext hE; have T2 := TY.ext hE)
    go_loop [5, 6, 16] (fun _ _ i => ∃ k : Nat, k ≤ n ∧ i = .int .i64 k ∧ ∀ u v, u < k → v < L 0 → Z' u v ≤ Z u v) (fun _ _ i => n - (intOf i).toNat)
    case atStart => exact ⟨0, Nat.zero_le _, rfl, fun _ _ h => absurd h (by omega)⟩
    case round =>
      obtain ⟨k, hk, rfl, hC⟩ := hrel
      have HC := Lib.hid hC
      clear hC
      by_cases hlt : k < n
      · have hr := T1.row k hlt
        have hr' := T2.row k hlt
        obtain ⟨hA, hG⟩ := T1.got k hlt (by rw [hL k hlt]; omega)
        obtain ⟨hA', hG'⟩ := T2.got k hlt (by rw [hL' k hlt]; omega)
        rw [hA, hL k hlt] at hr
        rw [hA', hL' k hlt, ← H2.out] at hr'
        clear hA hA'
        go_wp2
        go_loop [7, 8, 23] (fun _ _ i => ∃ j : Nat, j ≤ L 0 ∧ i = .int .i64 j ∧ ∀ v, v < j → Z' k v ≤ Z k v) (fun _ _ i => L 0 - (intOf i).toNat)
        case atStart => exact ⟨0, Nat.zero_le _, rfl, fun _ h => absurd h (by omega)⟩
        case round =>
          obtain ⟨j, hj, rfl, hD⟩ := hrel
          have HD := Lib.hid hD
          clear hD
          by_cases hlt2 : j < L 0
          · have hc := T1.cell k j hlt (by rw [hL k hlt]; exact hlt2)
            have hc' := T2.cell k j hlt (by rw [hL' k hlt, ← H2.out]; exact hlt2)
            by_cases hz : Z k j < Z' k j
            · have HV := Lib.hid (@covers_no n n L L' Z Z' k j hlt hlt2 hz)
              go_wp2
              go_ret
              exact ⟨retb HV.out.symm, (((Ext.refl _).alloc _).alloc _).trans hE⟩
            · go_wp2
              go_round
              case rel =>
                refine ⟨j + 1, by omega, by go_num, fun v hv => ?_⟩
                by_cases e : v = j
                · subst e; omega
                · exact HD.out v (by omega)
              case measure => simp [intOf]; omega
          · obtain rfl : j = L 0 := by omega
            go_wp2
            go_round
            case rel =>
              refine ⟨k + 1, by omega, by go_num, fun u v hu hv => ?_⟩
              by_cases e : u = k
              · subst e; exact HD.out v hv
              · exact HC.out u v (by omega) hv
            case measure => simp [intOf]; omega
      · obtain rfl : k = n := by omega
        have HV := Lib.hid (@covers_yes k k L L' Z Z' rfl H2.out HC.out)
        go_wp2
        go_ret
        exact ⟨retb HV.out.symm, (((Ext.refl _).alloc _).alloc _).trans hE⟩
  · have HA := Lib.hid (alike_no hq)
    have HV := Lib.hid (@covers_shape n n' L L' Z Z' hq)
    clear hs hs' hq
    go_enter Try.func7, Try.ntmps7
    go_wp2_with (go_at_call 20; refine (alike_any _ c0 TX c1 TY HS.out HS'.out).mono ?_; rintro e w1 ⟨rfl, hE⟩; rw [HA.out])
    go_ret
    exact ⟨retb HV.out.symm, (((Ext.refl _).alloc _).alloc _).trans hE⟩

end Go.Proofs.Ytoemcpndmfimiaa

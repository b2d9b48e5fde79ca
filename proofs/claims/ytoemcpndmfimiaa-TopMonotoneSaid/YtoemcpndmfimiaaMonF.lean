/-
  Stops in memory; rain.Check, Lost and Left where nothing is wrong.
-/
import Derived.Test.YtoemcpndmfimiaaMonE
namespace Go.Proofs.Ytoemcpndmfimiaa
open Go.RowKit
set_option linter.unusedSimpArgs false

/-- A list of k stops in memory: stop i has the numbers f i 0 (before), f i 1 (after), f i 2 (wickets). -/
structure StopsAt (w : World) (A1 : Option Addr) (k : Nat) (b1 o1 : Nat) (f : Nat → Nat → Int) : Prop where
  top : 0 < k → A1 = some ⟨b1, o1, none⟩ ∧ b1 < w.heap.size
  cell : ∀ i j, i < k → j < 3 → w.cell? ⟨b1, o1 + i * 3 + j, none⟩ = some (.int .i64 (f i j))
theorem StopsAt.ext {w w' : World} {A1 : Option Addr} {k b1 o1 : Nat} {f : Nat → Nat → Int} (T : StopsAt w A1 k b1 o1 f) (h : Ext w w') : StopsAt w' A1 k b1 o1 f :=
  ⟨fun g => ⟨(T.top g).1, Nat.lt_of_lt_of_le (T.top g).2 h.size⟩, fun i j hi hj => h.keep (T.cell i j hi hj)⟩
/-- The stops are in order. -/
structure StopsOk (L : Nat → Nat) (balls : Int) (k : Nat) (f : Nat → Nat → Int) : Prop where
  before : ∀ i, i < k → f i 0 ≤ balls
  after : ∀ i, i < k → 0 ≤ f i 1 ∧ f i 1 ≤ f i 0
  wk : ∀ i, i < k → 0 ≤ f i 2 ∧ f i 2 ≤ (L 0 : Int)
  next : ∀ i, i + 1 < k → f (i + 1) 0 ≤ f i 1 ∧ f i 2 ≤ f (i + 1) 2
section
variable {n : Nat} {L : Nat → Nat} {Z : Nat → Nat → Int} {per balls : Int} {f : Nat → Nat → Int}
noncomputable def leftV (n : Nat) (L : Nat → Nat) (Z : Nat → Nat → Int) (per balls : Int) (f : Nat → Nat → Int) : Nat → Int
  | 0 => atV n L Z per balls 0
  | k + 1 => leftV n L Z per balls f k - (atV n L Z per (f k 0) (f k 2) - atV n L Z per (f k 1) (f k 2))
theorem left_zero : leftV n L Z per balls f 0 = atV n L Z per balls 0 := rfl
theorem left_succ {k : Nat} : leftV n L Z per balls f (k + 1) = leftV n L Z per balls f k - (atV n L Z per (f k 0) (f k 2) - atV n L Z per (f k 1) (f k 2)) := rfl
theorem left_bd : ∀ k : Nat, -(200000 * (k : Int)) ≤ leftV n L Z per balls f k ∧ leftV n L Z per balls f k ≤ 200000 * ((k : Int) + 1)
  | 0 => by have := @at_bd n L Z per balls 0; rw [left_zero]; omega
  | k + 1 => by
    have h := left_bd k
    have a := @at_bd n L Z per (f k 0) (f k 2)
    have c := @at_bd n L Z per (f k 1) (f k 2)
    rw [left_succ]; omega
end

set_option maxHeartbeats 8000000 in
theorem rainCheck_ok (w : World) {A0 : Option Addr} {n : Nat} {A : Nat → Option Addr} {L C : Nat → Nat} {Z : Nat → Nat → Int} {b off : Nat} {G O : Nat → Nat} (c0 : Nat) (per balls : Int) (T : TabAt w A0 n A L C Z b off G O) (hc : checkV n L Z = 0) (hp1 : 1 ≤ per) (hp2 : per ≤ 8) (hb1 : 1 ≤ balls) (hb2 : balls ≤ ((n : Int) - 1) * per)
    {A1 : Option Addr} {k c1 b1 o1 : Nat} {f : Nat → Nat → Int} (U : StopsAt w A1 k b1 o1 f) (hk : k ≤ 20) (hU : StopsOk L balls k f) :
    Calls Try.prog 21 #[.agg #[.slice A0 n c0], .int .i64 per, .int .i64 balls, .slice A1 k c1] w fun e w' => e = .returned (.int .i64 0) ∧ Ext w w' := by
  have hn := T.nle
  have HC := Lib.hid hc
  have hf := check_facts hc
  have n1 := hf.1
  have n2 := hf.2.1
  have l1 := hf.2.2.1
  have l2 := hf.2.2.2.1
  clear hf
  have HO := Lib.hid (@ovV_pos n (by omega))
  have HW := Lib.hid (@wkV_pos n L (by omega))
  have k1 : 0 ≤ ((n : Int) - 1) * per := Int.mul_nonneg (by omega) (by omega)
  have k2 : ((n : Int) - 1) * per ≤ 90 * 8 := Int.mul_le_mul (by omega) hp2 (by omega) (by omega)
  have TX : TabAt (w.alloc (.cells #[.slice A0 n c0] 24)) A0 n A L C Z b off G O := T.ext ((Ext.refl _).alloc _)
  have UX : StopsAt (w.alloc (.cells #[.slice A0 n c0] 24)) A1 k b1 o1 f := U.ext ((Ext.refl _).alloc _)
  have hE : Ext (w.alloc (.cells #[.slice A0 n c0] 24)) (w.alloc (.cells #[.slice A0 n c0] 24)) := Ext.refl _
  obtain ⟨hcell, hfr⟩ := hE.cells
  clear hc
  go_enter Try.func21, Try.ntmps21
  go_wp2_with (first | (go_at_call 6; refine (check_any _ c0 (TX.ext (by first | exact hE | exact hE.drew | exact hE.drewN _))).mono ?_; rintro e w' ⟨rfl, hb⟩; (first | (replace hE := hE.trans hb) | (replace hE := hE.drew.trans hb) | (replace hE := (hE.drewN _).trans hb)); clear hb hcell hfr; obtain ⟨hcell, hfr⟩ := hE.cells; rw [HC.out]) | (go_at_call 8; refine (overs_any _ _ n c0 hn).mono ?_; rintro e w' ⟨rfl, hb⟩; (first | (replace hE := hE.trans hb) | (replace hE := hE.drew.trans hb) | (replace hE := (hE.drewN _).trans hb)); clear hb hcell hfr; obtain ⟨hcell, hfr⟩ := hE.cells; rw [HO.out]))
  obtain ⟨ws, hws⟩ : ∃ ws : World, ws = w' := ⟨_, rfl⟩
  go_loopw [10, 11, 40] (fun _ _ i wr => ∃ j : Nat, j ≤ k ∧ i = .int .i64 j ∧ Ext (w.alloc (.cells #[.slice A0 n c0] 24)) wr) (fun _ _ i _ => k - (intOf i).toNat)
  case atStart => exact ⟨0, by omega, rfl, hE⟩
  case round =>
    obtain ⟨i, hi, rfl, hX⟩ := hrel
    have h0 : wr.cell? ⟨w.heap.size, 0, none⟩ = some (.slice A0 n c0) := hX.keep (by simp [go_sem])
    have hlw := cell_lt h0
    by_cases hlt : i < k
    · have UY := UX.ext hX
      obtain ⟨rfl, hbl⟩ := UY.top (by omega)
      have c0' : wr.cell? ⟨b1, o1 + i * 3, none⟩ = some (.int .i64 (f i 0)) := UY.cell i 0 hlt (by omega)
      have c1' : wr.cell? ⟨b1, o1 + i * 3 + 1, none⟩ = some (.int .i64 (f i 1)) := UY.cell i 1 hlt (by omega)
      have c2' : wr.cell? ⟨b1, o1 + i * 3 + 2, none⟩ = some (.int .i64 (f i 2)) := UY.cell i 2 hlt (by omega)
      have g0 := hU.before i hlt
      obtain ⟨g1, g2⟩ := hU.after i hlt
      obtain ⟨g3, g4⟩ := hU.wk i hlt
      have d0 : decide (balls < f i 0) = false := decide_eq_false (by omega)
      have d1 : decide (f i 1 < 0) = false := decide_eq_false (by omega)
      have d2 : decide (f i 2 < 0) = false := decide_eq_false (by omega)
      have d3 : decide ((L 0 : Int) < f i 2) = false := decide_eq_false (by omega)
      have UZ := Lib.hid UY
      clear UY
      rcases Nat.eq_zero_or_pos i with hi0 | hi0
      · subst hi0
        simp only [Nat.zero_mul, Nat.add_zero] at c0' c1' c2'
        replace hX := hX.alloc (.cells #[.int .i64 (f 0 0), .int .i64 (f 0 1), .int .i64 (f 0 2)] 37)
        go_wp2
        refine wp_region_held_drew (S := (fun w' => w'.cell? ⟨w.heap.size, 0, none⟩ = some (.slice A0 n c0) ∧ w'.cell? ⟨wr.heap.size, 0, none⟩ = some (.int .i64 (f 0 0)) ∧ w'.cell? ⟨wr.heap.size, 1, none⟩ = some (.int .i64 (f 0 1)) ∧ w'.cell? ⟨wr.heap.size, 2, none⟩ = some (.int .i64 (f 0 2)))) (by kernel_rfl) (by simp [go_sem, *]) (fun hHeld => ?_)
        refine wpAnyH_take (i := 0) (v := ?v1) rfl (by kernel_rfl) (by kernel_rfl) (by kernel_rfl) (fun _ _ _ h => h) (Or.inl ⟨by rfl, ?y1⟩) (by assumption) ?r1
        case y1 => ((intro w hSw; (try dsimp only at hSw); go_simp; (first | done | with_reducible rfl)))
        (try simp only [List.getElem_toArray, List.getElem_cons_succ, List.getElem_cons_zero, Act.put, List.setIfInBounds_toArray, List.set_cons_zero, List.set_cons_succ])
        refine wpAnyH_take (i := 1) (v := ?v2) rfl (by kernel_rfl) (by kernel_rfl) (by kernel_rfl) (fun _ _ _ h => h) (Or.inl ⟨by rfl, ?y2⟩) (by assumption) ?r2
        case y2 => ((intro w hSw; (try dsimp only at hSw); go_simp; (first | done | with_reducible rfl)))
        (try simp only [List.getElem_toArray, List.getElem_cons_succ, List.getElem_cons_zero, Act.put, List.setIfInBounds_toArray, List.set_cons_zero, List.set_cons_succ])
        refine wpAnyH_take (i := 2) (v := ?v3) rfl (by kernel_rfl) (by kernel_rfl) (by kernel_rfl) (fun _ _ _ h => h) (Or.inl ⟨by rfl, ?y3⟩) (by assumption) ?r3
        case y3 => ((intro w hSw; (try dsimp only at hSw); go_simp; (first | done | with_reducible rfl)))
        (try simp only [List.getElem_toArray, List.getElem_cons_succ, List.getElem_cons_zero, Act.put, List.setIfInBounds_toArray, List.set_cons_zero, List.set_cons_succ])
        refine wpAnyH_take (i := 3) (v := ?v4) rfl (by kernel_rfl) (by kernel_rfl) (by kernel_rfl) (fun _ _ _ h => h) (Or.inl ⟨by rfl, ?y4⟩) (by assumption) ?r4
        case y4 => ((intro w hSw; (try dsimp only at hSw); go_simp; (first | done | with_reducible rfl)))
        (try simp only [List.getElem_toArray, List.getElem_cons_succ, List.getElem_cons_zero, Act.put, List.setIfInBounds_toArray, List.set_cons_zero, List.set_cons_succ])
        refine wpAnyH_take (i := 4) (v := ?v5) rfl (by kernel_rfl) (by kernel_rfl) (by kernel_rfl) (fun _ _ _ h => h) (Or.inl ⟨by rfl, ?y5⟩) (by assumption) ?r5
        case y5 => ((intro w hSw; (try dsimp only at hSw); go_simp; (first | done | with_reducible rfl)))
        (try simp only [List.getElem_toArray, List.getElem_cons_succ, List.getElem_cons_zero, Act.put, List.setIfInBounds_toArray, List.set_cons_zero, List.set_cons_succ])
        refine wpAnyH_take (i := 5) (v := ?v6) rfl (by kernel_rfl) (by kernel_rfl) (by kernel_rfl) (fun _ _ _ h => h) (Or.inl ⟨by rfl, ?y6⟩) (by assumption) ?r6
        case y6 => ((intro w hSw; (try dsimp only at hSw); go_simp; (first | done | with_reducible rfl)))
        (try simp only [List.getElem_toArray, List.getElem_cons_succ, List.getElem_cons_zero, Act.put, List.setIfInBounds_toArray, List.set_cons_zero, List.set_cons_succ])
        refine wpAnyH_take (i := 6) (v := ?v7) rfl (by kernel_rfl) (by kernel_rfl) (by kernel_rfl) (fun _ _ _ h => h) (Or.inl ⟨by rfl, ?y7⟩) (by assumption) ?r7
        case y7 => ((intro w hSw; (try dsimp only at hSw); go_simp; (first | done | with_reducible rfl)))
        (try simp only [List.getElem_toArray, List.getElem_cons_succ, List.getElem_cons_zero, Act.put, List.setIfInBounds_toArray, List.set_cons_zero, List.set_cons_succ])
        refine wpAnyH_take (i := 7) (v := ?v8) rfl (by kernel_rfl) (by kernel_rfl) (by kernel_rfl) (fun _ _ _ h => h) (Or.inl ⟨by rfl, ?y8⟩) (by assumption) ?r8
        case y8 => ((intro w hSw; (try dsimp only at hSw); go_simp; (first | done | with_reducible rfl)))
        (try simp only [List.getElem_toArray, List.getElem_cons_succ, List.getElem_cons_zero, Act.put, List.setIfInBounds_toArray, List.set_cons_zero, List.set_cons_succ])
        refine wpAnyH_take (i := 8) (v := ?v9) rfl (by kernel_rfl) (by kernel_rfl) (by kernel_rfl) (fun _ _ _ h => h) (Or.inl ⟨by rfl, ?y9⟩) (by assumption) ?r9
        case y9 => ((intro w hSw; (try dsimp only at hSw); go_simp; (first | done | with_reducible rfl)))
        (try simp only [List.getElem_toArray, List.getElem_cons_succ, List.getElem_cons_zero, Act.put, List.setIfInBounds_toArray, List.set_cons_zero, List.set_cons_succ])
        refine wpAnyH_take (i := 9) (v := ?v10) rfl (by kernel_rfl) (by kernel_rfl) (by kernel_rfl) (fun _ _ _ h => h) (Or.inl ⟨by rfl, ?y10⟩) (by assumption) ?r10
        case y10 => ((intro w hSw; (try dsimp only at hSw); go_simp; (first | done | with_reducible rfl)))
        (try simp only [List.getElem_toArray, List.getElem_cons_succ, List.getElem_cons_zero, Act.put, List.setIfInBounds_toArray, List.set_cons_zero, List.set_cons_succ])
        refine wpAnyH_take (i := 10) (v := ?v11) rfl (by kernel_rfl) (by kernel_rfl) (by kernel_rfl) (fun _ _ _ h => h) (Or.inl ⟨by rfl, ?y11⟩) (by assumption) ?r11
        case y11 => ((intro w hSw; (try dsimp only at hSw); go_simp; (first | done | with_reducible rfl)))
        (try simp only [List.getElem_toArray, List.getElem_cons_succ, List.getElem_cons_zero, Act.put, List.setIfInBounds_toArray, List.set_cons_zero, List.set_cons_succ])
        refine wpAnyH_take (i := 11) (v := ?v12) rfl (by kernel_rfl) (by kernel_rfl) (by kernel_rfl) (fun _ _ _ h => h) (Or.inl ⟨by rfl, ?y12⟩) (by assumption) ?r12
        case y12 => ((intro w hSw; (try dsimp only at hSw); go_simp; (first | done | with_reducible rfl)))
        (try simp only [List.getElem_toArray, List.getElem_cons_succ, List.getElem_cons_zero, Act.put, List.setIfInBounds_toArray, List.set_cons_zero, List.set_cons_succ])
        refine wpAnyH_take (i := 12) (v := ?v13) rfl (by kernel_rfl) (by kernel_rfl) (by kernel_rfl) (fun _ _ _ h => h) (Or.inl ⟨by rfl, ?y13⟩) (by assumption) ?r13
        case y13 => ((intro w hSw; (try dsimp only at hSw); go_simp; (first | done | with_reducible rfl)))
        (try simp only [List.getElem_toArray, List.getElem_cons_succ, List.getElem_cons_zero, Act.put, List.setIfInBounds_toArray, List.set_cons_zero, List.set_cons_succ])
        refine wpAnyH_take (i := 13) (v := ?v14) rfl (by kernel_rfl) (by kernel_rfl) (by kernel_rfl) (fun _ _ _ h => h) (Or.inl ⟨by rfl, ?y14⟩) (by assumption) ?r14
        case y14 => ((intro w hSw; (try dsimp only at hSw); go_simp; (first | done | with_reducible rfl)))
        (try simp only [List.getElem_toArray, List.getElem_cons_succ, List.getElem_cons_zero, Act.put, List.setIfInBounds_toArray, List.set_cons_zero, List.set_cons_succ])
        refine wpAnyH_take (i := 14) (v := ?v15) rfl (by kernel_rfl) (by kernel_rfl) (by kernel_rfl) (fun _ _ _ h => h) (Or.inl ⟨by rfl, ?y15⟩) (by assumption) ?r15
        case y15 => ((intro w hSw; (try dsimp only at hSw); go_simp; (first | done | with_reducible rfl)))
        (try simp only [List.getElem_toArray, List.getElem_cons_succ, List.getElem_cons_zero, Act.put, List.setIfInBounds_toArray, List.set_cons_zero, List.set_cons_succ])
        refine wpAnyH_take (i := 15) (v := ?v16) rfl (by kernel_rfl) (by kernel_rfl) (by kernel_rfl) (fun _ _ _ h => h) (Or.inl ⟨by rfl, ?y16⟩) (by assumption) ?r16
        case y16 => ((intro w hSw; (try dsimp only at hSw); go_simp; (first | done | with_reducible rfl)))
        (try simp only [List.getElem_toArray, List.getElem_cons_succ, List.getElem_cons_zero, Act.put, List.setIfInBounds_toArray, List.set_cons_zero, List.set_cons_succ])
        refine wpAnyH_take (i := 16) (v := ?v17) rfl (by kernel_rfl) (by kernel_rfl) (by kernel_rfl) (fun _ _ _ h => h) (Or.inl ⟨by rfl, ?y17⟩) (by assumption) ?r17
        case y17 => ((intro w hSw; (try dsimp only at hSw); go_simp; (first | done | with_reducible rfl)))
        (try simp only [List.getElem_toArray, List.getElem_cons_succ, List.getElem_cons_zero, Act.put, List.setIfInBounds_toArray, List.set_cons_zero, List.set_cons_succ])
        refine wpAnyH_take (i := 17) (v := ?v18) rfl (by kernel_rfl) (by kernel_rfl) (by kernel_rfl) (fun _ _ _ h => h) (Or.inl ⟨by rfl, ?y18⟩) (by assumption) ?r18
        case y18 => ((intro w hSw; (try dsimp only at hSw); go_simp; (first | done | with_reducible rfl)))
        (try simp only [List.getElem_toArray, List.getElem_cons_succ, List.getElem_cons_zero, Act.put, List.setIfInBounds_toArray, List.set_cons_zero, List.set_cons_succ])
        refine wpAnyH_ready (rs := [18]) (by kernel_rfl) (by simp) ?_
        refine AllReadyH.cons rfl (fun K hK => ?_) AllReadyH.nil
        go_simp
        (go_at_call 10; refine (wkts_any _ c0 (TX.ext (hX.drew))).mono ?_; rintro e w2 ⟨rfl, hb⟩; have hX2 := hX.drew.trans hb; rw [HW.out]; have e0 : w2.cell? ⟨w.heap.size, 0, none⟩ = some (.slice A0 n c0) := hX2.keep (by simp [go_sem]); have e1 : w2.cell? ⟨wr.heap.size, 0, none⟩ = some (.int .i64 (f 0 0)) := hb.keep (by simp [go_sem]); have e2 : w2.cell? ⟨wr.heap.size, 1, none⟩ = some (.int .i64 (f 0 1)) := hb.keep (by simp [go_sem]); have e3 : w2.cell? ⟨wr.heap.size, 2, none⟩ = some (.int .i64 (f 0 2)) := hb.keep (by simp [go_sem]))
        refine hK.out _ _ (by first | (dsimp only; simp [go_sem, *]; done) | (simp [go_sem, *])) (fun hHeld => ?_)
        clear hK K
        (try simp only [List.getElem_toArray, List.getElem_cons_succ, List.getElem_cons_zero, Act.put, List.setIfInBounds_toArray, List.set_cons_zero, List.set_cons_succ])
        refine wpAnyH_take (i := 19) (v := ?v19) rfl (by kernel_rfl) (by kernel_rfl) (by kernel_rfl) (fun _ _ _ h => h) (Or.inl ⟨by rfl, ?y19⟩) (by assumption) ?r19
        case y19 => ((intro w hSw; (try dsimp only at hSw); go_simp; (first | done | with_reducible rfl)))
        (try simp only [List.getElem_toArray, List.getElem_cons_succ, List.getElem_cons_zero, Act.put, List.setIfInBounds_toArray, List.set_cons_zero, List.set_cons_succ])
        refine wpAnyH_take (i := 20) (v := ?v20) rfl (by kernel_rfl) (by kernel_rfl) (by kernel_rfl) (fun _ _ _ h => h) (Or.inl ⟨by rfl, ?y20⟩) (by assumption) ?r20
        case y20 => ((intro w hSw; (try dsimp only at hSw); go_simp; (first | done | with_reducible rfl)))
        (try simp only [List.getElem_toArray, List.getElem_cons_succ, List.getElem_cons_zero, Act.put, List.setIfInBounds_toArray, List.set_cons_zero, List.set_cons_succ])
        refine wpAnyH_ready (rs := [21]) (by kernel_rfl) (by simp) ?_
        refine AllReadyH.cons rfl (fun K hK => ?_) AllReadyH.nil
        go_simp
        skip
        refine hK.out _ _ (by first | (dsimp only; simp [go_sem, *]; done) | (simp [go_sem, *])) (fun hHeld => ?_)
        clear hK K
        (try simp only [List.getElem_toArray, List.getElem_cons_succ, List.getElem_cons_zero, Act.put, List.setIfInBounds_toArray, List.set_cons_zero, List.set_cons_succ])
        refine wpAnyH_done (by kernel_rfl) ?_ _
        go_wp2
        go_quiet (fail)
        go_wp2
        go_roundw
        case rel => exact ⟨0 + 1, by omega, by go_num, by repeat (first | exact hX2 | refine Ext.drew ?_ | refine Ext.drewN ?_ _)⟩
        case measure => simp [intOf]; omega
      · obtain ⟨j, rfl⟩ : ∃ j, i = j + 1 := ⟨i - 1, by omega⟩
        have p1 : wr.cell? ⟨b1, o1 + j * 3 + 1, none⟩ = some (.int .i64 (f j 1)) := UZ.out.cell j 1 (by omega) (by omega)
        have p2 : wr.cell? ⟨b1, o1 + j * 3 + 2, none⟩ = some (.int .i64 (f j 2)) := UZ.out.cell j 2 (by omega) (by omega)
        obtain ⟨g5, g6⟩ := hU.next j hlt
        have d4 : decide (f j 1 < f (j + 1) 0) = false := decide_eq_false (by omega)
        have d5 : decide (f (j + 1) 2 < f j 2) = false := decide_eq_false (by omega)
        have j1 : (0 : Int) < (j : Int) + 1 := by omega
        have j2 : (0 : Int) ≤ (j : Int) := by omega
        have j3 : (j : Int) < (k : Int) := by omega
        have j4 : ((j + 1 : Nat) : Int) - 1 = (j : Int) := by omega
        replace hX := hX.alloc (.cells #[.int .i64 (f (j + 1) 0), .int .i64 (f (j + 1) 1), .int .i64 (f (j + 1) 2)] 37)
        go_wp2
        refine wp_region_held_drew (S := (fun w' => w'.cell? ⟨w.heap.size, 0, none⟩ = some (.slice A0 n c0) ∧ w'.cell? ⟨wr.heap.size, 0, none⟩ = some (.int .i64 (f (j + 1) 0)) ∧ w'.cell? ⟨wr.heap.size, 1, none⟩ = some (.int .i64 (f (j + 1) 1)) ∧ w'.cell? ⟨wr.heap.size, 2, none⟩ = some (.int .i64 (f (j + 1) 2)))) (by kernel_rfl) (by simp [go_sem, *]) (fun hHeld => ?_)
        refine wpAnyH_take (i := 0) (v := ?v21) rfl (by kernel_rfl) (by kernel_rfl) (by kernel_rfl) (fun _ _ _ h => h) (Or.inl ⟨by rfl, ?y21⟩) (by assumption) ?r21
        case y21 => ((intro w hSw; (try dsimp only at hSw); go_simp; (first | done | with_reducible rfl)))
        (try simp only [List.getElem_toArray, List.getElem_cons_succ, List.getElem_cons_zero, Act.put, List.setIfInBounds_toArray, List.set_cons_zero, List.set_cons_succ])
        refine wpAnyH_take (i := 1) (v := ?v22) rfl (by kernel_rfl) (by kernel_rfl) (by kernel_rfl) (fun _ _ _ h => h) (Or.inl ⟨by rfl, ?y22⟩) (by assumption) ?r22
        case y22 => ((intro w hSw; (try dsimp only at hSw); go_simp; (first | done | with_reducible rfl)))
        (try simp only [List.getElem_toArray, List.getElem_cons_succ, List.getElem_cons_zero, Act.put, List.setIfInBounds_toArray, List.set_cons_zero, List.set_cons_succ])
        refine wpAnyH_take (i := 2) (v := ?v23) rfl (by kernel_rfl) (by kernel_rfl) (by kernel_rfl) (fun _ _ _ h => h) (Or.inl ⟨by rfl, ?y23⟩) (by assumption) ?r23
        case y23 => ((intro w hSw; (try dsimp only at hSw); go_simp; (first | done | with_reducible rfl)))
        (try simp only [List.getElem_toArray, List.getElem_cons_succ, List.getElem_cons_zero, Act.put, List.setIfInBounds_toArray, List.set_cons_zero, List.set_cons_succ])
        refine wpAnyH_take (i := 3) (v := ?v24) rfl (by kernel_rfl) (by kernel_rfl) (by kernel_rfl) (fun _ _ _ h => h) (Or.inl ⟨by rfl, ?y24⟩) (by assumption) ?r24
        case y24 => ((intro w hSw; (try dsimp only at hSw); go_simp; (first | done | with_reducible rfl)))
        (try simp only [List.getElem_toArray, List.getElem_cons_succ, List.getElem_cons_zero, Act.put, List.setIfInBounds_toArray, List.set_cons_zero, List.set_cons_succ])
        refine wpAnyH_take (i := 4) (v := ?v25) rfl (by kernel_rfl) (by kernel_rfl) (by kernel_rfl) (fun _ _ _ h => h) (Or.inl ⟨by rfl, ?y25⟩) (by assumption) ?r25
        case y25 => ((intro w hSw; (try dsimp only at hSw); go_simp; (first | done | with_reducible rfl)))
        (try simp only [List.getElem_toArray, List.getElem_cons_succ, List.getElem_cons_zero, Act.put, List.setIfInBounds_toArray, List.set_cons_zero, List.set_cons_succ])
        refine wpAnyH_take (i := 5) (v := ?v26) rfl (by kernel_rfl) (by kernel_rfl) (by kernel_rfl) (fun _ _ _ h => h) (Or.inl ⟨by rfl, ?y26⟩) (by assumption) ?r26
        case y26 => ((intro w hSw; (try dsimp only at hSw); go_simp; (first | done | with_reducible rfl)))
        (try simp only [List.getElem_toArray, List.getElem_cons_succ, List.getElem_cons_zero, Act.put, List.setIfInBounds_toArray, List.set_cons_zero, List.set_cons_succ])
        refine wpAnyH_take (i := 6) (v := ?v27) rfl (by kernel_rfl) (by kernel_rfl) (by kernel_rfl) (fun _ _ _ h => h) (Or.inl ⟨by rfl, ?y27⟩) (by assumption) ?r27
        case y27 => ((intro w hSw; (try dsimp only at hSw); go_simp; (first | done | with_reducible rfl)))
        (try simp only [List.getElem_toArray, List.getElem_cons_succ, List.getElem_cons_zero, Act.put, List.setIfInBounds_toArray, List.set_cons_zero, List.set_cons_succ])
        refine wpAnyH_take (i := 7) (v := ?v28) rfl (by kernel_rfl) (by kernel_rfl) (by kernel_rfl) (fun _ _ _ h => h) (Or.inl ⟨by rfl, ?y28⟩) (by assumption) ?r28
        case y28 => ((intro w hSw; (try dsimp only at hSw); go_simp; (first | done | with_reducible rfl)))
        (try simp only [List.getElem_toArray, List.getElem_cons_succ, List.getElem_cons_zero, Act.put, List.setIfInBounds_toArray, List.set_cons_zero, List.set_cons_succ])
        refine wpAnyH_take (i := 8) (v := ?v29) rfl (by kernel_rfl) (by kernel_rfl) (by kernel_rfl) (fun _ _ _ h => h) (Or.inl ⟨by rfl, ?y29⟩) (by assumption) ?r29
        case y29 => ((intro w hSw; (try dsimp only at hSw); go_simp; (first | done | with_reducible rfl)))
        (try simp only [List.getElem_toArray, List.getElem_cons_succ, List.getElem_cons_zero, Act.put, List.setIfInBounds_toArray, List.set_cons_zero, List.set_cons_succ])
        refine wpAnyH_take (i := 9) (v := ?v30) rfl (by kernel_rfl) (by kernel_rfl) (by kernel_rfl) (fun _ _ _ h => h) (Or.inl ⟨by rfl, ?y30⟩) (by assumption) ?r30
        case y30 => ((intro w hSw; (try dsimp only at hSw); go_simp; (first | done | with_reducible rfl)))
        (try simp only [List.getElem_toArray, List.getElem_cons_succ, List.getElem_cons_zero, Act.put, List.setIfInBounds_toArray, List.set_cons_zero, List.set_cons_succ])
        refine wpAnyH_take (i := 10) (v := ?v31) rfl (by kernel_rfl) (by kernel_rfl) (by kernel_rfl) (fun _ _ _ h => h) (Or.inl ⟨by rfl, ?y31⟩) (by assumption) ?r31
        case y31 => ((intro w hSw; (try dsimp only at hSw); go_simp; (first | done | with_reducible rfl)))
        (try simp only [List.getElem_toArray, List.getElem_cons_succ, List.getElem_cons_zero, Act.put, List.setIfInBounds_toArray, List.set_cons_zero, List.set_cons_succ])
        refine wpAnyH_take (i := 11) (v := ?v32) rfl (by kernel_rfl) (by kernel_rfl) (by kernel_rfl) (fun _ _ _ h => h) (Or.inl ⟨by rfl, ?y32⟩) (by assumption) ?r32
        case y32 => ((intro w hSw; (try dsimp only at hSw); go_simp; (first | done | with_reducible rfl)))
        (try simp only [List.getElem_toArray, List.getElem_cons_succ, List.getElem_cons_zero, Act.put, List.setIfInBounds_toArray, List.set_cons_zero, List.set_cons_succ])
        refine wpAnyH_take (i := 12) (v := ?v33) rfl (by kernel_rfl) (by kernel_rfl) (by kernel_rfl) (fun _ _ _ h => h) (Or.inl ⟨by rfl, ?y33⟩) (by assumption) ?r33
        case y33 => ((intro w hSw; (try dsimp only at hSw); go_simp; (first | done | with_reducible rfl)))
        (try simp only [List.getElem_toArray, List.getElem_cons_succ, List.getElem_cons_zero, Act.put, List.setIfInBounds_toArray, List.set_cons_zero, List.set_cons_succ])
        refine wpAnyH_take (i := 13) (v := ?v34) rfl (by kernel_rfl) (by kernel_rfl) (by kernel_rfl) (fun _ _ _ h => h) (Or.inl ⟨by rfl, ?y34⟩) (by assumption) ?r34
        case y34 => ((intro w hSw; (try dsimp only at hSw); go_simp; (first | done | with_reducible rfl)))
        (try simp only [List.getElem_toArray, List.getElem_cons_succ, List.getElem_cons_zero, Act.put, List.setIfInBounds_toArray, List.set_cons_zero, List.set_cons_succ])
        refine wpAnyH_take (i := 14) (v := ?v35) rfl (by kernel_rfl) (by kernel_rfl) (by kernel_rfl) (fun _ _ _ h => h) (Or.inl ⟨by rfl, ?y35⟩) (by assumption) ?r35
        case y35 => ((intro w hSw; (try dsimp only at hSw); go_simp; (first | done | with_reducible rfl)))
        (try simp only [List.getElem_toArray, List.getElem_cons_succ, List.getElem_cons_zero, Act.put, List.setIfInBounds_toArray, List.set_cons_zero, List.set_cons_succ])
        refine wpAnyH_take (i := 15) (v := ?v36) rfl (by kernel_rfl) (by kernel_rfl) (by kernel_rfl) (fun _ _ _ h => h) (Or.inl ⟨by rfl, ?y36⟩) (by assumption) ?r36
        case y36 => ((intro w hSw; (try dsimp only at hSw); go_simp; (first | done | with_reducible rfl)))
        (try simp only [List.getElem_toArray, List.getElem_cons_succ, List.getElem_cons_zero, Act.put, List.setIfInBounds_toArray, List.set_cons_zero, List.set_cons_succ])
        refine wpAnyH_take (i := 16) (v := ?v37) rfl (by kernel_rfl) (by kernel_rfl) (by kernel_rfl) (fun _ _ _ h => h) (Or.inl ⟨by rfl, ?y37⟩) (by assumption) ?r37
        case y37 => ((intro w hSw; (try dsimp only at hSw); go_simp; (first | done | with_reducible rfl)))
        (try simp only [List.getElem_toArray, List.getElem_cons_succ, List.getElem_cons_zero, Act.put, List.setIfInBounds_toArray, List.set_cons_zero, List.set_cons_succ])
        refine wpAnyH_take (i := 17) (v := ?v38) rfl (by kernel_rfl) (by kernel_rfl) (by kernel_rfl) (fun _ _ _ h => h) (Or.inl ⟨by rfl, ?y38⟩) (by assumption) ?r38
        case y38 => ((intro w hSw; (try dsimp only at hSw); go_simp; (first | done | with_reducible rfl)))
        (try simp only [List.getElem_toArray, List.getElem_cons_succ, List.getElem_cons_zero, Act.put, List.setIfInBounds_toArray, List.set_cons_zero, List.set_cons_succ])
        refine wpAnyH_ready (rs := [18]) (by kernel_rfl) (by simp) ?_
        refine AllReadyH.cons rfl (fun K hK => ?_) AllReadyH.nil
        go_simp
        (go_at_call 10; refine (wkts_any _ c0 (TX.ext (hX.drew))).mono ?_; rintro e w2 ⟨rfl, hb⟩; have hX2 := hX.drew.trans hb; rw [HW.out]; have e0 : w2.cell? ⟨w.heap.size, 0, none⟩ = some (.slice A0 n c0) := hX2.keep (by simp [go_sem]); have e1 : w2.cell? ⟨wr.heap.size, 0, none⟩ = some (.int .i64 (f (j + 1) 0)) := hb.keep (by simp [go_sem]); have e2 : w2.cell? ⟨wr.heap.size, 1, none⟩ = some (.int .i64 (f (j + 1) 1)) := hb.keep (by simp [go_sem]); have e3 : w2.cell? ⟨wr.heap.size, 2, none⟩ = some (.int .i64 (f (j + 1) 2)) := hb.keep (by simp [go_sem]); have e4 : w2.cell? ⟨b1, o1 + j * 3 + 1, none⟩ = some (.int .i64 (f j 1)) := hb.keep (by simp [go_sem, *]); have e5 : w2.cell? ⟨b1, o1 + j * 3 + 2, none⟩ = some (.int .i64 (f j 2)) := hb.keep (by simp [go_sem, *]))
        refine hK.out _ _ (by first | (dsimp only; simp [go_sem, *]; done) | (simp [go_sem, *])) (fun hHeld => ?_)
        clear hK K
        (try simp only [List.getElem_toArray, List.getElem_cons_succ, List.getElem_cons_zero, Act.put, List.setIfInBounds_toArray, List.set_cons_zero, List.set_cons_succ])
        refine wpAnyH_take (i := 19) (v := ?v39) rfl (by kernel_rfl) (by kernel_rfl) (by kernel_rfl) (fun _ _ _ h => h) (Or.inl ⟨by rfl, ?y39⟩) (by assumption) ?r39
        case y39 => ((intro w hSw; (try dsimp only at hSw); go_simp; (first | done | with_reducible rfl)))
        (try simp only [List.getElem_toArray, List.getElem_cons_succ, List.getElem_cons_zero, Act.put, List.setIfInBounds_toArray, List.set_cons_zero, List.set_cons_succ])
        refine wpAnyH_take (i := 20) (v := ?v40) rfl (by kernel_rfl) (by kernel_rfl) (by kernel_rfl) (fun _ _ _ h => h) (Or.inl ⟨by rfl, ?y40⟩) (by assumption) ?r40
        case y40 => ((intro w hSw; (try dsimp only at hSw); go_simp; (first | done | with_reducible rfl)))
        (try simp only [List.getElem_toArray, List.getElem_cons_succ, List.getElem_cons_zero, Act.put, List.setIfInBounds_toArray, List.set_cons_zero, List.set_cons_succ])
        refine wpAnyH_ready (rs := [21]) (by kernel_rfl) (by simp) ?_
        refine AllReadyH.cons rfl (fun K hK => ?_) AllReadyH.nil
        go_simp
        skip
        refine hK.out _ _ (by first | (dsimp only; simp [go_sem, *]; done) | (simp [go_sem, *])) (fun hHeld => ?_)
        clear hK K
        (try simp only [List.getElem_toArray, List.getElem_cons_succ, List.getElem_cons_zero, Act.put, List.setIfInBounds_toArray, List.set_cons_zero, List.set_cons_succ])
        refine wpAnyH_done (by kernel_rfl) ?_ _
        go_wp2
        go_quiet (fail)
        go_wp2
        go_roundw
        case rel => exact ⟨j + 1 + 1, by omega, by go_num, by repeat (first | exact hX2 | refine Ext.drew ?_ | refine Ext.drewN ?_ _)⟩
        case measure => simp [intOf]; omega
    · obtain rfl : i = k := by omega
      go_wp2
      go_ret
      exact ⟨rfl, ((Ext.refl _).alloc _).trans hX⟩

end Go.Proofs.Ytoemcpndmfimiaa

/-
  The law TopMonotone, walked: the ways out ahead of the repaired tables.
-/
import Derived.Test.YtoemcpndmfimiaaMonI
namespace Go.Proofs.Ytoemcpndmfimiaa
open Go.RowKit
set_option linter.unusedSimpArgs false

set_option maxRecDepth 20000 in
set_option maxHeartbeats 4000000 in
theorem mono_small (w : World) {A0 : Option Addr} {n : Nat} {A : Nat → Option Addr} {L C : Nat → Nat} {R : Nat → Nat → Int} {b off : Nat} {G O : Nat → Nat} (c0 : Nat) (T : TabAt w A0 n A L C R b off G O) {A1 : Option Addr} {n' : Nat} {A' : Nat → Option Addr} {L' C' : Nat → Nat} {R' : Nat → Nat → Int} {b' off' : Nat} {G' O' : Nat → Nat} (c1 : Nat) (T' : TabAt w A1 n' A' L' C' R' b' off' G' O') (x0 x1 x2 x3 : Int) (h : 8 < n ∨ 8 < n' ∨ (0 < n ∧ 6 < L 0)) :
    Calls Try.prog 3 #[.agg #[.slice A0 n c0], .agg #[.slice A1 n' c1], .agg #[.int .i64 x0, .int .i64 x1, .int .i64 x2, .int .i64 x3]] w fun e w' => e = .returned (.bool true) ∧ Ext w w' := by
  have hn := T.nle
  have hn' := T'.nle
  have h' : 8 < n ∨ (n ≤ 8 ∧ 8 < n') ∨ (n ≤ 8 ∧ n' ≤ 8 ∧ 0 < n ∧ 6 < L 0) := by omega
  clear h
  rcases h' with h | ⟨h1, h2⟩ | ⟨h1, h2, h3, h4⟩
  · go_enter Try.func3, Try.ntmps3
    go_wp2_with ((fail_if_success (have hzz := hb1)); go_at_call 4; refine (rainAwake_any _).mono ?_; rintro e w1 ⟨rfl, hb1⟩; have TX := T.ext (((((Ext.refl _).alloc _).alloc _).alloc _).trans hb1); have TY := T'.ext (((((Ext.refl _).alloc _).alloc _).alloc _).trans hb1); have hX1 : Ext w w1 := ((((Ext.refl _).alloc _).alloc _).alloc _).trans hb1; have a3_1 : w1.cell? ⟨w.heap.size, 0, none⟩ = some (.slice A0 n c0) := hb1.keep (by simp [go_sem]); have a4_1 : w1.cell? ⟨w.heap.size + 1, 0, none⟩ = some (.slice A1 n' c1) := hb1.keep (by simp [go_sem]); have ax0_1 : w1.cell? ⟨w.heap.size + 2, 0, none⟩ = some (.int .i64 x0) := hb1.keep (by simp [go_sem]); have ax1_1 : w1.cell? ⟨w.heap.size + 2, 1, none⟩ = some (.int .i64 x1) := hb1.keep (by simp [go_sem]); have ax2_1 : w1.cell? ⟨w.heap.size + 2, 2, none⟩ = some (.int .i64 x2) := hb1.keep (by simp [go_sem]); have ax3_1 : w1.cell? ⟨w.heap.size + 2, 3, none⟩ = some (.int .i64 x3) := hb1.keep (by simp [go_sem]))
    go_ret
    exact ⟨rfl, hX1⟩
  · go_enter Try.func3, Try.ntmps3
    go_wp2_with ((fail_if_success (have hzz := hb1)); go_at_call 4; refine (rainAwake_any _).mono ?_; rintro e w1 ⟨rfl, hb1⟩; have TX := T.ext (((((Ext.refl _).alloc _).alloc _).alloc _).trans hb1); have TY := T'.ext (((((Ext.refl _).alloc _).alloc _).alloc _).trans hb1); have hX1 : Ext w w1 := ((((Ext.refl _).alloc _).alloc _).alloc _).trans hb1; have a3_1 : w1.cell? ⟨w.heap.size, 0, none⟩ = some (.slice A0 n c0) := hb1.keep (by simp [go_sem]); have a4_1 : w1.cell? ⟨w.heap.size + 1, 0, none⟩ = some (.slice A1 n' c1) := hb1.keep (by simp [go_sem]); have ax0_1 : w1.cell? ⟨w.heap.size + 2, 0, none⟩ = some (.int .i64 x0) := hb1.keep (by simp [go_sem]); have ax1_1 : w1.cell? ⟨w.heap.size + 2, 1, none⟩ = some (.int .i64 x1) := hb1.keep (by simp [go_sem]); have ax2_1 : w1.cell? ⟨w.heap.size + 2, 2, none⟩ = some (.int .i64 x2) := hb1.keep (by simp [go_sem]); have ax3_1 : w1.cell? ⟨w.heap.size + 2, 3, none⟩ = some (.int .i64 x3) := hb1.keep (by simp [go_sem]))
    go_ret
    exact ⟨rfl, hX1⟩
  · obtain ⟨rfl, hbl⟩ := T.top h3
    have hl0 := T.lle 0 h3
    have hr0 : w.cell? ⟨b, off, none⟩ = some (.slice (A 0) (L 0) (C 0)) := by simpa using T.row 0 h3
    go_enter Try.func3, Try.ntmps3
    go_wp2_with ((fail_if_success (have hzz := hb1)); go_at_call 4; refine (rainAwake_any _).mono ?_; rintro e w1 ⟨rfl, hb1⟩; have TX := T.ext (((((Ext.refl _).alloc _).alloc _).alloc _).trans hb1); have TY := T'.ext (((((Ext.refl _).alloc _).alloc _).alloc _).trans hb1); have hX1 : Ext w w1 := ((((Ext.refl _).alloc _).alloc _).alloc _).trans hb1; have a3_1 : w1.cell? ⟨w.heap.size, 0, none⟩ = some (.slice (some ⟨b, off, none⟩) n c0) := hb1.keep (by simp [go_sem]); have a4_1 : w1.cell? ⟨w.heap.size + 1, 0, none⟩ = some (.slice A1 n' c1) := hb1.keep (by simp [go_sem]); have ax0_1 : w1.cell? ⟨w.heap.size + 2, 0, none⟩ = some (.int .i64 x0) := hb1.keep (by simp [go_sem]); have ax1_1 : w1.cell? ⟨w.heap.size + 2, 1, none⟩ = some (.int .i64 x1) := hb1.keep (by simp [go_sem]); have ax2_1 : w1.cell? ⟨w.heap.size + 2, 2, none⟩ = some (.int .i64 x2) := hb1.keep (by simp [go_sem]); have ax3_1 : w1.cell? ⟨w.heap.size + 2, 3, none⟩ = some (.int .i64 x3) := hb1.keep (by simp [go_sem]); have r0_1 : w1.cell? ⟨b, off, none⟩ = some (.slice (A 0) (L 0) (C 0)) := hX1.keep hr0)
    go_ret
    exact ⟨rfl, hX1⟩

set_option maxRecDepth 20000 in
set_option maxHeartbeats 4000000 in
theorem mono_raw (w : World) {A0 : Option Addr} {n : Nat} {A : Nat → Option Addr} {L C : Nat → Nat} {R : Nat → Nat → Int} {b off : Nat} {G O : Nat → Nat} (c0 : Nat) (T : TabAt w A0 n A L C R b off G O) {A1 : Option Addr} {n' : Nat} {A' : Nat → Option Addr} {L' C' : Nat → Nat} {R' : Nat → Nat → Int} {b' off' : Nat} {G' O' : Nat → Nat} (c1 : Nat) (T' : TabAt w A1 n' A' L' C' R' b' off' G' O') (x0 x1 x2 x3 : Int) (h1 : n ≤ 8) (h2 : n' ≤ 8) (h3 : 0 < n → L 0 ≤ 6) (h : rendsV n L R ≠ 0) :
    Calls Try.prog 3 #[.agg #[.slice A0 n c0], .agg #[.slice A1 n' c1], .agg #[.int .i64 x0, .int .i64 x1, .int .i64 x2, .int .i64 x3]] w fun e w' => e = .returned (.bool true) ∧ Ext w w' := by
  have hn := T.nle
  have hn' := T'.nle
  have HN := Lib.hid h
  have hb : (rendsV n L R != 0) = true := by simpa using h
  clear h
  have AB := fun W (TT : TabAt W A0 n A L C R b off G O) => above_no W c0 TT HN.out
  rcases Nat.eq_zero_or_pos n with h0 | h0
  · subst h0
    go_enter Try.func3, Try.ntmps3
    go_wp2_with (first | ((fail_if_success (have hzz := hb1)); go_at_call 4; refine (rainAwake_any _).mono ?_; rintro e w1 ⟨rfl, hb1⟩; have TX := T.ext (((((Ext.refl _).alloc _).alloc _).alloc _).trans hb1); have TY := T'.ext (((((Ext.refl _).alloc _).alloc _).alloc _).trans hb1); have hX1 : Ext w w1 := ((((Ext.refl _).alloc _).alloc _).alloc _).trans hb1; have a3_1 : w1.cell? ⟨w.heap.size, 0, none⟩ = some (.slice A0 (0 : Nat) c0) := hb1.keep (by simp [go_sem]); have a4_1 : w1.cell? ⟨w.heap.size + 1, 0, none⟩ = some (.slice A1 n' c1) := hb1.keep (by simp [go_sem]); have ax0_1 : w1.cell? ⟨w.heap.size + 2, 0, none⟩ = some (.int .i64 x0) := hb1.keep (by simp [go_sem]); have ax1_1 : w1.cell? ⟨w.heap.size + 2, 1, none⟩ = some (.int .i64 x1) := hb1.keep (by simp [go_sem]); have ax2_1 : w1.cell? ⟨w.heap.size + 2, 2, none⟩ = some (.int .i64 x2) := hb1.keep (by simp [go_sem]); have ax3_1 : w1.cell? ⟨w.heap.size + 2, 3, none⟩ = some (.int .i64 x3) := hb1.keep (by simp [go_sem])) | ((fail_if_success (have hzz := hb2)); go_at_call 5; refine (above_no _ c0 TX HN.out).mono ?_; rintro e w2 ⟨rfl, hb2⟩))
    go_ret
    exact ⟨rfl, (hX1.trans hb2).alloc _⟩
  · obtain ⟨rfl, hbl⟩ := T.top h0
    have hl0 := T.lle 0 h0
    have h6 := h3 h0
    have hr0 : w.cell? ⟨b, off, none⟩ = some (.slice (A 0) (L 0) (C 0)) := by simpa using T.row 0 h0
    go_enter Try.func3, Try.ntmps3
    go_wp2_with (first | ((fail_if_success (have hzz := hb1)); go_at_call 4; refine (rainAwake_any _).mono ?_; rintro e w1 ⟨rfl, hb1⟩; have TX := T.ext (((((Ext.refl _).alloc _).alloc _).alloc _).trans hb1); have TY := T'.ext (((((Ext.refl _).alloc _).alloc _).alloc _).trans hb1); have hX1 : Ext w w1 := ((((Ext.refl _).alloc _).alloc _).alloc _).trans hb1; have a3_1 : w1.cell? ⟨w.heap.size, 0, none⟩ = some (.slice (some ⟨b, off, none⟩) n c0) := hb1.keep (by simp [go_sem]); have a4_1 : w1.cell? ⟨w.heap.size + 1, 0, none⟩ = some (.slice A1 n' c1) := hb1.keep (by simp [go_sem]); have ax0_1 : w1.cell? ⟨w.heap.size + 2, 0, none⟩ = some (.int .i64 x0) := hb1.keep (by simp [go_sem]); have ax1_1 : w1.cell? ⟨w.heap.size + 2, 1, none⟩ = some (.int .i64 x1) := hb1.keep (by simp [go_sem]); have ax2_1 : w1.cell? ⟨w.heap.size + 2, 2, none⟩ = some (.int .i64 x2) := hb1.keep (by simp [go_sem]); have ax3_1 : w1.cell? ⟨w.heap.size + 2, 3, none⟩ = some (.int .i64 x3) := hb1.keep (by simp [go_sem]); have r0_1 : w1.cell? ⟨b, off, none⟩ = some (.slice (A 0) (L 0) (C 0)) := hX1.keep hr0) | ((fail_if_success (have hzz := hb2)); go_at_call 5; refine (above_no _ c0 TX HN.out).mono ?_; rintro e w2 ⟨rfl, hb2⟩))
    go_ret
    exact ⟨rfl, (hX1.trans hb2).alloc _⟩

end Go.Proofs.Ytoemcpndmfimiaa

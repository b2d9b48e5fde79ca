/-
  The steps of the law.
-/
import Derived.Test.YtpeabgfolpgfjaaRvR
namespace Go.Proofs.Ytpeabgfolpgfjaa
open Go.RowKit Go.Lib
set_option linter.unusedSimpArgs false

theorem ev_open (W : World) : Calls Try.prog 16 #[.agg (evC 2 0 1 2 false 0)] W fun e w' => e = .returned (.int .i64 0) ∧ Ext W w' := by
  refine evcheck_0 W 2 0 1 2 false (by decide) rfl rfl rfl ?_ ?_
  · intro j hj hz W
    match j, hj, hz with
    | 0, _, hz => exact absurd hz (by decide)
    | 1, _, hz => exact uses_2 112 true (by decide) W
    | 2, _, hz => exact uses_2 111 true (by decide) W
    | 3, _, hz => exact absurd hz (by decide)
    | 4, _, hz => exact absurd hz (by decide)
    | 5, _, hz => exact absurd hz (by decide)
    | 6, _, hz => exact absurd hz (by decide)
  · intro j hj hz W
    match j, hj, hz with
    | 0, _, hz => exact uses_2 115 false (by decide) W
    | 1, _, hz => exact absurd hz (by decide)
    | 2, _, hz => exact absurd hz (by decide)
    | 3, _, hz => exact absurd hz (by decide)
    | 4, _, hz => exact absurd hz (by decide)
    | 5, _, hz => exact absurd hz (by decide)
    | 6, _, hz => exact absurd hz (by decide)

theorem ev_keep (W : World) : Calls Try.prog 16 #[.agg (evC 8 0 3 0 false 0)] W fun e w' => e = .returned (.int .i64 0) ∧ Ext W w' := by
  refine evcheck_0 W 8 0 3 0 false (by decide) rfl rfl rfl ?_ ?_
  · intro j hj hz W
    match j, hj, hz with
    | 0, _, hz => exact absurd hz (by decide)
    | 1, _, hz => exact uses_8 112 true (by decide) W
    | 2, _, hz => exact absurd hz (by decide)
    | 3, _, hz => exact absurd hz (by decide)
    | 4, _, hz => exact absurd hz (by decide)
    | 5, _, hz => exact absurd hz (by decide)
    | 6, _, hz => exact absurd hz (by decide)
  · intro j hj hz W
    match j, hj, hz with
    | 0, _, hz => exact uses_8 115 false (by decide) W
    | 1, _, hz => exact absurd hz (by decide)
    | 2, _, hz => exact uses_8 111 false (by decide) W
    | 3, _, hz => exact absurd hz (by decide)
    | 4, _, hz => exact absurd hz (by decide)
    | 5, _, hz => exact absurd hz (by decide)
    | 6, _, hz => exact absurd hz (by decide)

theorem ev_bowl (W : World) : Calls Try.prog 16 #[.agg (evC 3 0 1 0 false 0)] W fun e w' => e = .returned (.int .i64 0) ∧ Ext W w' := by
  refine evcheck_0 W 3 0 1 0 false (by decide) rfl rfl rfl ?_ ?_
  · intro j hj hz W
    match j, hj, hz with
    | 0, _, hz => exact absurd hz (by decide)
    | 1, _, hz => exact uses_3 112 true (by decide) W
    | 2, _, hz => exact absurd hz (by decide)
    | 3, _, hz => exact absurd hz (by decide)
    | 4, _, hz => exact absurd hz (by decide)
    | 5, _, hz => exact absurd hz (by decide)
    | 6, _, hz => exact absurd hz (by decide)
  · intro j hj hz W
    match j, hj, hz with
    | 0, _, hz => exact uses_3 115 false (by decide) W
    | 1, _, hz => exact absurd hz (by decide)
    | 2, _, hz => exact uses_3 111 false (by decide) W
    | 3, _, hz => exact absurd hz (by decide)
    | 4, _, hz => exact absurd hz (by decide)
    | 5, _, hz => exact absurd hz (by decide)
    | 6, _, hz => exact absurd hz (by decide)

theorem ev_ball (W : World) : Calls Try.prog 16 #[.agg (evC 4 0 0 0 false 1)] W fun e w' => e = .returned (.int .i64 0) ∧ Ext W w' := by
  refine evcheck_1 W 4 0 0 0 false (by decide) rfl rfl rfl ?_ ?_
  · intro j hj hz W
    match j, hj, hz with
    | 0, _, hz => exact absurd hz (by decide)
    | 1, _, hz => exact absurd hz (by decide)
    | 2, _, hz => exact absurd hz (by decide)
    | 3, _, hz => exact absurd hz (by decide)
    | 4, _, hz => exact absurd hz (by decide)
    | 5, _, hz => exact absurd hz (by decide)
    | 6, _, hz => exact uses_4 98 true (by decide) W
  · intro j hj hz W
    match j, hj, hz with
    | 0, _, hz => exact uses_4 115 false (by decide) W
    | 1, _, hz => exact uses_4 112 false (by decide) W
    | 2, _, hz => exact uses_4 111 false (by decide) W
    | 3, _, hz => exact absurd hz (by decide)
    | 4, _, hz => exact absurd hz (by decide)
    | 5, _, hz => exact absurd hz (by decide)
    | 6, _, hz => exact absurd hz (by decide)

theorem ev_r1y (W : World) : Calls Try.prog 16 #[.agg (evC 14 1 0 0 true 0)] W fun e w' => e = .returned (.int .i64 0) ∧ Ext W w' := by
  refine evcheck_0 W 14 1 0 0 true (by decide) rfl rfl rfl ?_ ?_
  · intro j hj hz W
    match j, hj, hz with
    | 0, _, hz => exact uses_14 115 true (by decide) W
    | 1, _, hz => exact absurd hz (by decide)
    | 2, _, hz => exact absurd hz (by decide)
    | 3, _, hz => exact uses_14 121 true (by decide) W
    | 4, _, hz => exact absurd hz (by decide)
    | 5, _, hz => exact absurd hz (by decide)
    | 6, _, hz => exact absurd hz (by decide)
  · intro j hj hz W
    match j, hj, hz with
    | 0, _, hz => exact absurd hz (by decide)
    | 1, _, hz => exact uses_14 112 false (by decide) W
    | 2, _, hz => exact uses_14 111 false (by decide) W
    | 3, _, hz => exact absurd hz (by decide)
    | 4, _, hz => exact absurd hz (by decide)
    | 5, _, hz => exact absurd hz (by decide)
    | 6, _, hz => exact absurd hz (by decide)

theorem ev_r1n (W : World) : Calls Try.prog 16 #[.agg (evC 14 1 0 0 false 0)] W fun e w' => e = .returned (.int .i64 0) ∧ Ext W w' := by
  refine evcheck_0 W 14 1 0 0 false (by decide) rfl rfl rfl ?_ ?_
  · intro j hj hz W
    match j, hj, hz with
    | 0, _, hz => exact uses_14 115 true (by decide) W
    | 1, _, hz => exact absurd hz (by decide)
    | 2, _, hz => exact absurd hz (by decide)
    | 3, _, hz => exact absurd hz (by decide)
    | 4, _, hz => exact absurd hz (by decide)
    | 5, _, hz => exact absurd hz (by decide)
    | 6, _, hz => exact absurd hz (by decide)
  · intro j hj hz W
    match j, hj, hz with
    | 0, _, hz => exact absurd hz (by decide)
    | 1, _, hz => exact uses_14 112 false (by decide) W
    | 2, _, hz => exact uses_14 111 false (by decide) W
    | 3, _, hz => exact absurd hz (by decide)
    | 4, _, hz => exact absurd hz (by decide)
    | 5, _, hz => exact absurd hz (by decide)
    | 6, _, hz => exact absurd hz (by decide)

theorem ev_r2y (W : World) : Calls Try.prog 16 #[.agg (evC 14 2 0 0 true 0)] W fun e w' => e = .returned (.int .i64 0) ∧ Ext W w' := by
  refine evcheck_0 W 14 2 0 0 true (by decide) rfl rfl rfl ?_ ?_
  · intro j hj hz W
    match j, hj, hz with
    | 0, _, hz => exact uses_14 115 true (by decide) W
    | 1, _, hz => exact absurd hz (by decide)
    | 2, _, hz => exact absurd hz (by decide)
    | 3, _, hz => exact uses_14 121 true (by decide) W
    | 4, _, hz => exact absurd hz (by decide)
    | 5, _, hz => exact absurd hz (by decide)
    | 6, _, hz => exact absurd hz (by decide)
  · intro j hj hz W
    match j, hj, hz with
    | 0, _, hz => exact absurd hz (by decide)
    | 1, _, hz => exact uses_14 112 false (by decide) W
    | 2, _, hz => exact uses_14 111 false (by decide) W
    | 3, _, hz => exact absurd hz (by decide)
    | 4, _, hz => exact absurd hz (by decide)
    | 5, _, hz => exact absurd hz (by decide)
    | 6, _, hz => exact absurd hz (by decide)

theorem ev_r2n (W : World) : Calls Try.prog 16 #[.agg (evC 14 2 0 0 false 0)] W fun e w' => e = .returned (.int .i64 0) ∧ Ext W w' := by
  refine evcheck_0 W 14 2 0 0 false (by decide) rfl rfl rfl ?_ ?_
  · intro j hj hz W
    match j, hj, hz with
    | 0, _, hz => exact uses_14 115 true (by decide) W
    | 1, _, hz => exact absurd hz (by decide)
    | 2, _, hz => exact absurd hz (by decide)
    | 3, _, hz => exact absurd hz (by decide)
    | 4, _, hz => exact absurd hz (by decide)
    | 5, _, hz => exact absurd hz (by decide)
    | 6, _, hz => exact absurd hz (by decide)
  · intro j hj hz W
    match j, hj, hz with
    | 0, _, hz => exact absurd hz (by decide)
    | 1, _, hz => exact uses_14 112 false (by decide) W
    | 2, _, hz => exact uses_14 111 false (by decide) W
    | 3, _, hz => exact absurd hz (by decide)
    | 4, _, hz => exact absurd hz (by decide)
    | 5, _, hz => exact absurd hz (by decide)
    | 6, _, hz => exact absurd hz (by decide)

theorem ev_rev (sd : Int) (hs : sd = 1 ∨ sd = 2) (y : Bool) (W : World) : Calls Try.prog 16 #[.agg (evC 14 sd 0 0 y 0)] W fun e w' => e = .returned (.int .i64 0) ∧ Ext W w' := by
  rcases hs with rfl | rfl <;> cases y
  · exact ev_r1n W
  · exact ev_r1y W
  · exact ev_r2n W
  · exact ev_r2y W
def I1 : In := ⟨0, 0, 1, 2, 0, false, 0, 0, 0, 0, [.int .u8 1, .int .u8 1, .int .u8 0], [], [], [.int .i64 0, .int .i64 0, .int .i64 0], [.bool false, .bool false, .bool false]⟩
def I2 : In := ⟨0, 0, 1, 2, 0, false, 0, 3, 0, 0, [.int .u8 1, .int .u8 1, .int .u8 0], [], [], [.int .i64 0, .int .i64 0, .int .i64 0], [.bool false, .bool false, .bool false]⟩
def I3 : In := ⟨0, 0, 1, 2, 1, false, 0, 3, 0, 0, [.int .u8 1, .int .u8 1, .int .u8 0], [], [], [.int .i64 0, .int .i64 0, .int .i64 0], [.bool false, .bool false, .bool false]⟩
/-- Behind k balls of the over, with so many reviews lost. -/
def stN (k a b : Int) (fr : Bool) : In := ⟨0, k, 1, 2, 1, fr, k, 3, a, b, [.int .u8 1, .int .u8 1, .int .u8 0], [.int .i64 1], [], [.int .i64 k, .int .i64 0, .int .i64 0], [.bool false, .bool false, .bool false]⟩
/-- Behind the over. -/
def stL (a b : Int) (fr : Bool) : In := ⟨1, 0, 2, 1, 0, fr, 8, 3, a, b, [.int .u8 1, .int .u8 1, .int .u8 0], [], [.int .i64 1], [.int .i64 8, .int .i64 0, .int .i64 0], [.bool false, .bool false, .bool false]⟩
theorem ok0  : (I0).Ok where
  c := by simp [I0]
  k := by simp [I0]
  so := Or.inl ⟨rfl, rfl, rfl⟩
  kp := by simp [I0]
  bw := by simp [I0]
  bl := .inl rfl
  bf := .inl rfl
  bd := ⟨0, by omega, by omega, rfl⟩
  sb := rfl
  age := by simp [I0]
  ra := by simp [I0]
  rb := by simp [I0]
theorem ok1  : (I1).Ok where
  c := by simp [I1]
  k := by simp [I1]
  so := Or.inr (Or.inl ⟨rfl, rfl, rfl⟩)
  kp := by simp [I1]
  bw := by simp [I1]
  bl := .inl rfl
  bf := .inl rfl
  bd := ⟨0, by omega, by omega, rfl⟩
  sb := rfl
  age := by simp [I1]
  ra := by simp [I1]
  rb := by simp [I1]
theorem ok2  : (I2).Ok where
  c := by simp [I2]
  k := by simp [I2]
  so := Or.inr (Or.inl ⟨rfl, rfl, rfl⟩)
  kp := by simp [I2]
  bw := by simp [I2]
  bl := .inl rfl
  bf := .inl rfl
  bd := ⟨0, by omega, by omega, rfl⟩
  sb := rfl
  age := by simp [I2]
  ra := by simp [I2]
  rb := by simp [I2]
theorem ok3  : (I3).Ok where
  c := by simp [I3]
  k := by simp [I3]
  so := Or.inr (Or.inl ⟨rfl, rfl, rfl⟩)
  kp := by simp [I3]
  bw := by simp [I3]
  bl := .inl rfl
  bf := .inl rfl
  bd := ⟨0, by omega, by omega, rfl⟩
  sb := rfl
  age := by simp [I3]
  ra := by simp [I3]
  rb := by simp [I3]
theorem okN (k a b : Int) (fr : Bool) (hk : 0 ≤ k ∧ k ≤ 7) (ha : 0 ≤ a ∧ a ≤ 9) (hb : 0 ≤ b ∧ b ≤ 9) : (stN k a b fr).Ok where
  c := by simp [stN]
  k := by simp [stN]; omega
  so := Or.inr (Or.inl ⟨rfl, rfl, rfl⟩)
  kp := by simp [stN]
  bw := by simp [stN]
  bl := .inr rfl
  bf := .inl rfl
  bd := ⟨k, by omega, by omega, rfl⟩
  sb := rfl
  age := by simp [stN]; omega
  ra := by simp [stN]; omega
  rb := by simp [stN]; omega
theorem okL (a b : Int) (fr : Bool) (ha : 0 ≤ a ∧ a ≤ 9) (hb : 0 ≤ b ∧ b ≤ 9) : (stL a b fr).Ok where
  c := by simp [stL]
  k := by simp [stL]
  so := Or.inr (Or.inr ⟨rfl, rfl, rfl⟩)
  kp := by simp [stL]
  bw := by simp [stL]
  bl := .inl rfl
  bf := .inr rfl
  bd := ⟨8, by omega, by omega, rfl⟩
  sb := rfl
  age := by simp [stL]
  ra := by simp [stL]; omega
  rb := by simp [stL]; omega
theorem st_open (w : World) (n : Int) (hn : 0 ≤ n ∧ n ≤ 9) (h0 h1 h2 h3 h4 : Value) (hA : InAt w I0 h0 h1 h2 h3 h4) : Calls Try.prog 7 #[.agg (rvC n), .agg (inC I0 h0 h1 h2 h3 h4), .agg (evC 2 0 1 2 false 0)] w fun e w' => ∃ k0 k1 k2 k3 k4, e = .returned (.tuple #[.agg (inC I1 k0 k1 k2 k3 k4), .int .i64 0]) ∧ InOwn w.heap.size w' I1 k0 k1 k2 k3 k4 ∧ Ext w w' :=
  step_open w n hn 0 1 2 false 0 I0 I1 h0 h1 h2 h3 h4 hA ok0 rfl false rfl ok1 ev_open (fun W hx => perform_open W n I0 I1 0 h0 h1 h2 h3 h4 (fun W' hx' => open_any W' I0 h0 h1 h2 h3 h4 (hA.ext (hx.trans hx')) ok0 rfl))
theorem st_keep (w : World) (n : Int) (hn : 0 ≤ n ∧ n ≤ 9) (h0 h1 h2 h3 h4 : Value) (hA : InAt w I1 h0 h1 h2 h3 h4) : Calls Try.prog 7 #[.agg (rvC n), .agg (inC I1 h0 h1 h2 h3 h4), .agg (evC 8 0 3 0 false 0)] w fun e w' => ∃ k0 k1 k2 k3 k4, e = .returned (.tuple #[.agg (inC I2 k0 k1 k2 k3 k4), .int .i64 0]) ∧ InOwn w.heap.size w' I2 k0 k1 k2 k3 k4 ∧ Ext w w' :=
  step_ok w n hn 8 0 3 0 false 0 rfl rfl rfl I1 I2 h0 h1 h2 h3 h4 hA ok1 rfl false rfl ok2 ev_keep (fun W hx => perform_keep W n I1 I2 0 h0 h1 h2 h3 h4 (fun W' hx' => keeper_any W' I1 h0 h1 h2 h3 h4 (hA.ext (hx.trans hx')) ok1 rfl rfl))
theorem st_bowl (w : World) (n : Int) (hn : 0 ≤ n ∧ n ≤ 9) (h0 h1 h2 h3 h4 : Value) (hA : InAt w I2 h0 h1 h2 h3 h4) : Calls Try.prog 7 #[.agg (rvC n), .agg (inC I2 h0 h1 h2 h3 h4), .agg (evC 3 0 1 0 false 0)] w fun e w' => ∃ k0 k1 k2 k3 k4, e = .returned (.tuple #[.agg (inC I3 k0 k1 k2 k3 k4), .int .i64 0]) ∧ InOwn w.heap.size w' I3 k0 k1 k2 k3 k4 ∧ Ext w w' :=
  step_ok w n hn 3 0 1 0 false 0 rfl rfl rfl I2 I3 h0 h1 h2 h3 h4 hA ok2 rfl false rfl ok3 ev_bowl (fun W hx => perform_bowl W n I2 I3 0 h0 h1 h2 h3 h4 (fun W' hx' => take_any W' n hn I2 h0 h1 h2 h3 h4 (hA.ext (hx.trans hx')) ok2 rfl rfl rfl))
theorem st_ball (w : World) (n : Int) (hn : 0 ≤ n ∧ n ≤ 9) (h0 h1 h2 h3 h4 : Value) (hA : InAt w I3 h0 h1 h2 h3 h4) : Calls Try.prog 7 #[.agg (rvC n), .agg (inC I3 h0 h1 h2 h3 h4), .agg (evC 4 0 0 0 false 1)] w fun e w' => ∃ k0 k1 k2 k3 k4, e = .returned (.tuple #[.agg (inC (stN 1 0 0 true) k0 k1 k2 k3 k4), .int .i64 0]) ∧ InOwn w.heap.size w' (stN 1 0 0 true) k0 k1 k2 k3 k4 ∧ Ext w w' :=
  step_ok w n hn 4 0 0 0 false 1 rfl rfl rfl I3 (stN 1 0 0 false) h0 h1 h2 h3 h4 hA ok3 rfl true rfl (okN 1 0 0 true (by decide) (by decide) (by decide)) ev_ball (fun W hx => perform_ball W n I3 (stN 1 0 0 false) 0 h0 h1 h2 h3 h4 (fun W' hx' => ball_on W' n I3 (stN 1 0 0 false) h0 h1 h2 h3 h4 (hA.ext (hx.trans hx')) ok3 (okN 1 0 0 false (by decide) (by decide) (by decide)) rfl rfl (fun W k0 k1 k2 k3 k4 h => sball_first W n hn I3 k0 k1 k2 k3 k4 h ok3 rfl rfl (by decide) 0 (by decide) rfl)))
theorem sn_ball (w : World) (n : Int) (hn : 0 ≤ n ∧ n ≤ 9) (k a b : Int) (fr : Bool) (hk : 0 ≤ k ∧ k ≤ 6) (ha : 0 ≤ a ∧ a ≤ 9) (hb : 0 ≤ b ∧ b ≤ 9) (h0 h1 h2 h3 h4 : Value) (hA : InAt w (stN k a b fr) h0 h1 h2 h3 h4) : Calls Try.prog 7 #[.agg (rvC n), .agg (inC (stN k a b fr) h0 h1 h2 h3 h4), .agg (evC 4 0 0 0 false 1)] w fun e w' => ∃ k0 k1 k2 k3 k4, e = .returned (.tuple #[.agg (inC (stN (k + 1) a b true) k0 k1 k2 k3 k4), .int .i64 0]) ∧ InOwn w.heap.size w' (stN (k + 1) a b true) k0 k1 k2 k3 k4 ∧ Ext w w' :=
  step_ok w n hn 4 0 0 0 false 1 rfl rfl rfl (stN k a b fr) (stN (k + 1) a b fr) h0 h1 h2 h3 h4 hA (okN k a b fr (by omega) ha hb) rfl true rfl (okN (k + 1) a b true (by omega) ha hb) ev_ball (fun W hx => perform_ball W n (stN k a b fr) (stN (k + 1) a b fr) 0 h0 h1 h2 h3 h4 (fun W' hx' => ball_on W' n (stN k a b fr) (stN (k + 1) a b fr) h0 h1 h2 h3 h4 (hA.ext (hx.trans hx')) (okN k a b fr (by omega) ha hb) (okN (k + 1) a b fr (by omega) ha hb) rfl rfl (fun W k0 k1 k2 k3 k4 h => sball_next W n hn (stN k a b fr) k0 k1 k2 k3 k4 h (okN k a b fr (by omega) ha hb) rfl rfl hk.2 k (by omega) rfl)))
def sM (a b : Int) (fr : Bool) : In := ⟨1, 0, 1, 2, 0, fr, 8, 3, a, b, [.int .u8 1, .int .u8 1, .int .u8 0], [], [.int .i64 1], [.int .i64 8, .int .i64 0, .int .i64 0], [.bool false, .bool false, .bool false]⟩
theorem okM (a b : Int) (fr : Bool) (ha : 0 ≤ a ∧ a ≤ 9) (hb : 0 ≤ b ∧ b ≤ 9) : (sM a b fr).Ok where
  c := by simp [sM]
  k := by simp [sM]
  so := Or.inr (Or.inl ⟨rfl, rfl, rfl⟩)
  kp := by simp [sM]
  bw := by simp [sM]
  bl := .inl rfl
  bf := .inr rfl
  bd := ⟨8, by omega, by omega, rfl⟩
  sb := rfl
  age := by simp [sM]
  ra := by simp [sM]; omega
  rb := by simp [sM]; omega
theorem sl_ball (w : World) (n : Int) (hn : 0 ≤ n ∧ n ≤ 9) (a b : Int) (fr : Bool) (ha : 0 ≤ a ∧ a ≤ 9) (hb : 0 ≤ b ∧ b ≤ 9) (h0 h1 h2 h3 h4 : Value) (hA : InAt w (stN 7 a b fr) h0 h1 h2 h3 h4) : Calls Try.prog 7 #[.agg (rvC n), .agg (inC (stN 7 a b fr) h0 h1 h2 h3 h4), .agg (evC 4 0 0 0 false 1)] w fun e w' => ∃ k0 k1 k2 k3 k4, e = .returned (.tuple #[.agg (inC (stL a b true) k0 k1 k2 k3 k4), .int .i64 0]) ∧ InOwn w.heap.size w' (stL a b true) k0 k1 k2 k3 k4 ∧ Ext w w' :=
  step_ok w n hn 4 0 0 0 false 1 rfl rfl rfl (stN 7 a b fr) (stL a b fr) h0 h1 h2 h3 h4 hA (okN 7 a b fr (by decide) ha hb) rfl true rfl (okL a b true ha hb) ev_ball (fun W hx => perform_ball W n (stN 7 a b fr) (stL a b fr) 0 h0 h1 h2 h3 h4 (fun W' hx' => ball_over W' n (stN 7 a b fr) (sM a b fr) h0 h1 h2 h3 h4 (hA.ext (hx.trans hx')) (okN 7 a b fr (by decide) ha hb) (okM a b fr ha hb) rfl rfl (fun W k0 k1 k2 k3 k4 h => sball_last W n hn (stN 7 a b fr) k0 k1 k2 k3 k4 h (okN 7 a b fr (by decide) ha hb) rfl rfl rfl 7 (by decide) rfl)))
theorem sr_yes1 (w : World) (n : Int) (hn : 0 ≤ n ∧ n ≤ 9) (k a b : Int) (hk : 0 ≤ k ∧ k ≤ 7) (ha : 0 ≤ a ∧ a ≤ 9) (hb : 0 ≤ b ∧ b ≤ 9) (hl : a < n) (h0 h1 h2 h3 h4 : Value) (hA : InAt w (stN k a b true) h0 h1 h2 h3 h4) : Calls Try.prog 7 #[.agg (rvC n), .agg (inC (stN k a b true) h0 h1 h2 h3 h4), .agg (evC 14 1 0 0 true 0)] w fun e w' => ∃ k0 k1 k2 k3 k4, e = .returned (.tuple #[.agg (inC (stN k a b false) k0 k1 k2 k3 k4), .int .i64 0]) ∧ InOwn w.heap.size w' (stN k a b false) k0 k1 k2 k3 k4 ∧ Ext w w' :=
  step_ok w n hn 14 1 0 0 true 0 rfl rfl rfl (stN k a b true) (stN k a b true) h0 h1 h2 h3 h4 hA (okN k a b true hk ha hb) rfl false rfl (okN k a b false hk ha hb) (ev_rev 1 (by decide) true) (fun W hx => perform_rev W n 1 true (stN k a b true) (stN k a b true) 0 h0 h1 h2 h3 h4 (fun W' hx' => review_yes1 W' n (stN k a b true) h0 h1 h2 h3 h4 (hA.ext (hx.trans hx')) (okN k a b true hk ha hb) rfl hl))
theorem sr_no1 (w : World) (n : Int) (hn : 0 ≤ n ∧ n ≤ 9) (k a b : Int) (hk : 0 ≤ k ∧ k ≤ 7) (ha : 0 ≤ a ∧ a ≤ 9) (hb : 0 ≤ b ∧ b ≤ 9) (hl : a < n) (h0 h1 h2 h3 h4 : Value) (hA : InAt w (stN k a b true) h0 h1 h2 h3 h4) : Calls Try.prog 7 #[.agg (rvC n), .agg (inC (stN k a b true) h0 h1 h2 h3 h4), .agg (evC 14 1 0 0 false 0)] w fun e w' => ∃ k0 k1 k2 k3 k4, e = .returned (.tuple #[.agg (inC (stN k (a + 1) b false) k0 k1 k2 k3 k4), .int .i64 0]) ∧ InOwn w.heap.size w' (stN k (a + 1) b false) k0 k1 k2 k3 k4 ∧ Ext w w' :=
  step_ok w n hn 14 1 0 0 false 0 rfl rfl rfl (stN k a b true) (stN k (a + 1) b true) h0 h1 h2 h3 h4 hA (okN k a b true hk ha hb) rfl false rfl (okN k (a + 1) b false hk (by omega) (by omega)) (ev_rev 1 (by decide) false) (fun W hx => perform_rev W n 1 false (stN k a b true) (stN k (a + 1) b true) 0 h0 h1 h2 h3 h4 (fun W' hx' => review_no1 W' n (stN k a b true) h0 h1 h2 h3 h4 (hA.ext (hx.trans hx')) (okN k a b true hk ha hb) rfl hl))
theorem sr_ref1 (w : World) (n : Int) (hn : 0 ≤ n ∧ n ≤ 9) (k a b : Int) (hk : 0 ≤ k ∧ k ≤ 7) (ha : 0 ≤ a ∧ a ≤ 9) (hb : 0 ≤ b ∧ b ≤ 9) (hl : n ≤ a) (y : Bool) (h0 h1 h2 h3 h4 : Value) (hA : InAt w (stN k a b true) h0 h1 h2 h3 h4) : Calls Try.prog 7 #[.agg (rvC n), .agg (inC (stN k a b true) h0 h1 h2 h3 h4), .agg (evC 14 1 0 0 y 0)] w fun e w' => ∃ v, e = .returned (.tuple #[v, .int .i64 24]) ∧ Ext w w' :=
  step_ref w n hn 14 1 0 0 y 0 rfl rfl rfl (stN k a b true) (stN k a b true) h0 h1 h2 h3 h4 hA (okN k a b true hk ha hb) rfl 24 rfl (ev_rev 1 (by decide) y) (fun W hx => perform_rev W n 1 y (stN k a b true) (stN k a b true) 24 h0 h1 h2 h3 h4 (fun W' hx' => review_ref1 W' n y (stN k a b true) h0 h1 h2 h3 h4 (hA.ext (hx.trans hx')) (okN k a b true hk ha hb) rfl hl))
theorem sr_yes2 (w : World) (n : Int) (hn : 0 ≤ n ∧ n ≤ 9) (k a b : Int) (hk : 0 ≤ k ∧ k ≤ 7) (ha : 0 ≤ a ∧ a ≤ 9) (hb : 0 ≤ b ∧ b ≤ 9) (hl : b < n) (h0 h1 h2 h3 h4 : Value) (hA : InAt w (stN k a b true) h0 h1 h2 h3 h4) : Calls Try.prog 7 #[.agg (rvC n), .agg (inC (stN k a b true) h0 h1 h2 h3 h4), .agg (evC 14 2 0 0 true 0)] w fun e w' => ∃ k0 k1 k2 k3 k4, e = .returned (.tuple #[.agg (inC (stN k a b false) k0 k1 k2 k3 k4), .int .i64 0]) ∧ InOwn w.heap.size w' (stN k a b false) k0 k1 k2 k3 k4 ∧ Ext w w' :=
  step_ok w n hn 14 2 0 0 true 0 rfl rfl rfl (stN k a b true) (stN k a b true) h0 h1 h2 h3 h4 hA (okN k a b true hk ha hb) rfl false rfl (okN k a b false hk ha hb) (ev_rev 2 (by decide) true) (fun W hx => perform_rev W n 2 true (stN k a b true) (stN k a b true) 0 h0 h1 h2 h3 h4 (fun W' hx' => review_yes2 W' n (stN k a b true) h0 h1 h2 h3 h4 (hA.ext (hx.trans hx')) (okN k a b true hk ha hb) rfl hl))
theorem sr_no2 (w : World) (n : Int) (hn : 0 ≤ n ∧ n ≤ 9) (k a b : Int) (hk : 0 ≤ k ∧ k ≤ 7) (ha : 0 ≤ a ∧ a ≤ 9) (hb : 0 ≤ b ∧ b ≤ 9) (hl : b < n) (h0 h1 h2 h3 h4 : Value) (hA : InAt w (stN k a b true) h0 h1 h2 h3 h4) : Calls Try.prog 7 #[.agg (rvC n), .agg (inC (stN k a b true) h0 h1 h2 h3 h4), .agg (evC 14 2 0 0 false 0)] w fun e w' => ∃ k0 k1 k2 k3 k4, e = .returned (.tuple #[.agg (inC (stN k a (b + 1) false) k0 k1 k2 k3 k4), .int .i64 0]) ∧ InOwn w.heap.size w' (stN k a (b + 1) false) k0 k1 k2 k3 k4 ∧ Ext w w' :=
  step_ok w n hn 14 2 0 0 false 0 rfl rfl rfl (stN k a b true) (stN k a (b + 1) true) h0 h1 h2 h3 h4 hA (okN k a b true hk ha hb) rfl false rfl (okN k a (b + 1) false hk (by omega) (by omega)) (ev_rev 2 (by decide) false) (fun W hx => perform_rev W n 2 false (stN k a b true) (stN k a (b + 1) true) 0 h0 h1 h2 h3 h4 (fun W' hx' => review_no2 W' n (stN k a b true) h0 h1 h2 h3 h4 (hA.ext (hx.trans hx')) (okN k a b true hk ha hb) rfl hl))
theorem sr_ref2 (w : World) (n : Int) (hn : 0 ≤ n ∧ n ≤ 9) (k a b : Int) (hk : 0 ≤ k ∧ k ≤ 7) (ha : 0 ≤ a ∧ a ≤ 9) (hb : 0 ≤ b ∧ b ≤ 9) (hl : n ≤ b) (y : Bool) (h0 h1 h2 h3 h4 : Value) (hA : InAt w (stN k a b true) h0 h1 h2 h3 h4) : Calls Try.prog 7 #[.agg (rvC n), .agg (inC (stN k a b true) h0 h1 h2 h3 h4), .agg (evC 14 2 0 0 y 0)] w fun e w' => ∃ v, e = .returned (.tuple #[v, .int .i64 24]) ∧ Ext w w' :=
  step_ref w n hn 14 2 0 0 y 0 rfl rfl rfl (stN k a b true) (stN k a b true) h0 h1 h2 h3 h4 hA (okN k a b true hk ha hb) rfl 24 rfl (ev_rev 2 (by decide) y) (fun W hx => perform_rev W n 2 y (stN k a b true) (stN k a b true) 24 h0 h1 h2 h3 h4 (fun W' hx' => review_ref2 W' n y (stN k a b true) h0 h1 h2 h3 h4 (hA.ext (hx.trans hx')) (okN k a b true hk ha hb) rfl hl))

end Go.Proofs.Ytpeabgfolpgfjaa

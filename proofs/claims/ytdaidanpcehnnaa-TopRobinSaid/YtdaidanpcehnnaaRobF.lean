/-
  Place of layer 49: its contract.
-/
import Derived.Test.YtdaidanpcehnnaaRobE
import Derived.Deep.AppendLies
namespace Go.Proofs.Ytdaidanpcehnnaa
open Go.RowKit
set_option linter.unusedSimpArgs false

theorem infoPl : (Try.prog.info? 41).map (fun i => (i.zero, i.size, i.bytes)) = some (some (.agg #[.int .i64 0, .int .i64 0, .int .i64 0, .int .i64 0, .int .i64 0]), 5, 40) := by kernel_rfl
/-- Do two fixtures share a team? -/
def Shares (l : List Fx) (j i : Nat) : Prop := (homeOf l j = homeOf l i ∨ awayOf l j = homeOf l i) ∨ (homeOf l j = awayOf l i ∨ awayOf l j = awayOf l i)
/-- The days of the first k fixtures are as they should be. -/
def PlaceOk (l : List Fx) (ds gr : Nat → Int) (F R : Int) (k : Nat) : Prop :=
  ∀ i, i < k → F ≤ ds i ∧ ds i ≤ F + (i : Int) * (R + 1) ∧ (∀ j, j < i → Shares l j i → ds j + R + 1 ≤ ds i) ∧ (∀ j, j < i → ¬ Takes l ds gr (gr (homeOf l i)) (ds i) j)
theorem place_nil {l : List Fx} {ds gr : Nat → Int} {F R : Int} : PlaceOk l ds gr F R 0 := fun _ h => absurd h (by omega)
theorem setN_ne {h : Nat → Int} {i j : Nat} {v : Int} (e : j ≠ i) : setN h i v j = h j := if_neg e
theorem setN_eq {h : Nat → Int} {i : Nat} {v : Int} : setN h i v i = v := if_pos rfl
theorem takes_set {l : List Fx} {ds gr : Nat → Int} {g d v : Int} {i j : Nat} (e : j ≠ i) : Takes l (setN ds i v) gr g d j ↔ Takes l ds gr g d j := by unfold Takes; rw [setN_ne e]
theorem place_step {l : List Fx} {ds gr : Nat → Int} {F R D : Int} {k : Nat} (h : PlaceOk l ds gr F R k) (h0 : F ≤ D) (h1 : D ≤ F + (k : Int) * (R + 1)) (h2 : ∀ j, j < k → Shares l j k → ds j + R + 1 ≤ D) (h3 : ∀ j, j < k → ¬ Takes l ds gr (gr (homeOf l k)) D j) :
    PlaceOk l (setN ds k D) gr F R (k + 1) := fun i hi => by
  rcases Nat.lt_or_ge i k with e | e
  · obtain ⟨a, b, c, d⟩ := h i e
    rw [setN_ne (by omega)]
    exact ⟨a, b, fun j hj hs => by rw [setN_ne (by omega)]; exact c j hj hs, fun j hj => by rw [takes_set (by omega)]; exact d j hj⟩
  · obtain rfl : i = k := by omega
    rw [setN_eq]
    exact ⟨h0, h1, fun j hj hs => by rw [setN_ne (by omega)]; exact h2 j hj hs, fun j hj => by rw [takes_set (by omega)]; exact h3 j hj⟩
theorem plV_step (l : List Fx) (ds gr : Nat → Int) (k : Nat) (D : Int) : plV l ds gr k ++ [.int .i64 (l.getD k (0, 0, 0)).1, .int .i64 (l.getD k (0, 0, 0)).2.1, .int .i64 (l.getD k (0, 0, 0)).2.2, .int .i64 D, .int .i64 (gr (l.getD k (0, 0, 0)).2.1)] = plV l (setN ds k D) gr (k + 1) := by
  rw [plV, plV_congr l (ds' := ds) (ds := setN ds k D) (fun i hi => setN_ne (by omega))]
  simp [plC, setN]
def PlaceP (w : World) (l : List Fx) (gr : Nat → Int) (F R : Int) (e : Ending) (w' : World) : Prop :=
  ∃ (v : Value) (ds : Nat → Int), e = .returned (.tuple #[v, .int .i64 0]) ∧ Ext w w' ∧ w'.ownsRow (w.heap.size + 1) 41 5 v l.length (plV l ds gr l.length) ∧ PlaceOk l ds gr F R l.length
/-- A bound of the days so far. -/
theorem day_le {i j : Nat} {R : Int} (hR : 0 ≤ R) (h : j < i) : (j : Int) * (R + 1) + (R + 1) ≤ (i : Int) * (R + 1) := by
  have : ((j : Int) + 1) * (R + 1) ≤ (i : Int) * (R + 1) := Int.mul_le_mul_of_nonneg_right (by omega) (by omega)
  rw [Int.add_mul, Int.one_mul] at this
  exact this

set_option maxHeartbeats 16000000 in
theorem place_ok (w : World) (l : List Fx) (v0 : Value) {base : Nat} (n gb : Nat) (gr : Nat → Int) (F R : Int) (hv : w.ownsRow base 39 3 v0 l.length (fixV l)) (hl : l.length ≤ 30) (hn : n ≤ 20)
    (hx : ∀ x ∈ l, x.2.1 < n ∧ x.2.2 < n ∧ x.2.1 ≠ x.2.2 ∧ x.1 ≤ 100) (hF0 : 0 ≤ F) (hF1 : F < 100000) (hR0 : 0 ≤ R) (hR1 : R ≤ 9) (hr : w.rowIs gb 3 n (nums gr)) (hh : ∀ j, j < n → 0 ≤ gr j ∧ gr j < 20) :
    Calls Try.prog 7 #[v0, .agg #[.int .i64 F, .int .i64 R, .slice (some ⟨gb, 0, none⟩) n n]] w (PlaceP w l gr F R) := by
  obtain ⟨A, c, rfl, hA⟩ : ∃ A c, v0 = .slice A l.length c ∧ (0 < l.length → ∃ b, A = some ⟨b, 0, none⟩ ∧ ∀ i u, (fixV l)[i]? = some u → w.cell? ⟨b, i, none⟩ = some u) := by
    rcases hv.2 with ⟨rfl, h0⟩ | ⟨b, cap, cur, rfl, _, _, _⟩
    · exact ⟨none, 0, by rw [h0], fun h => absurd h (by omega)⟩
    · exact ⟨_, cap, rfl, fun _ => ⟨b, rfl, fun i u hu => own_cell_any hv hu⟩⟩
  obtain ⟨iP, hPi, hPz, hPs, hPb⟩ := info_parts infoPl
  have HA := Lib.hid hA
  have HR := Lib.hid hr
  have HH := Lib.hid hh
  have HX := Lib.hid hx
  have hgl := hr.lt
  clear hA hr hh hx hv
  go_enter Try.func7, Try.ntmps7
  go_wp2_with (go_at_call 12; refine (season_ok _ (l.length : Int) F R n gb gr (by omega) hn hF0 (by omega) hR0 (by omega) (rowIs_ext HR.out ((Ext.refl _).alloc _)) HH.out).mono ?_; rintro e w1 ⟨rfl, hE⟩)
  go_loopw [7, 9, 10, 12, 22] (fun vo _ _ _ i wr => ∃ (j : Nat) (ds : Nat → Int), j ≤ l.length ∧ i = .int .i64 j ∧ wr.ownsRow (w.heap.size + 1) 41 5 vo j (plV l ds gr j) ∧ PlaceOk l ds gr F R j ∧ Ext (w.alloc (.cells #[.int .i64 F, .int .i64 R, .slice (some ⟨gb, 0, none⟩) n n] 24)) wr) (fun _ _ _ _ i _ => l.length - (intOf i).toNat)
  case atStart => exact ⟨0, fun _ => 0, by omega, rfl, World.ownsRow_nil _ _ _ _, place_nil, hE⟩
  case round =>
    obtain ⟨i, ds, hi, rfl, hown, hP, hX⟩ := hrel
    have HOwn := Lib.hid hown
    have HP := Lib.hid hP
    have b0 : wr.cell? ⟨w.heap.size, 0, none⟩ = some (.int .i64 F) := hX.keep (by simp [go_sem])
    have b1 : wr.cell? ⟨w.heap.size, 1, none⟩ = some (.int .i64 R) := hX.keep (by simp [go_sem])
    have b2 : wr.cell? ⟨w.heap.size, 2, none⟩ = some (.slice (some ⟨gb, 0, none⟩) n n) := hX.keep (by simp [go_sem])
    have lw := cell_lt b0
    clear hown hP
    by_cases hlt : i < l.length
    · obtain ⟨x, hxi⟩ : ∃ x, l[i]? = some x := ⟨_, List.getElem?_eq_getElem hlt⟩
      have hxd : l.getD i (0, 0, 0) = x := by rw [List.getD_eq_getElem?_getD, hxi]; rfl
      obtain ⟨k1, k2, k3, k4⟩ := HX.out x (List.mem_of_getElem? hxi)
      obtain ⟨fb, rfl, hfc⟩ := HA.out (by omega)
      obtain ⟨q0, q1, q2⟩ := fixV_at l i x hxi
      have hXw : Ext w wr := ((Ext.refl w).alloc _).trans hX
      have c0 : wr.cell? ⟨fb, i * 3, none⟩ = some (.int .i64 x.1) := hXw.keep (hfc _ _ q0)
      have c1 : wr.cell? ⟨fb, i * 3 + 1, none⟩ = some (.int .i64 x.2.1) := hXw.keep (hfc _ _ q1)
      have c2 : wr.cell? ⟨fb, i * 3 + 2, none⟩ = some (.int .i64 x.2.2) := hXw.keep (hfc _ _ q2)
      have hgc0 : (w.alloc (.cells #[.int .i64 F, .int .i64 R, .slice (some ⟨gb, 0, none⟩) n n] 24)).cell? ⟨gb, x.2.1, none⟩ = some (.int .i64 (gr x.2.1)) := ((Ext.refl w).alloc _).keep (HR.out.cell k1)
      clear q0 q1 q2 hfc
      obtain ⟨wb, rfl⟩ : ∃ wb, wb = wr := ⟨_, rfl⟩
      obtain ⟨Ao, co, rfl, hOc⟩ : ∃ Ao co, u7 = .slice Ao i co ∧ (0 < i → ∃ gO, Ao = some ⟨gO, 0, none⟩ ∧ ∀ k u, (plV l ds gr i)[k]? = some u → wb.cell? ⟨gO, k, none⟩ = some u) := by
        have hown := HOwn.out
        rcases hown.2 with ⟨rfl, h0⟩ | ⟨b, cap, cur, rfl, _, _, _⟩
        · exact ⟨none, 0, by rw [h0], fun h => absurd h (by omega)⟩
        · exact ⟨_, cap, rfl, fun _ => ⟨b, rfl, fun k u hu => own_cell_any hown hu⟩⟩
      have HOC := Lib.hid hOc
      clear hOc
      have hx9 : Ext wb (wb.alloc (.cells #[.int .i64 x.1, .int .i64 x.2.1, .int .i64 x.2.2] 39)) := (Ext.refl _).alloc _
      have hb9 : (wb.alloc (.cells #[.int .i64 x.1, .int .i64 x.2.1, .int .i64 x.2.2] 39)).heap[wb.heap.size]? = some (.cells #[.int .i64 x.1, .int .i64 x.2.1, .int .i64 x.2.2] 39 (0, 0)) := heap_alloc_new wb _
      obtain ⟨M, hM⟩ : ∃ M, M = (i : Int) * (R + 1) := ⟨_, rfl⟩
      have hM0 : 0 ≤ M ∧ M ≤ 30 * 10 := by rw [hM]; exact mul_bd (by omega) (by omega) (by omega) (by omega)
      obtain ⟨hM0, hM1⟩ := hM0
      have HDJ : Hid (∀ j, j < i → F ≤ ds j ∧ ds j + R + 1 ≤ F + M) := fun j hj => by
        obtain ⟨a1, a2, _⟩ := HP.out j hj
        have := day_le (R := R) hR0 hj
        rw [hM]; omega
      have HM := Lib.hid hM
      clear hM
      go_wp2_with (go_at_call 13; refine (known_ok _ (x.1 : Int) F R x.2.1 x.2.2 n _ n k1 k2 k3).mono ?_; rintro e w3 ⟨rfl, hE3⟩; have hX3 := hx9.trans hE3; have d0_w3 : w3.cell? ⟨w.heap.size, 0, none⟩ = some (.int .i64 F) := hX3.keep b0; have d1_w3 : w3.cell? ⟨w.heap.size, 1, none⟩ = some (.int .i64 R) := hX3.keep b1; have d2_w3 : w3.cell? ⟨w.heap.size, 2, none⟩ = some (.slice (some ⟨gb, 0, none⟩) n n) := hX3.keep b2; have e0_w3 : w3.cell? ⟨wb.heap.size, 0, none⟩ = some (.int .i64 x.1) := hE3.keep (by simp [go_sem]); have e1_w3 : w3.cell? ⟨wb.heap.size, 1, none⟩ = some (.int .i64 x.2.1) := hE3.keep (by simp [go_sem]); have e2_w3 : w3.cell? ⟨wb.heap.size, 2, none⟩ = some (.int .i64 x.2.2) := hE3.keep (by simp [go_sem]); have l1_w3 := cell_lt d0_w3; have l2_w3 := cell_lt e0_w3)
      have hb93 := (hE3.block _ (Array.getElem?_eq_some_iff.1 hb9).1).trans hb9
      go_loopw [10, 12, 34] (fun dv _ jv wr => ∃ (j : Nat) (D : Int), j ≤ i ∧ jv = .int .i64 j ∧ dv = .int .i64 D ∧ F ≤ D ∧ D ≤ F + M ∧ (∀ j', j' < j → Shares l j' i → ds j' + R + 1 ≤ D) ∧ Ext w3 wr) (fun _ _ jv _ => i - (intOf jv).toNat)
      case atStart => exact ⟨0, F, Nat.zero_le _, rfl, rfl, Int.le_refl _, by omega, fun _ h => absurd h (by omega), Ext.refl _⟩
      case round =>
        obtain ⟨j, D, hj, rfl, rfl, hD0, hD1, hL, hXq⟩ := hrel
        have HL := Lib.hid hL
        clear hL
        obtain ⟨wq, rfl⟩ : ∃ wq, wq = wr := ⟨_, rfl⟩
        have d0_wq : wq.cell? ⟨w.heap.size, 0, none⟩ = some (.int .i64 F) := hXq.keep d0_w3; have d1_wq : wq.cell? ⟨w.heap.size, 1, none⟩ = some (.int .i64 R) := hXq.keep d1_w3; have d2_wq : wq.cell? ⟨w.heap.size, 2, none⟩ = some (.slice (some ⟨gb, 0, none⟩) n n) := hXq.keep d2_w3; have e0_wq : wq.cell? ⟨wb.heap.size, 0, none⟩ = some (.int .i64 x.1) := hXq.keep e0_w3; have e1_wq : wq.cell? ⟨wb.heap.size, 1, none⟩ = some (.int .i64 x.2.1) := hXq.keep e1_w3; have e2_wq : wq.cell? ⟨wb.heap.size, 2, none⟩ = some (.int .i64 x.2.2) := hXq.keep e2_w3
        have l1_wq := cell_lt d0_wq
        have l2_wq := cell_lt e0_wq
        by_cases hlt2 : j < i
        · obtain ⟨gO, rfl, hOc⟩ := HOC.out (by omega)
          obtain ⟨dj0, dj1⟩ := HDJ.out j hlt2
          obtain ⟨y, hy⟩ : ∃ y, y = l.getD j (0, 0, 0) := ⟨_, rfl⟩
          have hXbq : Ext wb wq := hX3.trans hXq
          have g0 : wq.cell? ⟨gO, j * 5, none⟩ = some (.int .i64 y.1) := hXbq.keep (hOc _ _ ((plV_at l ds gr 0 (by omega) i j hlt2).trans (by rw [hy]; rfl)))
          have g1 : wq.cell? ⟨gO, j * 5 + 1, none⟩ = some (.int .i64 y.2.1) := hXbq.keep (hOc _ _ ((plV_at l ds gr 1 (by omega) i j hlt2).trans (by rw [hy]; rfl)))
          have g2 : wq.cell? ⟨gO, j * 5 + 2, none⟩ = some (.int .i64 y.2.2) := hXbq.keep (hOc _ _ ((plV_at l ds gr 2 (by omega) i j hlt2).trans (by rw [hy]; rfl)))
          have g3 : wq.cell? ⟨gO, j * 5 + 3, none⟩ = some (.int .i64 (ds j)) := hXbq.keep (hOc _ _ ((plV_at l ds gr 3 (by omega) i j hlt2).trans (by rfl)))
          have g4 : wq.cell? ⟨gO, j * 5 + 4, none⟩ = some (.int .i64 (gr y.2.1)) := hXbq.keep (hOc _ _ ((plV_at l ds gr 4 (by omega) i j hlt2).trans (by rw [hy]; rfl)))
          have HSH : Hid (Shares l j i ↔ ((y.2.1 = x.2.1 ∨ y.2.2 = x.2.1) ∨ (y.2.1 = x.2.2 ∨ y.2.2 = x.2.2))) := by unfold Hid Shares homeOf awayOf; rw [hxd, hy]
          have hxq : Ext wq (wq.alloc (.cells #[.int .i64 y.1, .int .i64 y.2.1, .int .i64 y.2.2, .int .i64 (ds j), .int .i64 (gr y.2.1)] 41)) := (Ext.refl _).alloc _
          clear hOc hy
          by_cases hs1 : y.2.1 = x.2.1 ∨ y.2.2 = x.2.1
          · have HS1 : Hid (((y.2.1 : Int) == (x.2.1 : Int) || (y.2.2 : Int) == (x.2.1 : Int)) = true) := by unfold Hid; simp; omega
            clear hs1
            have hSh : Shares l j i → True := fun _ => trivial
            clear hSh
            by_cases hDD : D < ds j + R + 1
            · go_wp2_with (go_at_call 14; refine (plays_any _ (y.1 : Int) y.2.1 y.2.2 x.2.1).mono ?_; rintro e w5 ⟨rfl, hE5⟩; rw [HS1.out]; have hX5 := hxq.trans hE5; have d0_w5 : w5.cell? ⟨w.heap.size, 0, none⟩ = some (.int .i64 F) := hX5.keep d0_wq; have d1_w5 : w5.cell? ⟨w.heap.size, 1, none⟩ = some (.int .i64 R) := hX5.keep d1_wq; have d2_w5 : w5.cell? ⟨w.heap.size, 2, none⟩ = some (.slice (some ⟨gb, 0, none⟩) n n) := hX5.keep d2_wq; have e0_w5 : w5.cell? ⟨wb.heap.size, 0, none⟩ = some (.int .i64 x.1) := hX5.keep e0_wq; have e1_w5 : w5.cell? ⟨wb.heap.size, 1, none⟩ = some (.int .i64 x.2.1) := hX5.keep e1_wq; have e2_w5 : w5.cell? ⟨wb.heap.size, 2, none⟩ = some (.int .i64 x.2.2) := hX5.keep e2_wq; have f0_w5 : w5.cell? ⟨wq.heap.size, 0, none⟩ = some (.int .i64 y.1) := hE5.keep (by simp [go_sem]); have f1_w5 : w5.cell? ⟨wq.heap.size, 1, none⟩ = some (.int .i64 y.2.1) := hE5.keep (by simp [go_sem]); have f2_w5 : w5.cell? ⟨wq.heap.size, 2, none⟩ = some (.int .i64 y.2.2) := hE5.keep (by simp [go_sem]); have f3_w5 : w5.cell? ⟨wq.heap.size, 3, none⟩ = some (.int .i64 (ds j)) := hE5.keep (by simp [go_sem]); have f4_w5 : w5.cell? ⟨wq.heap.size, 4, none⟩ = some (.int .i64 (gr y.2.1)) := hE5.keep (by simp [go_sem]); have l1_w5 := cell_lt d0_w5; have l2_w5 := cell_lt e0_w5; have l3_w5 := cell_lt f0_w5)
              go_roundw
              case rel =>
                refine ⟨j + 1, ds j + R + 1, by omega, by go_num, rfl, by omega, by omega, fun j' hj' hs' => ?_, hXq.trans hX5⟩
                by_cases e : j' = j
                · subst e; exact Int.le_refl _
                · have := HL.out j' (by omega) hs'; omega
              case measure => simp [intOf]; omega
            · have hDD' : ds j + R + 1 ≤ D := by omega
              clear hDD
              go_wp2_with (go_at_call 14; refine (plays_any _ (y.1 : Int) y.2.1 y.2.2 x.2.1).mono ?_; rintro e w5 ⟨rfl, hE5⟩; rw [HS1.out]; have hX5 := hxq.trans hE5; have d0_w5 : w5.cell? ⟨w.heap.size, 0, none⟩ = some (.int .i64 F) := hX5.keep d0_wq; have d1_w5 : w5.cell? ⟨w.heap.size, 1, none⟩ = some (.int .i64 R) := hX5.keep d1_wq; have d2_w5 : w5.cell? ⟨w.heap.size, 2, none⟩ = some (.slice (some ⟨gb, 0, none⟩) n n) := hX5.keep d2_wq; have e0_w5 : w5.cell? ⟨wb.heap.size, 0, none⟩ = some (.int .i64 x.1) := hX5.keep e0_wq; have e1_w5 : w5.cell? ⟨wb.heap.size, 1, none⟩ = some (.int .i64 x.2.1) := hX5.keep e1_wq; have e2_w5 : w5.cell? ⟨wb.heap.size, 2, none⟩ = some (.int .i64 x.2.2) := hX5.keep e2_wq; have f0_w5 : w5.cell? ⟨wq.heap.size, 0, none⟩ = some (.int .i64 y.1) := hE5.keep (by simp [go_sem]); have f1_w5 : w5.cell? ⟨wq.heap.size, 1, none⟩ = some (.int .i64 y.2.1) := hE5.keep (by simp [go_sem]); have f2_w5 : w5.cell? ⟨wq.heap.size, 2, none⟩ = some (.int .i64 y.2.2) := hE5.keep (by simp [go_sem]); have f3_w5 : w5.cell? ⟨wq.heap.size, 3, none⟩ = some (.int .i64 (ds j)) := hE5.keep (by simp [go_sem]); have f4_w5 : w5.cell? ⟨wq.heap.size, 4, none⟩ = some (.int .i64 (gr y.2.1)) := hE5.keep (by simp [go_sem]); have l1_w5 := cell_lt d0_w5; have l2_w5 := cell_lt e0_w5; have l3_w5 := cell_lt f0_w5)
              go_roundw
              case rel =>
                refine ⟨j + 1, D, by omega, by go_num, rfl, by omega, by omega, fun j' hj' hs' => ?_, hXq.trans hX5⟩
                by_cases e : j' = j
                · subst e; exact hDD'
                · exact HL.out j' (by omega) hs'
              case measure => simp [intOf]; omega
          · have HS1 : Hid (((y.2.1 : Int) == (x.2.1 : Int) || (y.2.2 : Int) == (x.2.1 : Int)) = false) := by unfold Hid; simp; omega
            by_cases hs2 : y.2.1 = x.2.2 ∨ y.2.2 = x.2.2
            · have HS2 : Hid (((y.2.1 : Int) == (x.2.2 : Int) || (y.2.2 : Int) == (x.2.2 : Int)) = true) := by unfold Hid; simp; omega
              clear hs1 hs2
              have hSh : Shares l j i → True := fun _ => trivial
              clear hSh
              by_cases hDD : D < ds j + R + 1
              · go_wp2_with (first | ((fail_if_success (have hzz := hE5)); go_at_call 14; refine (plays_any _ (y.1 : Int) y.2.1 y.2.2 x.2.1).mono ?_; rintro e w5 ⟨rfl, hE5⟩; rw [HS1.out]; have hX5 := hxq.trans hE5; have d0_w5 : w5.cell? ⟨w.heap.size, 0, none⟩ = some (.int .i64 F) := hX5.keep d0_wq; have d1_w5 : w5.cell? ⟨w.heap.size, 1, none⟩ = some (.int .i64 R) := hX5.keep d1_wq; have d2_w5 : w5.cell? ⟨w.heap.size, 2, none⟩ = some (.slice (some ⟨gb, 0, none⟩) n n) := hX5.keep d2_wq; have e0_w5 : w5.cell? ⟨wb.heap.size, 0, none⟩ = some (.int .i64 x.1) := hX5.keep e0_wq; have e1_w5 : w5.cell? ⟨wb.heap.size, 1, none⟩ = some (.int .i64 x.2.1) := hX5.keep e1_wq; have e2_w5 : w5.cell? ⟨wb.heap.size, 2, none⟩ = some (.int .i64 x.2.2) := hX5.keep e2_wq; have f0_w5 : w5.cell? ⟨wq.heap.size, 0, none⟩ = some (.int .i64 y.1) := hE5.keep (by simp [go_sem]); have f1_w5 : w5.cell? ⟨wq.heap.size, 1, none⟩ = some (.int .i64 y.2.1) := hE5.keep (by simp [go_sem]); have f2_w5 : w5.cell? ⟨wq.heap.size, 2, none⟩ = some (.int .i64 y.2.2) := hE5.keep (by simp [go_sem]); have f3_w5 : w5.cell? ⟨wq.heap.size, 3, none⟩ = some (.int .i64 (ds j)) := hE5.keep (by simp [go_sem]); have f4_w5 : w5.cell? ⟨wq.heap.size, 4, none⟩ = some (.int .i64 (gr y.2.1)) := hE5.keep (by simp [go_sem]); have l1_w5 := cell_lt d0_w5; have l2_w5 := cell_lt e0_w5; have l3_w5 := cell_lt f0_w5) | (go_at_call 14; refine (plays_any _ (y.1 : Int) y.2.1 y.2.2 x.2.2).mono ?_; rintro e w6 ⟨rfl, hE6⟩; rw [HS2.out]; have hX6 := hX5.trans hE6; have d0_w6 : w6.cell? ⟨w.heap.size, 0, none⟩ = some (.int .i64 F) := hE6.keep d0_w5; have d1_w6 : w6.cell? ⟨w.heap.size, 1, none⟩ = some (.int .i64 R) := hE6.keep d1_w5; have d2_w6 : w6.cell? ⟨w.heap.size, 2, none⟩ = some (.slice (some ⟨gb, 0, none⟩) n n) := hE6.keep d2_w5; have e0_w6 : w6.cell? ⟨wb.heap.size, 0, none⟩ = some (.int .i64 x.1) := hE6.keep e0_w5; have e1_w6 : w6.cell? ⟨wb.heap.size, 1, none⟩ = some (.int .i64 x.2.1) := hE6.keep e1_w5; have e2_w6 : w6.cell? ⟨wb.heap.size, 2, none⟩ = some (.int .i64 x.2.2) := hE6.keep e2_w5; have f0_w6 : w6.cell? ⟨wq.heap.size, 0, none⟩ = some (.int .i64 y.1) := hE6.keep f0_w5; have f1_w6 : w6.cell? ⟨wq.heap.size, 1, none⟩ = some (.int .i64 y.2.1) := hE6.keep f1_w5; have f2_w6 : w6.cell? ⟨wq.heap.size, 2, none⟩ = some (.int .i64 y.2.2) := hE6.keep f2_w5; have f3_w6 : w6.cell? ⟨wq.heap.size, 3, none⟩ = some (.int .i64 (ds j)) := hE6.keep f3_w5; have f4_w6 : w6.cell? ⟨wq.heap.size, 4, none⟩ = some (.int .i64 (gr y.2.1)) := hE6.keep f4_w5; have l1_w6 := cell_lt d0_w6; have l2_w6 := cell_lt e0_w6; have l3_w6 := cell_lt f0_w6))
                go_roundw
                case rel =>
                  refine ⟨j + 1, ds j + R + 1, by omega, by go_num, rfl, by omega, by omega, fun j' hj' hs' => ?_, hXq.trans hX6⟩
                  by_cases e : j' = j
                  · subst e; exact Int.le_refl _
                  · have := HL.out j' (by omega) hs'; omega
                case measure => simp [intOf]; omega
              · have hDD' : ds j + R + 1 ≤ D := by omega
                clear hDD
                go_wp2_with (first | ((fail_if_success (have hzz := hE5)); go_at_call 14; refine (plays_any _ (y.1 : Int) y.2.1 y.2.2 x.2.1).mono ?_; rintro e w5 ⟨rfl, hE5⟩; rw [HS1.out]; have hX5 := hxq.trans hE5; have d0_w5 : w5.cell? ⟨w.heap.size, 0, none⟩ = some (.int .i64 F) := hX5.keep d0_wq; have d1_w5 : w5.cell? ⟨w.heap.size, 1, none⟩ = some (.int .i64 R) := hX5.keep d1_wq; have d2_w5 : w5.cell? ⟨w.heap.size, 2, none⟩ = some (.slice (some ⟨gb, 0, none⟩) n n) := hX5.keep d2_wq; have e0_w5 : w5.cell? ⟨wb.heap.size, 0, none⟩ = some (.int .i64 x.1) := hX5.keep e0_wq; have e1_w5 : w5.cell? ⟨wb.heap.size, 1, none⟩ = some (.int .i64 x.2.1) := hX5.keep e1_wq; have e2_w5 : w5.cell? ⟨wb.heap.size, 2, none⟩ = some (.int .i64 x.2.2) := hX5.keep e2_wq; have f0_w5 : w5.cell? ⟨wq.heap.size, 0, none⟩ = some (.int .i64 y.1) := hE5.keep (by simp [go_sem]); have f1_w5 : w5.cell? ⟨wq.heap.size, 1, none⟩ = some (.int .i64 y.2.1) := hE5.keep (by simp [go_sem]); have f2_w5 : w5.cell? ⟨wq.heap.size, 2, none⟩ = some (.int .i64 y.2.2) := hE5.keep (by simp [go_sem]); have f3_w5 : w5.cell? ⟨wq.heap.size, 3, none⟩ = some (.int .i64 (ds j)) := hE5.keep (by simp [go_sem]); have f4_w5 : w5.cell? ⟨wq.heap.size, 4, none⟩ = some (.int .i64 (gr y.2.1)) := hE5.keep (by simp [go_sem]); have l1_w5 := cell_lt d0_w5; have l2_w5 := cell_lt e0_w5; have l3_w5 := cell_lt f0_w5) | (go_at_call 14; refine (plays_any _ (y.1 : Int) y.2.1 y.2.2 x.2.2).mono ?_; rintro e w6 ⟨rfl, hE6⟩; rw [HS2.out]; have hX6 := hX5.trans hE6; have d0_w6 : w6.cell? ⟨w.heap.size, 0, none⟩ = some (.int .i64 F) := hE6.keep d0_w5; have d1_w6 : w6.cell? ⟨w.heap.size, 1, none⟩ = some (.int .i64 R) := hE6.keep d1_w5; have d2_w6 : w6.cell? ⟨w.heap.size, 2, none⟩ = some (.slice (some ⟨gb, 0, none⟩) n n) := hE6.keep d2_w5; have e0_w6 : w6.cell? ⟨wb.heap.size, 0, none⟩ = some (.int .i64 x.1) := hE6.keep e0_w5; have e1_w6 : w6.cell? ⟨wb.heap.size, 1, none⟩ = some (.int .i64 x.2.1) := hE6.keep e1_w5; have e2_w6 : w6.cell? ⟨wb.heap.size, 2, none⟩ = some (.int .i64 x.2.2) := hE6.keep e2_w5; have f0_w6 : w6.cell? ⟨wq.heap.size, 0, none⟩ = some (.int .i64 y.1) := hE6.keep f0_w5; have f1_w6 : w6.cell? ⟨wq.heap.size, 1, none⟩ = some (.int .i64 y.2.1) := hE6.keep f1_w5; have f2_w6 : w6.cell? ⟨wq.heap.size, 2, none⟩ = some (.int .i64 y.2.2) := hE6.keep f2_w5; have f3_w6 : w6.cell? ⟨wq.heap.size, 3, none⟩ = some (.int .i64 (ds j)) := hE6.keep f3_w5; have f4_w6 : w6.cell? ⟨wq.heap.size, 4, none⟩ = some (.int .i64 (gr y.2.1)) := hE6.keep f4_w5; have l1_w6 := cell_lt d0_w6; have l2_w6 := cell_lt e0_w6; have l3_w6 := cell_lt f0_w6))
                go_roundw
                case rel =>
                  refine ⟨j + 1, D, by omega, by go_num, rfl, by omega, by omega, fun j' hj' hs' => ?_, hXq.trans hX6⟩
                  by_cases e : j' = j
                  · subst e; exact hDD'
                  · exact HL.out j' (by omega) hs'
                case measure => simp [intOf]; omega
            · have HS2 : Hid (((y.2.1 : Int) == (x.2.2 : Int) || (y.2.2 : Int) == (x.2.2 : Int)) = false) := by unfold Hid; simp; omega
              have HNS : Hid (¬ Shares l j i) := by unfold Hid; rw [HSH.out]; omega
              clear hs1 hs2
              go_wp2_with (first | ((fail_if_success (have hzz := hE5)); go_at_call 14; refine (plays_any _ (y.1 : Int) y.2.1 y.2.2 x.2.1).mono ?_; rintro e w5 ⟨rfl, hE5⟩; rw [HS1.out]; have hX5 := hxq.trans hE5; have d0_w5 : w5.cell? ⟨w.heap.size, 0, none⟩ = some (.int .i64 F) := hX5.keep d0_wq; have d1_w5 : w5.cell? ⟨w.heap.size, 1, none⟩ = some (.int .i64 R) := hX5.keep d1_wq; have d2_w5 : w5.cell? ⟨w.heap.size, 2, none⟩ = some (.slice (some ⟨gb, 0, none⟩) n n) := hX5.keep d2_wq; have e0_w5 : w5.cell? ⟨wb.heap.size, 0, none⟩ = some (.int .i64 x.1) := hX5.keep e0_wq; have e1_w5 : w5.cell? ⟨wb.heap.size, 1, none⟩ = some (.int .i64 x.2.1) := hX5.keep e1_wq; have e2_w5 : w5.cell? ⟨wb.heap.size, 2, none⟩ = some (.int .i64 x.2.2) := hX5.keep e2_wq; have f0_w5 : w5.cell? ⟨wq.heap.size, 0, none⟩ = some (.int .i64 y.1) := hE5.keep (by simp [go_sem]); have f1_w5 : w5.cell? ⟨wq.heap.size, 1, none⟩ = some (.int .i64 y.2.1) := hE5.keep (by simp [go_sem]); have f2_w5 : w5.cell? ⟨wq.heap.size, 2, none⟩ = some (.int .i64 y.2.2) := hE5.keep (by simp [go_sem]); have f3_w5 : w5.cell? ⟨wq.heap.size, 3, none⟩ = some (.int .i64 (ds j)) := hE5.keep (by simp [go_sem]); have f4_w5 : w5.cell? ⟨wq.heap.size, 4, none⟩ = some (.int .i64 (gr y.2.1)) := hE5.keep (by simp [go_sem]); have l1_w5 := cell_lt d0_w5; have l2_w5 := cell_lt e0_w5; have l3_w5 := cell_lt f0_w5) | (go_at_call 14; refine (plays_any _ (y.1 : Int) y.2.1 y.2.2 x.2.2).mono ?_; rintro e w6 ⟨rfl, hE6⟩; rw [HS2.out]; have hX6 := hX5.trans hE6; have d0_w6 : w6.cell? ⟨w.heap.size, 0, none⟩ = some (.int .i64 F) := hE6.keep d0_w5; have d1_w6 : w6.cell? ⟨w.heap.size, 1, none⟩ = some (.int .i64 R) := hE6.keep d1_w5; have d2_w6 : w6.cell? ⟨w.heap.size, 2, none⟩ = some (.slice (some ⟨gb, 0, none⟩) n n) := hE6.keep d2_w5; have e0_w6 : w6.cell? ⟨wb.heap.size, 0, none⟩ = some (.int .i64 x.1) := hE6.keep e0_w5; have e1_w6 : w6.cell? ⟨wb.heap.size, 1, none⟩ = some (.int .i64 x.2.1) := hE6.keep e1_w5; have e2_w6 : w6.cell? ⟨wb.heap.size, 2, none⟩ = some (.int .i64 x.2.2) := hE6.keep e2_w5; have f0_w6 : w6.cell? ⟨wq.heap.size, 0, none⟩ = some (.int .i64 y.1) := hE6.keep f0_w5; have f1_w6 : w6.cell? ⟨wq.heap.size, 1, none⟩ = some (.int .i64 y.2.1) := hE6.keep f1_w5; have f2_w6 : w6.cell? ⟨wq.heap.size, 2, none⟩ = some (.int .i64 y.2.2) := hE6.keep f2_w5; have f3_w6 : w6.cell? ⟨wq.heap.size, 3, none⟩ = some (.int .i64 (ds j)) := hE6.keep f3_w5; have f4_w6 : w6.cell? ⟨wq.heap.size, 4, none⟩ = some (.int .i64 (gr y.2.1)) := hE6.keep f4_w5; have l1_w6 := cell_lt d0_w6; have l2_w6 := cell_lt e0_w6; have l3_w6 := cell_lt f0_w6))
              go_roundw
              case rel =>
                refine ⟨j + 1, D, by omega, by go_num, rfl, by omega, by omega, fun j' hj' hs' => ?_, hXq.trans hX6⟩
                by_cases e : j' = j
                · subst e; exact absurd hs' HNS.out
                · exact HL.out j' (by omega) hs'
              case measure => simp [intOf]; omega
        · obtain rfl : i = j := by omega
          go_wp2_with fail
          go_loopw [10] (fun dv wr => ∃ D : Int, dv = .int .i64 D ∧ F ≤ D ∧ D ≤ F + M ∧ (∀ j', j' < i → Shares l j' i → ds j' + R + 1 ≤ D) ∧ Ext wq wr) (fun dv _ => (F + M + 1 - intOf dv).toNat)
          case atStart => exact ⟨D, rfl, hD0, hD1, HL.out, Ext.refl _⟩
          case round =>
            obtain ⟨D2, rfl, a0, a1, hL2, hXr⟩ := hrel
            have HL2 := Lib.hid hL2
            clear hL2
            obtain ⟨wt, rfl⟩ : ∃ wt, wt = wr := ⟨_, rfl⟩
            have d0_wt : wt.cell? ⟨w.heap.size, 0, none⟩ = some (.int .i64 F) := hXr.keep d0_wq; have d1_wt : wt.cell? ⟨w.heap.size, 1, none⟩ = some (.int .i64 R) := hXr.keep d1_wq; have d2_wt : wt.cell? ⟨w.heap.size, 2, none⟩ = some (.slice (some ⟨gb, 0, none⟩) n n) := hXr.keep d2_wq; have e0_wt : wt.cell? ⟨wb.heap.size, 0, none⟩ = some (.int .i64 x.1) := hXr.keep e0_wq; have e1_wt : wt.cell? ⟨wb.heap.size, 1, none⟩ = some (.int .i64 x.2.1) := hXr.keep e1_wq; have e2_wt : wt.cell? ⟨wb.heap.size, 2, none⟩ = some (.int .i64 x.2.2) := hXr.keep e2_wq
            have l1_wt := cell_lt d0_wt
            have l2_wt := cell_lt e0_wt
            have hXt : Ext (w.alloc (.cells #[.int .i64 F, .int .i64 R, .slice (some ⟨gb, 0, none⟩) n n] 24)) wt := (hX.trans ((hX3.trans hXq).trans hXr))
            have hgt : wt.cell? ⟨gb, x.2.1, none⟩ = some (.int .i64 (gr x.2.1)) := hXt.keep hgc0
            have hownt := own_ext HOwn.out ((hX3.trans hXq).trans hXr)
            have hb9t := ((hXq.trans hXr).block _ (Array.getElem?_eq_some_iff.1 hb93).1).trans hb93
            replace hownt := Lib.hid hownt
            go_wp2_with fail
            refine (taken_any _ l ds gr i (gr x.2.1) D2 _ hownt.out (by omega)).mono ?_
            rintro e w4 ⟨bb, rfl, hE4, hyes, hno⟩
            have d0_w4 : w4.cell? ⟨w.heap.size, 0, none⟩ = some (.int .i64 F) := hE4.keep d0_wt; have d1_w4 : w4.cell? ⟨w.heap.size, 1, none⟩ = some (.int .i64 R) := hE4.keep d1_wt; have d2_w4 : w4.cell? ⟨w.heap.size, 2, none⟩ = some (.slice (some ⟨gb, 0, none⟩) n n) := hE4.keep d2_wt; have e0_w4 : w4.cell? ⟨wb.heap.size, 0, none⟩ = some (.int .i64 x.1) := hE4.keep e0_wt; have e1_w4 : w4.cell? ⟨wb.heap.size, 1, none⟩ = some (.int .i64 x.2.1) := hE4.keep e1_wt; have e2_w4 : w4.cell? ⟨wb.heap.size, 2, none⟩ = some (.int .i64 x.2.2) := hE4.keep e2_wt
            have l1_w4 := cell_lt d0_w4
            have l2_w4 := cell_lt e0_w4
            have hX4 : Ext (w.alloc (.cells #[.int .i64 F, .int .i64 R, .slice (some ⟨gb, 0, none⟩) n n] 24)) w4 := hXt.trans hE4
            have hg4 : w4.cell? ⟨gb, x.2.1, none⟩ = some (.int .i64 (gr x.2.1)) := hE4.keep hgt
            have lg4 := cell_lt hg4
            have hown4 := own_ext hownt.out hE4
            have hb94 := (hE4.block _ (Array.getElem?_eq_some_iff.1 hb9t).1).trans hb9t
            have HB := Lib.hid hb94
            have HOwn4 := Lib.hid hown4
            have HYes := Lib.hid hyes
            have HNo := Lib.hid hno
            clear hown4 hyes hno hb94 hb9t hb93 hb9
            cases bb
            · go_wp2_with fail
              refine wp_region_held_drew (S := (fun w' => w'.cell? ⟨w.heap.size, 2, none⟩ = some (.slice (some ⟨gb, 0, none⟩) n n) ∧ w'.cell? ⟨gb, x.2.1, none⟩ = some (.int .i64 (gr x.2.1)) ∧ w'.cell? ⟨wb.heap.size, 0, none⟩ = some (.int .i64 x.1) ∧ w'.cell? ⟨wb.heap.size, 1, none⟩ = some (.int .i64 x.2.1) ∧ w'.cell? ⟨wb.heap.size, 2, none⟩ = some (.int .i64 x.2.2))) (by kernel_rfl) (by simp [go_sem, *]) (fun hHeld => ?_)
              refine wpAnyH_take (i := 0) (v := ?v1) rfl (by kernel_rfl) (by kernel_rfl) (by kernel_rfl) (fun _ _ _ h => h) (Or.inl ⟨by rfl, ?y1⟩) (by assumption) ?r1
              case y1 => ((intro w hSw; (try dsimp only at hSw); go_simp; (first | done | with_reducible rfl)))
              (try simp only [List.getElem_toArray, List.getElem_cons_succ, List.getElem_cons_zero, Act.put, List.setIfInBounds_toArray, List.set_cons_zero, List.set_cons_succ])
              refine wpAnyH_take (i := 1) (v := ?v2) rfl (by kernel_rfl) (by kernel_rfl) (by kernel_rfl) (fun _ _ _ h => h) (Or.inl ⟨by rfl, ?y2⟩) (by assumption) ?r2
              case y2 => ((intro w hSw; (try dsimp only at hSw); go_simp; (first | done | with_reducible rfl)))
              (try simp only [List.getElem_toArray, List.getElem_cons_succ, List.getElem_cons_zero, Act.put, List.setIfInBounds_toArray, List.set_cons_zero, List.set_cons_succ])
              refine wpAnyH_take (i := 2) (v := ?v3) rfl (by kernel_rfl) (by kernel_rfl) (by kernel_rfl) (fun _ _ _ h => h) (Or.inl ⟨by rfl, ?y3⟩) (by assumption) ?r3
              case y3 => ((intro w hSw; (try dsimp only at hSw); go_simp; (first | done | with_reducible rfl)))
              (try simp only [List.getElem_toArray, List.getElem_cons_succ, List.getElem_cons_zero, Act.put, List.setIfInBounds_toArray, List.set_cons_zero, List.set_cons_succ])
              refine wpAnyH_take (i := 3) (v := ?v4) rfl (by kernel_rfl) (by kernel_rfl) (by kernel_rfl) (fun _ _ _ h => h) (Or.inl ⟨by rfl, ?y4⟩) (by assumption) ?r4
              case y4 => ((intro w hSw; (try dsimp only at hSw); go_simp; (first | done | with_reducible rfl)))
              (try simp only [List.getElem_toArray, List.getElem_cons_succ, List.getElem_cons_zero, Act.put, List.setIfInBounds_toArray, List.set_cons_zero, List.set_cons_succ])
              refine wpAnyH_take (i := 4) (v := ?v5) rfl (by kernel_rfl) (by kernel_rfl) (by kernel_rfl) (fun _ _ _ h => h) (Or.inl ⟨by rfl, ?y5⟩) (by assumption) ?r5
              case y5 => ((intro w hSw; (try dsimp only at hSw); go_simp; (first | done | with_reducible rfl)))
              (try simp only [List.getElem_toArray, List.getElem_cons_succ, List.getElem_cons_zero, Act.put, List.setIfInBounds_toArray, List.set_cons_zero, List.set_cons_succ])
              refine wpAnyH_take (i := 5) (v := ?v6) rfl (by kernel_rfl) (by kernel_rfl) (by kernel_rfl) (fun _ _ _ h => h) (Or.inl ⟨by rfl, ?y6⟩) (by assumption) ?r6
              case y6 => ((intro w hSw; (try dsimp only at hSw); go_simp; (first | done | with_reducible rfl)))
              (try simp only [List.getElem_toArray, List.getElem_cons_succ, List.getElem_cons_zero, Act.put, List.setIfInBounds_toArray, List.set_cons_zero, List.set_cons_succ])
              refine wpAnyH_take (i := 6) (v := ?v7) rfl (by kernel_rfl) (by kernel_rfl) (by kernel_rfl) (fun _ _ _ h => h) (Or.inl ⟨by rfl, ?y7⟩) (by assumption) ?r7
              case y7 => ((intro w hSw; (try dsimp only at hSw); go_simp; (first | done | with_reducible rfl)))
              (try simp only [List.getElem_toArray, List.getElem_cons_succ, List.getElem_cons_zero, Act.put, List.setIfInBounds_toArray, List.set_cons_zero, List.set_cons_succ])
              refine wpAnyH_take (i := 7) (v := ?v8) rfl (by kernel_rfl) (by kernel_rfl) (by kernel_rfl) (fun _ _ _ h => h) (Or.inl ⟨by rfl, ?y8⟩) (by assumption) ?r8
              case y8 => ((intro w hSw; (try dsimp only at hSw); go_simp; (first | done | with_reducible rfl)))
              (try simp only [List.getElem_toArray, List.getElem_cons_succ, List.getElem_cons_zero, Act.put, List.setIfInBounds_toArray, List.set_cons_zero, List.set_cons_succ])
              refine wpAnyH_take (i := 8) (v := ?v9) rfl (by kernel_rfl) (by kernel_rfl) (by kernel_rfl) (fun _ _ _ h => h) (Or.inl ⟨by rfl, ?y9⟩) (by assumption) ?r9
              case y9 => ((intro w hSw; (try dsimp only at hSw); go_simp; (first | done | with_reducible rfl)))
              (try simp only [List.getElem_toArray, List.getElem_cons_succ, List.getElem_cons_zero, Act.put, List.setIfInBounds_toArray, List.set_cons_zero, List.set_cons_succ])
              refine wpAnyH_take (i := 9) (v := ?v10) rfl (by kernel_rfl) (by kernel_rfl) (by kernel_rfl) (fun _ _ _ h => h) (Or.inl ⟨by rfl, ?y10⟩) (by assumption) ?r10
              case y10 => ((intro w hSw; (try dsimp only at hSw); go_simp; (first | done | with_reducible rfl)))
              (try simp only [List.getElem_toArray, List.getElem_cons_succ, List.getElem_cons_zero, Act.put, List.setIfInBounds_toArray, List.set_cons_zero, List.set_cons_succ])
              refine wpAnyH_ready (rs := [10]) (by kernel_rfl) (by simp) ?_
              refine AllReadyH.cons rfl (fun K hK => ?_) AllReadyH.nil
              go_simp
              skip
              refine hK.out _ _ (by first | (dsimp only; simp [go_sem, *]; done) | (simp [go_sem, *])) (fun hHeld => ?_)
              clear hK K
              (try simp only [List.getElem_toArray, List.getElem_cons_succ, List.getElem_cons_zero, Act.put, List.setIfInBounds_toArray, List.set_cons_zero, List.set_cons_succ])
              refine wpAnyH_ready (rs := [11]) (by kernel_rfl) (by simp) ?_
              refine AllReadyH.cons rfl (fun K hK => ?_) AllReadyH.nil
              refine step_append_lies _ rfl _ _ 32 rfl (w.heap.size + 1) 41 iP (.agg #[.int .i64 0, .int .i64 0, .int .i64 0, .int .i64 0, .int .i64 0]) 5 40 Try.underlying32 hPi hPz hPs hPb rfl (by decide) (.slice Ao i co) i (plV l ds gr i) rfl (own_ext HOwn4.out (by repeat (first | exact Ext.refl _ | refine Ext.drew ?_ | refine Ext.drewN ?_ _ | refine Ext.alloc ?_ _))) ⟨w4.heap.size, 0, none⟩ 1 1 [.int .i64 x.1, .int .i64 x.2.1, .int .i64 x.2.2, .int .i64 D2, .int .i64 (gr x.2.1)] rfl rfl ?o1 ?o2 (by decide) (by unfold maxLen; omega) (by omega) (by have := hX4.size; simp at this ⊢; omega) _ rfl ?_
              case o1 =>
                intro j u hu
                rcases j with _ | _ | _ | _ | _ | j
                · simp at hu; subst hu; simp [go_sem, Addr.add]
                · simp at hu; subst hu; simp [go_sem, Addr.add]
                · simp at hu; subst hu; simp [go_sem, Addr.add]
                · simp at hu; subst hu; simp [go_sem, Addr.add]
                · simp at hu; subst hu; simp [go_sem, Addr.add]
                · simp at hu
              case o2 => intro u hu; simp at hu; rcases hu with rfl | rfl | rfl | rfl | rfl <;> rfl
              intro g1 cap1 w8 hown8 hgr8 _ _
              have hx7 : Ext w4 ((w4.alloc (.cells #[.int .i64 x.1, .int .i64 x.2.1, .int .i64 x.2.2, .int .i64 D2, .int .i64 (gr x.2.1)] 41)).drew) := (by repeat (first | exact Ext.refl _ | refine Ext.drew ?_ | refine Ext.drewN ?_ _ | refine Ext.alloc ?_ _))
              have hgr9 : World.grownBy ((w4.alloc (.cells #[.int .i64 x.1, .int .i64 x.2.1, .int .i64 x.2.2, .int .i64 D2, .int .i64 (gr x.2.1)] 41)).drew) w8 (Value.ownBlock (.slice Ao i co)) := hgr8
              have hown7 := own_ext HOwn4.out hx7
              have hX8 : Ext (w.alloc (.cells #[.int .i64 F, .int .i64 R, .slice (some ⟨gb, 0, none⟩) n n] 24)) w8 := ext_grown (hX4.trans hx7) hgr9 (fun k hk => by have := own_row_ge hown7 k hk; simp; omega)
              have hb97 := (hx7.block _ (Array.getElem?_eq_some_iff.1 HB.out).1).trans HB.out
              have hne : some wb.heap.size ≠ Value.ownBlock (.slice Ao i co) := by
                rcases own_ne_blk hown7 hb97 (by decide) with e | e
                · rw [e]; exact fun h => by cases h
                · exact fun h => e h.symm
              have hb98 := (hgr9.block _ (Array.getElem?_eq_some_iff.1 hb97).1 hne).trans hb97
              have s1 := Lib.cell_of_heap hb98 0
              have s2 := Lib.cell_of_heap hb98 1
              have s3 := Lib.cell_of_heap hb98 2
              simp only [List.getElem?_toArray, List.getElem?_cons_succ, List.getElem?_cons_zero] at s1 s2 s3
              have s4 : w8.cell? ⟨w.heap.size, 2, none⟩ = some (.slice (some ⟨gb, 0, none⟩) n n) := hX8.keep (by simp [go_sem])
              have s5 : w8.cell? ⟨gb, x.2.1, none⟩ = some (.int .i64 (gr x.2.1)) := hX8.keep hgc0
              refine hK.out _ _ (by first | exact ⟨s4, s5, s1, s2, s3⟩ | (dsimp only; simp [go_sem, *]; done) | (simp [go_sem, *])) (fun hHeld => ?_)
              clear hK K
              (try simp only [List.getElem_toArray, List.getElem_cons_succ, List.getElem_cons_zero, Act.put, List.setIfInBounds_toArray, List.set_cons_zero, List.set_cons_succ])
              refine wpAnyH_ready (rs := [12]) (by kernel_rfl) (by simp) ?_
              refine AllReadyH.cons rfl (fun K hK => ?_) AllReadyH.nil
              go_simp
              skip
              refine hK.out _ _ (by first | (dsimp only; simp [go_sem, *]; done) | (simp [go_sem, *])) (fun hHeld => ?_)
              clear hK K
              (try simp only [List.getElem_toArray, List.getElem_cons_succ, List.getElem_cons_zero, Act.put, List.setIfInBounds_toArray, List.set_cons_zero, List.set_cons_succ])
              refine wpAnyH_done (by kernel_rfl) ?_ _
              go_wp2_with fail
              have hps := plV_step l ds gr i D2
              rw [hxd] at hps
              have hown9 : w8.ownsRow (w.heap.size + 1) 41 5 (.slice (some ⟨g1, 0, none⟩) (i + 1) cap1) (i + 1) (plV l (setN ds i D2) gr (i + 1)) := by rw [← hps]; exact hown8
              have hho : homeOf l i = x.2.1 := by unfold homeOf; rw [hxd]
              go_roundw
              case rel => exact ⟨i + 1, setN ds i D2, by omega, by go_num, own_ext hown9 (by repeat (first | exact Ext.refl _ | refine Ext.drew ?_ | refine Ext.drewN ?_ _ | refine Ext.alloc ?_ _)), place_step HP.out a0 (by rw [← HM.out]; exact a1) HL2.out (by rw [hho]; exact HNo.out (by first | rfl | trivial)), by repeat (first | exact hX8 | refine Ext.drew ?_ | refine Ext.drewN ?_ _)⟩
              case measure => simp [intOf]; omega
            · obtain ⟨j', hj', ht⟩ := HYes.out rfl
              obtain ⟨t0, t1⟩ := HDJ.out j' hj'
              have t2 := ht.2
              clear ht
              have t3 : D2 + 1 ≤ F + M := by omega
              clear t0 t1 t2
              go_wp2_with fail
              go_roundw
              case rel => exact ⟨D2 + 1, by go_num, by omega, by omega, fun j' hj' hs' => by have := HL2.out j' hj' hs'; omega, hXr.trans hE4⟩
              case measure => simp [intOf]; omega
    · obtain rfl : i = l.length := by omega
      go_wp2
      go_ret2
      exact ⟨_, ds, rfl, ((Ext.refl w).alloc _).trans hX, HOwn.out, HP.out⟩

end Go.Proofs.Ytdaidanpcehnnaa

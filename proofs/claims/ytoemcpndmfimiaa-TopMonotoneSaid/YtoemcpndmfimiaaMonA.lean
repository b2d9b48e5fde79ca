/-
  Rows that the call itself owns (RowsAt), and the contract of wanted of package fit.
-/
import Derived.Test.YtoemcpndmfimiaaMonP
import Derived.Test.YtoemcpndmfimiaaMem
namespace Go.Proofs.Ytoemcpndmfimiaa
open Go.RowKit
set_option linter.unusedSimpArgs false

/-- n rows of m numbers in blocks of their own, their headers in the block tb. -/
structure RowsAt (w : World) (tb n m : Nat) (G C : Nat → Nat) (Z : Nat → Nat → Int) : Prop where
  head : ∀ i, i < n → w.cell? ⟨tb, i, none⟩ = some (.slice (some ⟨G i, 0, none⟩) m (C i))
  cell : ∀ i j, i < n → j < m → w.cell? ⟨G i, j, none⟩ = some (.int .i64 (Z i j))
  froz : ∀ i j, i < n → j < m → w.frozen? ⟨G i, j, none⟩ = false
  inj : ∀ i j, i < n → j < n → G i = G j → i = j
  ne : ∀ i, i < n → G i ≠ tb
  bd : ∀ i j, i < n → j < m → 0 ≤ Z i j ∧ Z i j ≤ 10000
section
variable {w w' : World} {tb n m : Nat} {G C : Nat → Nat} {Z : Nat → Nat → Int}
theorem RowsAt.ext (h : RowsAt w tb n m G C Z) (x : Ext w w') : RowsAt w' tb n m G C Z where
  head := fun i hi => x.keep (h.head i hi)
  cell := fun i j hi hj => x.keep (h.cell i j hi hj)
  froz := fun i j hi hj => (x.cells.2 _ _ (cell_lt (h.cell i j hi hj))).trans (h.froz i j hi hj)
  inj := h.inj
  ne := h.ne
  bd := h.bd
theorem RowsAt.tab (h : RowsAt w tb n m G C Z) (hn : n ≤ 91) (hm : m ≤ 10) : TabAt w (some ⟨tb, 0, none⟩) n (fun i => some ⟨G i, 0, none⟩) (fun _ => m) C Z tb 0 G (fun _ => 0) where
  nle := by omega
  lle := fun _ _ => by omega
  top := fun k => ⟨rfl, cell_lt (h.head 0 k)⟩
  row := fun i hi => by simpa using h.head i hi
  got := fun i hi hl => ⟨rfl, cell_lt (h.cell i 0 hi hl)⟩
  cell := fun i j hi hj => by simpa using h.cell i j hi hj
  wf := fun i j hi hj => by have := h.bd i j hi hj; omega
theorem RowsAt.store (h : RowsAt w tb n m G C Z) {u v : Nat} {x : Int} (hu : u < n) (hv : v < m) (hx : 0 ≤ x ∧ x ≤ 10000) : RowsAt (w.setCell ⟨G u, v, none⟩ (.int .i64 x)) tb n m G C (upd Z u v x) where
  head := fun i hi => by
    rw [World.cell?_setCell_other _ _ _ _ (fun e => h.ne u hu (congrArg Addr.block e))]; exact h.head i hi
  cell := fun i j hi hj => by
    by_cases e : i = u ∧ j = v
    · obtain ⟨rfl, rfl⟩ := e
      rw [upd_same]; exact World.cell?_setCell_same _ _ _ (h.cell i j hi hj)
    · rw [upd_ne _ _ e, World.cell?_setCell_other _ _ _ _ (fun k => e ⟨(h.inj u i hu hi (congrArg Addr.block k)).symm, (congrArg Addr.off k).symm⟩)]; exact h.cell i j hi hj
  froz := fun i j hi hj => by simpa using h.froz i j hi hj
  inj := h.inj
  ne := h.ne
  bd := fun i j hi hj => by
    by_cases e : i = u ∧ j = v
    · obtain ⟨rfl, rfl⟩ := e; rw [upd_same]; exact hx
    · rw [upd_ne _ _ e]; exact h.bd i j hi hj
end

set_option maxHeartbeats 4000000 in
theorem wanted_any (w : World) {tb n m : Nat} {G C : Nat → Nat} {Z : Nat → Nat → Int} (c u v : Nat) (T : RowsAt w tb n m G C Z) (hn : n ≤ 91) (hm : m ≤ 10) (hu : u < n) (hv : v < m) :
    Calls Try.prog 17 #[.slice (some ⟨tb, 0, none⟩) n c, .int .i64 u, .int .i64 v] w fun e w' => e = .returned (.int .i64 (wantV n m Z u v)) ∧ Ext w w' := by
  have hb := cell_lt (T.head u hu)
  have hG := cell_lt (T.cell u v hu hv)
  have h1 := T.head u hu
  have h2 := T.cell u v hu hv
  obtain ⟨z1, z2⟩ := T.bd u v hu hv
  have hnext : v + 1 < m → w.cell? ⟨G u, v + 1, none⟩ = some (.int .i64 (Z u (v + 1))) ∧ 0 ≤ Z u (v + 1) ∧ Z u (v + 1) ≤ 10000 := fun h => ⟨T.cell u (v + 1) hu h, T.bd u (v + 1) hu h⟩
  have hprev : 0 < u → w.cell? ⟨tb, u - 1, none⟩ = some (.slice (some ⟨G (u - 1), 0, none⟩) m (C (u - 1))) ∧ w.cell? ⟨G (u - 1), v, none⟩ = some (.int .i64 (Z (u - 1) v)) ∧ G (u - 1) < w.heap.size ∧ 0 ≤ Z (u - 1) v ∧ Z (u - 1) v ≤ 10000 :=
    fun h => ⟨T.head _ (by omega), T.cell _ v (by omega) hv, cell_lt (T.cell _ v (by omega) hv), T.bd _ v (by omega) hv⟩
  have hfol : u + 1 < n → w.cell? ⟨tb, u + 1, none⟩ = some (.slice (some ⟨G (u + 1), 0, none⟩) m (C (u + 1))) ∧ w.cell? ⟨G (u + 1), v, none⟩ = some (.int .i64 (Z (u + 1) v)) ∧ G (u + 1) < w.heap.size ∧ 0 ≤ Z (u + 1) v ∧ Z (u + 1) v ≤ 10000 :=
    fun h => ⟨T.head _ (by omega), T.cell _ v (by omega) hv, cell_lt (T.cell _ v (by omega) hv), T.bd _ v (by omega) hv⟩
  clear T
  obtain ⟨R, HR⟩ : ∃ R, R = wantV n m Z u v := ⟨_, rfl⟩
  rw [← HR]
  unfold wantV at HR
  by_cases b2 : 0 < u
  · obtain ⟨p1, p2, p3, p4, p5⟩ := hprev b2
    have q1 : (0 : Int) ≤ (u : Int) - 1 := by omega
    rw [if_pos b2] at HR
    by_cases b1 : v + 1 < m
    · obtain ⟨f1, f2, f3⟩ := hnext b1
      rw [if_pos b1] at HR
      by_cases b3 : u + 1 < n
      · obtain ⟨g1, g2, g3, g4, g5⟩ := hfol b3
        rw [if_pos ⟨b2, b3⟩] at HR
        have hD : Int.tdiv (Z (u - 1) v + Z (u + 1) v + 1) 2 = (Z (u - 1) v + Z (u + 1) v + 1) / 2 := Int.tdiv_eq_ediv_of_nonneg (by omega)
        obtain ⟨D, hD'⟩ : ∃ D, D = (Z (u - 1) v + Z (u + 1) v + 1) / 2 := ⟨_, rfl⟩
        have d1 : 0 ≤ D ∧ D ≤ 10000 := by omega
        rw [← hD'] at hD HR
        obtain ⟨d1, d2⟩ := d1
        clear hD'
        replace HR := Lib.hid HR
        clear hnext hprev hfol
        rcases Int.lt_or_le (Z u v) (Z u (v + 1)) with c0 | c0
        · skip
          rcases Int.lt_or_le (Z u (v + 1)) (Z (u - 1) v) with c1 | c1
          · skip
            rcases Int.lt_or_le (Z (u - 1) v) (D) with c2 | c2
            · skip
              go_enter Try.func17, Try.ntmps17
              go_wp2
              go_quiet (fail)
              go_wp2
              go_ret
              exact ⟨ret1 (by have := HR.out; omega), by first | exact Ext.refl _ | exact (Ext.refl _).drewN _ | exact (Ext.refl _).drew⟩
            · skip
              go_enter Try.func17, Try.ntmps17
              go_wp2
              go_quiet (fail)
              go_wp2
              go_ret
              exact ⟨ret1 (by have := HR.out; omega), by first | exact Ext.refl _ | exact (Ext.refl _).drewN _ | exact (Ext.refl _).drew⟩
          · skip
            rcases Int.lt_or_le (Z u (v + 1)) (D) with c2 | c2
            · skip
              go_enter Try.func17, Try.ntmps17
              go_wp2
              go_quiet (fail)
              go_wp2
              go_ret
              exact ⟨ret1 (by have := HR.out; omega), by first | exact Ext.refl _ | exact (Ext.refl _).drewN _ | exact (Ext.refl _).drew⟩
            · skip
              go_enter Try.func17, Try.ntmps17
              go_wp2
              go_quiet (fail)
              go_wp2
              go_ret
              exact ⟨ret1 (by have := HR.out; omega), by first | exact Ext.refl _ | exact (Ext.refl _).drewN _ | exact (Ext.refl _).drew⟩
        · skip
          rcases Int.lt_or_le (Z u v) (Z (u - 1) v) with c1 | c1
          · skip
            rcases Int.lt_or_le (Z (u - 1) v) (D) with c2 | c2
            · skip
              go_enter Try.func17, Try.ntmps17
              go_wp2
              go_quiet (fail)
              go_wp2
              go_ret
              exact ⟨ret1 (by have := HR.out; omega), by first | exact Ext.refl _ | exact (Ext.refl _).drewN _ | exact (Ext.refl _).drew⟩
            · skip
              go_enter Try.func17, Try.ntmps17
              go_wp2
              go_quiet (fail)
              go_wp2
              go_ret
              exact ⟨ret1 (by have := HR.out; omega), by first | exact Ext.refl _ | exact (Ext.refl _).drewN _ | exact (Ext.refl _).drew⟩
          · skip
            rcases Int.lt_or_le (Z u v) (D) with c2 | c2
            · skip
              go_enter Try.func17, Try.ntmps17
              go_wp2
              go_quiet (fail)
              go_wp2
              go_ret
              exact ⟨ret1 (by have := HR.out; omega), by first | exact Ext.refl _ | exact (Ext.refl _).drewN _ | exact (Ext.refl _).drew⟩
            · skip
              go_enter Try.func17, Try.ntmps17
              go_wp2
              go_quiet (fail)
              go_wp2
              go_ret
              exact ⟨ret1 (by have := HR.out; omega), by first | exact Ext.refl _ | exact (Ext.refl _).drewN _ | exact (Ext.refl _).drew⟩
      · rw [if_neg (fun h => b3 h.2)] at HR
        replace HR := Lib.hid HR
        clear hnext hprev hfol
        rcases Int.lt_or_le (Z u v) (Z u (v + 1)) with c0 | c0
        · skip
          rcases Int.lt_or_le (Z u (v + 1)) (Z (u - 1) v) with c1 | c1
          · skip
            go_enter Try.func17, Try.ntmps17
            go_wp2
            go_ret
            exact ⟨ret1 (by have := HR.out; omega), by first | exact Ext.refl _ | exact (Ext.refl _).drewN _ | exact (Ext.refl _).drew⟩
          · skip
            go_enter Try.func17, Try.ntmps17
            go_wp2
            go_ret
            exact ⟨ret1 (by have := HR.out; omega), by first | exact Ext.refl _ | exact (Ext.refl _).drewN _ | exact (Ext.refl _).drew⟩
        · skip
          rcases Int.lt_or_le (Z u v) (Z (u - 1) v) with c1 | c1
          · skip
            go_enter Try.func17, Try.ntmps17
            go_wp2
            go_ret
            exact ⟨ret1 (by have := HR.out; omega), by first | exact Ext.refl _ | exact (Ext.refl _).drewN _ | exact (Ext.refl _).drew⟩
          · skip
            go_enter Try.func17, Try.ntmps17
            go_wp2
            go_ret
            exact ⟨ret1 (by have := HR.out; omega), by first | exact Ext.refl _ | exact (Ext.refl _).drewN _ | exact (Ext.refl _).drew⟩
    · rw [if_neg b1] at HR
      by_cases b3 : u + 1 < n
      · obtain ⟨g1, g2, g3, g4, g5⟩ := hfol b3
        rw [if_pos ⟨b2, b3⟩] at HR
        have hD : Int.tdiv (Z (u - 1) v + Z (u + 1) v + 1) 2 = (Z (u - 1) v + Z (u + 1) v + 1) / 2 := Int.tdiv_eq_ediv_of_nonneg (by omega)
        obtain ⟨D, hD'⟩ : ∃ D, D = (Z (u - 1) v + Z (u + 1) v + 1) / 2 := ⟨_, rfl⟩
        have d1 : 0 ≤ D ∧ D ≤ 10000 := by omega
        rw [← hD'] at hD HR
        obtain ⟨d1, d2⟩ := d1
        clear hD'
        replace HR := Lib.hid HR
        clear hnext hprev hfol
        rcases Int.lt_or_le (Z u v) (Z (u - 1) v) with c0 | c0
        · skip
          rcases Int.lt_or_le (Z (u - 1) v) (D) with c1 | c1
          · skip
            go_enter Try.func17, Try.ntmps17
            go_wp2
            go_quiet (fail)
            go_wp2
            go_ret
            exact ⟨ret1 (by have := HR.out; omega), by first | exact Ext.refl _ | exact (Ext.refl _).drewN _ | exact (Ext.refl _).drew⟩
          · skip
            go_enter Try.func17, Try.ntmps17
            go_wp2
            go_quiet (fail)
            go_wp2
            go_ret
            exact ⟨ret1 (by have := HR.out; omega), by first | exact Ext.refl _ | exact (Ext.refl _).drewN _ | exact (Ext.refl _).drew⟩
        · skip
          rcases Int.lt_or_le (Z u v) (D) with c1 | c1
          · skip
            go_enter Try.func17, Try.ntmps17
            go_wp2
            go_quiet (fail)
            go_wp2
            go_ret
            exact ⟨ret1 (by have := HR.out; omega), by first | exact Ext.refl _ | exact (Ext.refl _).drewN _ | exact (Ext.refl _).drew⟩
          · skip
            go_enter Try.func17, Try.ntmps17
            go_wp2
            go_quiet (fail)
            go_wp2
            go_ret
            exact ⟨ret1 (by have := HR.out; omega), by first | exact Ext.refl _ | exact (Ext.refl _).drewN _ | exact (Ext.refl _).drew⟩
      · rw [if_neg (fun h => b3 h.2)] at HR
        replace HR := Lib.hid HR
        clear hnext hprev hfol
        rcases Int.lt_or_le (Z u v) (Z (u - 1) v) with c0 | c0
        · skip
          go_enter Try.func17, Try.ntmps17
          go_wp2
          go_ret
          exact ⟨ret1 (by have := HR.out; omega), by first | exact Ext.refl _ | exact (Ext.refl _).drewN _ | exact (Ext.refl _).drew⟩
        · skip
          go_enter Try.func17, Try.ntmps17
          go_wp2
          go_ret
          exact ⟨ret1 (by have := HR.out; omega), by first | exact Ext.refl _ | exact (Ext.refl _).drewN _ | exact (Ext.refl _).drew⟩
  · rw [if_neg b2] at HR
    by_cases b1 : v + 1 < m
    · obtain ⟨f1, f2, f3⟩ := hnext b1
      rw [if_pos b1] at HR
      by_cases b3 : u + 1 < n
      · rw [if_neg (fun h => b2 h.1)] at HR
        replace HR := Lib.hid HR
        clear hnext hprev hfol
        rcases Int.lt_or_le (Z u v) (Z u (v + 1)) with c0 | c0
        · skip
          go_enter Try.func17, Try.ntmps17
          go_wp2
          go_ret
          exact ⟨ret1 (by have := HR.out; omega), by first | exact Ext.refl _ | exact (Ext.refl _).drewN _ | exact (Ext.refl _).drew⟩
        · skip
          go_enter Try.func17, Try.ntmps17
          go_wp2
          go_ret
          exact ⟨ret1 (by have := HR.out; omega), by first | exact Ext.refl _ | exact (Ext.refl _).drewN _ | exact (Ext.refl _).drew⟩
      · rw [if_neg (fun h => b3 h.2)] at HR
        replace HR := Lib.hid HR
        clear hnext hprev hfol
        rcases Int.lt_or_le (Z u v) (Z u (v + 1)) with c0 | c0
        · skip
          go_enter Try.func17, Try.ntmps17
          go_wp2
          go_ret
          exact ⟨ret1 (by have := HR.out; omega), by first | exact Ext.refl _ | exact (Ext.refl _).drewN _ | exact (Ext.refl _).drew⟩
        · skip
          go_enter Try.func17, Try.ntmps17
          go_wp2
          go_ret
          exact ⟨ret1 (by have := HR.out; omega), by first | exact Ext.refl _ | exact (Ext.refl _).drewN _ | exact (Ext.refl _).drew⟩
    · rw [if_neg b1] at HR
      by_cases b3 : u + 1 < n
      · rw [if_neg (fun h => b2 h.1)] at HR
        replace HR := Lib.hid HR
        clear hnext hprev hfol
        go_enter Try.func17, Try.ntmps17
        go_wp2
        go_ret
        exact ⟨ret1 (by have := HR.out; omega), by first | exact Ext.refl _ | exact (Ext.refl _).drewN _ | exact (Ext.refl _).drew⟩
      · rw [if_neg (fun h => b3 h.2)] at HR
        replace HR := Lib.hid HR
        clear hnext hprev hfol
        go_enter Try.func17, Try.ntmps17
        go_wp2
        go_ret
        exact ⟨ret1 (by have := HR.out; omega), by first | exact Ext.refl _ | exact (Ext.refl _).drewN _ | exact (Ext.refl _).drew⟩

end Go.Proofs.Ytoemcpndmfimiaa

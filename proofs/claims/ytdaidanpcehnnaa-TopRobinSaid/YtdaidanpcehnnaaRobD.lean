/-
  seasonOf of the law TopRobin: a number of teams, and a season whose numbers are small.
-/
import Derived.Test.YtdaidanpcehnnaaRobS
import Derived.Deep.OwnRows
namespace Go.Proofs.Ytdaidanpcehnnaa
open Go.RowKit
set_option linter.unusedSimpArgs false

theorem infoInt : (Try.prog.info? 3).map (fun i => (i.zero, i.size, i.bytes)) = some (some (.int .i64 0), 1, 8) := by kernel_rfl
def nums (h : Nat → Int) (j : Nat) : Value := .int .i64 (h j)
theorem rowIs_ext {w w' : World} {b : Nat} {t : TypeId} {n : Nat} {f : Nat → Value} (h : w.rowIs b t n f) (x : Ext w w') : w'.rowIs b t n f := h.of_block (x.block b h.lt)
def setN (h : Nat → Int) (i : Nat) (v : Int) : Nat → Int := fun j => if j = i then v else h j
theorem rowIs_set {w : World} {b : Nat} {t : TypeId} {n : Nat} {h : Nat → Int} (r : w.rowIs b t n (nums h)) (i : Nat) (v : Int) : (w.setCell ⟨b, i, none⟩ (.int .i64 v)).rowIs b t n (nums (setN h i v)) :=
  (r.set i (.int .i64 v)).congr fun j _ => by by_cases e : j = i <;> simp [nums, setN, e]
theorem set_bd {n : Nat} {h : Nat → Int} {i : Nat} {v : Int} (hh : ∀ j, j < n → 0 ≤ h j ∧ h j < 20) (hv : 0 ≤ v ∧ v < 20) : ∀ j, j < n → 0 ≤ setN h i v j ∧ setN h i v j < 20 := fun j hj => by
  unfold setN; split
  · exact hv
  · exact hh j hj
/-- What is left of a number behind '% m', and never below 0. -/
def modV (x m : Int) : Int := if 0 < Int.tmod x m then Int.tmod x m else 0
theorem tmod_bd (x : Int) {m : Int} (hm : 0 < m) : -m < Int.tmod x m ∧ Int.tmod x m < m := ⟨Int.lt_tmod_of_pos x hm, Int.tmod_lt_of_pos x hm⟩
theorem mod_bd (x : Int) {m : Int} (hm : 0 < m) : 0 ≤ modV x m ∧ modV x m < m := by
  have := tmod_bd x hm
  unfold modV; split <;> omega
def SeasonP (w : World) (k : Int) (e : Ending) (w' : World) : Prop :=
  ∃ (n gb : Nat) (h : Nat → Int) (F R : Int), e = .returned (.tuple #[.int .i64 n, .agg #[.int .i64 F, .int .i64 R, .slice (some ⟨gb, 0, none⟩) n n]]) ∧ (n : Int) = 2 + k % 5 ∧ 0 ≤ F ∧ F < 100000 ∧ 0 ≤ R ∧ R ≤ 9 ∧ (∀ j, j < n → 0 ≤ h j ∧ h j < 20) ∧
    w'.rowIs gb 3 n (nums h) ∧ w.heap.size ≤ gb ∧ Ext w w'

set_option maxHeartbeats 8000000 in
theorem seasonOf_any (w : World) (k F0 R0 : Int) (A : Option Addr) (gn gc : Nat) (f : Nat → Int) (hk0 : 0 ≤ k) (hk1 : k ≤ 255) (hgn : gn ≤ 9223372036854775807)
    (hG : 0 < gn → ∃ b o, A = some ⟨b, o, none⟩ ∧ b < w.heap.size ∧ ∀ j, j < gn → w.cell? ⟨b, o + j, none⟩ = some (.int .i64 (f j))) :
    Calls Try.prog 5 #[.int .u8 k, .agg #[.int .i64 F0, .int .i64 R0, .slice A gn gc]] w (SeasonP w k) := by
  obtain ⟨i0, hi, hz0, hz1, hz2⟩ := info_parts infoInt
  obtain ⟨n, hn⟩ : ∃ n : Nat, (n : Int) = 2 + k % 5 := ⟨(2 + k % 5).toNat, by omega⟩
  have HN := Lib.hid hn
  have hn1 : 2 + k % 5 = (n : Int) := hn.symm
  have n1 : 2 ≤ n := by omega
  have n2 : n ≤ 6 := by omega
  have HGN := Lib.hid hG
  clear hn hG
  obtain ⟨TF, hTF⟩ : ∃ t, t = Int.tmod F0 100000 := ⟨_, rfl⟩
  obtain ⟨TR, hTR⟩ : ∃ t, t = Int.tmod R0 10 := ⟨_, rfl⟩
  have f1 := tmod_bd F0 (m := 100000) (by omega)
  have f2 := tmod_bd R0 (m := 10) (by omega)
  rw [← hTF] at f1
  rw [← hTR] at f2
  obtain ⟨f1, f3⟩ := f1
  obtain ⟨f2, f4⟩ := f2
  have e1 := hTF.symm
  have e2 := hTR.symm
  clear hTF hTR
  have w1 : IntKind.i64.wrap TF = TF := IntWalk.i64_in _ (by omega)
  have w2 : IntKind.i64.wrap TR = TR := IntWalk.i64_in _ (by omega)
  have t0 : ((w.alloc (.cells #[.int .i64 F0, .int .i64 R0, .slice A gn gc] 24)).alloc (.cells #[.int .i64 0, .int .i64 0, .slice none 0 0] 24)).heap.size = w.heap.size + 2 := by simp
  have hmk := fun W => run_make_row' (P := Try.prog) 22 3 (.int .i64 0) 8 Try.underlying22 infoInt rfl .i64 .i64 n (by omega) (by omega) W
  have hrm := fun W : World => World.rowIs_made W (.int .i64 0) n 3
  replace hrm := Lib.hid hrm
  go_enter Try.func5, Try.ntmps5
  go_wp2
  have hx0 : Ext ((w.alloc (.cells #[.int .i64 F0, .int .i64 R0, .slice A gn gc] 24)).alloc (.cells #[.int .i64 0, .int .i64 0, .slice none 0 0] 24)) (((w.alloc (.cells #[.int .i64 F0, .int .i64 R0, .slice A gn gc] 24)).alloc (.cells #[.int .i64 0, .int .i64 0, .slice none 0 0] 24)).alloc (.cells (madeCells #[.int .i64 0] n) 3)) := (Ext.refl _).alloc _
  go_loopw [8, 17] (fun _ i wr => ∃ (j : Nat) (h : Nat → Int), j ≤ n ∧ i = .int .i64 j ∧ wr.rowIs (w.heap.size + 2) 3 n (nums h) ∧ (∀ j, j < n → 0 ≤ h j ∧ h j < 20) ∧ Ext ((w.alloc (.cells #[.int .i64 F0, .int .i64 R0, .slice A gn gc] 24)).alloc (.cells #[.int .i64 0, .int .i64 0, .slice none 0 0] 24)) wr) (fun _ i _ => n - (intOf i).toNat)
  case atStart =>
    refine ⟨0, fun _ => 0, by omega, rfl, ?_, fun _ _ => by show (0 : Int) ≤ 0 ∧ (0 : Int) < 20; omega, hx0⟩
    have := hrm.out ((w.alloc (.cells #[.int .i64 F0, .int .i64 R0, .slice A gn gc] 24)).alloc (.cells #[.int .i64 0, .int .i64 0, .slice none 0 0] 24))
    rw [t0] at this
    exact this
  case round =>
    obtain ⟨j, h, hj, rfl, hrow, hh, hX⟩ := hrel
    have b0 : wr.cell? ⟨w.heap.size, 0, none⟩ = some (.int .i64 F0) := hX.keep (by simp [go_sem])
    have b1 : wr.cell? ⟨w.heap.size, 1, none⟩ = some (.int .i64 R0) := hX.keep (by simp [go_sem])
    have b2 : wr.cell? ⟨w.heap.size, 2, none⟩ = some (.slice A gn gc) := hX.keep (by simp [go_sem])
    have lw := cell_lt b0
    have HROW := Lib.hid hrow
    have HX := Lib.hid hX
    by_cases hlt : j < n
    · have r1 := hrow.cell hlt
      have r2 := hrow.frozen j
      have HS := Lib.hid (rowIs_set hrow j (j : Int))
      have HXS := Lib.hid (hX.setCell (p := ⟨w.heap.size + 2, j, none⟩) (by rw [t0]; exact Nat.le_refl _) (.int .i64 (j : Int)))
      have hb1 := set_bd (i := j) (v := (j : Int)) hh (by omega)
      clear hrow hX
      by_cases hgl : j < gn
      · obtain ⟨b, o, rfl, hb, hc⟩ := HGN.out (by omega)
        have c1 : wr.cell? ⟨b, o + j, none⟩ = some (.int .i64 (f j)) := (Ext.trans (((Ext.refl w).alloc _).alloc _) HX.out).keep (hc j hgl)
        have c2 : b ≠ w.heap.size + 2 := by omega
        have c3 := cell_lt c1
        obtain ⟨t, ht⟩ : ∃ t, t = Int.tmod (f j) 20 := ⟨_, rfl⟩
        have t1 := tmod_bd (f j) (m := 20) (by omega)
        rw [← ht] at t1
        obtain ⟨t1, t2⟩ := t1
        have t3 := ht.symm
        have t4 : IntKind.i64.wrap t = t := IntWalk.i64_in _ (by omega)
        clear ht
        by_cases hp : 0 < t
        · have hb2 := set_bd (i := j) (v := t) hb1 (by omega)
          have HS2 := Lib.hid (rowIs_set HS.out j t)
          have HXS2 := Lib.hid (HXS.out.setCell (p := ⟨w.heap.size + 2, j, none⟩) (by rw [t0]; exact Nat.le_refl _) (.int .i64 t))
          go_wp2
          go_roundw
          case rel => exact ⟨j + 1, _, by omega, by go_num, HS2.out, hb2, HXS2.out⟩
          case measure => simp [intOf]; omega
        · have hp' : t ≤ 0 := by omega
          have hb2 := set_bd (i := j) (v := 0) hb1 (by omega)
          have HS2 := Lib.hid (rowIs_set HS.out j 0)
          have HXS2 := Lib.hid (HXS.out.setCell (p := ⟨w.heap.size + 2, j, none⟩) (by rw [t0]; exact Nat.le_refl _) (.int .i64 0))
          clear hp
          go_wp2
          go_roundw
          case rel => exact ⟨j + 1, _, by omega, by go_num, HS2.out, hb2, HXS2.out⟩
          case measure => simp [intOf]; omega
      · go_wp2
        go_roundw
        case rel => exact ⟨j + 1, _, by omega, by go_num, HS.out, hb1, HXS.out⟩
        case measure => simp [intOf]; omega
    · obtain rfl : j = n := by omega
      have d0 : wr.cell? ⟨w.heap.size + 1, 0, none⟩ = some (.int .i64 0) := hX.keep (by simp [go_sem])
      have d1 : wr.cell? ⟨w.heap.size + 1, 1, none⟩ = some (.int .i64 0) := hX.keep (by simp [go_sem])
      have d2 : wr.cell? ⟨w.heap.size + 1, 2, none⟩ = some (.slice none 0 0) := hX.keep (by simp [go_sem])
      have d3 : wr.frozen? ⟨w.heap.size + 1, 0, none⟩ = false := (hX.cells.2 _ _ (by simp)).trans (by simp [go_sem])
      have d4 : wr.frozen? ⟨w.heap.size + 1, 1, none⟩ = false := (hX.cells.2 _ _ (by simp)).trans (by simp [go_sem])
      have d5 : wr.frozen? ⟨w.heap.size + 1, 2, none⟩ = false := (hX.cells.2 _ _ (by simp)).trans (by simp [go_sem])
      have HH := Lib.hid hh
      have hblk : wr.heap[w.heap.size + 1]? = some (.cells #[.int .i64 0, .int .i64 0, .slice none 0 0] 24 (0, 0)) := (hX.block _ (by simp)).trans (by have := heap_alloc_new (w.alloc (.cells #[.int .i64 F0, .int .i64 R0, .slice A gn gc] 24)) (.cells #[.int .i64 0, .int .i64 0, .slice none 0 0] 24); simpa using this)
      have hb3 : wr.heap[w.heap.size]? = some (.cells #[.int .i64 F0, .int .i64 R0, .slice A gn gc] 24 (0, 0)) := (hX.block _ (by simp; omega)).trans ((Below.heap_alloc _ _ _ (by simp)).trans (heap_alloc_new w _))
      clear hrow hX hh hmk hrm hx0 hi hz0 hz1 hz2
      have hgb : w.heap.size ≤ w.heap.size + 2 := by omega
      rcases Int.lt_or_le 0 TF with p1 | p1 <;> rcases Int.lt_or_le 0 TR with p2 | p2
      · have m1 : (if 0 < TF then TF else 0) = TF := if_pos p1
        have m2 : (if 0 < TR then TR else 0) = TR := if_pos p2
        go_wp2
        refine wp_region_held_drew (S := (fun w' => w'.cell? ⟨w.heap.size, 0, none⟩ = some (.int .i64 F0) ∧ w'.cell? ⟨w.heap.size, 1, none⟩ = some (.int .i64 R0) ∧ w'.cell? ⟨w.heap.size, 2, none⟩ = some (.slice A gn gc))) (by kernel_rfl) (by simp [go_sem, *]) (fun hHeld => ?_)
        refine wpAnyH_take (i := 0) (v := ?v1) rfl (by kernel_rfl) (by kernel_rfl) (by kernel_rfl) (fun _ _ _ h => h) (Or.inl ⟨by rfl, ?y1⟩) (by assumption) ?r1
        case y1 => ((intro w hSw; (try dsimp only at hSw); go_simp; (first | done | with_reducible rfl)))
        (try simp only [List.getElem_toArray, List.getElem_cons_succ, List.getElem_cons_zero, Act.put, List.setIfInBounds_toArray, List.set_cons_zero, List.set_cons_succ])
        refine wpAnyH_take (i := 1) (v := ?v2) rfl (by kernel_rfl) (by kernel_rfl) (by kernel_rfl) (fun _ _ _ h => h) (Or.inl ⟨by rfl, ?y2⟩) (by assumption) ?r2
        case y2 => ((intro w hSw; (try dsimp only at hSw); go_simp; (first | done | with_reducible rfl)))
        (try simp only [List.getElem_toArray, List.getElem_cons_succ, List.getElem_cons_zero, Act.put, List.setIfInBounds_toArray, List.set_cons_zero, List.set_cons_succ])
        refine wpAnyH_take (i := 2) (v := ?v3) rfl (by kernel_rfl) (by kernel_rfl) (by kernel_rfl) (fun _ _ _ h => h) (Or.inl ⟨by rfl, ?y3⟩) (by assumption) ?r3
        case y3 => ((intro w hSw; (try dsimp only at hSw); go_simp; (first | done | with_reducible rfl)))
        (try simp only [List.getElem_toArray, List.getElem_cons_succ, List.getElem_cons_zero, Act.put, List.setIfInBounds_toArray, List.set_cons_zero, List.set_cons_succ])
        refine wpAnyH_take (i := 3) (v := ?v4) rfl (by kernel_rfl) (by kernel_rfl) (by kernel_rfl) (fun _ _ _ h => h) (Or.inl ⟨by rfl, ?y4⟩) (by assumption) ?r4
        case y4 => ((intro w hSw; (try dsimp only at hSw); go_simp; (first | done | with_reducible rfl)))
        (try simp only [List.getElem_toArray, List.getElem_cons_succ, List.getElem_cons_zero, Act.put, List.setIfInBounds_toArray, List.set_cons_zero, List.set_cons_succ])
        refine wpAnyH_take (i := 4) (v := ?v5) rfl (by kernel_rfl) (by kernel_rfl) (by kernel_rfl) (fun _ _ _ h => h) (Or.inl ⟨by rfl, ?y5⟩) (by assumption) ?r5
        case y5 => ((intro w hSw; (try dsimp only at hSw); go_simp; (first | done | with_reducible rfl)))
        (try simp only [List.getElem_toArray, List.getElem_cons_succ, List.getElem_cons_zero, Act.put, List.setIfInBounds_toArray, List.set_cons_zero, List.set_cons_succ])
        refine wpAnyH_take (i := 5) (v := ?v6) rfl (by kernel_rfl) (by kernel_rfl) (by kernel_rfl) (fun _ _ _ h => h) (Or.inl ⟨by rfl, ?y6⟩) (by assumption) ?r6
        case y6 => ((intro w hSw; (try dsimp only at hSw); go_simp; (first | done | with_reducible rfl)))
        (try simp only [List.getElem_toArray, List.getElem_cons_succ, List.getElem_cons_zero, Act.put, List.setIfInBounds_toArray, List.set_cons_zero, List.set_cons_succ])
        refine wpAnyH_take (i := 6) (v := ?v7) rfl (by kernel_rfl) (by kernel_rfl) (by kernel_rfl) (fun _ _ _ h => h) (Or.inl ⟨by rfl, ?y7⟩) (by assumption) ?r7
        case y7 => ((intro w hSw; (try dsimp only at hSw); go_simp; (first | done | with_reducible rfl)))
        (try simp only [List.getElem_toArray, List.getElem_cons_succ, List.getElem_cons_zero, Act.put, List.setIfInBounds_toArray, List.set_cons_zero, List.set_cons_succ])
        refine wpAnyH_take (i := 7) (v := ?v8) rfl (by kernel_rfl) (by kernel_rfl) (by kernel_rfl) (fun _ _ _ h => h) (Or.inl ⟨by rfl, ?y8⟩) (by assumption) ?r8
        case y8 => ((intro w hSw; (try dsimp only at hSw); go_simp; (first | done | with_reducible rfl)))
        (try simp only [List.getElem_toArray, List.getElem_cons_succ, List.getElem_cons_zero, Act.put, List.setIfInBounds_toArray, List.set_cons_zero, List.set_cons_succ])
        refine wpAnyH_take (i := 8) (v := ?v9) rfl (by kernel_rfl) (by kernel_rfl) (by kernel_rfl) (fun _ _ _ h => h) (Or.inl ⟨by rfl, ?y9⟩) (by assumption) ?r9
        case y9 => ((intro w hSw; (try dsimp only at hSw); go_simp; (first | done | with_reducible rfl)))
        (try simp only [List.getElem_toArray, List.getElem_cons_succ, List.getElem_cons_zero, Act.put, List.setIfInBounds_toArray, List.set_cons_zero, List.set_cons_succ])
        refine wpAnyH_take (i := 9) (v := ?v10) rfl (by kernel_rfl) (by kernel_rfl) (by kernel_rfl) (fun _ _ _ h => h) (Or.inl ⟨by rfl, ?y10⟩) (by assumption) ?r10
        case y10 => ((intro w hSw; (try dsimp only at hSw); go_simp; (first | done | with_reducible rfl)))
        (try simp only [List.getElem_toArray, List.getElem_cons_succ, List.getElem_cons_zero, Act.put, List.setIfInBounds_toArray, List.set_cons_zero, List.set_cons_succ])
        refine wpAnyH_take (i := 10) (v := ?v11) rfl (by kernel_rfl) (by kernel_rfl) (by kernel_rfl) (fun _ _ _ h => h) (Or.inl ⟨by rfl, ?y11⟩) (by assumption) ?r11
        case y11 => ((intro w hSw; (try dsimp only at hSw); go_simp; (first | done | with_reducible rfl)))
        (try simp only [List.getElem_toArray, List.getElem_cons_succ, List.getElem_cons_zero, Act.put, List.setIfInBounds_toArray, List.set_cons_zero, List.set_cons_succ])
        refine wpAnyH_ready (rs := [11]) (by kernel_rfl) (by simp) ?_
        refine AllReadyH.cons rfl (fun K hK => ?_) AllReadyH.nil
        go_simp
        skip
        refine hK.out _ _ (by first | (dsimp only; simp [go_sem, *]; done) | (simp [go_sem, *])) (fun hHeld => ?_)
        clear hK K
        (try simp only [List.getElem_toArray, List.getElem_cons_succ, List.getElem_cons_zero, Act.put, List.setIfInBounds_toArray, List.set_cons_zero, List.set_cons_succ])
        refine wpAnyH_ready (rs := [12]) (by kernel_rfl) (by simp) ?_
        refine AllReadyH.cons rfl (fun K hK => ?_) AllReadyH.nil
        refine step_storeSe (q := w.heap.size + 1) (v0 := TF) (v1 := TR) (g := w.heap.size + 2) (m := j) (c := j) rfl rfl rfl rfl rfl hblk ?_
        have hz := set3_heap wr.drew (w.heap.size + 1) (v0 := .int .i64 TF) (v1 := .int .i64 TR) (v2 := .slice (some ⟨w.heap.size + 2, 0, none⟩) j j) hblk
        have hz3 := (set3_other wr.drew (b := w.heap.size) (q := w.heap.size + 1) (.int .i64 TF) (.int .i64 TR) (.slice (some ⟨w.heap.size + 2, 0, none⟩) j j) (by omega)).trans hb3
        have hzr : (set3 wr.drew (w.heap.size + 1) (.int .i64 TF) (.int .i64 TR) (.slice (some ⟨w.heap.size + 2, 0, none⟩) j j)).rowIs (w.heap.size + 2) 3 j (nums h) := HROW.out.drew.of_block (set3_other wr.drew (.int .i64 TF) (.int .i64 TR) (.slice (some ⟨w.heap.size + 2, 0, none⟩) j j) (by omega))
        have hzx : Ext w (set3 wr.drew (w.heap.size + 1) (.int .i64 TF) (.int .i64 TR) (.slice (some ⟨w.heap.size + 2, 0, none⟩) j j)) := set3_ext (.int .i64 TF) (.int .i64 TR) (.slice (some ⟨w.heap.size + 2, 0, none⟩) j j) ((((Ext.refl w).alloc _).alloc _).trans HX.out).drew (by omega)
        generalize set3 wr.drew (w.heap.size + 1) (.int .i64 TF) (.int .i64 TR) (.slice (some ⟨w.heap.size + 2, 0, none⟩) j j) = wz at hz hz3 hzr hzx ⊢
        have z0 := Lib.cell_of_heap hz 0
        have z1 := Lib.cell_of_heap hz 1
        have z2 := Lib.cell_of_heap hz 2
        have z3 := Lib.cell_of_heap hz3 0
        have z4 := Lib.cell_of_heap hz3 1
        have z5 := Lib.cell_of_heap hz3 2
        simp only [List.getElem?_toArray, List.getElem?_cons_succ, List.getElem?_cons_zero] at z0 z1 z2 z3 z4 z5
        refine hK.out _ _ (by first | exact ⟨z3, z4, z5⟩ | (dsimp only; simp [go_sem, *]; done) | (simp [go_sem, *])) (fun hHeld => ?_)
        clear hK K
        (try simp only [List.getElem_toArray, List.getElem_cons_succ, List.getElem_cons_zero, Act.put, List.setIfInBounds_toArray, List.set_cons_zero, List.set_cons_succ])
        refine wpAnyH_done (by kernel_rfl) ?_ _
        go_wp2
        refine bodyPost_ret (v := .tuple #[.int .i64 j, .agg #[.int .i64 TF, .int .i64 TR, .slice (some ⟨w.heap.size + 2, 0, none⟩) j j]]) (by simp [results, Try.results5, go_sem, *]) rfl ?_
        exact ⟨j, w.heap.size + 2, h, TF, TR, rfl, HN.out, by omega, by omega, by omega, by omega, HH.out, hzr, hgb, hzx⟩
      · have m1 : (if 0 < TF then TF else 0) = TF := if_pos p1
        have m2 : (if 0 < TR then TR else 0) = 0 := if_neg (by omega)
        go_wp2
        refine wp_region_held_drew (S := (fun w' => w'.cell? ⟨w.heap.size, 0, none⟩ = some (.int .i64 F0) ∧ w'.cell? ⟨w.heap.size, 1, none⟩ = some (.int .i64 R0) ∧ w'.cell? ⟨w.heap.size, 2, none⟩ = some (.slice A gn gc))) (by kernel_rfl) (by simp [go_sem, *]) (fun hHeld => ?_)
        refine wpAnyH_take (i := 0) (v := ?v12) rfl (by kernel_rfl) (by kernel_rfl) (by kernel_rfl) (fun _ _ _ h => h) (Or.inl ⟨by rfl, ?y12⟩) (by assumption) ?r12
        case y12 => ((intro w hSw; (try dsimp only at hSw); go_simp; (first | done | with_reducible rfl)))
        (try simp only [List.getElem_toArray, List.getElem_cons_succ, List.getElem_cons_zero, Act.put, List.setIfInBounds_toArray, List.set_cons_zero, List.set_cons_succ])
        refine wpAnyH_take (i := 1) (v := ?v13) rfl (by kernel_rfl) (by kernel_rfl) (by kernel_rfl) (fun _ _ _ h => h) (Or.inl ⟨by rfl, ?y13⟩) (by assumption) ?r13
        case y13 => ((intro w hSw; (try dsimp only at hSw); go_simp; (first | done | with_reducible rfl)))
        (try simp only [List.getElem_toArray, List.getElem_cons_succ, List.getElem_cons_zero, Act.put, List.setIfInBounds_toArray, List.set_cons_zero, List.set_cons_succ])
        refine wpAnyH_take (i := 2) (v := ?v14) rfl (by kernel_rfl) (by kernel_rfl) (by kernel_rfl) (fun _ _ _ h => h) (Or.inl ⟨by rfl, ?y14⟩) (by assumption) ?r14
        case y14 => ((intro w hSw; (try dsimp only at hSw); go_simp; (first | done | with_reducible rfl)))
        (try simp only [List.getElem_toArray, List.getElem_cons_succ, List.getElem_cons_zero, Act.put, List.setIfInBounds_toArray, List.set_cons_zero, List.set_cons_succ])
        refine wpAnyH_take (i := 3) (v := ?v15) rfl (by kernel_rfl) (by kernel_rfl) (by kernel_rfl) (fun _ _ _ h => h) (Or.inl ⟨by rfl, ?y15⟩) (by assumption) ?r15
        case y15 => ((intro w hSw; (try dsimp only at hSw); go_simp; (first | done | with_reducible rfl)))
        (try simp only [List.getElem_toArray, List.getElem_cons_succ, List.getElem_cons_zero, Act.put, List.setIfInBounds_toArray, List.set_cons_zero, List.set_cons_succ])
        refine wpAnyH_take (i := 4) (v := ?v16) rfl (by kernel_rfl) (by kernel_rfl) (by kernel_rfl) (fun _ _ _ h => h) (Or.inl ⟨by rfl, ?y16⟩) (by assumption) ?r16
        case y16 => ((intro w hSw; (try dsimp only at hSw); go_simp; (first | done | with_reducible rfl)))
        (try simp only [List.getElem_toArray, List.getElem_cons_succ, List.getElem_cons_zero, Act.put, List.setIfInBounds_toArray, List.set_cons_zero, List.set_cons_succ])
        refine wpAnyH_take (i := 5) (v := ?v17) rfl (by kernel_rfl) (by kernel_rfl) (by kernel_rfl) (fun _ _ _ h => h) (Or.inl ⟨by rfl, ?y17⟩) (by assumption) ?r17
        case y17 => ((intro w hSw; (try dsimp only at hSw); go_simp; (first | done | with_reducible rfl)))
        (try simp only [List.getElem_toArray, List.getElem_cons_succ, List.getElem_cons_zero, Act.put, List.setIfInBounds_toArray, List.set_cons_zero, List.set_cons_succ])
        refine wpAnyH_take (i := 6) (v := ?v18) rfl (by kernel_rfl) (by kernel_rfl) (by kernel_rfl) (fun _ _ _ h => h) (Or.inl ⟨by rfl, ?y18⟩) (by assumption) ?r18
        case y18 => ((intro w hSw; (try dsimp only at hSw); go_simp; (first | done | with_reducible rfl)))
        (try simp only [List.getElem_toArray, List.getElem_cons_succ, List.getElem_cons_zero, Act.put, List.setIfInBounds_toArray, List.set_cons_zero, List.set_cons_succ])
        refine wpAnyH_take (i := 7) (v := ?v19) rfl (by kernel_rfl) (by kernel_rfl) (by kernel_rfl) (fun _ _ _ h => h) (Or.inl ⟨by rfl, ?y19⟩) (by assumption) ?r19
        case y19 => ((intro w hSw; (try dsimp only at hSw); go_simp; (first | done | with_reducible rfl)))
        (try simp only [List.getElem_toArray, List.getElem_cons_succ, List.getElem_cons_zero, Act.put, List.setIfInBounds_toArray, List.set_cons_zero, List.set_cons_succ])
        refine wpAnyH_take (i := 8) (v := ?v20) rfl (by kernel_rfl) (by kernel_rfl) (by kernel_rfl) (fun _ _ _ h => h) (Or.inl ⟨by rfl, ?y20⟩) (by assumption) ?r20
        case y20 => ((intro w hSw; (try dsimp only at hSw); go_simp; (first | done | with_reducible rfl)))
        (try simp only [List.getElem_toArray, List.getElem_cons_succ, List.getElem_cons_zero, Act.put, List.setIfInBounds_toArray, List.set_cons_zero, List.set_cons_succ])
        refine wpAnyH_take (i := 9) (v := ?v21) rfl (by kernel_rfl) (by kernel_rfl) (by kernel_rfl) (fun _ _ _ h => h) (Or.inl ⟨by rfl, ?y21⟩) (by assumption) ?r21
        case y21 => ((intro w hSw; (try dsimp only at hSw); go_simp; (first | done | with_reducible rfl)))
        (try simp only [List.getElem_toArray, List.getElem_cons_succ, List.getElem_cons_zero, Act.put, List.setIfInBounds_toArray, List.set_cons_zero, List.set_cons_succ])
        refine wpAnyH_take (i := 10) (v := ?v22) rfl (by kernel_rfl) (by kernel_rfl) (by kernel_rfl) (fun _ _ _ h => h) (Or.inl ⟨by rfl, ?y22⟩) (by assumption) ?r22
        case y22 => ((intro w hSw; (try dsimp only at hSw); go_simp; (first | done | with_reducible rfl)))
        (try simp only [List.getElem_toArray, List.getElem_cons_succ, List.getElem_cons_zero, Act.put, List.setIfInBounds_toArray, List.set_cons_zero, List.set_cons_succ])
        refine wpAnyH_ready (rs := [11]) (by kernel_rfl) (by simp) ?_
        refine AllReadyH.cons rfl (fun K hK => ?_) AllReadyH.nil
        go_simp
        skip
        refine hK.out _ _ (by first | (dsimp only; simp [go_sem, *]; done) | (simp [go_sem, *])) (fun hHeld => ?_)
        clear hK K
        (try simp only [List.getElem_toArray, List.getElem_cons_succ, List.getElem_cons_zero, Act.put, List.setIfInBounds_toArray, List.set_cons_zero, List.set_cons_succ])
        refine wpAnyH_ready (rs := [12]) (by kernel_rfl) (by simp) ?_
        refine AllReadyH.cons rfl (fun K hK => ?_) AllReadyH.nil
        refine step_storeSe (q := w.heap.size + 1) (v0 := TF) (v1 := 0) (g := w.heap.size + 2) (m := j) (c := j) rfl rfl rfl rfl rfl hblk ?_
        have hz := set3_heap wr.drew (w.heap.size + 1) (v0 := .int .i64 TF) (v1 := .int .i64 0) (v2 := .slice (some ⟨w.heap.size + 2, 0, none⟩) j j) hblk
        have hz3 := (set3_other wr.drew (b := w.heap.size) (q := w.heap.size + 1) (.int .i64 TF) (.int .i64 0) (.slice (some ⟨w.heap.size + 2, 0, none⟩) j j) (by omega)).trans hb3
        have hzr : (set3 wr.drew (w.heap.size + 1) (.int .i64 TF) (.int .i64 0) (.slice (some ⟨w.heap.size + 2, 0, none⟩) j j)).rowIs (w.heap.size + 2) 3 j (nums h) := HROW.out.drew.of_block (set3_other wr.drew (.int .i64 TF) (.int .i64 0) (.slice (some ⟨w.heap.size + 2, 0, none⟩) j j) (by omega))
        have hzx : Ext w (set3 wr.drew (w.heap.size + 1) (.int .i64 TF) (.int .i64 0) (.slice (some ⟨w.heap.size + 2, 0, none⟩) j j)) := set3_ext (.int .i64 TF) (.int .i64 0) (.slice (some ⟨w.heap.size + 2, 0, none⟩) j j) ((((Ext.refl w).alloc _).alloc _).trans HX.out).drew (by omega)
        generalize set3 wr.drew (w.heap.size + 1) (.int .i64 TF) (.int .i64 0) (.slice (some ⟨w.heap.size + 2, 0, none⟩) j j) = wz at hz hz3 hzr hzx ⊢
        have z0 := Lib.cell_of_heap hz 0
        have z1 := Lib.cell_of_heap hz 1
        have z2 := Lib.cell_of_heap hz 2
        have z3 := Lib.cell_of_heap hz3 0
        have z4 := Lib.cell_of_heap hz3 1
        have z5 := Lib.cell_of_heap hz3 2
        simp only [List.getElem?_toArray, List.getElem?_cons_succ, List.getElem?_cons_zero] at z0 z1 z2 z3 z4 z5
        refine hK.out _ _ (by first | exact ⟨z3, z4, z5⟩ | (dsimp only; simp [go_sem, *]; done) | (simp [go_sem, *])) (fun hHeld => ?_)
        clear hK K
        (try simp only [List.getElem_toArray, List.getElem_cons_succ, List.getElem_cons_zero, Act.put, List.setIfInBounds_toArray, List.set_cons_zero, List.set_cons_succ])
        refine wpAnyH_done (by kernel_rfl) ?_ _
        go_wp2
        refine bodyPost_ret (v := .tuple #[.int .i64 j, .agg #[.int .i64 TF, .int .i64 0, .slice (some ⟨w.heap.size + 2, 0, none⟩) j j]]) (by simp [results, Try.results5, go_sem, *]) rfl ?_
        exact ⟨j, w.heap.size + 2, h, TF, 0, rfl, HN.out, by omega, by omega, by omega, by omega, HH.out, hzr, hgb, hzx⟩
      · have m1 : (if 0 < TF then TF else 0) = 0 := if_neg (by omega)
        have m2 : (if 0 < TR then TR else 0) = TR := if_pos p2
        go_wp2
        refine wp_region_held_drew (S := (fun w' => w'.cell? ⟨w.heap.size, 0, none⟩ = some (.int .i64 F0) ∧ w'.cell? ⟨w.heap.size, 1, none⟩ = some (.int .i64 R0) ∧ w'.cell? ⟨w.heap.size, 2, none⟩ = some (.slice A gn gc))) (by kernel_rfl) (by simp [go_sem, *]) (fun hHeld => ?_)
        refine wpAnyH_take (i := 0) (v := ?v23) rfl (by kernel_rfl) (by kernel_rfl) (by kernel_rfl) (fun _ _ _ h => h) (Or.inl ⟨by rfl, ?y23⟩) (by assumption) ?r23
        case y23 => ((intro w hSw; (try dsimp only at hSw); go_simp; (first | done | with_reducible rfl)))
        (try simp only [List.getElem_toArray, List.getElem_cons_succ, List.getElem_cons_zero, Act.put, List.setIfInBounds_toArray, List.set_cons_zero, List.set_cons_succ])
        refine wpAnyH_take (i := 1) (v := ?v24) rfl (by kernel_rfl) (by kernel_rfl) (by kernel_rfl) (fun _ _ _ h => h) (Or.inl ⟨by rfl, ?y24⟩) (by assumption) ?r24
        case y24 => ((intro w hSw; (try dsimp only at hSw); go_simp; (first | done | with_reducible rfl)))
        (try simp only [List.getElem_toArray, List.getElem_cons_succ, List.getElem_cons_zero, Act.put, List.setIfInBounds_toArray, List.set_cons_zero, List.set_cons_succ])
        refine wpAnyH_take (i := 2) (v := ?v25) rfl (by kernel_rfl) (by kernel_rfl) (by kernel_rfl) (fun _ _ _ h => h) (Or.inl ⟨by rfl, ?y25⟩) (by assumption) ?r25
        case y25 => ((intro w hSw; (try dsimp only at hSw); go_simp; (first | done | with_reducible rfl)))
        (try simp only [List.getElem_toArray, List.getElem_cons_succ, List.getElem_cons_zero, Act.put, List.setIfInBounds_toArray, List.set_cons_zero, List.set_cons_succ])
        refine wpAnyH_take (i := 3) (v := ?v26) rfl (by kernel_rfl) (by kernel_rfl) (by kernel_rfl) (fun _ _ _ h => h) (Or.inl ⟨by rfl, ?y26⟩) (by assumption) ?r26
        case y26 => ((intro w hSw; (try dsimp only at hSw); go_simp; (first | done | with_reducible rfl)))
        (try simp only [List.getElem_toArray, List.getElem_cons_succ, List.getElem_cons_zero, Act.put, List.setIfInBounds_toArray, List.set_cons_zero, List.set_cons_succ])
        refine wpAnyH_take (i := 4) (v := ?v27) rfl (by kernel_rfl) (by kernel_rfl) (by kernel_rfl) (fun _ _ _ h => h) (Or.inl ⟨by rfl, ?y27⟩) (by assumption) ?r27
        case y27 => ((intro w hSw; (try dsimp only at hSw); go_simp; (first | done | with_reducible rfl)))
        (try simp only [List.getElem_toArray, List.getElem_cons_succ, List.getElem_cons_zero, Act.put, List.setIfInBounds_toArray, List.set_cons_zero, List.set_cons_succ])
        refine wpAnyH_take (i := 5) (v := ?v28) rfl (by kernel_rfl) (by kernel_rfl) (by kernel_rfl) (fun _ _ _ h => h) (Or.inl ⟨by rfl, ?y28⟩) (by assumption) ?r28
        case y28 => ((intro w hSw; (try dsimp only at hSw); go_simp; (first | done | with_reducible rfl)))
        (try simp only [List.getElem_toArray, List.getElem_cons_succ, List.getElem_cons_zero, Act.put, List.setIfInBounds_toArray, List.set_cons_zero, List.set_cons_succ])
        refine wpAnyH_take (i := 6) (v := ?v29) rfl (by kernel_rfl) (by kernel_rfl) (by kernel_rfl) (fun _ _ _ h => h) (Or.inl ⟨by rfl, ?y29⟩) (by assumption) ?r29
        case y29 => ((intro w hSw; (try dsimp only at hSw); go_simp; (first | done | with_reducible rfl)))
        (try simp only [List.getElem_toArray, List.getElem_cons_succ, List.getElem_cons_zero, Act.put, List.setIfInBounds_toArray, List.set_cons_zero, List.set_cons_succ])
        refine wpAnyH_take (i := 7) (v := ?v30) rfl (by kernel_rfl) (by kernel_rfl) (by kernel_rfl) (fun _ _ _ h => h) (Or.inl ⟨by rfl, ?y30⟩) (by assumption) ?r30
        case y30 => ((intro w hSw; (try dsimp only at hSw); go_simp; (first | done | with_reducible rfl)))
        (try simp only [List.getElem_toArray, List.getElem_cons_succ, List.getElem_cons_zero, Act.put, List.setIfInBounds_toArray, List.set_cons_zero, List.set_cons_succ])
        refine wpAnyH_take (i := 8) (v := ?v31) rfl (by kernel_rfl) (by kernel_rfl) (by kernel_rfl) (fun _ _ _ h => h) (Or.inl ⟨by rfl, ?y31⟩) (by assumption) ?r31
        case y31 => ((intro w hSw; (try dsimp only at hSw); go_simp; (first | done | with_reducible rfl)))
        (try simp only [List.getElem_toArray, List.getElem_cons_succ, List.getElem_cons_zero, Act.put, List.setIfInBounds_toArray, List.set_cons_zero, List.set_cons_succ])
        refine wpAnyH_take (i := 9) (v := ?v32) rfl (by kernel_rfl) (by kernel_rfl) (by kernel_rfl) (fun _ _ _ h => h) (Or.inl ⟨by rfl, ?y32⟩) (by assumption) ?r32
        case y32 => ((intro w hSw; (try dsimp only at hSw); go_simp; (first | done | with_reducible rfl)))
        (try simp only [List.getElem_toArray, List.getElem_cons_succ, List.getElem_cons_zero, Act.put, List.setIfInBounds_toArray, List.set_cons_zero, List.set_cons_succ])
        refine wpAnyH_take (i := 10) (v := ?v33) rfl (by kernel_rfl) (by kernel_rfl) (by kernel_rfl) (fun _ _ _ h => h) (Or.inl ⟨by rfl, ?y33⟩) (by assumption) ?r33
        case y33 => ((intro w hSw; (try dsimp only at hSw); go_simp; (first | done | with_reducible rfl)))
        (try simp only [List.getElem_toArray, List.getElem_cons_succ, List.getElem_cons_zero, Act.put, List.setIfInBounds_toArray, List.set_cons_zero, List.set_cons_succ])
        refine wpAnyH_ready (rs := [11]) (by kernel_rfl) (by simp) ?_
        refine AllReadyH.cons rfl (fun K hK => ?_) AllReadyH.nil
        go_simp
        skip
        refine hK.out _ _ (by first | (dsimp only; simp [go_sem, *]; done) | (simp [go_sem, *])) (fun hHeld => ?_)
        clear hK K
        (try simp only [List.getElem_toArray, List.getElem_cons_succ, List.getElem_cons_zero, Act.put, List.setIfInBounds_toArray, List.set_cons_zero, List.set_cons_succ])
        refine wpAnyH_ready (rs := [12]) (by kernel_rfl) (by simp) ?_
        refine AllReadyH.cons rfl (fun K hK => ?_) AllReadyH.nil
        refine step_storeSe (q := w.heap.size + 1) (v0 := 0) (v1 := TR) (g := w.heap.size + 2) (m := j) (c := j) rfl rfl rfl rfl rfl hblk ?_
        have hz := set3_heap wr.drew (w.heap.size + 1) (v0 := .int .i64 0) (v1 := .int .i64 TR) (v2 := .slice (some ⟨w.heap.size + 2, 0, none⟩) j j) hblk
        have hz3 := (set3_other wr.drew (b := w.heap.size) (q := w.heap.size + 1) (.int .i64 0) (.int .i64 TR) (.slice (some ⟨w.heap.size + 2, 0, none⟩) j j) (by omega)).trans hb3
        have hzr : (set3 wr.drew (w.heap.size + 1) (.int .i64 0) (.int .i64 TR) (.slice (some ⟨w.heap.size + 2, 0, none⟩) j j)).rowIs (w.heap.size + 2) 3 j (nums h) := HROW.out.drew.of_block (set3_other wr.drew (.int .i64 0) (.int .i64 TR) (.slice (some ⟨w.heap.size + 2, 0, none⟩) j j) (by omega))
        have hzx : Ext w (set3 wr.drew (w.heap.size + 1) (.int .i64 0) (.int .i64 TR) (.slice (some ⟨w.heap.size + 2, 0, none⟩) j j)) := set3_ext (.int .i64 0) (.int .i64 TR) (.slice (some ⟨w.heap.size + 2, 0, none⟩) j j) ((((Ext.refl w).alloc _).alloc _).trans HX.out).drew (by omega)
        generalize set3 wr.drew (w.heap.size + 1) (.int .i64 0) (.int .i64 TR) (.slice (some ⟨w.heap.size + 2, 0, none⟩) j j) = wz at hz hz3 hzr hzx ⊢
        have z0 := Lib.cell_of_heap hz 0
        have z1 := Lib.cell_of_heap hz 1
        have z2 := Lib.cell_of_heap hz 2
        have z3 := Lib.cell_of_heap hz3 0
        have z4 := Lib.cell_of_heap hz3 1
        have z5 := Lib.cell_of_heap hz3 2
        simp only [List.getElem?_toArray, List.getElem?_cons_succ, List.getElem?_cons_zero] at z0 z1 z2 z3 z4 z5
        refine hK.out _ _ (by first | exact ⟨z3, z4, z5⟩ | (dsimp only; simp [go_sem, *]; done) | (simp [go_sem, *])) (fun hHeld => ?_)
        clear hK K
        (try simp only [List.getElem_toArray, List.getElem_cons_succ, List.getElem_cons_zero, Act.put, List.setIfInBounds_toArray, List.set_cons_zero, List.set_cons_succ])
        refine wpAnyH_done (by kernel_rfl) ?_ _
        go_wp2
        refine bodyPost_ret (v := .tuple #[.int .i64 j, .agg #[.int .i64 0, .int .i64 TR, .slice (some ⟨w.heap.size + 2, 0, none⟩) j j]]) (by simp [results, Try.results5, go_sem, *]) rfl ?_
        exact ⟨j, w.heap.size + 2, h, 0, TR, rfl, HN.out, by omega, by omega, by omega, by omega, HH.out, hzr, hgb, hzx⟩
      · have m1 : (if 0 < TF then TF else 0) = 0 := if_neg (by omega)
        have m2 : (if 0 < TR then TR else 0) = 0 := if_neg (by omega)
        go_wp2
        refine wp_region_held_drew (S := (fun w' => w'.cell? ⟨w.heap.size, 0, none⟩ = some (.int .i64 F0) ∧ w'.cell? ⟨w.heap.size, 1, none⟩ = some (.int .i64 R0) ∧ w'.cell? ⟨w.heap.size, 2, none⟩ = some (.slice A gn gc))) (by kernel_rfl) (by simp [go_sem, *]) (fun hHeld => ?_)
        refine wpAnyH_take (i := 0) (v := ?v34) rfl (by kernel_rfl) (by kernel_rfl) (by kernel_rfl) (fun _ _ _ h => h) (Or.inl ⟨by rfl, ?y34⟩) (by assumption) ?r34
        case y34 => ((intro w hSw; (try dsimp only at hSw); go_simp; (first | done | with_reducible rfl)))
        (try simp only [List.getElem_toArray, List.getElem_cons_succ, List.getElem_cons_zero, Act.put, List.setIfInBounds_toArray, List.set_cons_zero, List.set_cons_succ])
        refine wpAnyH_take (i := 1) (v := ?v35) rfl (by kernel_rfl) (by kernel_rfl) (by kernel_rfl) (fun _ _ _ h => h) (Or.inl ⟨by rfl, ?y35⟩) (by assumption) ?r35
        case y35 => ((intro w hSw; (try dsimp only at hSw); go_simp; (first | done | with_reducible rfl)))
        (try simp only [List.getElem_toArray, List.getElem_cons_succ, List.getElem_cons_zero, Act.put, List.setIfInBounds_toArray, List.set_cons_zero, List.set_cons_succ])
        refine wpAnyH_take (i := 2) (v := ?v36) rfl (by kernel_rfl) (by kernel_rfl) (by kernel_rfl) (fun _ _ _ h => h) (Or.inl ⟨by rfl, ?y36⟩) (by assumption) ?r36
        case y36 => ((intro w hSw; (try dsimp only at hSw); go_simp; (first | done | with_reducible rfl)))
        (try simp only [List.getElem_toArray, List.getElem_cons_succ, List.getElem_cons_zero, Act.put, List.setIfInBounds_toArray, List.set_cons_zero, List.set_cons_succ])
        refine wpAnyH_take (i := 3) (v := ?v37) rfl (by kernel_rfl) (by kernel_rfl) (by kernel_rfl) (fun _ _ _ h => h) (Or.inl ⟨by rfl, ?y37⟩) (by assumption) ?r37
        case y37 => ((intro w hSw; (try dsimp only at hSw); go_simp; (first | done | with_reducible rfl)))
        (try simp only [List.getElem_toArray, List.getElem_cons_succ, List.getElem_cons_zero, Act.put, List.setIfInBounds_toArray, List.set_cons_zero, List.set_cons_succ])
        refine wpAnyH_take (i := 4) (v := ?v38) rfl (by kernel_rfl) (by kernel_rfl) (by kernel_rfl) (fun _ _ _ h => h) (Or.inl ⟨by rfl, ?y38⟩) (by assumption) ?r38
        case y38 => ((intro w hSw; (try dsimp only at hSw); go_simp; (first | done | with_reducible rfl)))
        (try simp only [List.getElem_toArray, List.getElem_cons_succ, List.getElem_cons_zero, Act.put, List.setIfInBounds_toArray, List.set_cons_zero, List.set_cons_succ])
        refine wpAnyH_take (i := 5) (v := ?v39) rfl (by kernel_rfl) (by kernel_rfl) (by kernel_rfl) (fun _ _ _ h => h) (Or.inl ⟨by rfl, ?y39⟩) (by assumption) ?r39
        case y39 => ((intro w hSw; (try dsimp only at hSw); go_simp; (first | done | with_reducible rfl)))
        (try simp only [List.getElem_toArray, List.getElem_cons_succ, List.getElem_cons_zero, Act.put, List.setIfInBounds_toArray, List.set_cons_zero, List.set_cons_succ])
        refine wpAnyH_take (i := 6) (v := ?v40) rfl (by kernel_rfl) (by kernel_rfl) (by kernel_rfl) (fun _ _ _ h => h) (Or.inl ⟨by rfl, ?y40⟩) (by assumption) ?r40
        case y40 => ((intro w hSw; (try dsimp only at hSw); go_simp; (first | done | with_reducible rfl)))
        (try simp only [List.getElem_toArray, List.getElem_cons_succ, List.getElem_cons_zero, Act.put, List.setIfInBounds_toArray, List.set_cons_zero, List.set_cons_succ])
        refine wpAnyH_take (i := 7) (v := ?v41) rfl (by kernel_rfl) (by kernel_rfl) (by kernel_rfl) (fun _ _ _ h => h) (Or.inl ⟨by rfl, ?y41⟩) (by assumption) ?r41
        case y41 => ((intro w hSw; (try dsimp only at hSw); go_simp; (first | done | with_reducible rfl)))
        (try simp only [List.getElem_toArray, List.getElem_cons_succ, List.getElem_cons_zero, Act.put, List.setIfInBounds_toArray, List.set_cons_zero, List.set_cons_succ])
        refine wpAnyH_take (i := 8) (v := ?v42) rfl (by kernel_rfl) (by kernel_rfl) (by kernel_rfl) (fun _ _ _ h => h) (Or.inl ⟨by rfl, ?y42⟩) (by assumption) ?r42
        case y42 => ((intro w hSw; (try dsimp only at hSw); go_simp; (first | done | with_reducible rfl)))
        (try simp only [List.getElem_toArray, List.getElem_cons_succ, List.getElem_cons_zero, Act.put, List.setIfInBounds_toArray, List.set_cons_zero, List.set_cons_succ])
        refine wpAnyH_take (i := 9) (v := ?v43) rfl (by kernel_rfl) (by kernel_rfl) (by kernel_rfl) (fun _ _ _ h => h) (Or.inl ⟨by rfl, ?y43⟩) (by assumption) ?r43
        case y43 => ((intro w hSw; (try dsimp only at hSw); go_simp; (first | done | with_reducible rfl)))
        (try simp only [List.getElem_toArray, List.getElem_cons_succ, List.getElem_cons_zero, Act.put, List.setIfInBounds_toArray, List.set_cons_zero, List.set_cons_succ])
        refine wpAnyH_take (i := 10) (v := ?v44) rfl (by kernel_rfl) (by kernel_rfl) (by kernel_rfl) (fun _ _ _ h => h) (Or.inl ⟨by rfl, ?y44⟩) (by assumption) ?r44
        case y44 => ((intro w hSw; (try dsimp only at hSw); go_simp; (first | done | with_reducible rfl)))
        (try simp only [List.getElem_toArray, List.getElem_cons_succ, List.getElem_cons_zero, Act.put, List.setIfInBounds_toArray, List.set_cons_zero, List.set_cons_succ])
        refine wpAnyH_ready (rs := [11]) (by kernel_rfl) (by simp) ?_
        refine AllReadyH.cons rfl (fun K hK => ?_) AllReadyH.nil
        go_simp
        skip
        refine hK.out _ _ (by first | (dsimp only; simp [go_sem, *]; done) | (simp [go_sem, *])) (fun hHeld => ?_)
        clear hK K
        (try simp only [List.getElem_toArray, List.getElem_cons_succ, List.getElem_cons_zero, Act.put, List.setIfInBounds_toArray, List.set_cons_zero, List.set_cons_succ])
        refine wpAnyH_ready (rs := [12]) (by kernel_rfl) (by simp) ?_
        refine AllReadyH.cons rfl (fun K hK => ?_) AllReadyH.nil
        refine step_storeSe (q := w.heap.size + 1) (v0 := 0) (v1 := 0) (g := w.heap.size + 2) (m := j) (c := j) rfl rfl rfl rfl rfl hblk ?_
        have hz := set3_heap wr.drew (w.heap.size + 1) (v0 := .int .i64 0) (v1 := .int .i64 0) (v2 := .slice (some ⟨w.heap.size + 2, 0, none⟩) j j) hblk
        have hz3 := (set3_other wr.drew (b := w.heap.size) (q := w.heap.size + 1) (.int .i64 0) (.int .i64 0) (.slice (some ⟨w.heap.size + 2, 0, none⟩) j j) (by omega)).trans hb3
        have hzr : (set3 wr.drew (w.heap.size + 1) (.int .i64 0) (.int .i64 0) (.slice (some ⟨w.heap.size + 2, 0, none⟩) j j)).rowIs (w.heap.size + 2) 3 j (nums h) := HROW.out.drew.of_block (set3_other wr.drew (.int .i64 0) (.int .i64 0) (.slice (some ⟨w.heap.size + 2, 0, none⟩) j j) (by omega))
        have hzx : Ext w (set3 wr.drew (w.heap.size + 1) (.int .i64 0) (.int .i64 0) (.slice (some ⟨w.heap.size + 2, 0, none⟩) j j)) := set3_ext (.int .i64 0) (.int .i64 0) (.slice (some ⟨w.heap.size + 2, 0, none⟩) j j) ((((Ext.refl w).alloc _).alloc _).trans HX.out).drew (by omega)
        generalize set3 wr.drew (w.heap.size + 1) (.int .i64 0) (.int .i64 0) (.slice (some ⟨w.heap.size + 2, 0, none⟩) j j) = wz at hz hz3 hzr hzx ⊢
        have z0 := Lib.cell_of_heap hz 0
        have z1 := Lib.cell_of_heap hz 1
        have z2 := Lib.cell_of_heap hz 2
        have z3 := Lib.cell_of_heap hz3 0
        have z4 := Lib.cell_of_heap hz3 1
        have z5 := Lib.cell_of_heap hz3 2
        simp only [List.getElem?_toArray, List.getElem?_cons_succ, List.getElem?_cons_zero] at z0 z1 z2 z3 z4 z5
        refine hK.out _ _ (by first | exact ⟨z3, z4, z5⟩ | (dsimp only; simp [go_sem, *]; done) | (simp [go_sem, *])) (fun hHeld => ?_)
        clear hK K
        (try simp only [List.getElem_toArray, List.getElem_cons_succ, List.getElem_cons_zero, Act.put, List.setIfInBounds_toArray, List.set_cons_zero, List.set_cons_succ])
        refine wpAnyH_done (by kernel_rfl) ?_ _
        go_wp2
        refine bodyPost_ret (v := .tuple #[.int .i64 j, .agg #[.int .i64 0, .int .i64 0, .slice (some ⟨w.heap.size + 2, 0, none⟩) j j]]) (by simp [results, Try.results5, go_sem, *]) rfl ?_
        exact ⟨j, w.heap.size + 2, h, 0, 0, rfl, HN.out, by omega, by omega, by omega, by omega, HH.out, hzr, hgb, hzx⟩

end Go.Proofs.Ytdaidanpcehnnaa

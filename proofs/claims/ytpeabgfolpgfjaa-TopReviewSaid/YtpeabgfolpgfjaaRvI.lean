/-
  The events of the law are well-formed.
-/
import Derived.Test.YtpeabgfolpgfjaaRvH
namespace Go.Proofs.Ytpeabgfolpgfjaa
open Go.RowKit Go.Lib
set_option linter.unusedSimpArgs false

/-- An event of the law: its kind, side, players, yes, and the type of its delivery. -/
def evC (k sd p o : Int) (y : Bool) (ty : Int) : Array Value := #[.int .u8 k, .int .i64 sd, .int .i64 p, .int .i64 o, .bool y, .int .i64 0, .int .i64 0, .int .u8 ty, .int .u8 0, .int .i64 0, .int .i64 0, .int .i64 0, .bool false, .int .u8 0, .int .i64 0, .int .i64 0, .int .i64 0, .bool false, .int .i64 0]
def BoxE (w : World) (b : Nat) (k sd p o : Int) (y : Bool) (ty : Int) : Prop := w.heap[b]? = some (.cells (evC k sd p o y ty) 55 (0, 0))
theorem boxE_new (w : World) (k sd p o : Int) (y : Bool) (ty : Int) : BoxE (w.alloc (.cells (evC k sd p o y ty) 55)) w.heap.size k sd p o y ty := heap_alloc_new w _
theorem BoxE.lt {w : World} {b : Nat} {k sd p o : Int} {y : Bool} {ty : Int} (h : BoxE w b k sd p o y ty) : b < w.heap.size := (Array.getElem?_eq_some_iff.1 h).1
theorem BoxE.ext {w w' : World} {b : Nat} {k sd p o : Int} {y : Bool} {ty : Int} (h : BoxE w b k sd p o y ty) (x : Ext w w') : BoxE w' b k sd p o y ty := (x.block b h.lt).trans h
theorem BoxE.c0 {w : World} {b : Nat} {k sd p o : Int} {y : Bool} {ty : Int} (h : BoxE w b k sd p o y ty) : w.cell? ⟨b, 0, none⟩ = some (.int .u8 k) := Lib.cell_of_heap h 0
theorem BoxE.c1 {w : World} {b : Nat} {k sd p o : Int} {y : Bool} {ty : Int} (h : BoxE w b k sd p o y ty) : w.cell? ⟨b, 1, none⟩ = some (.int .i64 sd) := Lib.cell_of_heap h 1
theorem BoxE.c2 {w : World} {b : Nat} {k sd p o : Int} {y : Bool} {ty : Int} (h : BoxE w b k sd p o y ty) : w.cell? ⟨b, 2, none⟩ = some (.int .i64 p) := Lib.cell_of_heap h 2
theorem BoxE.c3 {w : World} {b : Nat} {k sd p o : Int} {y : Bool} {ty : Int} (h : BoxE w b k sd p o y ty) : w.cell? ⟨b, 3, none⟩ = some (.int .i64 o) := Lib.cell_of_heap h 3
theorem BoxE.c4 {w : World} {b : Nat} {k sd p o : Int} {y : Bool} {ty : Int} (h : BoxE w b k sd p o y ty) : w.cell? ⟨b, 4, none⟩ = some (.bool y) := Lib.cell_of_heap h 4
theorem BoxE.c5 {w : World} {b : Nat} {k sd p o : Int} {y : Bool} {ty : Int} (h : BoxE w b k sd p o y ty) : w.cell? ⟨b, 5, none⟩ = some (.int .i64 0) := Lib.cell_of_heap h 5
theorem BoxE.c6 {w : World} {b : Nat} {k sd p o : Int} {y : Bool} {ty : Int} (h : BoxE w b k sd p o y ty) : w.cell? ⟨b, 6, none⟩ = some (.int .i64 0) := Lib.cell_of_heap h 6
theorem BoxE.c7 {w : World} {b : Nat} {k sd p o : Int} {y : Bool} {ty : Int} (h : BoxE w b k sd p o y ty) : w.cell? ⟨b, 7, none⟩ = some (.int .u8 ty) := Lib.cell_of_heap h 7
theorem BoxE.c8 {w : World} {b : Nat} {k sd p o : Int} {y : Bool} {ty : Int} (h : BoxE w b k sd p o y ty) : w.cell? ⟨b, 8, none⟩ = some (.int .u8 0) := Lib.cell_of_heap h 8
theorem BoxE.c9 {w : World} {b : Nat} {k sd p o : Int} {y : Bool} {ty : Int} (h : BoxE w b k sd p o y ty) : w.cell? ⟨b, 9, none⟩ = some (.int .i64 0) := Lib.cell_of_heap h 9
theorem BoxE.c10 {w : World} {b : Nat} {k sd p o : Int} {y : Bool} {ty : Int} (h : BoxE w b k sd p o y ty) : w.cell? ⟨b, 10, none⟩ = some (.int .i64 0) := Lib.cell_of_heap h 10
theorem BoxE.c11 {w : World} {b : Nat} {k sd p o : Int} {y : Bool} {ty : Int} (h : BoxE w b k sd p o y ty) : w.cell? ⟨b, 11, none⟩ = some (.int .i64 0) := Lib.cell_of_heap h 11
theorem BoxE.c12 {w : World} {b : Nat} {k sd p o : Int} {y : Bool} {ty : Int} (h : BoxE w b k sd p o y ty) : w.cell? ⟨b, 12, none⟩ = some (.bool false) := Lib.cell_of_heap h 12
theorem BoxE.c13 {w : World} {b : Nat} {k sd p o : Int} {y : Bool} {ty : Int} (h : BoxE w b k sd p o y ty) : w.cell? ⟨b, 13, none⟩ = some (.int .u8 0) := Lib.cell_of_heap h 13
theorem BoxE.c14 {w : World} {b : Nat} {k sd p o : Int} {y : Bool} {ty : Int} (h : BoxE w b k sd p o y ty) : w.cell? ⟨b, 14, none⟩ = some (.int .i64 0) := Lib.cell_of_heap h 14
theorem BoxE.c15 {w : World} {b : Nat} {k sd p o : Int} {y : Bool} {ty : Int} (h : BoxE w b k sd p o y ty) : w.cell? ⟨b, 15, none⟩ = some (.int .i64 0) := Lib.cell_of_heap h 15
theorem BoxE.c16 {w : World} {b : Nat} {k sd p o : Int} {y : Bool} {ty : Int} (h : BoxE w b k sd p o y ty) : w.cell? ⟨b, 16, none⟩ = some (.int .i64 0) := Lib.cell_of_heap h 16
theorem BoxE.c17 {w : World} {b : Nat} {k sd p o : Int} {y : Bool} {ty : Int} (h : BoxE w b k sd p o y ty) : w.cell? ⟨b, 17, none⟩ = some (.bool false) := Lib.cell_of_heap h 17
theorem BoxE.c18 {w : World} {b : Nat} {k sd p o : Int} {y : Bool} {ty : Int} (h : BoxE w b k sd p o y ty) : w.cell? ⟨b, 18, none⟩ = some (.int .i64 0) := Lib.cell_of_heap h 18

def fL : List Int := [115, 112, 111, 121, 114, 118, 98]
def zL (sd p o : Int) (y : Bool) (ty : Int) : List Bool := [sd == 0, p == 0, o == 0, !y, true, true, ty == 0]
def tL (sd p o : Int) : List Bool := [rng sd 1 2, rng p 1 11, rng o 1 11, true, true, true, true]
/-- The table of the seven fields in block b. -/
def SevAt (w : World) (b : Nat) (Z T : List Bool) : Prop := ∀ j : Nat, j < 7 → w.cell? ⟨b, j * 3, none⟩ = some (.int .u8 (fL.getD j 0)) ∧ w.cell? ⟨b, j * 3 + 1, none⟩ = some (.bool (Z.getD j true)) ∧ w.cell? ⟨b, j * 3 + 2, none⟩ = some (.bool (T.getD j true))
theorem SevAt.ext {w w' : World} {b : Nat} {Z T : List Bool} (h : SevAt w b Z T) (e : Ext w w') : SevAt w' b Z T := fun j hj => ⟨e.keep (h j hj).1, e.keep (h j hj).2.1, e.keep (h j hj).2.2⟩
theorem bounds_any (k : Int) (h7 : (k == 7) = false) (h13 : (k == 13) = false) (w : World) : Calls Try.prog 26 #[.int .u8 k] w fun e w' => e = .returned (.tuple #[.int .i64 0, .int .i64 100000]) ∧ w' = w := by
  go_enter Try.func26, Try.ntmps26
  go_wp2
  go_ret2
  exact ⟨rfl, rfl⟩

set_option maxHeartbeats 8000000 in
set_option maxRecDepth 20000 in
theorem evcheck_0 (w : World) (k sd p o : Int) (y : Bool) (hk : 1 ≤ k ∧ k ≤ 16) (h7 : (k == 7) = false) (h13 : (k == 13) = false) (h4 : (k == 4) = false)
    (hu : ∀ j, j < 7 → (zL sd p o y 0).getD j true = false → ∀ W, Calls Try.prog 28 #[.int .u8 k, .int .u8 (fL.getD j 0)] W fun e w' => e = .returned (.bool true) ∧ Ext W w')
    (hv : ∀ j, j < 7 → (tL sd p o).getD j true = false → ∀ W, Calls Try.prog 28 #[.int .u8 k, .int .u8 (fL.getD j 0)] W fun e w' => e = .returned (.bool false) ∧ Ext W w') :
    Calls Try.prog 16 #[.agg (evC k sd p o y 0)] w fun e w' => e = .returned (.int .i64 0) ∧ Ext w w' := by
  have HU := Lib.hid hu
  have HV := Lib.hid hv
  obtain ⟨F1, hF1⟩ : ∃ x, rng sd 1 2 = x := ⟨_, rfl⟩
  obtain ⟨F2, hF2⟩ : ∃ x, rng p 1 11 = x := ⟨_, rfl⟩
  obtain ⟨F3, hF3⟩ : ∃ x, rng o 1 11 = x := ⟨_, rfl⟩
  have HF : Hid (tL sd p o = [F1, F2, F3, true, true, true, true]) := by show tL sd p o = _; unfold tL; rw [hF1, hF2, hF3]
  have HB1 : Hid (∀ W, Calls Try.prog 27 #[.int .i64 sd, .int .i64 1, .int .i64 2] W fun e w' => e = .returned (.bool F1) ∧ w' = W) := fun W => hF1 ▸ ebet_any sd 1 2 W
  have HB2 : Hid (∀ W, Calls Try.prog 27 #[.int .i64 p, .int .i64 1, .int .i64 11] W fun e w' => e = .returned (.bool F2) ∧ w' = W) := fun W => hF2 ▸ ebet_any p 1 11 W
  have HB3 : Hid (∀ W, Calls Try.prog 27 #[.int .i64 o, .int .i64 1, .int .i64 11] W fun e w' => e = .returned (.bool F3) ∧ w' = W) := fun W => hF3 ▸ ebet_any o 1 11 W
  obtain ⟨hk0, hk1⟩ := hk
  clear hu hv hF1 hF2 hF3
  go_enter Try.func16, Try.ntmps16
  go_upto_region 1 with fail
  obtain ⟨w0, hw0⟩ : ∃ W, W = w.alloc (.cells (evC k sd p o y 0) 55) := ⟨_, rfl⟩
  have HX := Lib.hid (show Ext w w0 by rw [hw0]; exact (by repeat (first | exact Ext.refl _ | refine Ext.drew ?_ | refine Ext.drewN ?_ _ | refine Ext.alloc ?_ _)))
  have HB := Lib.hid (show BoxE w0 w.heap.size k sd p o y 0 by rw [hw0]; exact boxE_new w k sd p o y 0)
  have lw : w.heap.size < w0.heap.size := HB.out.lt
  have c0 := HB.out.c0
  have c1 := HB.out.c1
  have c2 := HB.out.c2
  have c3 := HB.out.c3
  have c4 := HB.out.c4
  have c5 := HB.out.c5
  have c6 := HB.out.c6
  have c7 := HB.out.c7
  have c8 := HB.out.c8
  have c9 := HB.out.c9
  have c10 := HB.out.c10
  have c11 := HB.out.c11
  have c12 := HB.out.c12
  have c13 := HB.out.c13
  have c14 := HB.out.c14
  have c15 := HB.out.c15
  have c16 := HB.out.c16
  have c17 := HB.out.c17
  have c18 := HB.out.c18
  rw [← hw0]
  clear hw0
  go_upto_region 5 with (go_at_call 26; refine (bounds_any k h7 h13 _).mono ?_; rintro e w' ⟨rfl, hww⟩; replace hww := hww.symm; subst hww)
  refine wp_region_still_tail 46 (by kernel_rfl) (by kernel_rfl) ?_
  simp only [List.take_succ_cons, List.take_zero, List.drop_succ_cons, List.drop_zero]
  repeat still_step
  still_call (HB1.out _)
  repeat still_step
  still_call (HB2.out _)
  repeat still_step
  still_call (HB3.out _)
  repeat still_step
  still_call (ebet_yes _ _ _ _ (by omega))
  repeat still_step
  still_call (ebet_yes _ _ _ _ (by omega))
  repeat still_step
  try refine wpStill_nil ?_
  change wpList _ _ _ _ _ w0.drew
  replace HX := Lib.hid (show Ext w w0.drew from HX.out.drew)
  replace HB := Lib.hid (HB.out.ext (show Ext w0 w0.drew from (Ext.refl w0).drew))
  clear c0 c1 c2 c3 c4 c5 c6 c7 c8 c9 c10 c11 c12 c13 c14 c15 c16 c17 c18 lw
  generalize w0.drew = w1 at HX HB ⊢
  have lw : w.heap.size < w1.heap.size := HB.out.lt
  go_wp2_with fail
  have hT0 : SevAt (w1.alloc (.cells #[.int .u8 115, .bool (sd == 0), .bool F1, .int .u8 112, .bool (p == 0), .bool F2, .int .u8 111, .bool (o == 0), .bool F3, .int .u8 121, .bool (!y), .bool true, .int .u8 114, .bool true, .bool true, .int .u8 118, .bool true, .bool true, .int .u8 98, .bool true, .bool true] 87)) w1.heap.size (zL sd p o y 0) [F1, F2, F3, true, true, true, true] := fun j hj => by
    match j, hj with
    | 0, _ => refine ⟨?_, ?_, ?_⟩ <;> simp [go_sem, fL, zL]
    | 1, _ => refine ⟨?_, ?_, ?_⟩ <;> simp [go_sem, fL, zL]
    | 2, _ => refine ⟨?_, ?_, ?_⟩ <;> simp [go_sem, fL, zL]
    | 3, _ => refine ⟨?_, ?_, ?_⟩ <;> simp [go_sem, fL, zL]
    | 4, _ => refine ⟨?_, ?_, ?_⟩ <;> simp [go_sem, fL, zL]
    | 5, _ => refine ⟨?_, ?_, ?_⟩ <;> simp [go_sem, fL, zL]
    | 6, _ => refine ⟨?_, ?_, ?_⟩ <;> simp [go_sem, fL, zL]
  obtain ⟨w2, hw2⟩ : ∃ W, W = w1.alloc (.cells #[.int .u8 115, .bool (sd == 0), .bool F1, .int .u8 112, .bool (p == 0), .bool F2, .int .u8 111, .bool (o == 0), .bool F3, .int .u8 121, .bool (!y), .bool true, .int .u8 114, .bool true, .bool true, .int .u8 118, .bool true, .bool true, .int .u8 98, .bool true, .bool true] 87) := ⟨_, rfl⟩
  have hx2 : Ext w1 w2 := by rw [hw2]; exact (Ext.refl w1).alloc _
  rw [← hw2] at hT0 ⊢
  have HT := Lib.hid hT0
  have lt : w1.heap.size < w2.heap.size := by rw [hw2]; simp
  replace HX := Lib.hid (HX.out.trans hx2)
  replace HB := Lib.hid (HB.out.ext hx2)
  obtain ⟨b, hb⟩ : ∃ b, b = w1.heap.size := ⟨_, rfl⟩
  rw [← hb] at HT lt ⊢
  obtain ⟨Z, hZ⟩ : ∃ Z, zL sd p o y 0 = Z := ⟨_, rfl⟩
  rw [hZ] at HT HU
  obtain ⟨T, hT⟩ : ∃ T, [F1, F2, F3, true, true, true, true] = T := ⟨_, rfl⟩
  rw [HF.out, hT] at HV
  rw [hT] at HT
  clear hZ hT HF hw2 hx2 hT0 hb lw HB1 HB2 HB3
  clear w1
  go_loopw [8, 73] (fun _ i wr => ∃ j : Nat, j ≤ 7 ∧ i = .int .i64 j ∧ Ext w2 wr) (fun _ i _ => 7 - (RowKit.intOf i).toNat)
  case atStart => exact ⟨0, by omega, rfl, Ext.refl _⟩
  case round =>
    obtain ⟨j, hj, rfl, hE⟩ := hrel
    by_cases hlt : j < 7
    · obtain ⟨c0, c1, c2⟩ := (HT.out.ext hE) j hlt
      have hUj := HU.out j hlt
      obtain ⟨fv, hfv⟩ : ∃ x, fL.getD j 0 = x := ⟨_, rfl⟩
      obtain ⟨zv, hzv⟩ : ∃ x, Z.getD j true = x := ⟨_, rfl⟩
      obtain ⟨tv, htv⟩ : ∃ x, T.getD j true = x := ⟨_, rfl⟩
      rw [hfv] at c0 hUj
      rw [hzv] at c1
      rw [htv] at c2
      rw [hzv] at hUj
      have HUJ := Lib.hid hUj
      have hlt' : (j : Int) < 7 := by omega
      clear hUj hfv hzv htv
      have lwr := Nat.lt_of_lt_of_le lt hE.size
      cases zv
      · go_wp2_with (go_at_call 28; refine (HUJ.out rfl _).mono ?_; rintro e w3 ⟨rfl, hb3⟩)
        go_roundw
        case rel => exact ⟨j + 1, by omega, by go_num, (hE.trans (by repeat (first | exact Ext.refl _ | refine Ext.drew ?_ | refine Ext.drewN ?_ _ | refine Ext.alloc ?_ _))).trans hb3⟩
        case measure => simp [RowKit.intOf]; omega
      · go_wp2
        go_roundw
        case rel => exact ⟨j + 1, by omega, by go_num, hE.trans (by repeat (first | exact Ext.refl _ | refine Ext.drew ?_ | refine Ext.drewN ?_ _ | refine Ext.alloc ?_ _))⟩
        case measure => simp [RowKit.intOf]; omega
    · obtain rfl : j = 7 := by omega
      go_wp2_with fail
      obtain ⟨w4, rfl⟩ : ∃ W, W = wr := ⟨_, rfl⟩
      go_loopw [10, 90] (fun _ i wr => ∃ j : Nat, j ≤ 7 ∧ i = .int .i64 j ∧ Ext w2 wr) (fun _ i _ => 7 - (RowKit.intOf i).toNat)
      case atStart => exact ⟨0, by omega, rfl, hE⟩
      case round =>
        obtain ⟨j, hj, rfl, hE2⟩ := hrel
        by_cases hlt : j < 7
        · obtain ⟨c0, c1, c2⟩ := (HT.out.ext hE2) j hlt
          have hUj := HV.out j hlt
          obtain ⟨fv, hfv⟩ : ∃ x, fL.getD j 0 = x := ⟨_, rfl⟩
          obtain ⟨zv, hzv⟩ : ∃ x, Z.getD j true = x := ⟨_, rfl⟩
          obtain ⟨tv, htv⟩ : ∃ x, T.getD j true = x := ⟨_, rfl⟩
          rw [hfv] at c0 hUj
          rw [hzv] at c1
          rw [htv] at c2
          rw [htv] at hUj
          have HUJ := Lib.hid hUj
          have hlt' : (j : Int) < 7 := by omega
          clear hUj hfv hzv htv
          have lwr := Nat.lt_of_lt_of_le lt hE2.size
          cases tv
          · go_wp2_with (go_at_call 28; refine (HUJ.out rfl _).mono ?_; rintro e w3 ⟨rfl, hb3⟩)
            refine ⟨?_, ?measure⟩
            iterate 16 (apply Exists.intro)
            refine ⟨?rel, rfl⟩
            case rel => exact ⟨j + 1, by omega, by go_num, (hE2.trans (by repeat (first | exact Ext.refl _ | refine Ext.drew ?_ | refine Ext.drewN ?_ _ | refine Ext.alloc ?_ _))).trans hb3⟩
            case measure => simp [RowKit.intOf]; omega
          · go_wp2
            go_roundw
            case rel => exact ⟨j + 1, by omega, by go_num, hE2.trans (by repeat (first | exact Ext.refl _ | refine Ext.drew ?_ | refine Ext.drewN ?_ _ | refine Ext.alloc ?_ _))⟩
            case measure => simp [RowKit.intOf]; omega
        · obtain rfl : j = 7 := by omega
          replace HX := Lib.hid (HX.out.trans hE2)
          replace HB := Lib.hid (HB.out.ext hE2)
          have e7 := HB.out.c7
          have e8 := HB.out.c8
          have e9 := HB.out.c9
          have e10 := HB.out.c10
          have e11 := HB.out.c11
          have e12 := HB.out.c12
          have e13 := HB.out.c13
          have e14 := HB.out.c14
          have e15 := HB.out.c15
          have e16 := HB.out.c16
          have e17 := HB.out.c17
          have e18 := HB.out.c18
          go_wp2_with fail
          go_ret
          exact ⟨rfl, HX.out.trans (by repeat (first | exact Ext.refl _ | refine Ext.drew ?_ | refine Ext.drewN ?_ _ | refine Ext.alloc ?_ _))⟩

set_option maxHeartbeats 8000000 in
set_option maxRecDepth 20000 in
theorem evcheck_1 (w : World) (k sd p o : Int) (y : Bool) (hk : 1 ≤ k ∧ k ≤ 16) (h7 : (k == 7) = false) (h13 : (k == 13) = false) (h4 : (k == 4) = true)
    (hu : ∀ j, j < 7 → (zL sd p o y 1).getD j true = false → ∀ W, Calls Try.prog 28 #[.int .u8 k, .int .u8 (fL.getD j 0)] W fun e w' => e = .returned (.bool true) ∧ Ext W w')
    (hv : ∀ j, j < 7 → (tL sd p o).getD j true = false → ∀ W, Calls Try.prog 28 #[.int .u8 k, .int .u8 (fL.getD j 0)] W fun e w' => e = .returned (.bool false) ∧ Ext W w') :
    Calls Try.prog 16 #[.agg (evC k sd p o y 1)] w fun e w' => e = .returned (.int .i64 0) ∧ Ext w w' := by
  have HCK : Hid (∀ W, Calls Try.prog 29 #[.agg dlC] W fun e w' => e = .returned (.int .i64 0) ∧ Ext W w') := fun W => check_any ⟨1, 0, 0, 0, 0, false, 0, 0, 0, 0, false, 0⟩ W
  unfold dlC at HCK
  have HU := Lib.hid hu
  have HV := Lib.hid hv
  obtain ⟨F1, hF1⟩ : ∃ x, rng sd 1 2 = x := ⟨_, rfl⟩
  obtain ⟨F2, hF2⟩ : ∃ x, rng p 1 11 = x := ⟨_, rfl⟩
  obtain ⟨F3, hF3⟩ : ∃ x, rng o 1 11 = x := ⟨_, rfl⟩
  have HF : Hid (tL sd p o = [F1, F2, F3, true, true, true, true]) := by show tL sd p o = _; unfold tL; rw [hF1, hF2, hF3]
  have HB1 : Hid (∀ W, Calls Try.prog 27 #[.int .i64 sd, .int .i64 1, .int .i64 2] W fun e w' => e = .returned (.bool F1) ∧ w' = W) := fun W => hF1 ▸ ebet_any sd 1 2 W
  have HB2 : Hid (∀ W, Calls Try.prog 27 #[.int .i64 p, .int .i64 1, .int .i64 11] W fun e w' => e = .returned (.bool F2) ∧ w' = W) := fun W => hF2 ▸ ebet_any p 1 11 W
  have HB3 : Hid (∀ W, Calls Try.prog 27 #[.int .i64 o, .int .i64 1, .int .i64 11] W fun e w' => e = .returned (.bool F3) ∧ w' = W) := fun W => hF3 ▸ ebet_any o 1 11 W
  obtain ⟨hk0, hk1⟩ := hk
  clear hu hv hF1 hF2 hF3
  go_enter Try.func16, Try.ntmps16
  go_upto_region 1 with fail
  obtain ⟨w0, hw0⟩ : ∃ W, W = w.alloc (.cells (evC k sd p o y 1) 55) := ⟨_, rfl⟩
  have HX := Lib.hid (show Ext w w0 by rw [hw0]; exact (by repeat (first | exact Ext.refl _ | refine Ext.drew ?_ | refine Ext.drewN ?_ _ | refine Ext.alloc ?_ _)))
  have HB := Lib.hid (show BoxE w0 w.heap.size k sd p o y 1 by rw [hw0]; exact boxE_new w k sd p o y 1)
  have lw : w.heap.size < w0.heap.size := HB.out.lt
  have c0 := HB.out.c0
  have c1 := HB.out.c1
  have c2 := HB.out.c2
  have c3 := HB.out.c3
  have c4 := HB.out.c4
  have c5 := HB.out.c5
  have c6 := HB.out.c6
  have c7 := HB.out.c7
  have c8 := HB.out.c8
  have c9 := HB.out.c9
  have c10 := HB.out.c10
  have c11 := HB.out.c11
  have c12 := HB.out.c12
  have c13 := HB.out.c13
  have c14 := HB.out.c14
  have c15 := HB.out.c15
  have c16 := HB.out.c16
  have c17 := HB.out.c17
  have c18 := HB.out.c18
  rw [← hw0]
  clear hw0
  go_upto_region 5 with (go_at_call 26; refine (bounds_any k h7 h13 _).mono ?_; rintro e w' ⟨rfl, hww⟩; replace hww := hww.symm; subst hww)
  refine wp_region_still_tail 46 (by kernel_rfl) (by kernel_rfl) ?_
  simp only [List.take_succ_cons, List.take_zero, List.drop_succ_cons, List.drop_zero]
  repeat still_step
  still_call (HB1.out _)
  repeat still_step
  still_call (HB2.out _)
  repeat still_step
  still_call (HB3.out _)
  repeat still_step
  still_call (ebet_yes _ _ _ _ (by omega))
  repeat still_step
  still_call (ebet_yes _ _ _ _ (by omega))
  repeat still_step
  try refine wpStill_nil ?_
  change wpList _ _ _ _ _ w0.drew
  replace HX := Lib.hid (show Ext w w0.drew from HX.out.drew)
  replace HB := Lib.hid (HB.out.ext (show Ext w0 w0.drew from (Ext.refl w0).drew))
  clear c0 c1 c2 c3 c4 c5 c6 c7 c8 c9 c10 c11 c12 c13 c14 c15 c16 c17 c18 lw
  generalize w0.drew = w1 at HX HB ⊢
  have lw : w.heap.size < w1.heap.size := HB.out.lt
  go_wp2_with fail
  have hT0 : SevAt (w1.alloc (.cells #[.int .u8 115, .bool (sd == 0), .bool F1, .int .u8 112, .bool (p == 0), .bool F2, .int .u8 111, .bool (o == 0), .bool F3, .int .u8 121, .bool (!y), .bool true, .int .u8 114, .bool true, .bool true, .int .u8 118, .bool true, .bool true, .int .u8 98, .bool false, .bool true] 87)) w1.heap.size (zL sd p o y 1) [F1, F2, F3, true, true, true, true] := fun j hj => by
    match j, hj with
    | 0, _ => refine ⟨?_, ?_, ?_⟩ <;> simp [go_sem, fL, zL]
    | 1, _ => refine ⟨?_, ?_, ?_⟩ <;> simp [go_sem, fL, zL]
    | 2, _ => refine ⟨?_, ?_, ?_⟩ <;> simp [go_sem, fL, zL]
    | 3, _ => refine ⟨?_, ?_, ?_⟩ <;> simp [go_sem, fL, zL]
    | 4, _ => refine ⟨?_, ?_, ?_⟩ <;> simp [go_sem, fL, zL]
    | 5, _ => refine ⟨?_, ?_, ?_⟩ <;> simp [go_sem, fL, zL]
    | 6, _ => refine ⟨?_, ?_, ?_⟩ <;> simp [go_sem, fL, zL]
  obtain ⟨w2, hw2⟩ : ∃ W, W = w1.alloc (.cells #[.int .u8 115, .bool (sd == 0), .bool F1, .int .u8 112, .bool (p == 0), .bool F2, .int .u8 111, .bool (o == 0), .bool F3, .int .u8 121, .bool (!y), .bool true, .int .u8 114, .bool true, .bool true, .int .u8 118, .bool true, .bool true, .int .u8 98, .bool false, .bool true] 87) := ⟨_, rfl⟩
  have hx2 : Ext w1 w2 := by rw [hw2]; exact (Ext.refl w1).alloc _
  rw [← hw2] at hT0 ⊢
  have HT := Lib.hid hT0
  have lt : w1.heap.size < w2.heap.size := by rw [hw2]; simp
  replace HX := Lib.hid (HX.out.trans hx2)
  replace HB := Lib.hid (HB.out.ext hx2)
  obtain ⟨b, hb⟩ : ∃ b, b = w1.heap.size := ⟨_, rfl⟩
  rw [← hb] at HT lt ⊢
  obtain ⟨Z, hZ⟩ : ∃ Z, zL sd p o y 1 = Z := ⟨_, rfl⟩
  rw [hZ] at HT HU
  obtain ⟨T, hT⟩ : ∃ T, [F1, F2, F3, true, true, true, true] = T := ⟨_, rfl⟩
  rw [HF.out, hT] at HV
  rw [hT] at HT
  clear hZ hT HF hw2 hx2 hT0 hb lw HB1 HB2 HB3
  clear w1
  go_loopw [8, 73] (fun _ i wr => ∃ j : Nat, j ≤ 7 ∧ i = .int .i64 j ∧ Ext w2 wr) (fun _ i _ => 7 - (RowKit.intOf i).toNat)
  case atStart => exact ⟨0, by omega, rfl, Ext.refl _⟩
  case round =>
    obtain ⟨j, hj, rfl, hE⟩ := hrel
    by_cases hlt : j < 7
    · obtain ⟨c0, c1, c2⟩ := (HT.out.ext hE) j hlt
      have hUj := HU.out j hlt
      obtain ⟨fv, hfv⟩ : ∃ x, fL.getD j 0 = x := ⟨_, rfl⟩
      obtain ⟨zv, hzv⟩ : ∃ x, Z.getD j true = x := ⟨_, rfl⟩
      obtain ⟨tv, htv⟩ : ∃ x, T.getD j true = x := ⟨_, rfl⟩
      rw [hfv] at c0 hUj
      rw [hzv] at c1
      rw [htv] at c2
      rw [hzv] at hUj
      have HUJ := Lib.hid hUj
      have hlt' : (j : Int) < 7 := by omega
      clear hUj hfv hzv htv
      have lwr := Nat.lt_of_lt_of_le lt hE.size
      cases zv
      · go_wp2_with (go_at_call 28; refine (HUJ.out rfl _).mono ?_; rintro e w3 ⟨rfl, hb3⟩)
        go_roundw
        case rel => exact ⟨j + 1, by omega, by go_num, (hE.trans (by repeat (first | exact Ext.refl _ | refine Ext.drew ?_ | refine Ext.drewN ?_ _ | refine Ext.alloc ?_ _))).trans hb3⟩
        case measure => simp [RowKit.intOf]; omega
      · go_wp2
        go_roundw
        case rel => exact ⟨j + 1, by omega, by go_num, hE.trans (by repeat (first | exact Ext.refl _ | refine Ext.drew ?_ | refine Ext.drewN ?_ _ | refine Ext.alloc ?_ _))⟩
        case measure => simp [RowKit.intOf]; omega
    · obtain rfl : j = 7 := by omega
      go_wp2_with fail
      obtain ⟨w4, rfl⟩ : ∃ W, W = wr := ⟨_, rfl⟩
      go_loopw [10, 90] (fun _ i wr => ∃ j : Nat, j ≤ 7 ∧ i = .int .i64 j ∧ Ext w2 wr) (fun _ i _ => 7 - (RowKit.intOf i).toNat)
      case atStart => exact ⟨0, by omega, rfl, hE⟩
      case round =>
        obtain ⟨j, hj, rfl, hE2⟩ := hrel
        by_cases hlt : j < 7
        · obtain ⟨c0, c1, c2⟩ := (HT.out.ext hE2) j hlt
          have hUj := HV.out j hlt
          obtain ⟨fv, hfv⟩ : ∃ x, fL.getD j 0 = x := ⟨_, rfl⟩
          obtain ⟨zv, hzv⟩ : ∃ x, Z.getD j true = x := ⟨_, rfl⟩
          obtain ⟨tv, htv⟩ : ∃ x, T.getD j true = x := ⟨_, rfl⟩
          rw [hfv] at c0 hUj
          rw [hzv] at c1
          rw [htv] at c2
          rw [htv] at hUj
          have HUJ := Lib.hid hUj
          have hlt' : (j : Int) < 7 := by omega
          clear hUj hfv hzv htv
          have lwr := Nat.lt_of_lt_of_le lt hE2.size
          cases tv
          · go_wp2_with (go_at_call 28; refine (HUJ.out rfl _).mono ?_; rintro e w3 ⟨rfl, hb3⟩)
            refine ⟨?_, ?measure⟩
            iterate 16 (apply Exists.intro)
            refine ⟨?rel, rfl⟩
            case rel => exact ⟨j + 1, by omega, by go_num, (hE2.trans (by repeat (first | exact Ext.refl _ | refine Ext.drew ?_ | refine Ext.drewN ?_ _ | refine Ext.alloc ?_ _))).trans hb3⟩
            case measure => simp [RowKit.intOf]; omega
          · go_wp2
            go_roundw
            case rel => exact ⟨j + 1, by omega, by go_num, hE2.trans (by repeat (first | exact Ext.refl _ | refine Ext.drew ?_ | refine Ext.drewN ?_ _ | refine Ext.alloc ?_ _))⟩
            case measure => simp [RowKit.intOf]; omega
        · obtain rfl : j = 7 := by omega
          replace HX := Lib.hid (HX.out.trans hE2)
          replace HB := Lib.hid (HB.out.ext hE2)
          have e7 := HB.out.c7
          have e8 := HB.out.c8
          have e9 := HB.out.c9
          have e10 := HB.out.c10
          have e11 := HB.out.c11
          have e12 := HB.out.c12
          have e13 := HB.out.c13
          have e14 := HB.out.c14
          have e15 := HB.out.c15
          have e16 := HB.out.c16
          have e17 := HB.out.c17
          have e18 := HB.out.c18
          go_wp2_with (go_at_call 29; refine (HCK.out _).mono ?_; rintro e w5 ⟨rfl, hb5⟩)
          go_ret
          exact ⟨rfl, HX.out.trans hb5⟩

end Go.Proofs.Ytpeabgfolpgfjaa

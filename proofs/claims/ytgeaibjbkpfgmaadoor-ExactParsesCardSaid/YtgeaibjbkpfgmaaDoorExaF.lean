/-
  The decimal text of a ratio (layer 1): the program's.
-/
import Derived.Test.YtgeaibjbkpfgmaaDoorExaE
import Derived.Test.YtgeaibjbkpfgmaaDoorTab
import Derived.Lib.Repeat
namespace Go.Proofs.YtgeaibjbkpfgmaaDoor
open Go.RowKit
set_option linter.unusedSimpArgs false

/-- The rounded size of a ratio in units of the last place. -/
def decQ (x y : Int) (k : Nat) : Int := (2 * (x.natAbs : Int) * 10 ^ k + y) / (2 * y)
theorem pow10_bd {k : Nat} (h : k ≤ 9) : (1 : Int) ≤ 10 ^ k ∧ (10 : Int) ^ k ≤ 1000000000 := by
  have : k = 0 ∨ k = 1 ∨ k = 2 ∨ k = 3 ∨ k = 4 ∨ k = 5 ∨ k = 6 ∨ k = 7 ∨ k = 8 ∨ k = 9 := by omega
  rcases this with rfl | rfl | rfl | rfl | rfl | rfl | rfl | rfl | rfl | rfl <;> decide
def pad (k : Nat) (l : List UInt8) : List UInt8 := Lib.repeatL [48] (k - l.length) ++ l
def point (k : Nat) (l : List UInt8) : List UInt8 := if k = 0 then l else l.take (l.length - k) ++ 46 :: l.drop (l.length - k)
def decL (x y : Int) (k : Nat) : List UInt8 :=
  if x < 0 ∧ decQ x y k ≠ 0 then 45 :: point k (pad (k + 1) (Lib.itoa (decQ x y k))) else point k (pad (k + 1) (Lib.itoa (decQ x y k)))
theorem itoa_pos (n : Int) : 1 ≤ (Lib.itoa n).length := by
  unfold Lib.itoa; split
  · simp
  · rw [Lib.decDigits_length]; exact Lib.nDigits_pos _
theorem cat_eq (a b : List UInt8) : (⟨a.toArray⟩ : ByteArray) ++ ⟨b.toArray⟩ = ⟨(a ++ b).toArray⟩ := by
  apply ByteArray.ext; simp
theorem point_pad {R D : List UInt8} {j : Nat} (h : R.length + D.length = j + 1) (hj : j ≠ 0) : List.take 1 (R ++ D) ++ 46 :: List.take (R.length + D.length - 1) (R ++ D).tail = point j (R ++ D) := by
  have e : (R ++ D).length - j = 1 := by simp; omega
  rw [point, if_neg hj, e, List.drop_one, List.take_of_length_le (l := (R ++ D).tail) (by simp)]
theorem point_plain {D : List UInt8} {q j : Nat} (h : D.length = q + j) (hj : j ≠ 0) : List.take q D ++ 46 :: List.take (D.length - q) (List.drop q D) = point j D := by
  rw [point, if_neg hj, show D.length - j = q by omega, List.take_of_length_le (l := List.drop q D) (by simp)]
def plR (k : Int) : Bool := decide (0 ≤ k ∧ k ≤ 9)
def decS (x y k : Int) : List UInt8 := if validB x y && plR k then decL x y k.toNat else []
def decE (x y k : Int) : Int := if validB x y then (if plR k then 0 else 2) else 1

set_option maxHeartbeats 4000000 in
theorem decimal_main (x y : Int) (k : Nat) (hv : validB x y = true) (hk : k ≤ 9) (w : World) (hTX : TX w) :
    Calls Tryd.prog 19 #[.agg #[.int .i64 x, .int .i64 y], .int .i64 k] w fun e w' => e = .returned (.tuple #[.string ⟨(decL x y k).toArray⟩, .int .i64 0]) ∧ Ext w w' := by
  obtain ⟨p1, p2, p3, p4, p5⟩ := valid_parts hv
  have X1 := Lib.hid hv
  replace hTX := Lib.hid hTX
  clear hv p5
  go_enter Tryd.func19, Tryd.ntmps19
  go_wp2_with (first | ((fail_if_success (have hzz := hb1)); go_at_call 17; refine (valid_any _ _  _).mono ?_; rintro e w1 ⟨rfl, hb1⟩; obtain ⟨hc1, hf1⟩ := hb1.cells; (try (have l1_0 : w.heap.size < w1.heap.size := hb1.lt (by first | (simp; done) | (simp; omega) | (simp [go_sem]; done) | (simp [go_sem]; omega) | omega))); (try (have m1_0 : w.heap.size ≤ w1.heap.size := Nat.le_of_lt l1_0)); (have q1_0_0 : w1.cell? ⟨w.heap.size, 0, none⟩ = some (.int .i64 x) := hb1.keep (by first | assumption | (simp [go_sem, *]; done))); (have q1_0_1 : w1.cell? ⟨w.heap.size, 1, none⟩ = some (.int .i64 y) := hb1.keep (by first | assumption | (simp [go_sem, *]; done))); (have r1_0_0 : w1.frozen? ⟨w.heap.size, 0, none⟩ = false := (hf1 _ _ (by first | (simp; done) | (simp; omega) | (simp [go_sem]; done) | (simp [go_sem]; omega) | omega)).trans (by first | assumption | (simp [go_sem, *]; done))); (have r1_0_1 : w1.frozen? ⟨w.heap.size, 1, none⟩ = false := (hf1 _ _ (by first | (simp; done) | (simp; omega) | (simp [go_sem]; done) | (simp [go_sem]; omega) | omega)).trans (by first | assumption | (simp [go_sem, *]; done))); clear hc1 hf1; rw [X1.out]; have hT1 := hTX.out.ext (((Ext.refl _).alloc _).trans hb1)))
  have HT := Lib.hid hT1
  clear hT1 hTX
  go_loop [6, 21] (fun p i => ∃ j : Nat, j ≤ k ∧ i = .int .i64 j ∧ p = .int .i64 (10 ^ j)) (fun _ i => k - (intOf i).toNat)
  case atStart => exact ⟨0, by omega, rfl, rfl⟩
  case round =>
    obtain ⟨j, hj, rfl, rfl⟩ := hrel
    by_cases hlt : j < k
    · have hb := pow10_bd (show j + 1 ≤ 9 by omega)
      rw [Int.pow_succ] at hb
      have HP := Lib.hid (show (10 : Int) ^ (j + 1) = 10 ^ j * 10 from Int.pow_succ _ _)
      go_wp2
      go_round
      case rel => exact ⟨j + 1, by omega, by go_num, by rw [HP.out]⟩
      case measure => simp [intOf]; omega
    · obtain rfl : j = k := by omega
      obtain ⟨b1, b2⟩ := pow10_bd hk
      obtain ⟨P, hP⟩ : ∃ P : Int, (10 : Int) ^ j = P := ⟨_, rfl⟩
      rw [hP] at b1 b2 ⊢
      obtain ⟨S, hS⟩ : ∃ S : Int, (x.natAbs : Int) = S := ⟨_, rfl⟩
      have s1 : 0 ≤ S ∧ S ≤ 2147483648 := by omega
      have m1 := mul_bd (show 0 ≤ 2 * S by omega) (show 2 * S ≤ 4294967296 by omega) (show 0 ≤ P by omega) b2
      have e1 : IntKind.i64.wrap (2 * S) = 2 * S := IntWalk.i64_in _ (by omega)
      have e2 : IntKind.i64.wrap (2 * S * P) = 2 * S * P := IntWalk.i64_in _ (by omega)
      have e3 : IntKind.i64.wrap (2 * S * P + y) = 2 * S * P + y := IntWalk.i64_in _ (by omega)
      have e4 : IntKind.i64.wrap (2 * y) = 2 * y := IntWalk.i64_in _ (by omega)
      have e5 : ¬ (2 * y = 0) := by omega
      obtain ⟨N, hN⟩ : ∃ N : Int, (2 * S * P + y).tdiv (2 * y) = N := ⟨_, rfl⟩
      have hNe : N = (2 * S * P + y) / (2 * y) := by rw [← hN, Int.tdiv_eq_ediv_of_nonneg (by omega)]
      have n1 : 0 ≤ N := by rw [hNe]; exact Int.ediv_nonneg (by omega) (by omega)
      have n2 : N ≤ 9223372036854775807 := by
        have := Int.ediv_le_self (b := 2 * y) (show 0 ≤ 2 * S * P + y by omega)
        omega
      have e6 : IntKind.i64.wrap N = N := IntWalk.i64_in _ (by omega)
      have HQ : Hid (decQ x y j = N) := by unfold Hid decQ; rw [hP, hS, hNe]
      clear hNe
      obtain ⟨D, hD⟩ : ∃ D : List UInt8, Lib.itoa N = D := ⟨_, rfl⟩
      have d1 : 1 ≤ D.length ∧ D.length ≤ 21 := by rw [← hD]; exact ⟨itoa_pos N, Lib.itoa_length_le N (by omega) n2⟩
      have hcat : ∀ a b : List UInt8, (⟨a.toArray⟩ : ByteArray) ++ ⟨b.toArray⟩ = ⟨(a ++ b).toArray⟩ := cat_eq
      by_cases hpad : D.length < j + 1
      · obtain ⟨c, hc⟩ : ∃ c : Nat, j + 1 = D.length + c := ⟨j + 1 - D.length, by omega⟩
        have hk1 : (j : Int) + 1 - (D.length : Int) = (c : Int) := by omega
        have hk2 : (0 : Int) < (c : Int) := by omega
        obtain ⟨R, hR⟩ : ∃ R : List UInt8, Lib.repeatL [48] c = R := ⟨_, rfl⟩
        have hRl : R.length = c := by rw [← hR, Lib.repeatL_length]; simp
        have hs1 : ¬ (9223372036854775807 < R.length + D.length) := by omega
        have hs2 : (R.length : Int) + (D.length : Int) - (j : Int) = 1 := by omega
        have hc9 : c ≤ 9 := by omega
        have HPD : Hid (pad (j + 1) D = R ++ D) := by unfold Hid pad; rw [show j + 1 - D.length = c by omega, hR]
        have hRD : R.length + D.length = j + 1 := by omega
        have HL := Lib.hid hRD
        have hj1 : (0 : Int) < (j : Int) := by omega
        clear hRl hpad hc hRD
        go_wp2
        go_region_held3 (fun w' => w'.cell? ⟨w.heap.size, 0, none⟩ = some (.int .i64 x) ∧ w'.cell? ⟨w.heap.size, 1, none⟩ = some (.int .i64 y)) (simp [go_sem, *]) ((first | (go_at_call 47; refine (size_any _ (by omega) (by omega) _).mono ?_; rintro e w2 ⟨rfl, rfl⟩; rw [hS])))
        go_wp2_with (first | (go_at_call 49; refine (fmt_any _ (by omega) (by omega) _ (HT.out.ext (by repeat (first | exact Ext.refl _ | refine Ext.drew ?_ | refine Ext.drewN ?_ _)))).mono ?_; rintro e w3 ⟨rfl, hb3⟩; rw [hD]; have q3_0 : w3.cell? ⟨w.heap.size, 0, none⟩ = some (.int .i64 x) := hb3.keep (by first | assumption | (simp [go_sem, *]; done))) | (go_at_call 50; refine (rep0_any _ (by omega) _).mono ?_; rintro e w4 ⟨rfl, hb4⟩; rw [hR]; have q4_0 : w4.cell? ⟨w.heap.size, 0, none⟩ = some (.int .i64 x) := hb4.keep (by first | assumption | (simp [go_sem, *]; done))))
        go_quiet (fail)
        generalize hE : (List.take 1 (R ++ D) ++ 46 :: List.take (R.length + D.length - 1) (R ++ D).tail) = E
        have HE : Hid (E = point j (pad (j + 1) D)) := by
          rw [Hid, ← hE, HPD.out]; exact point_pad HL.out (by omega)
        have hEl : E.length ≤ 100 := by
          have hl := HL.out
          rw [← hE]; simp; omega
        clear hE
        have hs3 : ¬ (9223372036854775807 < 1 + E.length) := by omega
        have hs4 : ¬ (9223372036854775807 < E.length + 1) := by omega
        have hs5 : E.length + 1 ≤ 9223372036854775807 := by omega
        by_cases hneg : x < 0
        · rcases and1 (N == 0) with hz | hz
          · have HV : Hid (decL x y j = 45 :: E) := by
              have hz' : N ≠ 0 := by simpa using hz
              rw [Hid, decL, HQ.out, if_pos ⟨hneg, hz'⟩, hD, HE.out]
            go_wp2
            go_ret2
            exact ⟨(by rw [HV.out]; first | done | rfl | (simp; done)), (by repeat (first | exact Ext.refl _ | refine Ext.setCell ?_ (by first | exact Nat.le_refl _ | (simp; done) | (simp; omega)) _ | refine Ext.drew ?_ | refine Ext.drewN ?_ _ | refine Ext.alloc ?_ _ | refine Ext.trans ?_ hb4 | refine Ext.trans ?_ hb3 | refine Ext.trans ?_ hb1))⟩
          · have HV : Hid (decL x y j = E) := by
              have hz' : N = 0 := by simpa using hz
              rw [Hid, decL, HQ.out, if_neg (fun h => h.2 hz'), hD, HE.out]
            go_wp2
            go_ret2
            exact ⟨(by rw [HV.out]; first | done | rfl | (simp; done)), (by repeat (first | exact Ext.refl _ | refine Ext.setCell ?_ (by first | exact Nat.le_refl _ | (simp; done) | (simp; omega)) _ | refine Ext.drew ?_ | refine Ext.drewN ?_ _ | refine Ext.alloc ?_ _ | refine Ext.trans ?_ hb4 | refine Ext.trans ?_ hb3 | refine Ext.trans ?_ hb1))⟩
        · have HV : Hid (decL x y j = E) := by
            rw [Hid, decL, HQ.out, if_neg (fun h => hneg h.1), hD, HE.out]
          go_wp2
          go_ret2
          exact ⟨(by rw [HV.out]; first | done | rfl | (simp; done)), (by repeat (first | exact Ext.refl _ | refine Ext.setCell ?_ (by first | exact Nat.le_refl _ | (simp; done) | (simp; omega)) _ | refine Ext.drew ?_ | refine Ext.drewN ?_ _ | refine Ext.alloc ?_ _ | refine Ext.trans ?_ hb4 | refine Ext.trans ?_ hb3 | refine Ext.trans ?_ hb1))⟩
      · have hk3 : ¬ ((0 : Int) < (j : Int) + 1 - (D.length : Int)) := by omega
        have HPD : Hid (pad (j + 1) D = D) := by unfold Hid pad; rw [show j + 1 - D.length = 0 by omega]; rfl
        by_cases hj0 : j = 0
        · subst hj0
          have HE : Hid (D = point 0 (pad (0 + 1) D)) := by rw [Hid, HPD.out]; rfl
          have hEl : D.length ≤ 100 := by omega
          have hk4 : ¬ ((0 : Int) < 1 - (D.length : Int)) := by omega
          have hs3 : ¬ (9223372036854775807 < 1 + D.length) := by omega
          have hs4 : ¬ (9223372036854775807 < D.length + 1) := by omega
          have hs5 : D.length + 1 ≤ 9223372036854775807 := by omega
          by_cases hneg : x < 0
          · rcases and1 (N == 0) with hz | hz
            · have HV : Hid (decL x y 0 = 45 :: D) := by
                have hz' : N ≠ 0 := by simpa using hz
                rw [Hid, decL, HQ.out, if_pos ⟨hneg, hz'⟩, hD, ]; exact congrArg _ HE.out.symm
              go_wp2
              go_region_held3 (fun w' => w'.cell? ⟨w.heap.size, 0, none⟩ = some (.int .i64 x) ∧ w'.cell? ⟨w.heap.size, 1, none⟩ = some (.int .i64 y)) (simp [go_sem, *]) ((first | (go_at_call 47; refine (size_any _ (by omega) (by omega) _).mono ?_; rintro e w2 ⟨rfl, rfl⟩; rw [hS])))
              go_wp2_with (first | (go_at_call 49; refine (fmt_any _ (by omega) (by omega) _ (HT.out.ext (by repeat (first | exact Ext.refl _ | refine Ext.drew ?_ | refine Ext.drewN ?_ _)))).mono ?_; rintro e w3 ⟨rfl, hb3⟩; rw [hD]; have q3_0 : w3.cell? ⟨w.heap.size, 0, none⟩ = some (.int .i64 x) := hb3.keep (by first | assumption | (simp [go_sem, *]; done))) | (go_at_call 50; refine (rep0_any _ (by omega) _).mono ?_; rintro e w4 ⟨rfl, hb4⟩; rw [hR]; have q4_0 : w4.cell? ⟨w.heap.size, 0, none⟩ = some (.int .i64 x) := hb4.keep (by first | assumption | (simp [go_sem, *]; done))))
              go_ret2
              exact ⟨(by rw [HV.out]; first | done | rfl | (simp; done)), (by repeat (first | exact Ext.refl _ | refine Ext.setCell ?_ (by first | exact Nat.le_refl _ | (simp; done) | (simp; omega)) _ | refine Ext.drew ?_ | refine Ext.drewN ?_ _ | refine Ext.alloc ?_ _ | refine Ext.trans ?_ hb4 | refine Ext.trans ?_ hb3 | refine Ext.trans ?_ hb1))⟩
            · have HV : Hid (decL x y 0 = D) := by
                have hz' : N = 0 := by simpa using hz
                rw [Hid, decL, HQ.out, if_neg (fun h => h.2 hz'), hD]; exact HE.out.symm
              go_wp2
              go_region_held3 (fun w' => w'.cell? ⟨w.heap.size, 0, none⟩ = some (.int .i64 x) ∧ w'.cell? ⟨w.heap.size, 1, none⟩ = some (.int .i64 y)) (simp [go_sem, *]) ((first | (go_at_call 47; refine (size_any _ (by omega) (by omega) _).mono ?_; rintro e w2 ⟨rfl, rfl⟩; rw [hS])))
              go_wp2_with (first | (go_at_call 49; refine (fmt_any _ (by omega) (by omega) _ (HT.out.ext (by repeat (first | exact Ext.refl _ | refine Ext.drew ?_ | refine Ext.drewN ?_ _)))).mono ?_; rintro e w3 ⟨rfl, hb3⟩; rw [hD]; have q3_0 : w3.cell? ⟨w.heap.size, 0, none⟩ = some (.int .i64 x) := hb3.keep (by first | assumption | (simp [go_sem, *]; done))) | (go_at_call 50; refine (rep0_any _ (by omega) _).mono ?_; rintro e w4 ⟨rfl, hb4⟩; rw [hR]; have q4_0 : w4.cell? ⟨w.heap.size, 0, none⟩ = some (.int .i64 x) := hb4.keep (by first | assumption | (simp [go_sem, *]; done))))
              go_ret2
              exact ⟨(by rw [HV.out]; first | done | rfl | (simp; done)), (by repeat (first | exact Ext.refl _ | refine Ext.setCell ?_ (by first | exact Nat.le_refl _ | (simp; done) | (simp; omega)) _ | refine Ext.drew ?_ | refine Ext.drewN ?_ _ | refine Ext.alloc ?_ _ | refine Ext.trans ?_ hb4 | refine Ext.trans ?_ hb3 | refine Ext.trans ?_ hb1))⟩
          · have HV : Hid (decL x y 0 = D) := by
              rw [Hid, decL, HQ.out, if_neg (fun h => hneg h.1), hD]; exact HE.out.symm
            go_wp2
            go_region_held3 (fun w' => w'.cell? ⟨w.heap.size, 0, none⟩ = some (.int .i64 x) ∧ w'.cell? ⟨w.heap.size, 1, none⟩ = some (.int .i64 y)) (simp [go_sem, *]) ((first | (go_at_call 47; refine (size_any _ (by omega) (by omega) _).mono ?_; rintro e w2 ⟨rfl, rfl⟩; rw [hS])))
            go_wp2_with (first | (go_at_call 49; refine (fmt_any _ (by omega) (by omega) _ (HT.out.ext (by repeat (first | exact Ext.refl _ | refine Ext.drew ?_ | refine Ext.drewN ?_ _)))).mono ?_; rintro e w3 ⟨rfl, hb3⟩; rw [hD]; have q3_0 : w3.cell? ⟨w.heap.size, 0, none⟩ = some (.int .i64 x) := hb3.keep (by first | assumption | (simp [go_sem, *]; done))) | (go_at_call 50; refine (rep0_any _ (by omega) _).mono ?_; rintro e w4 ⟨rfl, hb4⟩; rw [hR]; have q4_0 : w4.cell? ⟨w.heap.size, 0, none⟩ = some (.int .i64 x) := hb4.keep (by first | assumption | (simp [go_sem, *]; done))))
            go_ret2
            exact ⟨(by rw [HV.out]; first | done | rfl | (simp; done)), (by repeat (first | exact Ext.refl _ | refine Ext.setCell ?_ (by first | exact Nat.le_refl _ | (simp; done) | (simp; omega)) _ | refine Ext.drew ?_ | refine Ext.drewN ?_ _ | refine Ext.alloc ?_ _ | refine Ext.trans ?_ hb4 | refine Ext.trans ?_ hb3 | refine Ext.trans ?_ hb1))⟩
        · obtain ⟨q, hq⟩ : ∃ q : Nat, D.length = q + j := ⟨D.length - j, by omega⟩
          have hq2 : (D.length : Int) - (j : Int) = (q : Int) := by omega
          have HL := Lib.hid hq
          have hq3 : q ≤ D.length := by omega
          have hj1 : (0 : Int) < (j : Int) := by omega
          clear hq hpad
          go_wp2
          go_region_held3 (fun w' => w'.cell? ⟨w.heap.size, 0, none⟩ = some (.int .i64 x) ∧ w'.cell? ⟨w.heap.size, 1, none⟩ = some (.int .i64 y)) (simp [go_sem, *]) ((first | (go_at_call 47; refine (size_any _ (by omega) (by omega) _).mono ?_; rintro e w2 ⟨rfl, rfl⟩; rw [hS])))
          go_wp2_with (first | (go_at_call 49; refine (fmt_any _ (by omega) (by omega) _ (HT.out.ext (by repeat (first | exact Ext.refl _ | refine Ext.drew ?_ | refine Ext.drewN ?_ _)))).mono ?_; rintro e w3 ⟨rfl, hb3⟩; rw [hD]; have q3_0 : w3.cell? ⟨w.heap.size, 0, none⟩ = some (.int .i64 x) := hb3.keep (by first | assumption | (simp [go_sem, *]; done))) | (go_at_call 50; refine (rep0_any _ (by omega) _).mono ?_; rintro e w4 ⟨rfl, hb4⟩; rw [hR]; have q4_0 : w4.cell? ⟨w.heap.size, 0, none⟩ = some (.int .i64 x) := hb4.keep (by first | assumption | (simp [go_sem, *]; done))))
          go_quiet (fail)
          generalize hE : (List.take q D ++ 46 :: List.take (D.length - q) (List.drop q D)) = E
          have HE : Hid (E = point j (pad (j + 1) D)) := by
            rw [Hid, ← hE, HPD.out]; exact point_plain HL.out hj0
          have hEl : E.length ≤ 100 := by
            rw [← hE]; simp; omega
          clear hE
          have hs3 : ¬ (9223372036854775807 < 1 + E.length) := by omega
          have hs4 : ¬ (9223372036854775807 < E.length + 1) := by omega
          have hs5 : E.length + 1 ≤ 9223372036854775807 := by omega
          by_cases hneg : x < 0
          · rcases and1 (N == 0) with hz | hz
            · have HV : Hid (decL x y j = 45 :: E) := by
                have hz' : N ≠ 0 := by simpa using hz
                rw [Hid, decL, HQ.out, if_pos ⟨hneg, hz'⟩, hD, HE.out]
              go_wp2
              go_ret2
              exact ⟨(by rw [HV.out]; first | done | rfl | (simp; done)), (by repeat (first | exact Ext.refl _ | refine Ext.setCell ?_ (by first | exact Nat.le_refl _ | (simp; done) | (simp; omega)) _ | refine Ext.drew ?_ | refine Ext.drewN ?_ _ | refine Ext.alloc ?_ _ | refine Ext.trans ?_ hb4 | refine Ext.trans ?_ hb3 | refine Ext.trans ?_ hb1))⟩
            · have HV : Hid (decL x y j = E) := by
                have hz' : N = 0 := by simpa using hz
                rw [Hid, decL, HQ.out, if_neg (fun h => h.2 hz'), hD, HE.out]
              go_wp2
              go_ret2
              exact ⟨(by rw [HV.out]; first | done | rfl | (simp; done)), (by repeat (first | exact Ext.refl _ | refine Ext.setCell ?_ (by first | exact Nat.le_refl _ | (simp; done) | (simp; omega)) _ | refine Ext.drew ?_ | refine Ext.drewN ?_ _ | refine Ext.alloc ?_ _ | refine Ext.trans ?_ hb4 | refine Ext.trans ?_ hb3 | refine Ext.trans ?_ hb1))⟩
          · have HV : Hid (decL x y j = E) := by
              rw [Hid, decL, HQ.out, if_neg (fun h => hneg h.1), hD, HE.out]
            go_wp2
            go_ret2
            exact ⟨(by rw [HV.out]; first | done | rfl | (simp; done)), (by repeat (first | exact Ext.refl _ | refine Ext.setCell ?_ (by first | exact Nat.le_refl _ | (simp; done) | (simp; omega)) _ | refine Ext.drew ?_ | refine Ext.drewN ?_ _ | refine Ext.alloc ?_ _ | refine Ext.trans ?_ hb4 | refine Ext.trans ?_ hb3 | refine Ext.trans ?_ hb1))⟩

end Go.Proofs.YtgeaibjbkpfgmaaDoor

/-
  The reference's numerals at any integer; the reference's Decimal; the law ExactDecimals.
-/
import Derived.Test.YtgeaibjbkpfgmaaDoorExaL
namespace Go.Proofs.YtgeaibjbkpfgmaaDoor
open Go.RowKit
set_option linter.unusedSimpArgs false

set_option maxRecDepth 100000 in
set_option maxHeartbeats 2000000 in
theorem rnumi_any (n : Int) (h : -9223372036854775807 ≤ n) (h' : n ≤ 9223372036854775807) (w : World) :
    Calls Tryd.prog 51 #[.int .i64 n] w fun e w' => e = .returned (.string ⟨(Lib.itoa n).toArray⟩) ∧ Ext w w' := by
  rcases Int.lt_or_le n 0 with hn | hn
  · obtain ⟨m, hm⟩ : ∃ m : Nat, n = -(m : Int) := ⟨n.natAbs, by omega⟩
    subst hm
    have hm1 : 1 ≤ m := by omega
    have HV := Lib.hid (Lib.itoa_neg m hm1)
    have IH := fun W => rnum_any m (by omega) W
    have e1 : IntKind.i64.wrap (- -(m : Int)) = (m : Int) := by rw [Int.neg_neg]; exact IntWalk.i64_in _ (by omega)
    have hcat : ∀ a b : List UInt8, (⟨a.toArray⟩ : ByteArray) ++ ⟨b.toArray⟩ = ⟨(a ++ b).toArray⟩ := cat_eq
    have hlen : (Lib.decDigits m).length ≤ 20 := by rw [Lib.decDigits_length]; exact Lib.nDigits_le20 m (by omega)
    obtain ⟨D, hD⟩ : ∃ D : List UInt8, Lib.decDigits m = D := ⟨_, rfl⟩
    rw [hD] at hlen HV
    have hs1 : ¬ (9223372036854775807 < 1 + D.length) := by omega
    have hs2 : ¬ (9223372036854775807 < D.length + 1) := by omega
    go_enter Tryd.func51, Tryd.ntmps51
    go_wp2_with (first | (go_at_call 51; refine (IH _).mono ?_; rintro e w1 ⟨rfl, hb1⟩; rw [hD]))
    go_ret
    exact ⟨(by rw [HV.out]; first | done | rfl | (simp; done)), (by repeat (first | exact Ext.refl _ | refine Ext.alloc ?_ _ | refine Ext.trans ?_ hb1))⟩
  · obtain ⟨m, rfl⟩ := Int.eq_ofNat_of_zero_le hn
    rw [Lib.itoa_nonneg m]
    exact rnum_any m (by omega) w
def strLen : Value → Nat
  | .string b => b.size
  | _ => 0

set_option maxHeartbeats 8000000 in
theorem rdecimal_main (x y : Int) (k : Nat) (hv : validB x y = true) (hk : k ≤ 9) (w : World) :
    Calls Tryd.prog 20 #[.agg #[.int .i64 x, .int .i64 y], .int .i64 k] w fun e w' => e = .returned (.tuple #[.string ⟨(decL x y k).toArray⟩, .int .i64 0]) ∧ Ext w w' := by
  obtain ⟨p1, p2, p3, p4, p5⟩ := valid_parts hv
  have X1 := Lib.hid hv
  clear hv p5
  go_enter Tryd.func20, Tryd.ntmps20
  go_wp2_with (first | ((fail_if_success (have hzz := hb1)); go_at_call 18; refine (rvalid_any _ _  _).mono ?_; rintro e w1 ⟨rfl, hb1⟩; obtain ⟨hc1, hf1⟩ := hb1.cells; (try (have l1_0 : w.heap.size < w1.heap.size := hb1.lt (by first | (simp; done) | (simp; omega) | (simp [go_sem]; done) | (simp [go_sem]; omega) | omega))); (try (have m1_0 : w.heap.size ≤ w1.heap.size := Nat.le_of_lt l1_0)); (have q1_0_0 : w1.cell? ⟨w.heap.size, 0, none⟩ = some (.int .i64 x) := hb1.keep (by first | assumption | (simp [go_sem, *]; done))); (have q1_0_1 : w1.cell? ⟨w.heap.size, 1, none⟩ = some (.int .i64 y) := hb1.keep (by first | assumption | (simp [go_sem, *]; done))); (have r1_0_0 : w1.frozen? ⟨w.heap.size, 0, none⟩ = false := (hf1 _ _ (by first | (simp; done) | (simp; omega) | (simp [go_sem]; done) | (simp [go_sem]; omega) | omega)).trans (by first | assumption | (simp [go_sem, *]; done))); (have r1_0_1 : w1.frozen? ⟨w.heap.size, 1, none⟩ = false := (hf1 _ _ (by first | (simp; done) | (simp; omega) | (simp [go_sem]; done) | (simp [go_sem]; omega) | omega)).trans (by first | assumption | (simp [go_sem, *]; done))); clear hc1 hf1; rw [X1.out]))
  go_loop [6, 7] (fun p i => ∃ j : Nat, j ≤ k ∧ i = .int .i64 j ∧ p = .int .i64 (10 ^ j)) (fun _ i => k - (intOf i).toNat)
  case atStart => exact ⟨0, by omega, rfl, rfl⟩
  case round =>
    obtain ⟨j, hj, rfl, rfl⟩ := hrel
    by_cases hlt : j < k
    · have hb := pow10_bd (show j + 1 ≤ 9 by omega)
      rw [Int.pow_succ] at hb
      have HP := Lib.hid (show (10 : Int) ^ (j + 1) = 10 ^ j * 10 from Int.pow_succ _ _)
      go_wp2
      go_round
      case rel => exact ⟨j + 1, by omega, by go_num, by rw [HP.out]⟩
      case measure => simp [intOf]; omega
    · obtain rfl : j = k := by omega
      obtain ⟨b1, b2⟩ := pow10_bd hk
      obtain ⟨P, hP⟩ : ∃ P : Int, (10 : Int) ^ j = P := ⟨_, rfl⟩
      rw [hP] at b1 b2 ⊢
      obtain ⟨S, hS⟩ : ∃ S : Int, (x.natAbs : Int) = S := ⟨_, rfl⟩
      have s1 : 0 ≤ S ∧ S ≤ 2147483648 := by omega
      have m1 := mul_bd (show 0 ≤ 2 * S by omega) (show 2 * S ≤ 4294967296 by omega) (show 0 ≤ P by omega) b2
      have e1 : IntKind.i64.wrap (2 * S) = 2 * S := IntWalk.i64_in _ (by omega)
      have e2 : IntKind.i64.wrap (2 * S * P) = 2 * S * P := IntWalk.i64_in _ (by omega)
      have e3 : IntKind.i64.wrap (2 * S * P + y) = 2 * S * P + y := IntWalk.i64_in _ (by omega)
      have e4 : IntKind.i64.wrap (2 * y) = 2 * y := IntWalk.i64_in _ (by omega)
      have e5 : ¬ (2 * y = 0) := by omega
      obtain ⟨N, hN⟩ : ∃ N : Int, (2 * S * P + y).tdiv (2 * y) = N := ⟨_, rfl⟩
      have hNe : N = (2 * S * P + y) / (2 * y) := by rw [← hN, Int.tdiv_eq_ediv_of_nonneg (by omega)]
      have n1 : 0 ≤ N := by rw [hNe]; exact Int.ediv_nonneg (by omega) (by omega)
      have n2 : N ≤ 9223372036854775807 := by
        have := Int.ediv_le_self (b := 2 * y) (show 0 ≤ 2 * S * P + y by omega)
        omega
      have e6 : IntKind.i64.wrap N = N := IntWalk.i64_in _ (by omega)
      have HQ : Hid (decQ x y j = N) := by unfold Hid decQ; rw [hP, hS, hNe]
      clear hNe
      -- the quotient and the rest by the power of ten
      obtain ⟨n, hn⟩ : ∃ n : Nat, N = (n : Int) := ⟨N.toNat, by omega⟩
      have hPn : P = ((10 ^ j : Nat) : Int) := by rw [← hP]; simp
      have hP0 : ¬ (P = 0) := by omega
      obtain ⟨Q, hQ⟩ : ∃ Q : Nat, n / 10 ^ j = Q := ⟨_, rfl⟩
      obtain ⟨R, hR⟩ : ∃ R : Nat, n % 10 ^ j = R := ⟨_, rfl⟩
      have q1 : N.tdiv P = (Q : Int) := by rw [hn, hPn, Int.tdiv_eq_ediv_of_nonneg (by omega), ← hQ]; simp
      have q2 : N.tmod P = (R : Int) := by rw [hn, hPn, Int.tmod_eq_emod_of_nonneg (by omega), ← hR]; simp
      have q3 : N / P = (Q : Int) := by rw [hn, hPn, ← hQ]; simp
      have q4 : N % P = (R : Int) := by rw [hn, hPn, ← hR]; simp
      have qQ : Q < 9223372036854775808 := by
        have : Q ≤ n := by rw [← hQ]; exact Nat.div_le_self _ _
        omega
      have q5 : IntKind.i64.wrap (Q : Int) = (Q : Int) := IntWalk.i64_in _ (by omega)
      have qR : R < 9223372036854775808 := by
        have : R ≤ n := by rw [← hR]; exact Nat.mod_le _ _
        omega
      have HDG : Hid (Lib.itoa N = Lib.decDigits n ∧ n / 10 ^ j = Q ∧ n % 10 ^ j = R) := ⟨by rw [hn]; exact Lib.itoa_nonneg n, hQ, hR⟩
      have lQ : (Lib.decDigits Q).length ≤ 20 := by rw [Lib.decDigits_length]; exact Lib.nDigits_le20 Q (by omega)
      have lR : 1 ≤ (Lib.decDigits R).length ∧ (Lib.decDigits R).length ≤ 20 := by rw [Lib.decDigits_length]; exact ⟨Lib.nDigits_pos R, Lib.nDigits_le20 R (by omega)⟩
      obtain ⟨A, hA⟩ : ∃ A : List UInt8, Lib.decDigits Q = A := ⟨_, rfl⟩
      obtain ⟨D, hD⟩ : ∃ D : List UInt8, Lib.decDigits R = D := ⟨_, rfl⟩
      rw [hA] at lQ
      rw [hD] at lR
      have IHQ := fun W => rnum_any Q qQ W
      have IHR := fun W => rnum_any R qR W
      rw [hA] at IHQ
      rw [hD] at IHR
      have hcat : ∀ a b : List UInt8, (⟨a.toArray⟩ : ByteArray) ++ ⟨b.toArray⟩ = ⟨(a ++ b).toArray⟩ := cat_eq
      clear hn hPn hQ hR
      by_cases hj0 : j = 0
      · subst hj0
        have HE : Hid (point 0 (pad (0 + 1) (Lib.itoa N)) = A) := by
          obtain ⟨g1, g2, g3⟩ := HDG.out
          rw [Hid, g1, pad_dd]
          simp only [Nat.pow_zero, Nat.div_one, Nat.mod_one, fw, List.append_nil, point, if_true] at g2 ⊢
          rw [g2, hA]
        have hs3 : ¬ (9223372036854775807 < 1 + A.length) := by omega
        have hs4 : ¬ (9223372036854775807 < A.length + 1) := by omega
        by_cases hneg : x < 0
        · rcases and1 (N == 0) with hz | hz
          · have HV : Hid (decL x y 0 = 45 :: A) := by
              have hz' : N ≠ 0 := by simpa using hz
              rw [Hid, decL, HQ.out, if_pos ⟨hneg, hz'⟩, HE.out]
            go_wp2
            go_region_held3 (fun w' => w'.cell? ⟨w.heap.size, 0, none⟩ = some (.int .i64 x) ∧ w'.cell? ⟨w.heap.size, 1, none⟩ = some (.int .i64 y)) (simp [go_sem, *]) ((first | (go_at_call 48; refine (rsize_any _ (by omega) (by omega) _).mono ?_; rintro e w2 ⟨rfl, rfl⟩; rw [hS])))
            go_wp2_with (first | ((fail_if_success (have hzz := hb3)); go_at_call 51; refine (IHQ _).mono ?_; rintro e w3 ⟨rfl, hb3⟩; have q3_0 : w3.cell? ⟨w.heap.size, 0, none⟩ = some (.int .i64 x) := hb3.keep (by first | assumption | (simp [go_sem, *]; done))) | (go_at_call 51; refine (IHR _).mono ?_; rintro e w4 ⟨rfl, hb4⟩; have q4_0 : w4.cell? ⟨w.heap.size, 0, none⟩ = some (.int .i64 x) := hb4.keep (by first | assumption | (simp [go_sem, *]; done))))
            go_ret2
            exact ⟨(by rw [HV.out]; first | done | rfl | (simp; done)), (by repeat (first | exact Ext.refl _ | refine Ext.setCell ?_ (by first | exact Nat.le_refl _ | (simp; done) | (simp; omega)) _ | refine Ext.drew ?_ | refine Ext.drewN ?_ _ | refine Ext.alloc ?_ _ | refine Ext.trans ?_ hb4 | refine Ext.trans ?_ hb3 | refine Ext.trans ?_ hb1))⟩
          · have HV : Hid (decL x y 0 = A) := by
              have hz' : N = 0 := by simpa using hz
              rw [Hid, decL, HQ.out, if_neg (fun h => h.2 hz'), HE.out]
            go_wp2
            go_region_held3 (fun w' => w'.cell? ⟨w.heap.size, 0, none⟩ = some (.int .i64 x) ∧ w'.cell? ⟨w.heap.size, 1, none⟩ = some (.int .i64 y)) (simp [go_sem, *]) ((first | (go_at_call 48; refine (rsize_any _ (by omega) (by omega) _).mono ?_; rintro e w2 ⟨rfl, rfl⟩; rw [hS])))
            go_wp2_with (first | ((fail_if_success (have hzz := hb3)); go_at_call 51; refine (IHQ _).mono ?_; rintro e w3 ⟨rfl, hb3⟩; have q3_0 : w3.cell? ⟨w.heap.size, 0, none⟩ = some (.int .i64 x) := hb3.keep (by first | assumption | (simp [go_sem, *]; done))) | (go_at_call 51; refine (IHR _).mono ?_; rintro e w4 ⟨rfl, hb4⟩; have q4_0 : w4.cell? ⟨w.heap.size, 0, none⟩ = some (.int .i64 x) := hb4.keep (by first | assumption | (simp [go_sem, *]; done))))
            go_ret2
            exact ⟨(by rw [HV.out]; first | done | rfl | (simp; done)), (by repeat (first | exact Ext.refl _ | refine Ext.setCell ?_ (by first | exact Nat.le_refl _ | (simp; done) | (simp; omega)) _ | refine Ext.drew ?_ | refine Ext.drewN ?_ _ | refine Ext.alloc ?_ _ | refine Ext.trans ?_ hb4 | refine Ext.trans ?_ hb3 | refine Ext.trans ?_ hb1))⟩
        · have HV : Hid (decL x y 0 = A) := by
            rw [Hid, decL, HQ.out, if_neg (fun h => hneg h.1), HE.out]
          go_wp2
          go_region_held3 (fun w' => w'.cell? ⟨w.heap.size, 0, none⟩ = some (.int .i64 x) ∧ w'.cell? ⟨w.heap.size, 1, none⟩ = some (.int .i64 y)) (simp [go_sem, *]) ((first | (go_at_call 48; refine (rsize_any _ (by omega) (by omega) _).mono ?_; rintro e w2 ⟨rfl, rfl⟩; rw [hS])))
          go_wp2_with (first | ((fail_if_success (have hzz := hb3)); go_at_call 51; refine (IHQ _).mono ?_; rintro e w3 ⟨rfl, hb3⟩; have q3_0 : w3.cell? ⟨w.heap.size, 0, none⟩ = some (.int .i64 x) := hb3.keep (by first | assumption | (simp [go_sem, *]; done))) | (go_at_call 51; refine (IHR _).mono ?_; rintro e w4 ⟨rfl, hb4⟩; have q4_0 : w4.cell? ⟨w.heap.size, 0, none⟩ = some (.int .i64 x) := hb4.keep (by first | assumption | (simp [go_sem, *]; done))))
          go_ret2
          exact ⟨(by rw [HV.out]; first | done | rfl | (simp; done)), (by repeat (first | exact Ext.refl _ | refine Ext.setCell ?_ (by first | exact Nat.le_refl _ | (simp; done) | (simp; omega)) _ | refine Ext.drew ?_ | refine Ext.drewN ?_ _ | refine Ext.alloc ?_ _ | refine Ext.trans ?_ hb4 | refine Ext.trans ?_ hb3 | refine Ext.trans ?_ hb1))⟩
      · have hj1 : (0 : Int) < (j : Int) := by omega
        have hpl : (pad j D).length ≤ 30 := by
          unfold pad
          rw [List.length_append, Lib.repeatL_length, List.length_singleton]; omega
        have HE : Hid (point j (pad (j + 1) (Lib.itoa N)) = A ++ 46 :: pad j D) := by
          obtain ⟨g1, g2, g3⟩ := HDG.out
          rw [Hid, g1, point_dd hj0, g2, g3, hA, hD]
        go_wp2
        go_region_held3 (fun w' => w'.cell? ⟨w.heap.size, 0, none⟩ = some (.int .i64 x) ∧ w'.cell? ⟨w.heap.size, 1, none⟩ = some (.int .i64 y)) (simp [go_sem, *]) ((first | (go_at_call 48; refine (rsize_any _ (by omega) (by omega) _).mono ?_; rintro e w2 ⟨rfl, rfl⟩; rw [hS])))
        go_wp2_with (first | ((fail_if_success (have hzz := hb3)); go_at_call 51; refine (IHQ _).mono ?_; rintro e w3 ⟨rfl, hb3⟩; have q3_0 : w3.cell? ⟨w.heap.size, 0, none⟩ = some (.int .i64 x) := hb3.keep (by first | assumption | (simp [go_sem, *]; done))) | (go_at_call 51; refine (IHR _).mono ?_; rintro e w4 ⟨rfl, hb4⟩; have q4_0 : w4.cell? ⟨w.heap.size, 0, none⟩ = some (.int .i64 x) := hb4.keep (by first | assumption | (simp [go_sem, *]; done))))
        go_loop [10] (fun r => ∃ m : Nat, r = .string ⟨(Lib.repeatL [48] m ++ D).toArray⟩ ∧ (m = 0 ∨ m + D.length ≤ j)) (fun r => j - strLen r)
        case atStart => exact ⟨0, rfl, Or.inl rfl⟩
        case round =>
          obtain ⟨m, rfl, hm⟩ := hrel
          have hml : (Lib.repeatL [48] m).length = m := by rw [Lib.repeatL_length]; simp
          by_cases hlt2 : m + D.length < j
          · have hlt3 : ((m : Int) + (D.length : Int)) < (j : Int) := by omega
            have hs1 : ¬ (9223372036854775807 < 1 + (m + D.length)) := by omega
            have hs2 : ¬ (9223372036854775807 < m + D.length + 1) := by omega
            go_wp2
            go_round
            case rel => exact ⟨m + 1, rfl, Or.inr (by omega)⟩
            case measure => simp [strLen, ByteArray.size, hml, Lib.repeatL]; omega
          · have hlt3 : ¬ (((m : Int) + (D.length : Int)) < (j : Int)) := by omega
            have HPD : Hid (pad j D = Lib.repeatL [48] m ++ D) := by
              unfold Hid pad; rw [show j - D.length = m by omega]
            obtain ⟨B, hB⟩ : ∃ B : List UInt8, Lib.repeatL [48] m ++ D = B := ⟨_, rfl⟩
            have hBl : B.length = m + D.length := by rw [← hB, List.length_append, hml]
            rw [hB] at HPD ⊢
            have hs5 : ¬ (9223372036854775807 < 1 + B.length) := by omega
            have hs6 : ¬ (9223372036854775807 < B.length + 1) := by omega
            have hs7 : ¬ (9223372036854775807 < A.length + (B.length + 1)) := by omega
            have hlt4 : ¬ ((B.length : Int) < (j : Int)) := by omega
            have HE2 : Hid (point j (pad (j + 1) (Lib.itoa N)) = A ++ 46 :: B) := HE.out.trans (by rw [HPD.out])
            obtain ⟨E, hE⟩ : ∃ E : List UInt8, A ++ 46 :: B = E := ⟨_, rfl⟩
            have hEl : E.length ≤ 100 := by rw [← hE]; simp; omega
            rw [hE] at HE2
            clear hBl hm hlt2 hml hB HE
            have hs3 : ¬ (9223372036854775807 < 1 + E.length) := by omega
            have hs4 : ¬ (9223372036854775807 < E.length + 1) := by omega
            by_cases hneg : x < 0
            · rcases and1 (N == 0) with hz | hz
              · have HV : Hid (decL x y j = 45 :: E) := by
                  have hz' : N ≠ 0 := by simpa using hz
                  rw [Hid, decL, HQ.out, if_pos ⟨hneg, hz'⟩, HE2.out]
                go_wp2
                go_ret2
                exact ⟨(by rw [HV.out]; first | done | rfl | (simp; done)), (by repeat (first | exact Ext.refl _ | refine Ext.setCell ?_ (by first | exact Nat.le_refl _ | (simp; done) | (simp; omega)) _ | refine Ext.drew ?_ | refine Ext.drewN ?_ _ | refine Ext.alloc ?_ _ | refine Ext.trans ?_ hb4 | refine Ext.trans ?_ hb3 | refine Ext.trans ?_ hb1))⟩
              · have HV : Hid (decL x y j = E) := by
                  have hz' : N = 0 := by simpa using hz
                  rw [Hid, decL, HQ.out, if_neg (fun h => h.2 hz'), HE2.out]
                go_wp2
                go_ret2
                exact ⟨(by rw [HV.out]; first | done | rfl | (simp; done)), (by repeat (first | exact Ext.refl _ | refine Ext.setCell ?_ (by first | exact Nat.le_refl _ | (simp; done) | (simp; omega)) _ | refine Ext.drew ?_ | refine Ext.drewN ?_ _ | refine Ext.alloc ?_ _ | refine Ext.trans ?_ hb4 | refine Ext.trans ?_ hb3 | refine Ext.trans ?_ hb1))⟩
            · have HV : Hid (decL x y j = E) := by
                rw [Hid, decL, HQ.out, if_neg (fun h => hneg h.1), HE2.out]
              go_wp2
              go_ret2
              exact ⟨(by rw [HV.out]; first | done | rfl | (simp; done)), (by repeat (first | exact Ext.refl _ | refine Ext.setCell ?_ (by first | exact Nat.le_refl _ | (simp; done) | (simp; omega)) _ | refine Ext.drew ?_ | refine Ext.drewN ?_ _ | refine Ext.alloc ?_ _ | refine Ext.trans ?_ hb4 | refine Ext.trans ?_ hb3 | refine Ext.trans ?_ hb1))⟩


end Go.Proofs.YtgeaibjbkpfgmaaDoor

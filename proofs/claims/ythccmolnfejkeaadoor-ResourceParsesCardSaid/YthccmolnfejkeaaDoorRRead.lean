/-
  The reference's Read.
-/
import Derived.Test.YthccmolnfejkeaaDoorRCut
namespace Go.Proofs.YthccmolnfejkeaaDoor
open Go.RowKit
set_option linter.unusedSimpArgs false

def dval (acc : Nat) (l : List UInt8) : Nat := l.foldl (fun a c => a * 10 + (c.toNat - 48)) acc
theorem dval_snoc (l : List UInt8) (acc : Nat) (c : UInt8) : dval acc (l ++ [c]) = dval acc l * 10 + (c.toNat - 48) := by
  unfold dval
  rw [List.foldl_append, List.foldl_cons, List.foldl_nil]
theorem dval_nil (acc : Nat) : dval acc [] = acc := rfl
theorem dval_one (c : UInt8) : dval 0 [c] = c.toNat - 48 := by
  unfold dval
  rw [List.foldl_cons, List.foldl_nil, Nat.zero_mul, Nat.zero_add]
theorem dval_dd (u : Nat) : dval 0 (Lib.decDigits u) = u := by
  by_cases h : u < 10
  · rw [Lib.decDigits, dif_pos h, dval_one, dig_nat h]; omega
  · rw [Lib.decDigits, dif_neg h, dval_snoc, dval_dd (u / 10), dig_nat (show u % 10 < 10 by omega)]; omega
termination_by u
decreasing_by omega
def isDg (c : UInt8) : Bool := decide (48 ≤ c.toNat ∧ c.toNat ≤ 57)
def rdNeg (L : List UInt8) : Bool := L.headD 0 == 45
def rdD (L : List UInt8) : List UInt8 := if rdNeg L then L.tail else L
def lenOk (D : List UInt8) : Bool := decide (1 ≤ D.length ∧ D.length ≤ 18)
def rdDk (L : List UInt8) : Bool := lenOk (rdD L) && (rdD L).all isDg
def rdV (L : List UInt8) : Int := if rdNeg L then -(dval 0 (rdD L) : Int) else (dval 0 (rdD L) : Int)
def rdN (L : List UInt8) : Int := if rdDk L then rdV L else 0
def rdOk (L : List UInt8) : Bool := rdDk L && decide (Lib.itoa (rdV L) = L)
theorem take_snoc {D : List UInt8} {k : Nat} (h : k < D.length) : D.take (k + 1) = D.take k ++ [D.getD k 0] := by
  rw [List.take_add_one]; simp [List.getD, h]
theorem dval_lt {D : List UInt8} : ∀ k, k ≤ D.length → (∀ j, j < k → isDg (D.getD j 0) = true) → dval 0 (D.take k) < 10 ^ k
  | 0, _, _ => by simp [dval]
  | k + 1, h, hd => by
    have h1 := dval_lt k (by omega) (fun j hj => hd j (by omega))
    have h2 := hd k (by omega)
    simp only [isDg, decide_eq_true_eq] at h2
    rw [take_snoc (by omega), dval_snoc, Nat.pow_succ]
    omega
theorem all_dg {D : List UInt8} (h : ∀ j, j < D.length → isDg (D.getD j 0) = true) : D.all isDg = true := by
  rw [List.all_eq_true]
  intro c hc
  obtain ⟨j, hj, rfl⟩ := List.getElem_of_mem hc
  have := h j hj
  simpa [List.getD, hj] using this
theorem not_dg {D : List UInt8} {k : Nat} (hk : k < D.length) (h : isDg (D.getD k 0) = false) : D.all isDg = false := by
  cases ha : D.all isDg
  · rfl
  · have := List.all_eq_true.1 ha (D.getD k 0) (by simp [List.getD, hk])
    rw [h] at this; cases this
theorem pow_le18 {k : Nat} (h : k ≤ 18) : 10 ^ k ≤ 1000000000000000000 := Nat.pow_le_pow_right (by omega) h

set_option maxHeartbeats 16000000 in
theorem rread_neg (L D : List UInt8) (hL : L = 45 :: D) (hl : D.length ≤ 1000000) (w : World) :
    Calls Tryd.prog 33 #[.string ⟨L.toArray⟩] w fun e w' => e = .returned (.tuple #[.int .i64 (rdN L), .bool (rdOk L)]) ∧ Ext w w' := by
  have HG : Hid (rdNeg L = true) := by rw [Hid, hL]; rfl
  have HD : Hid (rdD L = D) := by rw [Hid, rdD, HG.out, hL]; rfl
  have hlen : L.length = D.length + 1 := by rw [hL]; rfl
  have h0 : 0 < L.length := by omega
  have hx0 : ∀ h, (⟨L.toArray⟩ : ByteArray)[0]'h = 45 := fun h => (byte_at L 0 h0 h).trans (by rw [hL]; rfl)
  have hext : (⟨L.toArray⟩ : ByteArray).extract 1 (D.length + 1) = ⟨D.toArray⟩ := by rw [← hlen, ext_drop, hL]; rfl
  have hDL : ¬ (D = L) := fun e => by rw [← e] at hlen; omega
  have hDL2 : (D == L) = false := by simpa using hDL
  clear hL
  by_cases hz : D.length = 0
  · have HLN : Hid (lenOk D = false) := by simp [Hid, lenOk]; omega
    obtain rfl : D = [] := List.length_eq_zero_iff.1 hz
    simp only [List.length_nil, Nat.zero_add] at hlen hext
    (
      have HR : Hid (rdN L = 0 ∧ rdOk L = false) := by
        have hb : rdDk L = false := by rw [rdDk, HD.out, HLN.out, Bool.false_and]
        simp [Hid, rdN, rdOk, hb]
      go_enter Tryd.func33, Tryd.ntmps33
      go_wp2
      go_ret2
      exact ⟨by rw [HR.out.1, HR.out.2]; rfl, (by repeat (first | exact Ext.refl _ | refine Ext.drew ?_ | refine Ext.drewN ?_ _ | refine Ext.alloc ?_ _ | refine Ext.trans ?_ hb1))⟩
    )
  · by_cases h18 : 18 < D.length
    · have HLN : Hid (lenOk D = false) := by simp [Hid, lenOk]; omega
      have f0 : ¬ ((D.length : Int) = 0) := by omega
      have f1 : (18 : Int) < (D.length : Int) := by omega
      have HR : Hid (rdN L = 0 ∧ rdOk L = false) := by
        have hb : rdDk L = false := by rw [rdDk, HD.out, HLN.out, Bool.false_and]
        simp [Hid, rdN, rdOk, hb]
      go_enter Tryd.func33, Tryd.ntmps33
      go_wp2
      go_ret2
      exact ⟨by rw [HR.out.1, HR.out.2]; rfl, (by repeat (first | exact Ext.refl _ | refine Ext.drew ?_ | refine Ext.drewN ?_ _ | refine Ext.alloc ?_ _ | refine Ext.trans ?_ hb1))⟩
    · have HLN : Hid (lenOk D = true) := by simp [Hid, lenOk]; omega
      have f0 : ¬ ((D.length : Int) = 0) := by omega
      have f1 : ¬ ((18 : Int) < (D.length : Int)) := by omega
      go_enter Tryd.func33, Tryd.ntmps33
      go_wp2
      go_loop [5, 6] (fun n i => ∃ k : Nat, k ≤ D.length ∧ i = .int .i64 k ∧ n = .int .i64 (dval 0 (D.take k) : Nat) ∧ ∀ j, j < k → isDg (D.getD j 0) = true) (fun _ i => D.length - (intOf i).toNat)
      case atStart => exact ⟨0, by omega, rfl, rfl, fun j hj => by omega⟩
      case round =>
        obtain ⟨k, hk, rfl, rfl, hn⟩ := hrel
        have HN := Lib.hid hn
        have hv := dval_lt k hk hn
        clear hn
        by_cases hlt : k < D.length
        · have hv17 : dval 0 (D.take k) < 100000000000000000 := Nat.lt_of_lt_of_le hv (Nat.pow_le_pow_right (by omega) (show k ≤ 17 by omega))
          obtain ⟨b, hbk⟩ : ∃ b : UInt8, D.getD k 0 = b := ⟨_, rfl⟩
          have hx : ∀ h, (⟨D.toArray⟩ : ByteArray)[k]'h = b := fun h => (byte_at D k hlt h).trans hbk
          have hb256 : b.toNat < 256 := b.toNat_lt
          rcases and1 (isDg b) with hg | hg
          · have HR : Hid (rdN L = 0 ∧ rdOk L = false) := by
              have hb : rdDk L = false := by rw [rdDk, HD.out, not_dg hlt (by rw [hbk]; exact hg), Bool.and_false]
              simp [Hid, rdN, rdOk, hb]
            have hb : b.toNat < 48 ∨ (48 ≤ b.toNat ∧ 57 < b.toNat) := by simp [isDg] at hg; omega
            clear hg hbk
            rcases hb with hb | ⟨hb, hb'⟩
            · have f1 : ((b.toNat : Nat) : Int) < 48 := by omega
              go_wp2
              go_ret2
              exact ⟨by rw [HR.out.1, HR.out.2]; rfl, (by repeat (first | exact Ext.refl _ | refine Ext.drew ?_ | refine Ext.drewN ?_ _ | refine Ext.alloc ?_ _ | refine Ext.trans ?_ hb1))⟩
            · have f1 : ¬ (((b.toNat : Nat) : Int) < 48) := by omega
              have f2 : (57 : Int) < ((b.toNat : Nat) : Int) := by omega
              go_wp2
              go_ret2
              exact ⟨by rw [HR.out.1, HR.out.2]; rfl, (by repeat (first | exact Ext.refl _ | refine Ext.drew ?_ | refine Ext.drewN ?_ _ | refine Ext.alloc ?_ _ | refine Ext.trans ?_ hb1))⟩
          · have HN2 : Hid (∀ j, j < k + 1 → isDg (D.getD j 0) = true) := fun j hj => by
              rcases Nat.lt_or_ge j k with h | h
              · exact HN.out j h
              · have : j = k := by omega
                subst this; rw [hbk]; exact hg
            have hb : 48 ≤ b.toNat ∧ b.toNat ≤ 57 := by simpa [isDg] using hg
            have HS : Hid (((dval 0 (D.take (k + 1)) : Nat) : Int) = 10 * ((dval 0 (D.take k) : Nat) : Int) + (((b.toNat : Nat) : Int) - 48)) := by rw [Hid, take_snoc hlt, hbk, dval_snoc]; omega
            generalize dval 0 (D.take k) = n at hv17 HS ⊢
            have f1 : ¬ (((b.toNat : Nat) : Int) < 48) := by omega
            have f2 : ¬ ((57 : Int) < ((b.toNat : Nat) : Int)) := by omega
            have f3 : IntKind.u8.wrap (((b.toNat : Nat) : Int) - 48) = ((b.toNat : Nat) : Int) - 48 := by rw [IntKind.wrap_u8]; omega
            clear hg hbk
            go_wp2
            go_round
            case rel => exact ⟨k + 1, by omega, by go_num, by rw [HS.out], HN2.out⟩
            case measure => simp [intOf]; omega
        · obtain rfl : k = D.length := by omega
          have hk1 : rdDk L = true := by rw [rdDk, HD.out, all_dg HN.out, HLN.out]; rfl
          have hV : rdV L = (-(dval 0 D : Int)) := by rw [rdV, HG.out, HD.out]; rfl
          have hv18 : dval 0 D < 1000000000000000000 := by
            have h1 : D.take D.length = D := List.take_length
            rw [h1] at hv
            exact Nat.lt_of_lt_of_le hv (pow_le18 (by omega))
          have h1 : D.take D.length = D := List.take_length
          rw [h1]
          obtain ⟨T, hT⟩ : ∃ T : List UInt8, Lib.itoa (-(dval 0 D : Int)) = T := ⟨_, rfl⟩
          have HQ := Lib.hid hT
          have HR : Hid (rdN L = (-(dval 0 D : Int)) ∧ rdOk L = decide (T = L)) := by
            refine ⟨by rw [rdN, hk1, if_pos rfl, hV], by rw [rdOk, hk1, hV, hT, Bool.true_and]⟩
          clear hT hV hk1 h1 hv HN hlt
          generalize dval 0 D = n at hv18 HQ HR ⊢
          have g1 : IntKind.i64.wrap (-(n : Int)) = -(n : Int) := IntWalk.i64_in _ (by omega)
          by_cases hTL : T = L
          · subst hTL
            go_wp2_with (go_at_call 38; refine (rnumi_any _ (by omega) (by omega) _).mono ?_; rintro e w1 ⟨rfl, hb1⟩; rw [HQ.out])
            go_ret2
            exact ⟨by rw [HR.out.1, HR.out.2]; first | done | rfl | (simp; done), (by repeat (first | exact Ext.refl _ | refine Ext.drew ?_ | refine Ext.drewN ?_ _ | refine Ext.alloc ?_ _ | refine Ext.trans ?_ hb1))⟩
          · have t1 : (T == L) = false := by simpa using hTL
            have HR2 : Hid (decide (T = L) = false) := by simpa [Hid] using hTL
            go_wp2_with (go_at_call 38; refine (rnumi_any _ (by omega) (by omega) _).mono ?_; rintro e w1 ⟨rfl, hb1⟩; rw [HQ.out])
            go_ret2
            exact ⟨by rw [HR.out.1, HR.out.2, HR2.out]; first | done | rfl | (simp; done), (by repeat (first | exact Ext.refl _ | refine Ext.drew ?_ | refine Ext.drewN ?_ _ | refine Ext.alloc ?_ _ | refine Ext.trans ?_ hb1))⟩

set_option maxHeartbeats 16000000 in
theorem rread_pos (L : List UInt8) (hL : rdNeg L = false) (hl : L.length ≤ 1000000) (w : World) :
    Calls Tryd.prog 33 #[.string ⟨L.toArray⟩] w fun e w' => e = .returned (.tuple #[.int .i64 (rdN L), .bool (rdOk L)]) ∧ Ext w w' := by
  have HG := Lib.hid hL
  have HD : Hid (rdD L = L) := by rw [Hid, rdD, HG.out]; rfl
  by_cases hz : L.length = 0
  · have HLN : Hid (lenOk L = false) := by simp [Hid, lenOk]; omega
    obtain rfl : L = [] := List.length_eq_zero_iff.1 hz
    (
      have HR : Hid (rdN [] = 0 ∧ rdOk [] = false) := by
        have hb : rdDk [] = false := by rw [rdDk, HD.out, HLN.out, Bool.false_and]
        simp [Hid, rdN, rdOk, hb]
      go_enter Tryd.func33, Tryd.ntmps33
      go_wp2
      go_ret2
      exact ⟨by rw [HR.out.1, HR.out.2]; rfl, (by repeat (first | exact Ext.refl _ | refine Ext.drew ?_ | refine Ext.drewN ?_ _ | refine Ext.alloc ?_ _ | refine Ext.trans ?_ hb1))⟩
    )
  · have h0 : 0 < L.length := by omega
    have hx0 : ∀ h, (⟨L.toArray⟩ : ByteArray)[0]'h = L.getD 0 0 := byte_at L 0 h0
    have hne : ¬ ((((L.getD 0 0).toNat : Nat) : Int) = 45) := by
      intro h
      have : L.headD 0 = 45 := by
        cases L with
        | nil => simp at h0
        | cons c r => exact UInt8.toNat_inj.1 (show c.toNat = (45 : UInt8).toNat from by have h2 : c.toNat = 45 := (by have h3 := h; simp at h3; omega); exact h2)
      rw [rdNeg, this] at hL
      cases hL
    generalize L.getD 0 0 = c0 at hx0 hne
    clear hL
    obtain ⟨D, hDd⟩ : ∃ D : List UInt8, D = L := ⟨_, rfl⟩
    by_cases h18 : 18 < L.length
    · have HLN : Hid (lenOk L = false) := by simp [Hid, lenOk]; omega
      have f0 : ¬ ((L.length : Int) = 0) := by omega
      have f1 : (18 : Int) < (L.length : Int) := by omega
      have HR : Hid (rdN L = 0 ∧ rdOk L = false) := by
        have hb : rdDk L = false := by rw [rdDk, HD.out, HLN.out, Bool.false_and]
        simp [Hid, rdN, rdOk, hb]
      go_enter Tryd.func33, Tryd.ntmps33
      go_wp2
      go_ret2
      exact ⟨by rw [HR.out.1, HR.out.2]; rfl, (by repeat (first | exact Ext.refl _ | refine Ext.drew ?_ | refine Ext.drewN ?_ _ | refine Ext.alloc ?_ _ | refine Ext.trans ?_ hb1))⟩
    · have HLN : Hid (lenOk L = true) := by simp [Hid, lenOk]; omega
      have f0 : ¬ ((L.length : Int) = 0) := by omega
      have f1 : ¬ ((18 : Int) < (L.length : Int)) := by omega
      clear hDd
      go_enter Tryd.func33, Tryd.ntmps33
      go_wp2
      go_loop [5, 6] (fun n i => ∃ k : Nat, k ≤ L.length ∧ i = .int .i64 k ∧ n = .int .i64 (dval 0 (L.take k) : Nat) ∧ ∀ j, j < k → isDg (L.getD j 0) = true) (fun _ i => L.length - (intOf i).toNat)
      case atStart => exact ⟨0, by omega, rfl, rfl, fun j hj => by omega⟩
      case round =>
        obtain ⟨k, hk, rfl, rfl, hn⟩ := hrel
        have HN := Lib.hid hn
        have hv := dval_lt k hk hn
        clear hn
        by_cases hlt : k < L.length
        · have hv17 : dval 0 (L.take k) < 100000000000000000 := Nat.lt_of_lt_of_le hv (Nat.pow_le_pow_right (by omega) (show k ≤ 17 by omega))
          obtain ⟨b, hbk⟩ : ∃ b : UInt8, L.getD k 0 = b := ⟨_, rfl⟩
          have hx : ∀ h, (⟨L.toArray⟩ : ByteArray)[k]'h = b := fun h => (byte_at L k hlt h).trans hbk
          have hb256 : b.toNat < 256 := b.toNat_lt
          rcases and1 (isDg b) with hg | hg
          · have HR : Hid (rdN L = 0 ∧ rdOk L = false) := by
              have hb : rdDk L = false := by rw [rdDk, HD.out, not_dg hlt (by rw [hbk]; exact hg), Bool.and_false]
              simp [Hid, rdN, rdOk, hb]
            have hb : b.toNat < 48 ∨ (48 ≤ b.toNat ∧ 57 < b.toNat) := by simp [isDg] at hg; omega
            clear hg hbk
            rcases hb with hb | ⟨hb, hb'⟩
            · have f1 : ((b.toNat : Nat) : Int) < 48 := by omega
              go_wp2
              go_ret2
              exact ⟨by rw [HR.out.1, HR.out.2]; rfl, (by repeat (first | exact Ext.refl _ | refine Ext.drew ?_ | refine Ext.drewN ?_ _ | refine Ext.alloc ?_ _ | refine Ext.trans ?_ hb1))⟩
            · have f1 : ¬ (((b.toNat : Nat) : Int) < 48) := by omega
              have f2 : (57 : Int) < ((b.toNat : Nat) : Int) := by omega
              go_wp2
              go_ret2
              exact ⟨by rw [HR.out.1, HR.out.2]; rfl, (by repeat (first | exact Ext.refl _ | refine Ext.drew ?_ | refine Ext.drewN ?_ _ | refine Ext.alloc ?_ _ | refine Ext.trans ?_ hb1))⟩
          · have HN2 : Hid (∀ j, j < k + 1 → isDg (L.getD j 0) = true) := fun j hj => by
              rcases Nat.lt_or_ge j k with h | h
              · exact HN.out j h
              · have : j = k := by omega
                subst this; rw [hbk]; exact hg
            have hb : 48 ≤ b.toNat ∧ b.toNat ≤ 57 := by simpa [isDg] using hg
            have HS : Hid (((dval 0 (L.take (k + 1)) : Nat) : Int) = 10 * ((dval 0 (L.take k) : Nat) : Int) + (((b.toNat : Nat) : Int) - 48)) := by rw [Hid, take_snoc hlt, hbk, dval_snoc]; omega
            generalize dval 0 (L.take k) = n at hv17 HS ⊢
            have f1 : ¬ (((b.toNat : Nat) : Int) < 48) := by omega
            have f2 : ¬ ((57 : Int) < ((b.toNat : Nat) : Int)) := by omega
            have f3 : IntKind.u8.wrap (((b.toNat : Nat) : Int) - 48) = ((b.toNat : Nat) : Int) - 48 := by rw [IntKind.wrap_u8]; omega
            clear hg hbk
            go_wp2
            go_round
            case rel => exact ⟨k + 1, by omega, by go_num, by rw [HS.out], HN2.out⟩
            case measure => simp [intOf]; omega
        · obtain rfl : k = L.length := by omega
          have hk1 : rdDk L = true := by rw [rdDk, HD.out, all_dg HN.out, HLN.out]; rfl
          have hV : rdV L = (dval 0 L : Int) := by rw [rdV, HG.out, HD.out]; rfl
          have hv18 : dval 0 L < 1000000000000000000 := by
            have h1 : L.take L.length = L := List.take_length
            rw [h1] at hv
            exact Nat.lt_of_lt_of_le hv (pow_le18 (by omega))
          have h1 : L.take L.length = L := List.take_length
          rw [h1]
          obtain ⟨T, hT⟩ : ∃ T : List UInt8, Lib.itoa (dval 0 L : Int) = T := ⟨_, rfl⟩
          have HQ := Lib.hid hT
          have HR : Hid (rdN L = (dval 0 L : Int) ∧ rdOk L = decide (T = L)) := by
            refine ⟨by rw [rdN, hk1, if_pos rfl, hV], by rw [rdOk, hk1, hV, hT, Bool.true_and]⟩
          clear hT hV hk1 h1 hv HN hlt
          generalize dval 0 L = n at hv18 HQ HR ⊢
          have g1 : IntKind.i64.wrap (-(n : Int)) = -(n : Int) := IntWalk.i64_in _ (by omega)
          by_cases hTL : T = L
          · subst hTL
            go_wp2_with (go_at_call 38; refine (rnumi_any _ (by omega) (by omega) _).mono ?_; rintro e w1 ⟨rfl, hb1⟩; rw [HQ.out])
            go_ret2
            exact ⟨by rw [HR.out.1, HR.out.2]; first | done | rfl | (simp; done), (by repeat (first | exact Ext.refl _ | refine Ext.drew ?_ | refine Ext.drewN ?_ _ | refine Ext.alloc ?_ _ | refine Ext.trans ?_ hb1))⟩
          · have t1 : (T == L) = false := by simpa using hTL
            have HR2 : Hid (decide (T = L) = false) := by simpa [Hid] using hTL
            go_wp2_with (go_at_call 38; refine (rnumi_any _ (by omega) (by omega) _).mono ?_; rintro e w1 ⟨rfl, hb1⟩; rw [HQ.out])
            go_ret2
            exact ⟨by rw [HR.out.1, HR.out.2, HR2.out]; first | done | rfl | (simp; done), (by repeat (first | exact Ext.refl _ | refine Ext.drew ?_ | refine Ext.drewN ?_ _ | refine Ext.alloc ?_ _ | refine Ext.trans ?_ hb1))⟩

theorem rread_any (L : List UInt8) (hl : L.length ≤ 1000000) (w : World) :
    Calls Tryd.prog 33 #[.string ⟨L.toArray⟩] w fun e w' => e = .returned (.tuple #[.int .i64 (rdN L), .bool (rdOk L)]) ∧ Ext w w' := by
  rcases and1 (rdNeg L) with h | h
  · exact rread_pos L h hl w
  · cases L with
    | nil => cases h
    | cons c r =>
      have hc : c = 45 := by simpa [rdNeg] using h
      subst hc
      exact rread_neg _ r rfl (by simp at hl; omega) w

theorem dd_len : ∀ k u, u < 10 ^ (k + 1) → (Lib.decDigits u).length ≤ k + 1
  | 0, u, h => by
    have h : u < 10 := by simpa using h
    rw [Lib.decDigits, dif_pos h]; simp
  | k + 1, u, h => by
    by_cases h1 : u < 10
    · rw [Lib.decDigits, dif_pos h1]; simp
    · have := dd_len k (u / 10) (by rw [Nat.pow_succ] at h; omega)
      rw [Lib.decDigits, dif_neg h1, List.length_append, List.length_singleton]; omega
theorem dd_all (u : Nat) : (Lib.decDigits u).all isDg = true := by
  rw [List.all_eq_true]
  intro c hc
  simpa [isDg] using dig_all u c hc
theorem dd_lenOk {u : Nat} (h : u < 10 ^ 18) : lenOk (Lib.decDigits u) = true := by
  have h1 := dd_len 17 u h
  have h2 := Lib.nDigits_pos u
  rw [← Lib.decDigits_length] at h2
  simp [lenOk]; omega
theorem rd_itoa {n : Int} (h : -999999999999999999 ≤ n) (h' : n ≤ 999999999999999999) : rdN (Lib.itoa n) = n ∧ rdOk (Lib.itoa n) = true := by
  rcases Int.lt_or_le n 0 with hn | hn
  · obtain ⟨m, hm⟩ : ∃ m : Nat, n = -(m : Int) := ⟨n.natAbs, by omega⟩
    subst hm
    have hi := Lib.itoa_neg m (by omega)
    have g1 : rdNeg (Lib.itoa (-(m : Int))) = true := by rw [hi]; rfl
    have g2 : rdD (Lib.itoa (-(m : Int))) = Lib.decDigits m := by rw [rdD, g1, hi]; rfl
    have g3 : rdDk (Lib.itoa (-(m : Int))) = true := by rw [rdDk, g2, dd_lenOk (by omega), dd_all]; rfl
    have g4 : rdV (Lib.itoa (-(m : Int))) = -(m : Int) := by rw [rdV, g1, g2, dval_dd]; rfl
    exact ⟨by rw [rdN, g3, g4]; rfl, by rw [rdOk, g3, g4]; simp⟩
  · obtain ⟨m, rfl⟩ := Int.eq_ofNat_of_zero_le hn
    have hi := Lib.itoa_nonneg m
    have g1 : rdNeg (Lib.itoa (m : Int)) = false := by
      rw [hi, rdNeg]
      have hd := dig_all m
      have hne := dig_ne m
      generalize Lib.decDigits m = l at *
      cases l with
      | nil => exact absurd rfl hne
      | cons c r =>
        have hc := hd c (by simp)
        simp only [List.headD_cons, beq_eq_false_iff_ne]
        rintro rfl
        exact absurd hc (by decide)
    have g2 : rdD (Lib.itoa (m : Int)) = Lib.decDigits m := by rw [rdD, g1, hi]; rfl
    have g3 : rdDk (Lib.itoa (m : Int)) = true := by rw [rdDk, g2, dd_lenOk (by omega), dd_all]; rfl
    have g4 : rdV (Lib.itoa (m : Int)) = (m : Int) := by rw [rdV, g1, g2, dval_dd]; rfl
    exact ⟨by rw [rdN, g3, g4]; rfl, by rw [rdOk, g3, g4]; simp⟩
theorem rd_bd (L : List UInt8) : -9223372036854775808 ≤ rdN L ∧ rdN L ≤ 9223372036854775807 := by
  unfold rdN
  cases hk : rdDk L
  · simp
  · simp only [rdDk, lenOk, Bool.and_eq_true, decide_eq_true_eq] at hk
    obtain ⟨⟨_, h18⟩, hd⟩ := hk
    have h1 := dval_lt (D := rdD L) (rdD L).length (Nat.le_refl _) (fun j hj => by
      have := List.all_eq_true.1 hd _ (List.getElem_mem hj)
      simpa [List.getD, hj] using this)
    rw [List.take_length] at h1
    have h2 := pow_le18 h18
    have h3 : -9223372036854775808 ≤ rdV L ∧ rdV L ≤ 9223372036854775807 := by
      unfold rdV
      split <;> omega
    rw [if_pos rfl]
    exact h3

end Go.Proofs.YthccmolnfejkeaaDoor

/-
  The reference's has and number (layer 7).
-/
import Derived.Test.YtpgacpkcchajmaaDoorNotU0
import Derived.Deep.DeepCutAuto
namespace Go.Proofs.YtpgacpkcchajmaaDoor
open Go.RowKit
set_option linter.unusedSimpArgs false

theorem has_any (c : UInt8) (R : List UInt8) (w : World) : Calls Tryd.prog 46 #[.string ⟨R.toArray⟩, .int .u8 (c.toNat : Nat)] w fun e w' => e = .returned (.bool (hdB R c)) ∧ w' = w := by
  cases R with
  | nil =>
    go_enter Tryd.func46, Tryd.ntmps46
    go_wp2
    go_ret
    exact ⟨rfl, rfl⟩
  | cons x t =>
    have h0 : 0 < (x :: t).length := by simp
    have h0' : (0 : Int) < ((x :: t).length : Nat) := by simp
    have hx0 : ∀ h, (⟨(x :: t).toArray⟩ : ByteArray)[0]'h = x := fun h => rfl
    have HV : Hid (hdB (x :: t) c = (x == c)) := rfl
    have hc : ((x.toNat : Int) == (c.toNat : Int)) = (x == c) := by
      by_cases h : x = c
      · subst h; simp
      · have : ¬ ((x.toNat : Int) = (c.toNat : Int)) := fun e => h (UInt8.toNat_inj.1 (by omega))
        have e1 : ((x.toNat : Int) == (c.toNat : Int)) = false := by simpa using this
        have e2 : (x == c) = false := by simpa using h
        rw [e1, e2]
    obtain ⟨L, hL⟩ : ∃ L, x :: t = L := ⟨_, rfl⟩
    rw [hL] at h0 h0' hx0 HV ⊢
    clear hL
    go_enter Tryd.func46, Tryd.ntmps46
    go_wp2
    go_ret
    exact ⟨by rw [HV.out, ← hc]; first | rfl | (simp; done), rfl⟩

theorem has_n (c : UInt8) (R : List UInt8) (n : Int) (w : World) (hn : n = ((c.toNat : Nat) : Int)) : Calls Tryd.prog 46 #[.string ⟨R.toArray⟩, .int .u8 n] w fun e w' => e = .returned (.bool (hdB R c)) ∧ w' = w := by
  subst hn; exact has_any c R w

/-- The number of the first k bytes. -/
def vN (R : List UInt8) : Nat → Int
  | 0 => 0
  | k + 1 => 10 * vN R k + ((R.getD k 0).toNat - 48)
def isD (c : UInt8) : Bool := decide (48 ≤ c.toNat ∧ c.toNat ≤ 57)
theorem vN_bd (R : List UInt8) : ∀ k : Nat, k ≤ 1 → (∀ j, j < k → isD (R.getD j 0) = true) → 0 ≤ vN R k ∧ vN R k ≤ 9
  | 0, _, _ => by simp [vN]
  | 1, _, h => by
    have := h 0 (by omega)
    simp only [isD, decide_eq_true_eq] at this
    simp only [vN]
    omega
theorem num_end {R : List UInt8} {k : Nat} (h2 : k ≤ 2) (hl : k ≤ R.length) (hd : ∀ j, j < k → isD (R.getD j 0) = true) (he : k = 2 ∨ k = R.length ∨ isD (R.getD k 0) = false) : nuN R = vN R k ∧ nuT R = R.drop k := by
  have hD : ∀ (x : UInt8) (t : List UInt8), dgB (x :: t) = isD x := fun _ _ => rfl
  have hT : ∀ (x : UInt8) (t : List UInt8), isD x = true → dgN (x :: t) = x.toNat - 48 ∧ dgT (x :: t) = t := fun x t h => by
    unfold dgN dgT
    rw [hD, h]; exact ⟨rfl, rfl⟩
  have hF : ∀ (l : List UInt8), dgB l = false → dgN l = 0 ∧ dgT l = l := fun l h => by
    unfold dgN dgT
    rw [h]; exact ⟨rfl, rfl⟩
  unfold nuN nuT
  match k, R with
  | 0, [] => exact ⟨rfl, rfl⟩
  | 0, x :: t =>
    have hx : isD x = false := by simpa using he
    have := hF (x :: t) ((hD x t).trans hx)
    rw [this.1, this.2, this.2, hD, hx]
    exact ⟨rfl, rfl⟩
  | 1, [] => simp at hl
  | 1, [x] =>
    have hx : isD x = true := hd 0 (by omega)
    rw [(hT x [] hx).2, (hT x [] hx).1]
    exact ⟨by simp [vN, dgB], rfl⟩
  | 1, x :: y :: t =>
    have hx : isD x = true := hd 0 (by omega)
    have hy : isD y = false := by simpa using he
    have h2 := hF (y :: t) ((hD y t).trans hy)
    rw [(hT x _ hx).2, (hT x _ hx).1, h2.2, hD, hy]
    exact ⟨by simp [vN], rfl⟩
  | 2, [] => simp at hl
  | 2, [x] => simp at hl
  | 2, x :: y :: t =>
    have hx : isD x = true := hd 0 (by omega)
    have hy : isD y = true := hd 1 (by omega)
    rw [(hT x _ hx).2, (hT x _ hx).1, hD, hy, (hT y _ hy).1, (hT y _ hy).2]
    exact ⟨by simp [vN], rfl⟩
theorem drop_ext (L : List UInt8) (k : Nat) : (⟨L.toArray⟩ : ByteArray).extract k L.length = ⟨(L.drop k).toArray⟩ := by
  apply ByteArray.ext; simp; exact List.take_of_length_le (by simp)
theorem getB (L : List UInt8) (k : Nat) (hk : k < L.length) (h) : (⟨L.toArray⟩ : ByteArray)[k]'h = L.getD k 0 := by
  simp [ByteArray.getElem_eq_getElem_data, List.getD, List.getElem?_eq_getElem hk]
set_option maxHeartbeats 4000000 in
theorem rnumber_any (R : List UInt8) (hl : R.length ≤ 9223372036854775807) (w : World) :
    Calls Tryd.prog 47 #[.string ⟨R.toArray⟩] w fun e w' => e = .returned (.tuple #[.int .i64 (nuN R), .string ⟨(nuT R).toArray⟩]) ∧ Ext w w' := by
  go_enter Tryd.func47, Tryd.ntmps47
  go_wp2
  go_loop [4, 5] (fun n i => ∃ k : Nat, k ≤ 2 ∧ k ≤ R.length ∧ i = .int .i64 k ∧ n = .int .i64 (vN R k) ∧ ∀ j, j < k → isD (R.getD j 0) = true) (fun _ i => 2 - (intOf i).toNat)
  case atStart => exact ⟨0, by omega, by omega, rfl, rfl, fun j hj => by omega⟩
  case round =>
    obtain ⟨k, hk2, hk, rfl, rfl, hn⟩ := hrel
    have HN := Lib.hid hn
    clear hn
    have hend : (k = 2 ∨ k = R.length ∨ isD (R.getD k 0) = false) → nuN R = vN R k ∧ nuT R = R.drop k := num_end hk2 hk HN.out
    have HE := Lib.hid hend
    have hex := drop_ext R k
    clear hend
    by_cases hlt : k < R.length ∧ k < 2
    · obtain ⟨hlt, hlt2⟩ := hlt
      have hv := vN_bd R k (by omega) HN.out
      have hx := getB R k hlt
      have hv2 : vN R (k + 1) = 10 * vN R k + ((R.getD k 0).toNat - 48) := rfl
      have HV2 := Lib.hid hv2
      clear hv2
      have hs : isD (R.getD k 0) = decide (48 ≤ (R.getD k 0).toNat ∧ (R.getD k 0).toNat ≤ 57) := rfl
      have HN2 : Hid (isD (R.getD k 0) = true → ∀ j, j < k + 1 → isD (R.getD j 0) = true) := fun hd j hj => by
        rcases Nat.lt_or_ge j k with h | h
        · exact HN.out j h
        · have : j = k := by omega
          subst this; exact hd
      obtain ⟨b, hb⟩ : ∃ b, R.getD k 0 = b := ⟨_, rfl⟩
      rw [hb] at hx hs HV2 HN2 HE
      clear hb
      obtain ⟨V, hV⟩ : ∃ b, vN R k = b := ⟨_, rfl⟩
      rw [hV] at hv HV2 HE ⊢
      clear hV
      have hb256 : b.toNat < 256 := b.toNat_lt
      by_cases h1 : b.toNat < 48
      · have h1' : ¬ (48 : Int) ≤ (b.toNat : Int) := by omega
        obtain ⟨e1, e2⟩ := HE.out (Or.inr (Or.inr (by rw [hs]; simp; omega)))
        have E1 := Lib.hid e1
        have E2 := Lib.hid e2
        clear hs h1 e1 e2
        go_wp2
        go_quiet (fail)
        go_wp2
        go_ret2
        exact ⟨by rw [E1.out, E2.out]; rfl, (by repeat (first | exact Ext.refl _ | refine Ext.drew ?_ | refine Ext.drewN ?_ _ | refine Ext.alloc ?_ _))⟩
      · have h1' : (48 : Int) ≤ (b.toNat : Int) := by omega
        by_cases h2 : 57 < b.toNat
        · have h2' : ¬ (b.toNat : Int) ≤ 57 := by omega
          obtain ⟨e1, e2⟩ := HE.out (Or.inr (Or.inr (by rw [hs]; simp; omega)))
          have E1 := Lib.hid e1
          have E2 := Lib.hid e2
          clear hs h1 h2 e1 e2
          go_wp2
          go_quiet (fail)
          go_wp2
          go_ret2
          exact ⟨by rw [E1.out, E2.out]; rfl, (by repeat (first | exact Ext.refl _ | refine Ext.drew ?_ | refine Ext.drewN ?_ _ | refine Ext.alloc ?_ _))⟩
        · have h2' : (b.toNat : Int) ≤ 57 := by omega
          have h3 := HN2.out (by rw [hs]; simp; omega)
          have H3 := Lib.hid h3
          have f3 : IntKind.u8.wrap ((b.toNat : Int) - 48) = (b.toNat : Int) - 48 := by rw [IntKind.wrap_u8]; omega
          clear hs h1 h2 h3
          go_wp2
          go_round
          case rel => exact ⟨k + 1, by omega, by omega, by go_num, by rw [HV2.out], H3.out⟩
          case measure => simp [intOf]; omega
    · obtain ⟨e1, e2⟩ := HE.out (by omega)
      have E1 := Lib.hid e1
      have E2 := Lib.hid e2
      clear e1 e2
      rcases Nat.lt_or_ge k R.length with hq | hq
      · obtain rfl : k = 2 := by omega
        go_wp2
        go_quiet (fail)
        go_wp2
        go_ret2
        exact ⟨by rw [E1.out, E2.out]; rfl, (by repeat (first | exact Ext.refl _ | refine Ext.drew ?_ | refine Ext.drewN ?_ _ | refine Ext.alloc ?_ _))⟩
      · obtain rfl : k = R.length := by omega
        clear hlt
        go_wp2
        go_quiet (fail)
        go_wp2
        go_ret2
        exact ⟨by rw [E1.out, E2.out, List.drop_length]; rfl, (by repeat (first | exact Ext.refl _ | refine Ext.drew ?_ | refine Ext.drewN ?_ _ | refine Ext.alloc ?_ _))⟩

end Go.Proofs.YtpgacpkcchajmaaDoor

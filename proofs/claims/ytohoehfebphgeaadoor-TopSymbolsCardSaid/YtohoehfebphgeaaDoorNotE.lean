/-
  The reader's methods (layer 7, program).
-/
import Derived.Test.YtohoehfebphgeaaDoorNotD
namespace Go.Proofs.YtohoehfebphgeaaDoor
open Go.RowKit
set_option linter.unusedSimpArgs false

set_option maxHeartbeats 4000000 in
theorem take_any (c : UInt8) {w0 w : World} {p q : Nat} {R : List UInt8} {d : Dl} (h : St w0 p q R d w) (hl : R.length ≤ 9223372036854775807) : Calls Tryd.prog 18 #[.pointer (some ⟨p, 0, none⟩), .int .u8 (c.toNat : Nat)] w fun e w' => e = .returned (.bool (hdB R c)) ∧ St w0 p q (tkL R c) d w' := by
  obtain ⟨c0, f0⟩ := h.cell
  have HH := Lib.hid h
  clear h
  cases R with
  | nil =>
    go_enter Tryd.func18, Tryd.ntmps18
    go_wp2
    go_ret
    exact ⟨rfl, HH.out⟩
  | cons x t =>
    have hlen : (x :: t).length = t.length + 1 := rfl
    have h0 : 0 < (x :: t).length := by simp
    have hx0 : ∀ h, (⟨(x :: t).toArray⟩ : ByteArray)[0]'h = x := fun h => rfl
    have hext : (⟨(x :: t).toArray⟩ : ByteArray).extract 1 (t.length + 1) = ⟨t.toArray⟩ := by apply ByteArray.ext; simp
    have hne : (x :: t).isEmpty = false := rfl
    have hsz : t.length + 1 ≤ 9223372036854775807 := hl
    obtain ⟨L, hL⟩ : ∃ L, x :: t = L := ⟨_, rfl⟩
    rw [hL] at hlen h0 hx0 hext hne c0
    have hx256 : x.toNat < 256 := x.toNat_lt
    by_cases hc : x = c
    · subst hc
      have HV : Hid (hdB (x :: t) x = true ∧ tkL (x :: t) x = t) := by simp [Hid, hdB, tkL]
      clear hL
      go_enter Tryd.func18, Tryd.ntmps18
      go_wp2
      go_ret
      exact ⟨by rw [HV.out.1]; rfl, by rw [HV.out.2]; exact HH.out.setR t⟩
    · have HV : Hid (hdB (x :: t) c = false ∧ tkL (x :: t) c = x :: t) := by simp [Hid, hdB, tkL, hc]
      have hc1 : ¬ ((x.toNat : Int) = (c.toNat : Int)) := fun e => hc (UInt8.toNat_inj.1 (by omega))
      have hc2 : ((x.toNat : Int) != (c.toNat : Int)) = true := by simpa using hc1
      have hc3 : ((x.toNat : Int) == (c.toNat : Int)) = false := by simpa using hc1
      clear hL hc
      go_enter Tryd.func18, Tryd.ntmps18
      go_wp2
      go_ret
      exact ⟨by rw [HV.out.1]; rfl, by rw [HV.out.2]; exact HH.out⟩

set_option maxHeartbeats 4000000 in
theorem rdigit_any {w0 w : World} {p q : Nat} {R : List UInt8} {d : Dl} (h : St w0 p q R d w) (hl : R.length ≤ 9223372036854775807) : Calls Tryd.prog 20 #[.pointer (some ⟨p, 0, none⟩)] w fun e w' => e = .returned (.int .i64 (dgN R)) ∧ St w0 p q (dgT R) d w' := by
  obtain ⟨c0, f0⟩ := h.cell
  have HH := Lib.hid h
  clear h
  cases R with
  | nil =>
    go_enter Tryd.func20, Tryd.ntmps20
    go_wp2
    go_ret
    exact ⟨rfl, HH.out⟩
  | cons x t =>
    have hlen : (x :: t).length = t.length + 1 := rfl
    have h0 : 0 < (x :: t).length := by simp
    have hx0 : ∀ h, (⟨(x :: t).toArray⟩ : ByteArray)[0]'h = x := fun h => rfl
    have hext : (⟨(x :: t).toArray⟩ : ByteArray).extract 1 (t.length + 1) = ⟨t.toArray⟩ := by apply ByteArray.ext; simp
    have hne : (x :: t).isEmpty = false := rfl
    have hsz : t.length + 1 ≤ 9223372036854775807 := hl
    obtain ⟨L, hL⟩ : ∃ L, x :: t = L := ⟨_, rfl⟩
    rw [hL] at hlen h0 hx0 hext hne c0
    have hx256 : x.toNat < 256 := x.toNat_lt
    by_cases h1 : x.toNat < 48
    · have HV : Hid (dgN (x :: t) = 0 ∧ dgT (x :: t) = x :: t) := by
        have : dgB (x :: t) = false := by simp [dgB]; omega
        simp [Hid, dgN, dgT, this]
      have h1' : (x.toNat : Int) < 48 := by omega
      clear hL h1
      go_enter Tryd.func20, Tryd.ntmps20
      go_wp2
      go_ret
      exact ⟨by rw [HV.out.1]; rfl, by rw [HV.out.2]; exact HH.out⟩
    · by_cases h2 : 57 < x.toNat
      · have HV : Hid (dgN (x :: t) = 0 ∧ dgT (x :: t) = x :: t) := by
          have : dgB (x :: t) = false := by simp [dgB]; omega
          simp [Hid, dgN, dgT, this]
        have h1' : ¬ (x.toNat : Int) < 48 := by omega
        have h2' : (57 : Int) < (x.toNat : Int) := by omega
        clear hL h1 h2
        go_enter Tryd.func20, Tryd.ntmps20
        go_wp2
        go_ret
        exact ⟨by rw [HV.out.1]; rfl, by rw [HV.out.2]; exact HH.out⟩
      · have HV : Hid (dgN (x :: t) = (x.toNat : Int) - 48 ∧ dgT (x :: t) = t) := by
          have : dgB (x :: t) = true := by simp [dgB]; omega
          simp [Hid, dgN, dgT, this]
        have h1' : ¬ (x.toNat : Int) < 48 := by omega
        have h2' : ¬ (57 : Int) < (x.toNat : Int) := by omega
        have f3 : IntKind.u8.wrap ((x.toNat : Int) - 48) = (x.toNat : Int) - 48 := by rw [IntKind.wrap_u8]; omega
        clear hL h1 h2
        go_enter Tryd.func20, Tryd.ntmps20
        go_wp2
        go_ret
        exact ⟨by rw [HV.out.1]; rfl, by rw [HV.out.2]; exact HH.out.setR t⟩

theorem dgT_le (R : List UInt8) : (dgT R).length ≤ R.length := by
  unfold dgT; split <;> simp
theorem tkL_le (R : List UInt8) (c : UInt8) : (tkL R c).length ≤ R.length := by
  unfold tkL; split <;> simp
set_option maxHeartbeats 4000000 in
theorem nnumber_any {w0 w : World} {p q : Nat} {R : List UInt8} {d : Dl} (h : St w0 p q R d w) (hl : R.length ≤ 9223372036854775807) : Calls Tryd.prog 30 #[.pointer (some ⟨p, 0, none⟩)] w fun e w' => e = .returned (.int .i64 (nuN R)) ∧ St w0 p q (nuT R) d w' := by
  have HH := Lib.hid h
  clear h
  have hl1 := dgT_le R
  have hb := dgN_bd R
  obtain ⟨N1, hN1⟩ : ∃ n, dgN R = n := ⟨_, rfl⟩
  obtain ⟨R1, hR1⟩ : ∃ l, dgT R = l := ⟨_, rfl⟩
  rw [hN1] at hb
  rw [hR1] at hl1
  have HR1 := Lib.hid hR1
  have HN1 := Lib.hid hN1
  have HF : Hid (Calls Tryd.prog 20 #[.pointer (some ⟨p, 0, none⟩)] w fun e w' => e = .returned (.int .i64 N1) ∧ St w0 p q R1 d w') := by
    have := rdigit_any HH.out hl
    rwa [hN1, hR1] at this
  clear hR1 hN1
  cases R1 with
  | nil =>
    have HV : Hid (nuN R = N1 ∧ nuT R = []) := by
      refine ⟨?_, ?_⟩
      · unfold nuN; rw [HR1.out, HN1.out]; rfl
      · unfold nuT; rw [HR1.out]; rfl
    go_enter Tryd.func30, Tryd.ntmps30
    go_wp2_with (go_at_call 20; refine HF.out.mono ?_; rintro e w1 ⟨rfl, hS1⟩; obtain ⟨c0, f0⟩ := hS1.cell; have HS1 := Lib.hid hS1; clear hS1)
    go_ret
    exact ⟨by rw [HV.out.1]; rfl, by rw [HV.out.2]; exact HS1.out⟩
  | cons x t =>
    have h0 : 0 < (x :: t).length := by simp
    have hx0 : ∀ h, (⟨(x :: t).toArray⟩ : ByteArray)[0]'h = x := fun h => rfl
    have hne : (x :: t).isEmpty = false := rfl
    have hl2 : (x :: t).length ≤ 9223372036854775807 := by omega
    have hb2 := dgN_bd (x :: t)
    have HS2 : Hid (∀ W, St w0 p q (x :: t) d W → Calls Tryd.prog 20 #[.pointer (some ⟨p, 0, none⟩)] W fun e w' => e = .returned (.int .i64 (dgN (x :: t))) ∧ St w0 p q (dgT (x :: t)) d w') := fun W h => rdigit_any h hl2
    have hx256 : x.toNat < 256 := x.toNat_lt
    have HVV : Hid (nuN R = (if dgB (x :: t) then 10 * N1 + dgN (x :: t) else N1) ∧ nuT R = dgT (x :: t)) := by
      refine ⟨?_, ?_⟩
      · unfold nuN; rw [HR1.out, HN1.out]
      · unfold nuT; rw [HR1.out]
    have hdB : dgB (x :: t) = decide (48 ≤ x.toNat ∧ x.toNat ≤ 57) := rfl
    have HDT : Hid (dgB (x :: t) = false → dgT (x :: t) = x :: t) := fun h => by unfold dgT; rw [h]; rfl
    obtain ⟨DB, hDB⟩ : ∃ b, dgB (x :: t) = b := ⟨_, rfl⟩
    obtain ⟨N2, hN2⟩ : ∃ b, dgN (x :: t) = b := ⟨_, rfl⟩
    obtain ⟨R2, hR2⟩ : ∃ b, dgT (x :: t) = b := ⟨_, rfl⟩
    rw [hDB] at HVV hdB HDT
    rw [hN2] at HVV HS2 hb2
    rw [hR2] at HVV HS2 HDT
    clear hDB hN2 hR2
    obtain ⟨L, hL⟩ : ∃ L, x :: t = L := ⟨_, rfl⟩
    rw [hL] at HF HS2 h0 hx0 hne HDT
    clear hL hl2
    by_cases h1 : x.toNat < 48
    · have h1' : ¬ (48 : Int) ≤ (x.toNat : Int) := by omega
      obtain rfl : DB = false := by rw [hdB]; simp; omega
      clear hdB h1
      go_enter Tryd.func30, Tryd.ntmps30
      go_wp2_with (go_at_call 20; refine HF.out.mono ?_; rintro e w1 ⟨rfl, hS1⟩; obtain ⟨c0, f0⟩ := hS1.cell; have HS1 := Lib.hid hS1; clear hS1)
      go_ret
      exact ⟨by rw [HVV.out.1]; rfl, by rw [HVV.out.2, HDT.out (by simp)]; exact HS1.out⟩
    · have h1' : (48 : Int) ≤ (x.toNat : Int) := by omega
      by_cases h2 : 57 < x.toNat
      · have h2' : ¬ (x.toNat : Int) ≤ 57 := by omega
        obtain rfl : DB = false := by rw [hdB]; simp; omega
        clear hdB h1 h2
        go_enter Tryd.func30, Tryd.ntmps30
        go_wp2_with (go_at_call 20; refine HF.out.mono ?_; rintro e w1 ⟨rfl, hS1⟩; obtain ⟨c0, f0⟩ := hS1.cell; have HS1 := Lib.hid hS1; clear hS1)
        go_ret
        exact ⟨by rw [HVV.out.1]; rfl, by rw [HVV.out.2, HDT.out (by simp)]; exact HS1.out⟩
      · have h2' : (x.toNat : Int) ≤ 57 := by omega
        obtain rfl : DB = true := by rw [hdB]; simp; omega
        clear hdB h1 h2
        go_enter Tryd.func30, Tryd.ntmps30
        go_wp2_with (first | ((fail_if_success (have hzz := HS1)); go_at_call 20; refine HF.out.mono ?_; rintro e w1 ⟨rfl, hS1⟩; obtain ⟨c0, f0⟩ := hS1.cell; have HS1 := Lib.hid hS1; clear hS1) | (go_at_call 20; refine (HS2.out _ HS1.out).mono ?_; rintro e w2 ⟨rfl, hS2⟩))
        go_ret
        exact ⟨by rw [HVV.out.1]; rfl, by rw [HVV.out.2]; exact hS2⟩

end Go.Proofs.YtohoehfebphgeaaDoor

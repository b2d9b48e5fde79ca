/-
  A delivery is read back from its symbol by the reference's reader; both Parses are one (plain law).
-/
import Derived.Test.YtpgacpkcchajmaaDoorNotN
import Derived.Test.YtpgacpkcchajmaaDoorNotU0
namespace Go.Proofs.YtpgacpkcchajmaaDoor
open Go.RowKit
set_option linter.unusedSimpArgs false

theorem nu_dg {n : Int} (h : 0 ≤ n ∧ n ≤ 9) {t : List UInt8} (ht : dgB t = false) : nuN (dgL n ++ t) = n ∧ nuT (dgL n ++ t) = t := by
  obtain ⟨b, n1, t1⟩ := dg_read (n := n) h t
  unfold nuN nuT
  rw [t1, ht, n1, (dg_none ht).2]
  exact ⟨rfl, rfl⟩
theorem nu_none {t : List UInt8} (ht : dgB t = false) : nuN t = 0 ∧ nuT t = t := by
  unfold nuN nuT
  rw [(dg_none ht).2, ht, (dg_none ht).1, (dg_none ht).2]
  exact ⟨rfl, rfl⟩
theorem hw_read : ∀ h : Nat, h ≤ 10 → hwN [ltL.getD h 0] 11 = (h : Int) := by decide
theorem hdB_hd (x : UInt8) (t : List UInt8) (c : UInt8) : hdB (x :: t) c = hdB [x] c := rfl
theorem hwN_hd (x : UInt8) (t : List UInt8) : ∀ k, hwN (x :: t) k = hwN [x] k
  | 0 => rfl
  | k + 1 => by unfold hwN; rw [hwN_hd x t k]; rfl
theorem wiG_nd (d : Dl) {t : List UInt8} (ht : hdIn t [64] = true) : dgB (wiG d ++ t) = false := by
  unfold wiG
  split
  · show decide (48 ≤ (40 : UInt8).toNat ∧ (40 : UInt8).toNat ≤ 57) = false
    decide
  · exact hdIn_dg ht (by decide)
section
variable {d : Dl} (hk : d.Ok)
include hk
theorem gw_eq {t : List UInt8} (ht : hdIn t [64] = true) (e : Dl) : gwR (wiL d ++ t) e = wkR (wiL d ++ t) e := by
  have h47 : hdB t 47 = false := hdIn_no ht (by decide)
  unfold wiL
  split
  · rw [List.nil_append, gwR, wkR, h47]; rfl
  · have hb := hk.ho
    have hh := ho_read d.ho.toNat (by omega)
    have hw := hw_read d.ho.toNat (by omega)
    obtain ⟨b7, n7, t7⟩ := dg_read (n := d.vi) (by have := hk.vi; omega) (wiG d ++ t)
    obtain ⟨m7, u7⟩ := nu_dg (n := d.vi) (by have := hk.vi; omega) (wiG_nd d ht)
    have e1 : (47 :: ltL.getD d.ho.toNat 0 :: (dgL d.vi ++ wiG d)) ++ t = 47 :: (ltL.getD d.ho.toNat 0 :: (dgL d.vi ++ (wiG d ++ t))) := by simp
    rw [e1, gwR, wkR, (tk_yes 47 _).1, if_pos rfl, if_pos rfl]
    simp only [List.tail_cons, ouR]
    rw [hwN_hd, hw, hh, n7, t7, m7, u7]
theorem gsc_read : gSc (scL d.sc) = d.sc := by
  have h := hk.sc
  unfold scL
  split
  · obtain ⟨n1, t1⟩ := nu_dg (n := d.sc) (by omega) (t := []) rfl
    rw [List.append_nil] at n1
    unfold gSc
    rw [(tk_yes 64 (dgL d.sc)).1, if_pos rfl]
    exact n1
  · show (0 : Int) = d.sc
    omega
end
theorem rread_back {d : Dl} (hk : d.Ok) : gG (symD d) = d := by
  have h7 := scL_hd d.sc
  have e7 := gsc_read hk
  have hwi : ∀ e : Dl, e.ho = 0 → e.vi = 0 → e.fi = 0 → e.se = 0 → e.su = false → gwR (wiL d ++ scL d.sc) e = (scL d.sc, { e with ho := d.ho, vi := d.vi, fi := d.fi, se := d.se, su := d.su }) := fun e k1 k2 k3 k4 k5 => by
    rw [gw_eq hk h7]; exact wi_read hk h7 e k1 k2 k3 k4 k5
  have h6 : hdIn (wiL d ++ scL d.sc) [47, 64] = true := hdIn_app (wi_hd d) h7 (by decide)
  obtain ⟨A7, hA7⟩ : ∃ A, scL d.sc = A := ⟨_, rfl⟩
  rw [hA7] at h7 e7 h6 hwi
  obtain ⟨A6, hA6⟩ : ∃ A, wiL d ++ A7 = A := ⟨_, rfl⟩
  rw [hA6] at h6 hwi
  have h5 : hdIn (crL d.cr ++ A6) [120, 47, 64] = true := hdIn_app (cr_hd _) h6 (by decide)
  have e5 : hdB (crL d.cr ++ A6) 120 = d.cr ∧ tkL (crL d.cr ++ A6) 120 = A6 := by
    cases d.cr
    · have : hdB A6 120 = false := hdIn_no h6 (by decide)
      exact ⟨this, tk_no this⟩
    · exact tk_yes 120 A6
  obtain ⟨A5, hA5⟩ : ∃ A, crL d.cr ++ A6 = A := ⟨_, rfl⟩
  rw [hA5] at h5 e5
  have h4 : hdIn (shL d.sh ++ A5) [45, 120, 47, 64] = true := hdIn_app (sh_hd _) h5 (by decide)
  have e4 : gSh (shL d.sh ++ A5) = d.sh ∧ gR5 (shL d.sh ++ A5) = A5 := by
    have hs := hk.sh
    have hr := hk.ru
    unfold shL
    split
    · obtain ⟨n1, t1⟩ := nu_dg (n := d.sh) (by omega) (t := A5) (hdIn_dg h5 (by decide))
      unfold gSh gR5
      rw [List.cons_append, (tk_yes 45 _).1, if_pos rfl, if_pos rfl, List.tail_cons, n1, t1]
      exact ⟨rfl, rfl⟩
    · have : hdB A5 45 = false := hdIn_no h5 (by decide)
      unfold gSh gR5
      rw [List.nil_append, this]
      exact ⟨by show (0 : Int) = d.sh; omega, rfl⟩
  obtain ⟨A4, hA4⟩ : ∃ A, shL d.sh ++ A5 = A := ⟨_, rfl⟩
  rw [hA4] at h4 e4
  have h3 : hdIn (boL d.bo ++ A4) c3 = true := hdIn_app (bo_hd _) h4 (by decide)
  have e3 : pBo (boL d.bo ++ A4) = d.bo ∧ pR4 (boL d.bo ++ A4) = A4 := by
    have n70 : hdB A4 70 = false := hdIn_no h4 (by decide)
    have n83 : hdB A4 83 = false := hdIn_no h4 (by decide)
    rcases hk.bo with h | h | h
    · rw [h]
      show pBo A4 = 0 ∧ pR4 A4 = A4
      unfold pBo pR4
      rw [n70, n83, tk_no n83]
      exact ⟨rfl, rfl⟩
    · rw [h]
      exact ⟨rfl, rfl⟩
    · rw [h]
      exact ⟨rfl, rfl⟩
  obtain ⟨A3, hA3⟩ : ∃ A, boL d.bo ++ A4 = A := ⟨_, rfl⟩
  rw [hA3] at h3 e3
  have h2 : hdIn (ruL d ++ A3) (dgs ++ c3) = true := hdIn_app (ru_hd hk) h3 (by decide)
  have e2 : nuN (ruL d ++ A3) = d.ru ∧ nuT (ruL d ++ A3) = A3 := by
    have hr := hk.ru
    cases hb : ruB d
    · have h0 : d.ru = 0 := by
        unfold ruB at hb
        simp only [Bool.or_eq_false_iff, decide_eq_false_iff_not] at hb
        omega
      have : dgB A3 = false := hdIn_dg h3 (by decide)
      unfold ruL
      rw [hb, h0]
      exact nu_none this
    · obtain ⟨n1, t1⟩ := nu_dg (n := d.ru) (by omega) (t := A3) (hdIn_dg h3 (by decide))
      unfold ruL
      rw [hb, if_pos rfl]
      exact ⟨n1, t1⟩
  obtain ⟨A2, hA2⟩ : ∃ A, ruL d ++ A3 = A := ⟨_, rfl⟩
  rw [hA2] at h2 e2
  have h1 : hdIn (srL d.ty d.so ++ A2) ([98, 108, 111, 46] ++ (dgs ++ c3)) = true := hdIn_app (sr_hd _ _) h2 (by decide)
  have e1 : gSo d.ty (srL d.ty d.so ++ A2) = d.so ∧ gSt (srL d.ty d.so ++ A2) = A2 := by
    have n98 : hdB A2 98 = false := hdIn_no h2 (by decide)
    have n108 : hdB A2 108 = false := hdIn_no h2 (by decide)
    have n111 : hdB A2 111 = false := hdIn_no h2 (by decide)
    have n46 : hdB A2 46 = false := hdIn_no h2 (by decide)
    rcases hk.ty with h | h | h <;> rcases hk.so with h' | h' | h' | h'
    all_goals
      rw [h, h']
      first
        | exact ⟨rfl, rfl⟩
        | (show gSo _ A2 = _ ∧ gSt A2 = A2
           unfold gSo gSt
           simp [n98, n108, n111, n46])
  obtain ⟨A1, hA1⟩ : ∃ A, srL d.ty d.so ++ A2 = A := ⟨_, rfl⟩
  rw [hA1] at h1 e1
  have e0 : pTy (tyL d.ty ++ A1) = d.ty ∧ pR1 (tyL d.ty ++ A1) = A1 := by
    have n119 : hdB A1 119 = false := hdIn_no h1 (by decide)
    have n110 : hdB A1 110 = false := hdIn_no h1 (by decide)
    rcases hk.ty with h | h | h
    · rw [h]
      show pTy A1 = 1 ∧ pR1 A1 = A1
      unfold pTy pR1
      rw [n119, n110, tk_no n110]
      exact ⟨rfl, rfl⟩
    · rw [h]
      exact ⟨rfl, rfl⟩
    · rw [h]
      exact ⟨rfl, rfl⟩
  have hs : symD d = tyL d.ty ++ A1 := by rw [symD, ← hA1, ← hA2, ← hA3, ← hA4, ← hA5, ← hA6, ← hA7]
  rw [hs]
  unfold gG gR6 gD
  rw [e0.1, e0.2]
  dsimp only
  rw [e1.1, e1.2, e2.1, e2.2, e3.1, e3.2, e4.1, e4.2, e5.1, e5.2, hwi _ rfl rfl rfl rfl rfl]
  dsimp only
  rw [e7]
theorem paB_of {g : Dl} {s : List UInt8} (h : paB g s = true) (hw : g.Wf) : g.Ok ∧ symD g = s := by
  unfold paB at h
  simp only [Bool.and_eq_true, decide_eq_true_eq] at h
  exact ⟨ck_ok h.1 hw, h.2⟩
/-- What both read is one. -/
theorem pg_eq (s : List UInt8) : paB (gG s) s = paB (pG s) s ∧ (paB (pG s) s = true → gG s = pG s) := by
  have k1 : paB (pG s) s = true → gG s = pG s := fun h => by
    obtain ⟨hk, hs⟩ := paB_of h (pG_wf s)
    have := rread_back hk
    rwa [hs] at this
  have k2 : paB (gG s) s = true → pG s = gG s := fun h => by
    obtain ⟨hk, hs⟩ := paB_of h (gG_wf s)
    have := read_back hk
    rwa [hs] at this
  refine ⟨?_, k1⟩
  cases h1 : paB (pG s) s
  · cases h2 : paB (gG s) s
    · rfl
    · rw [k2 h2, h2] at h1
      cases h1
  · rw [k1 h1, h1]
theorem ra_eq (s : List UInt8) : raD s = paD s ∧ raE s = paE s := by
  obtain ⟨h1, h2⟩ := pg_eq s
  unfold raD raE paD paE
  rw [h1]
  cases h : paB (pG s) s
  · exact ⟨rfl, rfl⟩
  · rw [h2 h]; exact ⟨rfl, rfl⟩

end Go.Proofs.YtpgacpkcchajmaaDoor

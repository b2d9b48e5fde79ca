/-
  A delivery is read back from its symbol, whole; two deliveries with one symbol are equal (layer 7, plain law).
-/
import Derived.Test.YtohoehfebphgeaaDoorNotM
namespace Go.Proofs.YtohoehfebphgeaaDoor
open Go.RowKit
set_option linter.unusedSimpArgs false

def dgs : List UInt8 := [48, 49, 50, 51, 52, 53, 54, 55, 56, 57]
theorem dgs_of : ∀ m : Nat, m ≤ 9 → dgs.contains (UInt8.ofNat (48 + m)) = true := by decide
def c3 : List UInt8 := [70, 83, 45, 120, 47, 64]
theorem ru_hd {d : Dl} (hk : d.Ok) : hdIn (ruL d) (dgs ++ c3) = true := by
  unfold ruL
  split
  · have := dgs_of d.ru.toNat (by have := hk.ru; omega)
    show (dgs ++ c3).contains (UInt8.ofNat (48 + d.ru.toNat)) = true
    rw [List.contains_iff_mem] at this ⊢
    exact List.mem_append_left _ this
  · rfl
theorem sr_hd (ty so : Int) : hdIn (srL ty so) ([98, 108, 111, 46] ++ (dgs ++ c3)) = true := by
  unfold srL
  repeat' split
  all_goals decide
theorem bo_hd (b : Int) : hdIn (boL b) c3 = true := by
  unfold boL
  repeat' split
  all_goals decide
theorem sh_hd (n : Int) : hdIn (shL n) [45, 120, 47, 64] = true := by unfold shL; split <;> rfl
theorem cr_hd (b : Bool) : hdIn (crL b) [120, 47, 64] = true := by cases b <;> rfl
theorem wi_hd (d : Dl) : hdIn (wiL d) [47, 64] = true := by unfold wiL; split <;> rfl
theorem read_back {d : Dl} (hk : d.Ok) : pG (symD d) = d := by
  have h7 := scL_hd d.sc
  have e7 := sc_read hk
  have hwi := fun e => @wi_read d hk _ h7 e
  have h6 : hdIn (wiL d ++ scL d.sc) [47, 64] = true := hdIn_app (wi_hd d) h7 (by decide)
  obtain ⟨A7, hA7⟩ : ∃ A, scL d.sc = A := ⟨_, rfl⟩
  rw [hA7] at h7 e7 h6 hwi
  obtain ⟨A6, hA6⟩ : ∃ A, wiL d ++ A7 = A := ⟨_, rfl⟩
  rw [hA6] at h6 hwi
  have h5 : hdIn (crL d.cr ++ A6) [120, 47, 64] = true := hdIn_app (cr_hd _) h6 (by decide)
  have e5 : hdB (crL d.cr ++ A6) 120 = d.cr ∧ tkL (crL d.cr ++ A6) 120 = A6 := by
    cases d.cr
    · have : hdB A6 120 = false := hdIn_no h6 (by decide)
      exact ⟨this, tk_no this⟩
    · exact tk_yes 120 A6
  obtain ⟨A5, hA5⟩ : ∃ A, crL d.cr ++ A6 = A := ⟨_, rfl⟩
  rw [hA5] at h5 e5
  have h4 : hdIn (shL d.sh ++ A5) [45, 120, 47, 64] = true := hdIn_app (sh_hd _) h5 (by decide)
  have e4 : pSh (shL d.sh ++ A5) = d.sh ∧ pR5 (shL d.sh ++ A5) = A5 := by
    have hs := hk.sh
    have hr := hk.ru
    unfold shL
    split
    · obtain ⟨b, n1, t1⟩ := dg_read (n := d.sh) (by omega) A5
      unfold pSh pR5
      rw [List.cons_append, (tk_yes 45 _).1, if_pos rfl, if_pos rfl, List.tail_cons, n1, t1]
      exact ⟨rfl, rfl⟩
    · have : hdB A5 45 = false := hdIn_no h5 (by decide)
      unfold pSh pR5
      rw [List.nil_append, this]
      exact ⟨by show (0 : Int) = d.sh; omega, rfl⟩
  obtain ⟨A4, hA4⟩ : ∃ A, shL d.sh ++ A5 = A := ⟨_, rfl⟩
  rw [hA4] at h4 e4
  have h3 : hdIn (boL d.bo ++ A4) c3 = true := hdIn_app (bo_hd _) h4 (by decide)
  have e3 : pBo (boL d.bo ++ A4) = d.bo ∧ pR4 (boL d.bo ++ A4) = A4 := by
    have n70 : hdB A4 70 = false := hdIn_no h4 (by decide)
    have n83 : hdB A4 83 = false := hdIn_no h4 (by decide)
    rcases hk.bo with h | h | h
    · rw [h]
      show pBo A4 = 0 ∧ pR4 A4 = A4
      unfold pBo pR4
      rw [n70, n83, tk_no n83]
      exact ⟨rfl, rfl⟩
    · rw [h]
      exact ⟨rfl, rfl⟩
    · rw [h]
      exact ⟨rfl, rfl⟩
  obtain ⟨A3, hA3⟩ : ∃ A, boL d.bo ++ A4 = A := ⟨_, rfl⟩
  rw [hA3] at h3 e3
  have h2 : hdIn (ruL d ++ A3) (dgs ++ c3) = true := hdIn_app (ru_hd hk) h3 (by decide)
  have e2 : dgN (ruL d ++ A3) = d.ru ∧ dgT (ruL d ++ A3) = A3 := by
    have hr := hk.ru
    cases hb : ruB d
    · have h0 : d.ru = 0 := by
        unfold ruB at hb
        simp only [Bool.or_eq_false_iff, decide_eq_false_iff_not] at hb
        omega
      have : dgB A3 = false := hdIn_dg h3 (by decide)
      unfold ruL
      rw [hb, h0]
      exact dg_none this
    · obtain ⟨b, n1, t1⟩ := dg_read (n := d.ru) (by omega) A3
      unfold ruL
      rw [hb, if_pos rfl]
      exact ⟨n1, t1⟩
  obtain ⟨A2, hA2⟩ : ∃ A, ruL d ++ A3 = A := ⟨_, rfl⟩
  rw [hA2] at h2 e2
  have h1 : hdIn (srL d.ty d.so ++ A2) ([98, 108, 111, 46] ++ (dgs ++ c3)) = true := hdIn_app (sr_hd _ _) h2 (by decide)
  have e1 : soN d.ty (srL d.ty d.so ++ A2) = d.so ∧ soT d.ty (srL d.ty d.so ++ A2) = A2 := by
    have n98 : hdB A2 98 = false := hdIn_no h2 (by decide)
    have n108 : hdB A2 108 = false := hdIn_no h2 (by decide)
    have n111 : hdB A2 111 = false := hdIn_no h2 (by decide)
    have n46 : hdB A2 46 = false := hdIn_no h2 (by decide)
    rcases hk.ty with h | h | h <;> rcases hk.so with h' | h' | h' | h'
    all_goals
      rw [h, h']
      first
        | exact ⟨rfl, rfl⟩
        | (show soN _ A2 = _ ∧ soT _ A2 = A2
           unfold soN soT
           simp [n98, n108, n111, n46, tkL])
  obtain ⟨A1, hA1⟩ : ∃ A, srL d.ty d.so ++ A2 = A := ⟨_, rfl⟩
  rw [hA1] at h1 e1
  have e0 : pTy (tyL d.ty ++ A1) = d.ty ∧ pR1 (tyL d.ty ++ A1) = A1 := by
    have n119 : hdB A1 119 = false := hdIn_no h1 (by decide)
    have n110 : hdB A1 110 = false := hdIn_no h1 (by decide)
    rcases hk.ty with h | h | h
    · rw [h]
      show pTy A1 = 1 ∧ pR1 A1 = A1
      unfold pTy pR1
      rw [n119, n110, tk_no n110]
      exact ⟨rfl, rfl⟩
    · rw [h]
      exact ⟨rfl, rfl⟩
    · rw [h]
      exact ⟨rfl, rfl⟩
  have hs : symD d = tyL d.ty ++ A1 := by rw [symD, ← hA1, ← hA2, ← hA3, ← hA4, ← hA5, ← hA6, ← hA7]
  rw [hs]
  unfold pG pR6 pD
  rw [e0.1, e0.2]
  dsimp only
  rw [e1.1, e1.2, e2.1, e2.2, e3.1, e3.2, e4.1, e4.2, e5.1, e5.2, hwi _ rfl rfl rfl rfl rfl]
  dsimp only
  rw [e7]
theorem sym_inj {d e : Dl} (hd : d.Ok) (he : e.Ok) (h : symD d = symD e) : d = e := by
  have := read_back hd
  rw [h, read_back he] at this
  exact this.symm

end Go.Proofs.YtohoehfebphgeaaDoor

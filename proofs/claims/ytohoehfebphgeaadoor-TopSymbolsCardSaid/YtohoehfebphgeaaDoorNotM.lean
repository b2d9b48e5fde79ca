/-
  A delivery is read back from its symbol (layer 7, the program's reader; plain law).
-/
import Derived.Test.YtohoehfebphgeaaDoorNotH
import Derived.Test.YtohoehfebphgeaaDoorNumF
namespace Go.Proofs.YtohoehfebphgeaaDoor
open Go.RowKit
set_option linter.unusedSimpArgs false

/-- The first byte, if there is one, is of the list. -/
def hdIn : List UInt8 → List UInt8 → Bool
  | [], _ => true
  | x :: _, S => S.contains x
theorem hdIn_no {l S : List UInt8} {c : UInt8} (h : hdIn l S = true) (hc : S.contains c = false) : hdB l c = false := by
  cases l with
  | nil => rfl
  | cons x t =>
    have h' : S.contains x = true := h
    show (x == c) = false
    cases hx : x == c
    · rfl
    · have : x = c := by simpa using hx
      rw [this, hc] at h'
      cases h'
theorem hdIn_mono {l S T : List UInt8} (h : hdIn l S = true) (hs : S.all T.contains = true) : hdIn l T = true := by
  cases l with
  | nil => rfl
  | cons x t =>
    unfold hdIn at h ⊢
    have := List.all_eq_true.1 hs x (by simpa using h)
    exact this
theorem hdIn_app {a b S T : List UInt8} (ha : hdIn a S = true) (hb : hdIn b T = true) (h1 : T.all S.contains = true) : hdIn (a ++ b) S = true := by
  cases a with
  | nil => exact hdIn_mono hb h1
  | cons x t => exact ha
theorem hdIn_dg {l S : List UInt8} (h : hdIn l S = true) (hs : S.all (fun c => !decide (48 ≤ c.toNat ∧ c.toNat ≤ 57)) = true) : dgB l = false := by
  cases l with
  | nil => rfl
  | cons x t =>
    unfold hdIn at h
    have := List.all_eq_true.1 hs x (by simpa using h)
    have h2 : (!decide (48 ≤ x.toNat ∧ x.toNat ≤ 57)) = true := this
    show decide (48 ≤ x.toNat ∧ x.toNat ≤ 57) = false
    cases hd : decide (48 ≤ x.toNat ∧ x.toNat ≤ 57)
    · rfl
    · rw [hd] at h2
      cases h2
theorem tk_no {l : List UInt8} {c : UInt8} (h : hdB l c = false) : tkL l c = l := by unfold tkL; rw [h]; rfl
theorem tk_yes (c : UInt8) (t : List UInt8) : hdB (c :: t) c = true ∧ tkL (c :: t) c = t := by
  have : hdB (c :: t) c = true := by simp [hdB]
  exact ⟨this, by unfold tkL; rw [this]; rfl⟩
theorem dg_read {n : Int} (h : 0 ≤ n ∧ n ≤ 9) (t : List UInt8) : dgB (dgL n ++ t) = true ∧ dgN (dgL n ++ t) = n ∧ dgT (dgL n ++ t) = t := by
  obtain ⟨m, rfl⟩ := Int.eq_ofNat_of_zero_le h.1
  have e := dig_nat (k := m) (by omega)
  have hb : dgB (dgL (m : Int) ++ t) = true := by
    unfold dgL
    simp only [Int.toNat_natCast, List.cons_append, List.nil_append, dgB]
    rw [e]; simp; omega
  refine ⟨hb, ?_, ?_⟩
  · unfold dgN
    rw [hb, if_pos rfl]
    unfold dgL
    simp only [Int.toNat_natCast, List.cons_append, List.nil_append, List.headD_cons]
    rw [e]; omega
  · unfold dgT
    rw [hb, if_pos rfl]
    rfl
theorem dg_none {t : List UInt8} (h : dgB t = false) : dgN t = 0 ∧ dgT t = t := by
  unfold dgN dgT
  rw [h]; exact ⟨rfl, rfl⟩
theorem itoa_dg : ∀ v : Nat, v ≤ 9 → Lib.itoa (v : Int) = dgL (v : Int) := by
  intro v hv
  rw [Lib.itoa_nonneg, Lib.decDigits, dif_pos (by omega)]
  unfold dgL
  rw [Int.toNat_natCast]
theorem nu_read {n : Int} (h : 0 ≤ n ∧ n ≤ 11) {t : List UInt8} (ht : dgB t = false) : nuN (Lib.itoa n ++ t) = n ∧ nuT (Lib.itoa n ++ t) = t := by
  obtain ⟨m, rfl⟩ := Int.eq_ofNat_of_zero_le h.1
  by_cases h9 : m ≤ 9
  · rw [itoa_dg m h9]
    obtain ⟨b, n1, t1⟩ := dg_read (n := (m : Int)) (by omega) t
    unfold nuN nuT
    rw [t1, ht, n1, (dg_none ht).2]
    exact ⟨rfl, rfl⟩
  · have e : Lib.itoa (m : Int) = dgL 1 ++ dgL ((m : Int) - 10) := by
      rw [Lib.itoa_nonneg, Lib.decDigits, dif_neg (by omega), Lib.decDigits, dif_pos (by omega)]
      have h1 : m / 10 = 1 := by omega
      have h2 : ((m : Int) - 10).toNat = m % 10 := by omega
      unfold dgL
      rw [h1, h2]
      rfl
    rw [e, List.append_assoc]
    obtain ⟨b1, n1, t1⟩ := dg_read (n := 1) (by omega) (dgL ((m : Int) - 10) ++ t)
    obtain ⟨b2, n2, t2⟩ := dg_read (n := (m : Int) - 10) (by omega) t
    unfold nuN nuT
    rw [t1, b2, n1, n2, t2, if_pos rfl]
    exact ⟨by omega, rfl⟩
theorem ho_read : ∀ h : Nat, h ≤ 10 → hoN (ltL.getD h 0) = (h : Int) := by decide

theorem scL_hd (n : Int) : hdIn (scL n) [64] = true := by unfold scL; split <;> rfl
theorem wkF_no {R R5 : List UInt8} (d : Dl) (h : nuT R.tail = R5) (hb : hdB R5 44 = false) : wkF R d = (tkL (tkL R5 115) 41, { d with fi := nuN R.tail, su := hdB R5 115 }) := by
  subst h; unfold wkF; simp [hb]
theorem wkF_yes {R R5 : List UInt8} (d : Dl) (h : nuT R.tail = R5) (hb : hdB R5 44 = true) : wkF R d = (tkL (tkL (nuT R5.tail) 115) 41, { d with fi := nuN R.tail, se := nuN R5.tail, su := hdB (nuT R5.tail) 115 }) := by
  subst h; unfold wkF; simp [hb]
section
variable {d : Dl} (hk : d.Ok)
include hk
theorem sc_read : pSc (scL d.sc) = d.sc := by
  obtain ⟨-, -, -, -, -, -, -, -, -, h⟩ := hk
  unfold scL
  split
  · obtain ⟨b, n1, t1⟩ := dg_read (n := d.sc) (by omega) []
    rw [List.append_nil] at n1
    unfold pSc
    rw [(tk_yes 64 (dgL d.sc)).1, if_pos rfl]
    exact n1
  · show (0 : Int) = d.sc
    omega
theorem wi_read {t : List UInt8} (ht : hdIn t [64] = true) (e : Dl) (hho : e.ho = 0) (hvi : e.vi = 0) (hfi : e.fi = 0) (hse : e.se = 0) (hsu : e.su = false) :
    wkR (wiL d ++ t) e = (t, { e with ho := d.ho, vi := d.vi, fi := d.fi, se := d.se, su := d.su }) := by
  obtain ⟨ety, eso, eru, esh, ebo, ecr, eho, evi, efi, ese, esu, esc⟩ := e
  dsimp only at hho hvi hfi hse hsu
  subst hho hvi hfi hse hsu
  have hd : dgB t = false := hdIn_dg ht (by decide)
  have h47 : hdB t 47 = false := hdIn_no ht (by decide)
  have h40 : hdB t 40 = false := hdIn_no ht (by decide)
  unfold wiL
  split
  · rename_i h
    obtain ⟨h1, h2, h3⟩ := h
    simp only [wiF, Bool.or_eq_false_iff, bne_eq_false_iff_eq] at h3
    rw [List.nil_append, wkR, h47, h1, h2, h3.1.1, h3.1.2, h3.2]
    rfl
  · have hh := ho_read d.ho.toNat (by have := hk.ho; omega)
    rw [show ((d.ho.toNat : Nat) : Int) = d.ho by have := hk.ho; omega] at hh
    obtain ⟨b7, n7, t7⟩ := dg_read (n := d.vi) (by have := hk.vi; omega) (wiG d ++ t)
    have e1 : (47 :: ltL.getD d.ho.toNat 0 :: (dgL d.vi ++ wiG d)) ++ t = 47 :: (ltL.getD d.ho.toNat 0 :: (dgL d.vi ++ (wiG d ++ t))) := by simp
    rw [e1, wkR, (tk_yes 47 _).1, if_pos rfl]
    simp only [List.tail_cons]
    rw [hh, n7, t7]
    cases hF : wiF d
    · have eG : wiG d = [] := by unfold wiG; rw [hF]; rfl
      simp only [wiF, Bool.or_eq_false_iff, bne_eq_false_iff_eq] at hF
      rw [eG, List.nil_append, h40, hF.1.1, hF.1.2, hF.2]
      rfl
    · have eG : wiG d ++ t = 40 :: (Lib.itoa d.fi ++ ((if d.se = 0 then [] else 44 :: Lib.itoa d.se) ++ ((if d.su then [115] else []) ++ (41 :: t)))) := by
        unfold wiG; rw [hF, if_pos rfl]; simp
      obtain ⟨B2, hB2⟩ : ∃ B, (if d.su then [115] else []) ++ (41 :: t) = B := ⟨_, rfl⟩
      have hd2 : dgB B2 = false := by rw [← hB2]; cases d.su <;> rfl
      have h44 : hdB B2 44 = false := by rw [← hB2]; cases d.su <;> rfl
      have h115 : hdB B2 115 = d.su := by rw [← hB2]; cases d.su <;> rfl
      have h41 : tkL (tkL B2 115) 41 = t := by rw [← hB2]; cases d.su <;> rfl
      rw [hB2] at eG
      rw [eG, (tk_yes 40 _).1, if_pos rfl]
      by_cases hs : d.se = 0
      · rw [if_pos hs, List.nil_append]
        obtain ⟨n8, t8⟩ := nu_read (n := d.fi) (by have := hk.fi; omega) hd2
        rw [wkF_no (R := 40 :: (Lib.itoa d.fi ++ B2)) _ t8 h44, List.tail_cons, n8, h115, h41, hs]
      · rw [if_neg hs]
        obtain ⟨n8, t8⟩ := nu_read (n := d.fi) (by have := hk.fi; omega) (t := 44 :: (Lib.itoa d.se ++ B2)) (by rfl)
        obtain ⟨n9, t9⟩ := nu_read (n := d.se) (by have := hk.se; omega) hd2
        rw [List.cons_append, wkF_yes (R := 40 :: (Lib.itoa d.fi ++ 44 :: (Lib.itoa d.se ++ B2))) _ t8 (tk_yes 44 _).1, List.tail_cons, List.tail_cons, n8, n9, t9, h115, h41]
end

end Go.Proofs.YtohoehfebphgeaaDoor

/-
  What the reference's reader of layer 7 reads, in plain Lean.
-/
import Derived.Test.YtpgacpkcchajmaaDoorNotH
namespace Go.Proofs.YtpgacpkcchajmaaDoor
open Go.RowKit
set_option linter.unusedSimpArgs false

def gSo (ty : Int) (R : List UInt8) : Int := if hdB R 46 then 0 else if hdB R 98 then 2 else if hdB R 108 then 3 else if hdB R 111 then 1 else if ty = 2 then 0 else 1
def gSt (R : List UInt8) : List UInt8 := if hdB R 46 then R.tail else if hdB R 98 then R.tail else if hdB R 108 then R.tail else if hdB R 111 then R.tail else R
def gSh (R : List UInt8) : Int := if hdB R 45 then nuN R.tail else 0
def gR5 (R : List UInt8) : List UInt8 := if hdB R 45 then nuT R.tail else R
def gSc (R : List UInt8) : Int := if hdB R 64 then nuN R.tail else 0
def hwN (R : List UInt8) : Nat → Int
  | 0 => 0
  | k + 1 => if hdB R (ltL.getD k 0) then (k : Int) else hwN R k
/-- What stands behind the slash. -/
def ouR (R : List UInt8) (d : Dl) : List UInt8 × Dl :=
  match R with
  | [] => ([], { d with ho := hwN [] 11 })
  | x :: t => if hdB (nuT t) 40 then wkF (nuT t) { d with ho := hwN (x :: t) 11, vi := nuN t } else (nuT t, { d with ho := hwN (x :: t) 11, vi := nuN t })
def gwR (R : List UInt8) (d : Dl) : List UInt8 × Dl := if hdB R 47 then ouR R.tail d else (R, d)
def gD (s : List UInt8) : Dl :=
  let R2 := gSt (pR1 s)
  let R4 := pR4 (nuT R2)
  ⟨pTy s, gSo (pTy s) (pR1 s), nuN R2, gSh R4, pBo (nuT R2), hdB (gR5 R4) 120, 0, 0, 0, 0, false, 0⟩
def gR6 (s : List UInt8) : List UInt8 := tkL (gR5 (pR4 (nuT (gSt (pR1 s))))) 120
def gG (s : List UInt8) : Dl := let x := gwR (gR6 s) (gD s); { x.2 with sc := gSc x.1 }
def raD (s : List UInt8) : Dl := if paB (gG s) s then gG s else zD
def raE (s : List UInt8) : Int := if paB (gG s) s then 0 else 4
theorem gSo_bd (ty : Int) (R : List UInt8) : 0 ≤ gSo ty R ∧ gSo ty R ≤ 3 := by
  unfold gSo
  repeat' split
  all_goals omega
theorem hwN_bd (R : List UInt8) : ∀ k : Nat, k ≤ 11 → 0 ≤ hwN R k ∧ hwN R k ≤ 10
  | 0, _ => by unfold hwN; omega
  | k + 1, h => by
    have := hwN_bd R k (by omega)
    unfold hwN
    split
    · omega
    · exact this
theorem gwR_keep (R : List UInt8) (d : Dl) : (gwR R d).2.ty = d.ty ∧ (gwR R d).2.so = d.so ∧ (0 ≤ d.ho ∧ d.ho ≤ 10 → 0 ≤ (gwR R d).2.ho ∧ (gwR R d).2.ho ≤ 10) := by
  have hb := fun X => hwN_bd X 11 (Nat.le_refl _)
  unfold gwR
  split
  · cases hR : R.tail with
    | nil => exact ⟨rfl, rfl, fun _ => hb []⟩
    | cons x t =>
      have h := hb (x :: t)
      unfold ouR
      dsimp only
      split
      · unfold wkF
        dsimp only
        split <;> exact ⟨rfl, rfl, fun _ => h⟩
      · exact ⟨rfl, rfl, fun _ => h⟩
  · exact ⟨rfl, rfl, fun h => h⟩
theorem gG_wf (s : List UInt8) : (gG s).Wf := by
  obtain ⟨h1, h2, h3⟩ := gwR_keep (gR6 s) (gD s)
  have h4 := pTy_bd s
  have h5 := gSo_bd (pTy s) (pR1 s)
  have h6 := h3 ⟨by show (0 : Int) ≤ 0; decide, by show (0 : Int) ≤ 10; decide⟩
  refine ⟨?_, ?_, ?_⟩
  · have e : (gG s).ty = pTy s := h1
    rw [e]; omega
  · have e : (gG s).so = gSo (pTy s) (pR1 s) := h2
    rw [e]; omega
  · have e : (gG s).ho = (gwR (gR6 s) (gD s)).2.ho := rfl
    rw [e]; omega

end Go.Proofs.YtpgacpkcchajmaaDoor

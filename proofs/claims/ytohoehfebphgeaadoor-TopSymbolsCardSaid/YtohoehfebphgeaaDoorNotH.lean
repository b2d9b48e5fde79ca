/-
  What Parse of layer 7 (program) reads, in plain Lean.
-/
import Derived.Test.YtohoehfebphgeaaDoorNotD
namespace Go.Proofs.YtohoehfebphgeaaDoor
open Go.RowKit
set_option linter.unusedSimpArgs false

def pTy (s : List UInt8) : Int := if hdB s 119 then 2 else if hdB s 110 then 3 else 1
def pR1 (s : List UInt8) : List UInt8 := if hdB s 119 then s.tail else tkL s 110
def pBo (R : List UInt8) : Int := if hdB R 70 then 4 else if hdB R 83 then 6 else 0
def pR4 (R : List UInt8) : List UInt8 := if hdB R 70 then R.tail else tkL R 83
def pSh (R : List UInt8) : Int := if hdB R 45 then dgN R.tail else 0
def pR5 (R : List UInt8) : List UInt8 := if hdB R 45 then dgT R.tail else R
def pSc (R : List UInt8) : Int := if hdB R 64 then dgN R.tail else 0
/-- The delivery ahead of its wicket. -/
def pD (s : List UInt8) : Dl :=
  let R2 := soT (pTy s) (pR1 s)
  let R4 := pR4 (dgT R2)
  ⟨pTy s, soN (pTy s) (pR1 s), dgN R2, pSh R4, pBo (dgT R2), hdB (pR5 R4) 120, 0, 0, 0, 0, false, 0⟩
def pR6 (s : List UInt8) : List UInt8 := tkL (pR5 (pR4 (dgT (soT (pTy s) (pR1 s))))) 120
def pG (s : List UInt8) : Dl := let x := wkR (pR6 s) (pD s); { x.2 with sc := pSc x.1 }
def zD : Dl := ⟨0, 0, 0, 0, 0, false, 0, 0, 0, 0, false, 0⟩
def paB (g : Dl) (s : List UInt8) : Bool := decide (ckD g = 0) && decide (symD g = s)
def paD (s : List UInt8) : Dl := if paB (pG s) s then pG s else zD
def paE (s : List UInt8) : Int := if paB (pG s) s then 0 else 4
theorem pTy_bd (s : List UInt8) : 1 ≤ pTy s ∧ pTy s ≤ 3 := by
  unfold pTy
  repeat' split
  all_goals omega
theorem soN_bd (ty : Int) (R : List UInt8) : 0 ≤ soN ty R ∧ soN ty R ≤ 3 := by
  unfold soN
  repeat' split
  all_goals omega
theorem wkR_keep (R : List UInt8) (d : Dl) : (wkR R d).2.ty = d.ty ∧ (wkR R d).2.so = d.so ∧ (0 ≤ d.ho ∧ d.ho ≤ 10 → 0 ≤ (wkR R d).2.ho ∧ (wkR R d).2.ho ≤ 10) := by
  unfold wkR
  split
  · split
    · exact ⟨rfl, rfl, fun h => h⟩
    · rename_i x R2 _
      have := hoN_bd x
      dsimp only
      split
      · unfold wkF
        dsimp only
        split <;> exact ⟨rfl, rfl, fun _ => this⟩
      · exact ⟨rfl, rfl, fun _ => this⟩
  · exact ⟨rfl, rfl, fun h => h⟩
theorem wkR_sc (R : List UInt8) (d : Dl) : (wkR R d).2.sc = d.sc := by
  unfold wkR
  split
  · split
    · rfl
    · dsimp only
      split
      · unfold wkF
        dsimp only
        split <;> rfl
      · rfl
  · rfl
theorem pG_wf (s : List UInt8) : (pG s).Wf := by
  obtain ⟨h1, h2, h3⟩ := wkR_keep (pR6 s) (pD s)
  have h4 := pTy_bd s
  have h5 := soN_bd (pTy s) (pR1 s)
  have h6 := h3 ⟨by show (0 : Int) ≤ 0; decide, by show (0 : Int) ≤ 10; decide⟩
  refine ⟨?_, ?_, ?_⟩
  · have e : (pG s).ty = pTy s := h1
    rw [e]; omega
  · have e : (pG s).so = soN (pTy s) (pR1 s) := h2
    rw [e]; omega
  · have e : (pG s).ho = (wkR (pR6 s) (pD s)).2.ho := rfl
    rw [e]; omega

end Go.Proofs.YtohoehfebphgeaaDoor

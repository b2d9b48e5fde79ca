/-
  The reader of symbols (layer 7, program): its memory, and what it makes of a string, in plain Lean.
-/
import Derived.Test.YtohoehfebphgeaaDoorNotP
import Derived.Lib.Bytealg
namespace Go.Proofs.YtohoehfebphgeaaDoor
open Go.RowKit
set_option linter.unusedSimpArgs false

def Dl.arr (d : Dl) : Array Value := #[.int .u8 d.ty, .int .u8 d.so, .int .i64 d.ru, .int .i64 d.sh, .int .i64 d.bo, .bool d.cr, .int .u8 d.ho, .int .i64 d.vi, .int .i64 d.fi, .int .i64 d.se, .bool d.su, .int .i64 d.sc]
/-- A reader in block p with the rest R, a delivery in block q; both younger than the world w0, of which nothing has turned. -/
structure St (w0 : World) (p q : Nat) (R : List UInt8) (d : Dl) (w : World) : Prop where
  ext : Ext w0 w
  hp : w0.heap.size ≤ p
  hq : w0.heap.size ≤ q
  ne : p ≠ q
  rd : w.heap[p]? = some (.cells #[.string ⟨R.toArray⟩] 53 (0, 0))
  dl : w.heap[q]? = some (.cells d.arr 29 (0, 0))
section
variable {w0 w : World} {p q : Nat} {R : List UInt8} {d : Dl}
theorem St.cell (h : St w0 p q R d w) : w.cell? ⟨p, 0, none⟩ = some (.string ⟨R.toArray⟩) ∧ w.frozen? ⟨p, 0, none⟩ = false := by
  have := h.rd
  constructor <;> simp [World.cell?, World.frozen?, this]
theorem St.box (h : St w0 p q R d w) : BoxD d q w := by
  unfold BoxD
  refine ⟨?_, ?_, ?_, ?_, ?_, ?_, ?_, ?_, ?_, ?_, ?_, ?_⟩ <;> exact Lib.cell_of_heap h.dl _
theorem St.fz (h : St w0 p q R d w) (j : Nat) : w.frozen? ⟨q, j, none⟩ = false := by
  have := h.dl
  simp [World.frozen?, this]
theorem St.setR (h : St w0 p q R d w) (R' : List UInt8) : St w0 p q R' d (w.setCell ⟨p, 0, none⟩ (.string ⟨R'.toArray⟩)) where
  ext := h.ext.setCell h.hp _
  hp := h.hp
  hq := h.hq
  ne := h.ne
  rd := by simp [World.setCell, Array.getElem?_modify, h.rd]
  dl := by rw [Below.heap_setCell _ _ _ _ (show q ≠ p from fun e => h.ne e.symm)]; exact h.dl
theorem St.setD (h : St w0 p q R d w) {j : Nat} {v : Value} {d' : Dl} (hv : d.arr.setIfInBounds j v = d'.arr) : St w0 p q R d' (w.setCell ⟨q, j, none⟩ v) where
  ext := h.ext.setCell h.hq _
  hp := h.hp
  hq := h.hq
  ne := h.ne
  rd := by rw [Below.heap_setCell _ _ _ _ (show p ≠ q from h.ne)]; exact h.rd
  dl := by rw [← hv]; simp [World.setCell, Array.getElem?_modify, h.dl]
theorem St.grow (h : St w0 p q R d w) {w' : World} (x : Ext w w') : St w0 p q R d w' where
  ext := h.ext.trans x
  hp := h.hp
  hq := h.hq
  ne := h.ne
  rd := (x.block p (Array.getElem?_eq_some_iff.1 h.rd).1).trans h.rd
  dl := (x.block q (Array.getElem?_eq_some_iff.1 h.dl).1).trans h.dl
end
def hdB : List UInt8 → UInt8 → Bool
  | [], _ => false
  | x :: _, c => x == c
def tkL (R : List UInt8) (c : UInt8) : List UInt8 := if hdB R c then R.tail else R
def dgB : List UInt8 → Bool
  | [] => false
  | x :: _ => decide (48 ≤ x.toNat ∧ x.toNat ≤ 57)
def dgN (R : List UInt8) : Int := if dgB R then (R.headD 0).toNat - 48 else 0
def dgT (R : List UInt8) : List UInt8 := if dgB R then R.tail else R
def nuN (R : List UInt8) : Int := if dgB (dgT R) then 10 * dgN R + dgN (dgT R) else dgN R
def nuT (R : List UInt8) : List UInt8 := dgT (dgT R)
def soN (ty : Int) (R : List UInt8) : Int := if hdB R 98 then 2 else if hdB R 108 then 3 else if ty = 2 then (if hdB R 111 then 1 else 0) else if hdB R 46 then 0 else 1
def soT (ty : Int) (R : List UInt8) : List UInt8 := if hdB R 98 then R.tail else if hdB R 108 then R.tail else if ty = 2 then tkL R 111 else tkL R 46
def hoN (x : UInt8) : Int := max (Lib.indexByte ltL x) 0
/-- What stands behind the fielder's bracket. -/
def wkF (R : List UInt8) (d : Dl) : List UInt8 × Dl :=
  let R4 := R.tail
  let d3 := { d with fi := nuN R4 }
  let R5 := nuT R4
  let d4 := if hdB R5 44 then { d3 with se := nuN R5.tail } else d3
  let R6 := if hdB R5 44 then nuT R5.tail else R5
  (tkL (tkL R6 115) 41, { d4 with su := hdB R6 115 })
def wkR (R : List UInt8) (d : Dl) : List UInt8 × Dl :=
  if hdB R 47 then
    match R.tail with
    | [] => ([], d)
    | x :: R2 =>
      let d2 := { d with ho := hoN x, vi := dgN R2 }
      if hdB (dgT R2) 40 then wkF (dgT R2) d2 else (dgT R2, d2)
  else (R, d)
theorem dgN_bd (R : List UInt8) : 0 ≤ dgN R ∧ dgN R ≤ 9 := by
  unfold dgN
  cases R with
  | nil => simp [dgB]
  | cons x t =>
    simp only [dgB, List.headD_cons]
    by_cases h : 48 ≤ x.toNat ∧ x.toNat ≤ 57
    · simp only [h, and_self, decide_true, if_true]
      omega
    · simp [h]
theorem idx_lt : ∀ (l : List UInt8) (c : UInt8), l ≠ [] → Lib.indexByte l c < l.length
  | [], _, h => absurd rfl h
  | b :: l, c, _ => by
    simp only [Lib.indexByte, List.length_cons]
    split
    · omega
    · split
      · omega
      · cases l with
        | nil => simp [Lib.indexByte] at *
        | cons x t => have := idx_lt (x :: t) c (by simp); omega
theorem hoN_bd (x : UInt8) : 0 ≤ hoN x ∧ hoN x ≤ 10 := by
  have := idx_lt ltL x (by decide)
  have e : (ltL.length : Int) = 11 := rfl
  unfold hoN
  omega

end Go.Proofs.YtohoehfebphgeaaDoor

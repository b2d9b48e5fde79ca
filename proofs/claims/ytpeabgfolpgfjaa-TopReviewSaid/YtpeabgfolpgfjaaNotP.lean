/-
  Deliveries and their symbols, in plain Lean (layer 7).
-/
import Derived.Test.YtpeabgfolpgfjaaKit
import Derived.Lib.ItoaLen
namespace Go.Proofs.Ytpeabgfolpgfjaa
open Go.RowKit
set_option linter.unusedSimpArgs false

/-- A delivery: its twelve fields. -/
structure Dl where
  ty : Int
  so : Int
  ru : Int
  sh : Int
  bo : Int
  cr : Bool
  ho : Int
  vi : Int
  fi : Int
  se : Int
  su : Bool
  sc : Int
def Dl.v (d : Dl) : Value := .agg #[.int .u8 d.ty, .int .u8 d.so, .int .i64 d.ru, .int .i64 d.sh, .int .i64 d.bo, .bool d.cr, .int .u8 d.ho, .int .i64 d.vi, .int .i64 d.fi, .int .i64 d.se, .bool d.su, .int .i64 d.sc]
structure Dl.Wf (d : Dl) : Prop where
  ty : 0 ≤ d.ty ∧ d.ty ≤ 255
  so : 0 ≤ d.so ∧ d.so ≤ 255
  ho : 0 ≤ d.ho ∧ d.ho ≤ 255
def ckT (d : Dl) : Bool := decide (1 ≤ d.ty) && decide (d.ty ≤ 3) && decide (d.so ≤ 3) && decide (d.ho ≤ 10)
def boOk (b : Int) : Bool := b == 0 || b == 4 || b == 6
def ckR (d : Dl) : Bool := rng d.ru 0 7 && rng d.sh 0 d.ru && boOk d.bo && rng d.vi 0 2 && rng d.fi 0 11 && rng d.se 0 11 && rng d.sc 0 8
def ckD (d : Dl) : Int := if ckT d then (if ckR d then 0 else 2) else 3
theorem bo_cases (b : Int) : b = 0 ∨ b = 4 ∨ b = 6 ∨ (boOk b = false ∧ (b != 0) = true ∧ (b != 4) = true ∧ (b != 6) = true) := by
  by_cases h0 : b = 0
  · exact Or.inl h0
  · by_cases h4 : b = 4
    · exact Or.inr (Or.inl h4)
    · by_cases h6 : b = 6
      · exact Or.inr (Or.inr (Or.inl h6))
      · exact Or.inr (Or.inr (Or.inr ⟨by simp [boOk, h0, h4, h6], by simpa using h0, by simpa using h4, by simpa using h6⟩))
theorem or7 (a b c d e f : Bool) : a = false ∨ (a = true ∧ b = false) ∨ (a = true ∧ b = true ∧ c = false) ∨ (a = true ∧ b = true ∧ c = true ∧ d = false) ∨ (a = true ∧ b = true ∧ c = true ∧ d = true ∧ e = false) ∨ (a = true ∧ b = true ∧ c = true ∧ d = true ∧ e = true ∧ f = false) ∨ (a = true ∧ b = true ∧ c = true ∧ d = true ∧ e = true ∧ f = true) := by
  cases a <;> cases b <;> cases c <;> cases d <;> cases e <;> cases f <;> simp
theorem ck_type {d : Dl} (h : ¬ (1 ≤ d.ty ∧ d.ty ≤ 3 ∧ d.so ≤ 3 ∧ d.ho ≤ 10)) : ckD d = 3 := by
  have e : ckT d = false := by
    cases e : ckT d
    · rfl
    · simp only [ckT, Bool.and_eq_true, decide_eq_true_eq] at e
      omega
  unfold ckD
  rw [e]; rfl
/-- What a delivery that passes Check has. -/
structure Dl.Ok (d : Dl) : Prop where
  ty : d.ty = 1 ∨ d.ty = 2 ∨ d.ty = 3
  so : d.so = 0 ∨ d.so = 1 ∨ d.so = 2 ∨ d.so = 3
  ru : 0 ≤ d.ru ∧ d.ru ≤ 7
  sh : 0 ≤ d.sh ∧ d.sh ≤ d.ru
  bo : d.bo = 0 ∨ d.bo = 4 ∨ d.bo = 6
  ho : 0 ≤ d.ho ∧ d.ho ≤ 10
  vi : 0 ≤ d.vi ∧ d.vi ≤ 2
  fi : 0 ≤ d.fi ∧ d.fi ≤ 11
  se : 0 ≤ d.se ∧ d.se ≤ 11
  sc : 0 ≤ d.sc ∧ d.sc ≤ 8
theorem ck_ok {d : Dl} (h : ckD d = 0) (hw : d.Wf) : d.Ok := by
  obtain ⟨w1, w2, w3⟩ := hw
  unfold ckD at h
  split at h
  · split at h
    · rename_i h1 h2
      simp only [ckT, ckR, boOk, rng, Bool.and_eq_true, Bool.or_eq_true, decide_eq_true_eq, beq_iff_eq] at h1 h2
      exact ⟨by omega, by omega, by omega, by omega, by omega, by omega, by omega, by omega, by omega, by omega⟩
    · cases h
  · cases h
theorem ok_ck {d : Dl} (h : d.Ok) : ckD d = 0 := by
  obtain ⟨h1, h2, h3, h4, h5, h6, h7, h8, h9, h10⟩ := h
  have e1 : ckT d = true := by simp only [ckT, Bool.and_eq_true, decide_eq_true_eq]; omega
  have e2 : ckR d = true := by simp only [ckR, boOk, rng, Bool.and_eq_true, Bool.or_eq_true, decide_eq_true_eq, beq_iff_eq]; omega
  unfold ckD
  rw [e1, e2]; rfl
def dgL (n : Int) : List UInt8 := [UInt8.ofNat (48 + n.toNat)]
def tyL (ty : Int) : List UInt8 := if ty = 2 then [119] else if ty = 3 then [110] else []
def srL (ty so : Int) : List UInt8 := if so = 0 then (if ty = 2 then [] else [46]) else if so = 1 then (if ty = 2 then [111] else []) else if so = 2 then [98] else if so = 3 then [108] else []
def ruB (d : Dl) : Bool := decide (0 < d.ru) || ((srL d.ty d.so).isEmpty && d.bo == 0 && d.ty != 2)
def ruL (d : Dl) : List UInt8 := if ruB d then dgL d.ru else []
def boL (b : Int) : List UInt8 := if b = 4 then [70] else if b = 6 then [83] else []
def shL (n : Int) : List UInt8 := if 0 < n then 45 :: dgL n else []
def crL (b : Bool) : List UInt8 := if b then [120] else []
def ltL : List UInt8 := [78, 66, 67, 76, 83, 72, 82, 84, 79, 77, 81]
def wiF (d : Dl) : Bool := d.fi != 0 || d.se != 0 || d.su
def wiG (d : Dl) : List UInt8 := if wiF d then 40 :: (Lib.itoa d.fi ++ ((if d.se = 0 then [] else 44 :: Lib.itoa d.se) ++ ((if d.su then [115] else []) ++ [41]))) else []
def wiL (d : Dl) : List UInt8 := if d.ho = 0 ∧ d.vi = 0 ∧ wiF d = false then [] else 47 :: ltL.getD d.ho.toNat 0 :: (dgL d.vi ++ wiG d)
def scL (n : Int) : List UInt8 := if 0 < n then 64 :: dgL n else []
/-- The symbol of a delivery. -/
def symD (d : Dl) : List UInt8 := tyL d.ty ++ (srL d.ty d.so ++ (ruL d ++ (boL d.bo ++ (shL d.sh ++ (crL d.cr ++ (wiL d ++ scL d.sc))))))
def prS (d : Dl) : List UInt8 := if ckD d = 0 then symD d else []
/-- A delivery in a block of its own. -/
def BoxD (d : Dl) (p : Nat) (w : World) : Prop := w.cell? ⟨p, 0, none⟩ = some (.int .u8 d.ty) ∧ w.cell? ⟨p, 1, none⟩ = some (.int .u8 d.so) ∧ w.cell? ⟨p, 2, none⟩ = some (.int .i64 d.ru) ∧ w.cell? ⟨p, 3, none⟩ = some (.int .i64 d.sh) ∧ w.cell? ⟨p, 4, none⟩ = some (.int .i64 d.bo) ∧ w.cell? ⟨p, 5, none⟩ = some (.bool d.cr) ∧ w.cell? ⟨p, 6, none⟩ = some (.int .u8 d.ho) ∧ w.cell? ⟨p, 7, none⟩ = some (.int .i64 d.vi) ∧ w.cell? ⟨p, 8, none⟩ = some (.int .i64 d.fi) ∧ w.cell? ⟨p, 9, none⟩ = some (.int .i64 d.se) ∧ w.cell? ⟨p, 10, none⟩ = some (.bool d.su) ∧ w.cell? ⟨p, 11, none⟩ = some (.int .i64 d.sc)
theorem BoxD.ext {d : Dl} {p : Nat} {w w' : World} (h : BoxD d p w) (e : Ext w w') : BoxD d p w' := by
  obtain ⟨h0, h1, h2, h3, h4, h5, h6, h7, h8, h9, h10, h11⟩ := h
  exact ⟨e.keep h0, e.keep h1, e.keep h2, e.keep h3, e.keep h4, e.keep h5, e.keep h6, e.keep h7, e.keep h8, e.keep h9, e.keep h10, e.keep h11⟩
theorem dg_enc : ∀ n : Nat, n < 10 → Utf8.encode (48 + (n : Int)) = ⟨#[UInt8.ofNat (48 + n)]⟩ := by decide

end Go.Proofs.Ytpeabgfolpgfjaa

/-
  Small words of this prover's own, used by all walks of the seat: 'Ext w w'' says that w' is w with new blocks only.
-/
import Derived.Test.YtpeabgfolpgfjaaRows
import Derived.WalkKit
import Derived.WalkSpells
import Derived.WalkLawsBesides
import Derived.Lib.Hide
import Derived.Deep.QuietTactic
import Derived.BigQuiet
import Derived.Deep.RegionHeld3
namespace Go.Proofs.Ytpeabgfolpgfjaa
open Go.RowKit

/-- Nothing that was there has turned; there may be new blocks and draws. -/
def Ext (w w' : World) : Prop := Below w.heap.size w w'
theorem Ext.refl (w : World) : Ext w w := Below.refl _ _
theorem Ext.size {a b : World} (h : Ext a b) : a.heap.size ≤ b.heap.size := Below.size h
theorem Ext.trans {a b c : World} (h : Ext a b) (k : Ext b c) : Ext a c := Below.trans h (Below.mono k h.size)
theorem Ext.alloc {a w : World} (h : Ext a w) (o : Obj) : Ext a (w.alloc o) := Below.alloc h h.size o
theorem Ext.drew {a w : World} (h : Ext a w) : Ext a w.drew := Below.drew h
theorem Ext.drewN {a w : World} (h : Ext a w) (n : Nat) : Ext a (w.drewN n) := ⟨h.os, h.tape, h.output, h.size, h.block⟩
theorem Ext.ofDrew {a w : World} (h : Ext a.drew w) : Ext a w := ⟨h.os, h.tape, h.output, h.size, h.block⟩
theorem Ext.ofDrewN {a w : World} {n : Nat} (h : Ext (a.drewN n) w) : Ext a w := ⟨h.os, h.tape, h.output, h.size, h.block⟩
theorem Ext.setCell {a w : World} (h : Ext a w) {p : Addr} (hp : a.heap.size ≤ p.block) (u : Value) : Ext a (w.setCell p u) := Below.setCell h hp u
theorem Ext.below {a w : World} (h : Ext a w) : Below a.heap.size a w := h
theorem Ext.cells {a w : World} (h : Ext a w) : (∀ b o, b < a.heap.size → w.cell? ⟨b, o, none⟩ = a.cell? ⟨b, o, none⟩) ∧ (∀ b o, b < a.heap.size → w.frozen? ⟨b, o, none⟩ = a.frozen? ⟨b, o, none⟩) :=
  ⟨fun b o k => Below.cell (p := ⟨b, o, none⟩) h k, fun b o k => Below.frozen (p := ⟨b, o, none⟩) h k⟩
theorem Ext.lt {a w : World} (h : Ext a w) {n : Nat} (k : n < a.heap.size) : n < w.heap.size := Nat.lt_of_lt_of_le k h.size
theorem cell_lt {w : World} {b o : Nat} {v : Value} (h : w.cell? ⟨b, o, none⟩ = some v) : b < w.heap.size := by
  rcases Nat.lt_or_ge b w.heap.size with h1 | h1
  · exact h1
  · simp [World.cell?, Array.getElem?_eq_none h1] at h
theorem Ext.keep {a w : World} (h : Ext a w) {b o : Nat} {v : Value} (hc : a.cell? ⟨b, o, none⟩ = some v) : w.cell? ⟨b, o, none⟩ = some v := (h.cells.1 b o (cell_lt hc)).trans hc
theorem ret1 {k : IntKind} {a c : Int} (h : a = c) : Ending.returned (.int k a) = .returned (.int k c) := by rw [h]
theorem retb {a c : Bool} (h : a = c) : Ending.returned (.bool a) = .returned (.bool c) := by rw [h]
theorem ret2 {k l : IntKind} {a b c d : Int} (h : a = c) (h' : b = d) : Ending.returned (.tuple #[.int k a, .int l b]) = .returned (.tuple #[.int k c, .int l d]) := by rw [h, h']
theorem retib {k : IntKind} {a c : Int} {b d : Bool} (h : a = c) (h' : b = d) : Ending.returned (.tuple #[.int k a, .bool b]) = .returned (.tuple #[.int k c, .bool d]) := by rw [h, h']
theorem and1 (x : Bool) : x = false ∨ x = true := by cases x <;> simp
theorem and2 (x y : Bool) : x = false ∨ (x = true ∧ y = false) ∨ (x = true ∧ y = true) := by cases x <;> cases y <;> simp
theorem and3 (x y z : Bool) : x = false ∨ (x = true ∧ y = false) ∨ (x = true ∧ y = true ∧ z = false) ∨ (x = true ∧ y = true ∧ z = true) := by cases x <;> cases y <;> cases z <;> simp
theorem mul_bd {x y p q : Int} (h0 : 0 ≤ x) (h1 : x ≤ p) (h2 : 0 ≤ y) (h3 : y ≤ q) : 0 ≤ x * y ∧ x * y ≤ p * q :=
  ⟨Int.mul_nonneg h0 h2, Int.mul_le_mul h1 h3 h2 (by omega)⟩
def rng (n lo hi : Int) : Bool := decide (lo ≤ n ∧ n ≤ hi)
theorem rng_yes {n lo hi : Int} (h : rng n lo hi = true) : lo ≤ n ∧ n ≤ hi := by simpa [rng] using h
theorem rng_no {n lo hi : Int} (h : rng n lo hi = false) : ¬ (lo ≤ n ∧ n ≤ hi) := by simpa [rng] using h
theorem rng_mk {n lo hi : Int} (h : lo ≤ n) (h' : n ≤ hi) : rng n lo hi = true := by simp [rng, h, h']

end Go.Proofs.Ytpeabgfolpgfjaa

/-
  The table of the ways of being out (layer 10).
-/
import Derived.Test.YtpeabgfolpgfjaaNotP
namespace Go.Proofs.Ytpeabgfolpgfjaa
open Go.RowKit
set_option linter.unusedSimpArgs false
def nmT (k : Nat) : ByteArray := ([⟨#[78, 79, 84, 79, 85, 84]⟩, ⟨#[66, 79, 87, 76, 69, 68]⟩, ⟨#[67, 65, 85, 71, 72, 84]⟩, ⟨#[76, 66, 87]⟩, ⟨#[83, 84, 85, 77, 80, 69, 68]⟩, ⟨#[72, 73, 84, 87, 73, 67, 75, 69, 84]⟩, ⟨#[82, 85, 78, 79, 85, 84]⟩, ⟨#[72, 73, 84, 84, 87, 73, 67, 69]⟩, ⟨#[79, 66, 83, 84, 82, 85, 67, 84, 73, 78, 71]⟩, ⟨#[84, 73, 77, 69, 68, 79, 85, 84]⟩, ⟨#[82, 69, 84, 73, 82, 69, 68]⟩] : List ByteArray).getD k ⟨#[]⟩
def frT (k : Nat) : Bool := ([false, true, true, true, true, true, true, true, true, false, false] : List Bool).getD k false
def wdT (k : Nat) : Bool := ([false, false, false, false, true, true, true, false, true, false, false] : List Bool).getD k false
def noT (k : Nat) : Bool := ([false, false, false, false, false, false, true, true, true, false, false] : List Bool).getD k false
def flT (k : Nat) : Bool := ([false, false, true, false, true, false, true, false, false, false, false] : List Bool).getD k false
def eiT (k : Nat) : Bool := ([false, false, false, false, false, false, true, false, true, false, false] : List Bool).getD k false

/-- The table in block b: eleven rows of seven cells. -/
def TbAt (w : World) (b : Nat) : Prop := ∀ k : Nat, k < 11 → w.cell? ⟨b, k * 7, none⟩ = some (.int .u8 (k : Nat)) ∧ w.cell? ⟨b, k * 7 + 1, none⟩ = some (.string (nmT k)) ∧ w.cell? ⟨b, k * 7 + 2, none⟩ = some (.bool (frT k)) ∧ w.cell? ⟨b, k * 7 + 3, none⟩ = some (.bool (wdT k)) ∧ w.cell? ⟨b, k * 7 + 4, none⟩ = some (.bool (noT k)) ∧ w.cell? ⟨b, k * 7 + 5, none⟩ = some (.bool (flT k)) ∧ w.cell? ⟨b, k * 7 + 6, none⟩ = some (.bool (eiT k))
theorem TbAt.ext {w w' : World} {b : Nat} (h : TbAt w b) (e : Ext w w') : TbAt w' b := fun k hk => by
  obtain ⟨c0, c1, c2, c3, c4, c5, c6⟩ := h k hk
  exact ⟨e.keep c0, e.keep c1, e.keep c2, e.keep c3, e.keep c4, e.keep c5, e.keep c6⟩
set_option maxRecDepth 20000 in
set_option maxHeartbeats 4000000 in
theorem table_any (w : World) : Calls Try.prog 98 #[] w fun e w' => e = .returned (.slice (some ⟨w.heap.size, 0, none⟩) 11 11) ∧ TbAt w' w.heap.size ∧ Ext w w' := by
  go_enter Try.func98, Try.ntmps98
  go_wp2
  go_ret
  refine ⟨rfl, fun k hk => ?_, (by repeat (first | exact Ext.refl _ | refine Ext.setCell ?_ (by first | exact Nat.le_refl _ | (simp; done) | (simp; omega)) _ | refine Ext.drew ?_ | refine Ext.drewN ?_ _ | refine Ext.alloc ?_ _))⟩
  match k, hk with
  | 0, _ => refine ⟨?_, ?_, ?_, ?_, ?_, ?_, ?_⟩ <;> simp [go_sem, nmT, frT, wdT, noT, flT, eiT]
  | 1, _ => refine ⟨?_, ?_, ?_, ?_, ?_, ?_, ?_⟩ <;> simp [go_sem, nmT, frT, wdT, noT, flT, eiT]
  | 2, _ => refine ⟨?_, ?_, ?_, ?_, ?_, ?_, ?_⟩ <;> simp [go_sem, nmT, frT, wdT, noT, flT, eiT]
  | 3, _ => refine ⟨?_, ?_, ?_, ?_, ?_, ?_, ?_⟩ <;> simp [go_sem, nmT, frT, wdT, noT, flT, eiT]
  | 4, _ => refine ⟨?_, ?_, ?_, ?_, ?_, ?_, ?_⟩ <;> simp [go_sem, nmT, frT, wdT, noT, flT, eiT]
  | 5, _ => refine ⟨?_, ?_, ?_, ?_, ?_, ?_, ?_⟩ <;> simp [go_sem, nmT, frT, wdT, noT, flT, eiT]
  | 6, _ => refine ⟨?_, ?_, ?_, ?_, ?_, ?_, ?_⟩ <;> simp [go_sem, nmT, frT, wdT, noT, flT, eiT]
  | 7, _ => refine ⟨?_, ?_, ?_, ?_, ?_, ?_, ?_⟩ <;> simp [go_sem, nmT, frT, wdT, noT, flT, eiT]
  | 8, _ => refine ⟨?_, ?_, ?_, ?_, ?_, ?_, ?_⟩ <;> simp [go_sem, nmT, frT, wdT, noT, flT, eiT]
  | 9, _ => refine ⟨?_, ?_, ?_, ?_, ?_, ?_, ?_⟩ <;> simp [go_sem, nmT, frT, wdT, noT, flT, eiT]
  | 10, _ => refine ⟨?_, ?_, ?_, ?_, ?_, ?_, ?_⟩ <;> simp [go_sem, nmT, frT, wdT, noT, flT, eiT]

def onB (k : Nat) (t : Int) : Bool := (t == 1 && frT k) || (t == 2 && wdT k) || (t == 3 && noT k)
theorem on_any (h : Int) (nm : ByteArray) (b2 b3 b4 b5 b6 : Bool) (t : Int) (w : World) : Calls Try.prog 100 #[.agg #[.int .u8 h, .string nm, .bool b2, .bool b3, .bool b4, .bool b5, .bool b6], .int .u8 t] w fun e w' =>
    e = .returned (.bool ((t == 1 && b2) || (t == 2 && b3) || (t == 3 && b4))) ∧ Ext w w' := by
  obtain ⟨V, hV⟩ : ∃ V, ((t == 1 && b2) || (t == 2 && b3) || (t == 3 && b4)) = V := ⟨_, rfl⟩
  have HV := Lib.hid hV
  rw [hV]
  clear hV
  by_cases t1 : t = 1
  · subst t1
    go_enter Try.func100, Try.ntmps100
    go_wp2
    all_goals
      refine bodyPost_ret (v := .bool V) ?_ rfl ⟨rfl, (by repeat (first | exact Ext.refl _ | refine Ext.setCell ?_ (by first | exact Nat.le_refl _ | (simp; done) | (simp; omega)) _ | refine Ext.drew ?_ | refine Ext.drewN ?_ _ | refine Ext.alloc ?_ _))⟩
      rw [← HV.out]
      simp [results, Try.results100, go_sem, *]
  by_cases t2 : t = 2
  · subst t2
    go_enter Try.func100, Try.ntmps100
    go_wp2
    all_goals
      refine bodyPost_ret (v := .bool V) ?_ rfl ⟨rfl, (by repeat (first | exact Ext.refl _ | refine Ext.setCell ?_ (by first | exact Nat.le_refl _ | (simp; done) | (simp; omega)) _ | refine Ext.drew ?_ | refine Ext.drewN ?_ _ | refine Ext.alloc ?_ _))⟩
      rw [← HV.out]
      simp [results, Try.results100, go_sem, *]
  by_cases t3 : t = 3
  · subst t3
    go_enter Try.func100, Try.ntmps100
    go_wp2
    all_goals
      refine bodyPost_ret (v := .bool V) ?_ rfl ⟨rfl, (by repeat (first | exact Ext.refl _ | refine Ext.setCell ?_ (by first | exact Nat.le_refl _ | (simp; done) | (simp; omega)) _ | refine Ext.drew ?_ | refine Ext.drewN ?_ _ | refine Ext.alloc ?_ _))⟩
      rw [← HV.out]
      simp [results, Try.results100, go_sem, *]
  · have u1 : (t == 1) = false := by simpa using t1
    have u2 : (t == 2) = false := by simpa using t2
    have u3 : (t == 3) = false := by simpa using t3
    go_enter Try.func100, Try.ntmps100
    go_wp2
    all_goals
      refine bodyPost_ret (v := .bool V) ?_ rfl ⟨rfl, (by repeat (first | exact Ext.refl _ | refine Ext.setCell ?_ (by first | exact Nat.le_refl _ | (simp; done) | (simp; omega)) _ | refine Ext.drew ?_ | refine Ext.drewN ?_ _ | refine Ext.alloc ?_ _))⟩
      rw [← HV.out]
      simp [results, Try.results100, go_sem, *]

end Go.Proofs.Ytpeabgfolpgfjaa

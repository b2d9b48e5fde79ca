/-
  Mirror and Shift of layer 31 (program and reference).
-/
import Derived.Test.YtaeblcgblmipaaaDoorCamE
import Derived.Test.YtaeblcgblmipaaaDoorCamP
import Derived.Laws.OwnMore
namespace Go.Proofs.YtaeblcgblmipaaaDoor
open Go.RowKit
set_option linter.unusedSimpArgs false

/-- A copy of a list: append to nothing. -/
theorem copy_seen {ops : Array Oper} {rest : List Oper} {o : Oper} {a : Act} {Q : Exit → Act → World → Prop} (w : World) (hgd : o.guard = none) (s x : Operand)
    (ho : o.op = .call { callee := .builtin .append, args := #[s, x], argTypes := #[22, 22] }) (base : Nat) (hs : a.eval s = .slice none 0 0)
    (A0 : Option Addr) (n C : Nat) (f : Nat → Nat → Int) (b off : Nat) (T : SeenAt w A0 n f b off) (hC : n ≤ C) (hA0 : A0 = none → C = 0) (hx : a.eval x = .slice A0 n C) (hn : n ≤ 200) (hbase : base ≤ w.heap.size)
    (h : ∀ A1 C1 w', w'.ownsRow base 33 5 (.slice A1 n C1) n (seenL n f) → Ext w w' → (0 < n → ∃ g, A1 = some ⟨g, 0, none⟩ ∧ base ≤ g ∧ g < w'.heap.size) → wpList Tryd.prog ops Q rest (a.put o.dst (.slice A1 n C1)) w') : wpList Tryd.prog ops Q (o :: rest) a w := by
  cases A0 with
  | none =>
    obtain rfl : C = 0 := hA0 rfl
    obtain rfl : n = 0 := by omega
    exact append_seen_none hgd s x ho base _ 0 [] hs (World.ownsRow_nil _ _ _ _) hx (h none 0 w (World.ownsRow_nil _ _ _ _) (Ext.refl _) (fun h => absurd h (by omega)))
  | some ad =>
    refine append_seen w hgd s x ho base _ 0 [] hs (World.ownsRow_nil _ _ _ _) ad n C (seenL n f) hx (seenL_len _ _) ?_ (seenL_one _ _) (by unfold maxLen; omega) (by omega) hbase ?_
    · intro j u hj
      have hj' : j < n * 5 := by
        rcases Nat.lt_or_ge j (n * 5) with h' | h'
        · exact h'
        · rw [List.getElem?_eq_none (by rw [seenL_len]; exact h')] at hj; cases hj
      obtain ⟨ha, _⟩ := T.top (by omega)
      cases ha
      have := T.from (Nat.zero_le n) j u (by simpa using hj)
      simpa using this
    · intro v' w' hown hgrow _
      simp only [List.nil_append, Nat.zero_add] at hown
      rcases hown.2 with ⟨rfl, h0⟩ | ⟨g, cap, cur, rfl, hb, hg, _⟩
      · obtain rfl : n = 0 := by omega
        exact h none 0 w' hown (ext_grown (Ext.refl _) hgrow (fun k hk => by cases hk)) (fun h => by omega)
      · exact h _ _ w' hown (ext_grown (Ext.refl _) hgrow (fun k hk => by cases hk)) (fun _ => ⟨g, rfl, hb, (Array.getElem?_eq_some_iff.1 hg).1⟩)
theorem own_at {w : World} {base g n cap : Nat} {F : Nat → Nat → Int} (h : w.ownsRow base 33 5 (.slice (some ⟨g, 0, none⟩) n cap) n (seenL n F)) {i j : Nat} (hi : i < n) (hj : j < 5) : w.cell? ⟨g, i * 5 + j, none⟩ = some (.int .i64 (F i j)) ∧ w.frozen? ⟨g, i * 5 + j, none⟩ = false := by
  rw [h.cellAt _ (by omega), seenL_ij F hi hj]
  exact ⟨rfl, h.frozenAt _⟩
theorem own_put {w : World} {base g n cap : Nat} {F : Nat → Nat → Int} (h : w.ownsRow base 33 5 (.slice (some ⟨g, 0, none⟩) n cap) n (seenL n F)) {i j : Nat} (hi : i < n) (hj : j < 5) (u : Int) :
    (w.setCell ⟨g, i * 5 + j, none⟩ (.int .i64 u)).ownsRow base 33 5 (.slice (some ⟨g, 0, none⟩) n cap) n (seenL n (updS F i j u)) := by
  rw [← seenL_set F u hi hj]
  exact (h.stored _ _).1
def MirOK (w : World) (n : Nat) (F : Nat → Nat → Int) (e : Ending) (w' : World) : Prop := ∃ v g, e = .returned v ∧ Ext w w' ∧ SeenV w' v n F g 0

set_option maxHeartbeats 16000000 in
theorem mirror_any (A0 : Option Addr) (n C : Nat) (f : Nat → Nat → Int) (b off : Nat) (w : World) (T : SeenAt w A0 n f b off) (hC : n ≤ C) (hA0 : A0 = none → C = 0) (hn : n ≤ 200) :
    Calls Tryd.prog 20 #[.slice A0 n C] w (MirOK w n (miF f)) := by
  have HWF : Hid (SWf n f) := T.wf
  have HC := Lib.hid hC
  have HA0 := Lib.hid hA0
  clear hC hA0
  go_enter Tryd.func20, Tryd.ntmps20
  go_wp2_with (at_builtin; refine copy_seen _ rfl _ _ rfl w.heap.size rfl _ _ _ _ _ _ T HC.out HA0.out rfl hn (Nat.le_refl _) ?_)
  intro A1 C1 w1 hown hE1 hA1
  go_wp2
  go_loopw [9] (fun i wr => ∃ k : Nat, k ≤ n ∧ i = .int .i64 k ∧ wr.ownsRow w.heap.size 33 5 (.slice A1 n C1) n (seenL n (miTo f k)) ∧ Ext w wr ∧ w1.heap.size ≤ wr.heap.size) (fun i _ => n - (intOf i).toNat)
  case atStart => exact ⟨0, by omega, rfl, by rw [miTo_zero]; exact hown, hE1, Nat.le_refl _⟩
  case round =>
    obtain ⟨k, hk, rfl, hown2, hE, hsz⟩ := hrel
    by_cases hlt : k < n
    · obtain ⟨g, rfl, hg1, hg2⟩ := hA1 (by omega)
      have HO := Lib.hid hown2
      clear hown2 hown
      obtain ⟨hc, hf⟩ := own_at HO.out (i := k) (j := 2) hlt (by decide)
      rw [show miTo f k k 2 = f k 2 by simp [miTo]] at hc
      have hgr : g < wr.heap.size := by omega
      go_wp2
      go_roundw
      case rel =>
        refine ⟨k + 1, by omega, by go_num, ?_, Ext.setCell hE hg1 _, by simpa using hsz⟩
        have := own_put HO.out (i := k) (j := 2) hlt (by decide) (ngw (f k 2))
        rw [miTo_step] at this
        exact this
      case measure => simp [intOf]; omega
    · obtain rfl : k = n := by omega
      rw [seenL_congr (miTo_all f)] at hown2
      obtain ⟨g, hg⟩ := seenV_own hown2 (by omega) (mi_swf HWF.out)
      go_wp2
      go_ret
      exact ⟨_, g, rfl, hE, hg⟩

set_option maxHeartbeats 16000000 in
theorem rmirror_any (A0 : Option Addr) (n C : Nat) (f : Nat → Nat → Int) (b off : Nat) (w : World) (T : SeenAt w A0 n f b off) (hn : n ≤ 200) :
    Calls Tryd.prog 21 #[.slice A0 n C] w (MirOK w n (miF f)) := by
  have HWF : Hid (SWf n f) := T.wf
  go_enter Tryd.func21, Tryd.ntmps21
  go_wp2
  go_loopw [3, 8] (fun v i wr => ∃ k : Nat, k ≤ n ∧ i = .int .i64 k ∧ wr.ownsRow w.heap.size 33 5 v k (seenL k (miF f)) ∧ Ext w wr) (fun _ i _ => n - (intOf i).toNat)
  case atStart => exact ⟨0, by omega, rfl, World.ownsRow_nil _ _ _ _, Ext.refl _⟩
  case round =>
    obtain ⟨k, hk, rfl, hown, hE⟩ := hrel
    by_cases hlt : k < n
    · obtain ⟨rfl, hbl⟩ := T.top (by omega)
      have T2 := T.ext hE
      have c0 := T2.cell k 0 hlt (by omega)
      simp only [Nat.add_zero] at c0
      have c1 := T2.cell k 1 hlt (by omega)
      have c2 := T2.cell k 2 hlt (by omega)
      have c3 := T2.cell k 3 hlt (by omega)
      have c4 := T2.cell k 4 hlt (by omega)
      clear T2
      have HO := Lib.hid hown
      clear hown
      go_wp2_with (at_builtin; refine append_seen _ rfl _ _ rfl w.heap.size _ _ _ rfl (own_ext HO.out (by repeat (first | exact Ext.refl _ | refine Ext.setCell ?_ (by first | exact Nat.le_refl _ | (simp; done) | (simp; omega)) _ | refine Ext.drew ?_ | refine Ext.drewN ?_ _ | refine Ext.alloc ?_ _))) ⟨wr.heap.size + 1, 0, none⟩ 1 _ [.int .i64 (miF f k 0), .int .i64 (miF f k 1), .int .i64 (miF f k 2), .int .i64 (miF f k 3), .int .i64 (miF f k 4)] (by first | rfl | simp [go_sem]) rfl ?c1 ?c2 ?c3 ?c4 ?c5 ?_)
      case c1 => intro j u hj; have := cells_new5 (wr.alloc (.cells #[.int .i64 (f k 0), .int .i64 (f k 1), .int .i64 (ngw (f k 2)), .int .i64 (f k 3), .int .i64 (f k 4)] 33)) 33 _ _ _ _ _ j u hj; simp only [World.alloc, Array.size_push] at this ⊢; exact this
      case c2 => intro u hu; simp at hu; rcases hu with rfl | rfl | rfl | rfl | rfl <;> rfl
      case c3 => unfold maxLen; omega
      case c4 => omega
      case c5 => have := hE.size; simp; omega
      intro v' w2 hown' hgrow _
      rw [seenL_snoc] at hown'
      go_wp2
      go_roundw
      case rel => exact ⟨k + 1, by omega, by go_num, hown', ext_grown (((hE.alloc _)).alloc _) hgrow (own_row_ge HO.out)⟩
      case measure => simp [intOf]; omega
    · obtain rfl : k = n := by omega
      obtain ⟨g, hg⟩ := seenV_own hown (by omega) (mi_swf HWF.out)
      go_wp2
      go_ret
      exact ⟨_, g, rfl, hE, hg⟩

end Go.Proofs.YtaeblcgblmipaaaDoor

/-
  Lists of one-cell values in memory, and slices.Clone at the three kinds of lists of an innings.
-/
import Derived.Test.YtpeabgfolpgfjaaMem
import Derived.Lib.Walk
import Derived.Lib.SliceRun
namespace Go.Proofs.Ytpeabgfolpgfjaa
open Go.RowKit Go.Lib
set_option linter.unusedSimpArgs false

/-- The list that a slice's value stands for: nil for none. -/
def ListAt (w : World) (v : Value) (xs : List Value) : Prop :=
  (v = .slice none 0 0 ∧ xs = []) ∨ (∃ g o c, v = .slice (some ⟨g, o, none⟩) xs.length c ∧ g < w.heap.size ∧ ∀ j u, xs[j]? = some u → w.cell? ⟨g, o + j, none⟩ = some u)
theorem ListAt.ext {w w' : World} {v : Value} {xs : List Value} (h : ListAt w v xs) (x : Ext w w') : ListAt w' v xs := by
  rcases h with h | ⟨g, o, c, h1, h2, h3⟩
  · exact .inl h
  · exact .inr ⟨g, o, c, h1, x.lt h2, fun j u hu => x.keep (h3 j u hu)⟩
theorem own_list {w : World} {base : Nat} {e : TypeId} {v : Value} {xs : List Value} (h : w.ownsRow base e 1 v xs.length xs) : ListAt w v xs := by
  by_cases hz : 0 < xs.length
  · obtain ⟨g, c, rfl, _, hg⟩ := own_form h hz
    exact .inr ⟨g, 0, c, rfl, hg, fun j u hu => by rw [Nat.zero_add]; exact own_cell h hu⟩
  · have hxs : xs = [] := List.eq_nil_of_length_eq_zero (by omega)
    subst hxs
    rcases h.2 with ⟨rfl, _⟩ | ⟨g, cap, cur, rfl, _, hg, _⟩
    · exact .inl ⟨rfl, rfl⟩
    · exact .inr ⟨g, 0, cap, rfl, (Array.getElem?_eq_some_iff.1 hg).1, fun j u hu => by simp at hu⟩
theorem list_form {w : World} {v : Value} {xs : List Value} (h : ListAt w v xs) (hn : 0 < xs.length) : ∃ g o c, v = .slice (some ⟨g, o, none⟩) xs.length c ∧ g < w.heap.size ∧ ∀ j u, xs[j]? = some u → w.cell? ⟨g, o + j, none⟩ = some u := by
  rcases h with ⟨_, rfl⟩ | h
  · simp at hn
  · exact h
theorem list_sl {w : World} {v : Value} {xs : List Value} (h : ListAt w v xs) : ∃ A c, v = .slice A xs.length c := by
  rcases h with ⟨rfl, rfl⟩ | ⟨g, o, c, rfl, _⟩
  · exact ⟨_, _, rfl⟩
  · exact ⟨_, _, rfl⟩

theorem info_st : (Try.prog.info? 92).map (fun i => (i.zero, i.size, i.bytes)) = some (some (.int .u8 0), 1, 1) := by kernel_rfl
set_option maxHeartbeats 2000000 in
theorem sclone_st (w : World) (v : Value) (xs : List Value) (h : ListAt w v xs) (hn : xs.length ≤ 1000) (h1 : ∀ u ∈ xs, u.oneCell' = true) :
    Calls Try.prog 30 #[v] w fun e w' => ∃ v', e = .returned v' ∧ w'.ownsRow w.heap.size 92 1 v' xs.length xs ∧ Ext w w' ∧ (v = .slice none 0 0 → v' = .slice none 0 0) := by
  have q22 : ∀ (w : World) (a : Option Addr) (n c n' c' : Nat), (binOp .eql 28 (.slice a n c) (.slice none n' c')).run Try.prog w = .ok (.bool a.isNone) w := fun w a n c n' c' => Lib.run_eql_slice_nil w _ _ a n c n' c' Try.underlying28
  rcases h with ⟨rfl, rfl⟩ | ⟨g, o, c, rfl, hl, hc⟩
  · go_enter Try.func30, Try.ntmps30
    go_wp2
    go_ret
    exact ⟨_, rfl, World.ownsRow_nil _ _ _ _, Ext.refl _, fun _ => rfl⟩
  · obtain ⟨i0, hi, hz0, hz1, hz2⟩ := info_parts info_st
    have HC := Lib.hid hc
    clear hc
    go_enter Try.func30, Try.ntmps30
    go_wp2_with (at_builtin; refine wpList_append_own _ rfl _ _ 28 rfl w.heap.size 92 i0 (.int .u8 0) 1 1 Try.underlying28 hi hz0 hz1 hz2 rfl (by decide) _ _ _ rfl (World.ownsRow_made w #[] 0 (Nat.le_refl _) (Nat.zero_le _) rfl) ⟨g, o, none⟩ xs.length c xs rfl ?qc1 ?qc2 ?qc3 ?qc4 ?qc5 ?qc6 ?_)
    case qc1 => simp
    case qc2 =>
      intro j u hj
      rw [Addr.add_lit]
      exact Lib.cell?_alloc_some _ (HC.out j u hj)
    case qc3 => exact h1
    case qc4 => unfold maxLen; omega
    case qc5 => omega
    case qc6 => simp
    intro v' w1 hown hgrow hnil
    go_wp2
    go_ret
    exact ⟨v', rfl, by simpa using hown, ((Below.refl _ w).alloc (Nat.le_refl _) _).grown hgrow (by simp) (by intro k hk; simp [Value.ownBlock] at hk; omega), fun h => by simp at h⟩

theorem info_int : (Try.prog.info? 3).map (fun i => (i.zero, i.size, i.bytes)) = some (some (.int .i64 0), 1, 8) := by kernel_rfl
set_option maxHeartbeats 2000000 in
theorem sclone_int (w : World) (v : Value) (xs : List Value) (h : ListAt w v xs) (hn : xs.length ≤ 1000) (h1 : ∀ u ∈ xs, u.oneCell' = true) :
    Calls Try.prog 31 #[v] w fun e w' => ∃ v', e = .returned v' ∧ w'.ownsRow w.heap.size 3 1 v' xs.length xs ∧ Ext w w' ∧ (v = .slice none 0 0 → v' = .slice none 0 0) := by
  have q22 : ∀ (w : World) (a : Option Addr) (n c n' c' : Nat), (binOp .eql 29 (.slice a n c) (.slice none n' c')).run Try.prog w = .ok (.bool a.isNone) w := fun w a n c n' c' => Lib.run_eql_slice_nil w _ _ a n c n' c' Try.underlying29
  rcases h with ⟨rfl, rfl⟩ | ⟨g, o, c, rfl, hl, hc⟩
  · go_enter Try.func31, Try.ntmps31
    go_wp2
    go_ret
    exact ⟨_, rfl, World.ownsRow_nil _ _ _ _, Ext.refl _, fun _ => rfl⟩
  · obtain ⟨i0, hi, hz0, hz1, hz2⟩ := info_parts info_int
    have HC := Lib.hid hc
    clear hc
    go_enter Try.func31, Try.ntmps31
    go_wp2_with (at_builtin; refine wpList_append_own _ rfl _ _ 29 rfl w.heap.size 3 i0 (.int .i64 0) 1 8 Try.underlying29 hi hz0 hz1 hz2 rfl (by decide) _ _ _ rfl (World.ownsRow_made w #[] 0 (Nat.le_refl _) (Nat.zero_le _) rfl) ⟨g, o, none⟩ xs.length c xs rfl ?qc1 ?qc2 ?qc3 ?qc4 ?qc5 ?qc6 ?_)
    case qc1 => simp
    case qc2 =>
      intro j u hj
      rw [Addr.add_lit]
      exact Lib.cell?_alloc_some _ (HC.out j u hj)
    case qc3 => exact h1
    case qc4 => unfold maxLen; omega
    case qc5 => omega
    case qc6 => simp
    intro v' w1 hown hgrow hnil
    go_wp2
    go_ret
    exact ⟨v', rfl, by simpa using hown, ((Below.refl _ w).alloc (Nat.le_refl _) _).grown hgrow (by simp) (by intro k hk; simp [Value.ownBlock] at hk; omega), fun h => by simp at h⟩

theorem info_bool : (Try.prog.info? 4).map (fun i => (i.zero, i.size, i.bytes)) = some (some (.bool false), 1, 1) := by kernel_rfl
set_option maxHeartbeats 2000000 in
theorem sclone_bool (w : World) (v : Value) (xs : List Value) (h : ListAt w v xs) (hn : xs.length ≤ 1000) (h1 : ∀ u ∈ xs, u.oneCell' = true) :
    Calls Try.prog 32 #[v] w fun e w' => ∃ v', e = .returned v' ∧ w'.ownsRow w.heap.size 4 1 v' xs.length xs ∧ Ext w w' ∧ (v = .slice none 0 0 → v' = .slice none 0 0) := by
  have q22 : ∀ (w : World) (a : Option Addr) (n c n' c' : Nat), (binOp .eql 30 (.slice a n c) (.slice none n' c')).run Try.prog w = .ok (.bool a.isNone) w := fun w a n c n' c' => Lib.run_eql_slice_nil w _ _ a n c n' c' Try.underlying30
  rcases h with ⟨rfl, rfl⟩ | ⟨g, o, c, rfl, hl, hc⟩
  · go_enter Try.func32, Try.ntmps32
    go_wp2
    go_ret
    exact ⟨_, rfl, World.ownsRow_nil _ _ _ _, Ext.refl _, fun _ => rfl⟩
  · obtain ⟨i0, hi, hz0, hz1, hz2⟩ := info_parts info_bool
    have HC := Lib.hid hc
    clear hc
    go_enter Try.func32, Try.ntmps32
    go_wp2_with (at_builtin; refine wpList_append_own _ rfl _ _ 30 rfl w.heap.size 4 i0 (.bool false) 1 1 Try.underlying30 hi hz0 hz1 hz2 rfl (by decide) _ _ _ rfl (World.ownsRow_made w #[] 0 (Nat.le_refl _) (Nat.zero_le _) rfl) ⟨g, o, none⟩ xs.length c xs rfl ?qc1 ?qc2 ?qc3 ?qc4 ?qc5 ?qc6 ?_)
    case qc1 => simp
    case qc2 =>
      intro j u hj
      rw [Addr.add_lit]
      exact Lib.cell?_alloc_some _ (HC.out j u hj)
    case qc3 => exact h1
    case qc4 => unfold maxLen; omega
    case qc5 => omega
    case qc6 => simp
    intro v' w1 hown hgrow hnil
    go_wp2
    go_ret
    exact ⟨v', rfl, by simpa using hown, ((Below.refl _ w).alloc (Nat.le_refl _) _).grown hgrow (by simp) (by intro k hk; simp [Value.ownBlock] at hk; omega), fun h => by simp at h⟩

end Go.Proofs.Ytpeabgfolpgfjaa

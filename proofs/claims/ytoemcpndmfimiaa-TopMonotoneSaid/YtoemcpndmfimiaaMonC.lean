/-
  clone of package fit: rows of the call's own that hold the same numbers.
-/
import Derived.Test.YtoemcpndmfimiaaMonB
import Derived.Test.YtoemcpndmfimiaaResF
namespace Go.Proofs.Ytoemcpndmfimiaa
open Go.RowKit
set_option linter.unusedSimpArgs false

/-- Rows in the making: u of them are done, each in a block of its own. -/
structure CloInv (w wr : World) (m : Nat) (vt : Value) (u : Nat) (rs : List (Nat × Nat)) (f : Nat → Nat → Int) : Prop where
  ext : Ext w wr
  len : rs.length = u
  own : wr.ownsRow w.heap.size 27 1 vt u (rs.map (hdr m))
  rows : ∀ i x, rs[i]? = some x → wr.ownsRow w.heap.size 2 1 (hdr m x) m (rowV m (f i))
  inj : ∀ (i j : Nat) (x y : Nat × Nat), rs[i]? = some x → rs[j]? = some y → x.1 = y.1 → i = j
section
variable {w wr w1 w2 : World} {m u : Nat} {vt v' : Value} {rs : List (Nat × Nat)} {f : Nat → Nat → Int}
theorem own_lt {w : World} {base : Nat} {e : TypeId} {k : Nat} {x : Nat × Nat} {n : Nat} {xs : List Value} (h : w.ownsRow base e 1 (hdr k x) n xs) : x.1 < w.heap.size :=
  (h.lt x.1 rfl).2
theorem CloInv.done (h : CloInv w wr m vt u rs f) (x1 : Ext wr w1) {g c : Nat} (hg : wr.heap.size ≤ g) (hrow : w1.ownsRow wr.heap.size 2 1 (hdr m (g, c)) m (rowV m (f u)))
    (hgr : w1.grownBy w2 vt.ownBlock) (hown : w2.ownsRow w.heap.size 27 1 v' (u + 1) (rs.map (hdr m) ++ [hdr m (g, c)])) : CloInv w w2 m v' (u + 1) (rs ++ [(g, c)]) f := by
  have hvt := own_ext h.own x1
  have hsz := h.ext.size
  refine ⟨ext_grown (h.ext.trans x1) hgr (own_row_ge h.own), by simp [h.len], ?_, fun i x hx => ?_, fun i j x y hx hy e => ?_⟩
  · simpa using hown
  · rcases Nat.lt_or_ge i u with hi | hi
    · rw [List.getElem?_append_left (by rw [h.len]; exact hi)] at hx
      have hr := own_ext (h.rows i x hx) x1
      exact hr.kept hgr (own_ne hr hvt (by decide))
    · have hi2 : i = u := by
        have := (List.getElem?_eq_some_iff.1 hx).1
        simp [h.len] at this; omega
      subst hi2
      rw [List.getElem?_append_right (by rw [h.len]; omega), h.len] at hx
      simp at hx
      subst hx
      have hr := own_base hrow hsz
      exact hr.kept hgr (own_ne hr hvt (by decide))
  · have hl : ∀ k z, (rs ++ [(g, c)])[k]? = some z → (k < u ∧ rs[k]? = some z ∧ z.1 < wr.heap.size) ∨ (k = u ∧ z.1 = g) := fun k z hz => by
      rcases Nat.lt_or_ge k u with hk | hk
      · rw [List.getElem?_append_left (by rw [h.len]; exact hk)] at hz
        exact .inl ⟨hk, hz, own_lt (h.rows k z hz)⟩
      · have hk2 : k = u := by
          have := (List.getElem?_eq_some_iff.1 hz).1
          simp [h.len] at this; omega
        subst hk2
        rw [List.getElem?_append_right (by rw [h.len]; omega), h.len] at hz
        simp at hz
        subst hz
        exact .inr ⟨rfl, rfl⟩
    rcases hl i x hx with ⟨h1, h2, h3⟩ | ⟨h1, h2⟩ <;> rcases hl j y hy with ⟨k1, k2, k3⟩ | ⟨k1, k2⟩
    · exact h.inj i j x y h2 k2 e
    · omega
    · omega
    · omega
theorem CloInv.grow (h : CloInv w wr m vt u rs f) (x : Ext wr w1) : CloInv w w1 m vt u rs f :=
  ⟨h.ext.trans x, h.len, own_ext h.own x, fun i y hy => own_ext (h.rows i y hy) x, h.inj⟩
theorem own_froz {w : World} {base : Nat} {e : TypeId} {g n cap : Nat} {xs : List Value} (h : w.ownsRow base e 1 (.slice (some ⟨g, 0, none⟩) n cap) n xs) (j : Nat) : w.frozen? ⟨g, j, none⟩ = false := by
  rcases h.2 with ⟨e0, _⟩ | ⟨g', cap', cur, e0, _, hg, _⟩
  · cases e0
  · injection e0 with e1 e2 e3
    injection e1 with e1
    injection e1 with e1
    subst e1
    simp [World.frozen?, hg]
theorem CloInv.at (h : CloInv w wr m vt u rs f) (hu : 0 < u) (hb : ∀ i j, i < u → j < m → 0 ≤ f i j ∧ f i j ≤ 10000) :
    ∃ g c, vt = .slice (some ⟨g, 0, none⟩) u c ∧ w.heap.size ≤ g ∧ RowsAt wr g u m (fun i => (rs.getD i (0, 0)).1) (fun i => (rs.getD i (0, 0)).2) f ∧ (∀ i, i < u → w.heap.size ≤ (rs.getD i (0, 0)).1) := by
  obtain ⟨g, c, rfl, hg, hgl⟩ := own_form h.own hu
  have hx : ∀ i, i < u → rs[i]? = some (rs.getD i (0, 0)) := fun i hi => by
    rw [List.getD_eq_getElem?_getD, List.getElem?_eq_getElem (by rw [h.len]; exact hi)]; rfl
  refine ⟨g, c, rfl, hg, ⟨fun i hi => ?_, fun i j hi hj => ?_, fun i j hi hj => own_froz (h.rows i _ (hx i hi)) j, fun i j hi hj e => h.inj i j _ _ (hx i hi) (hx j hj) e, fun i hi e => ?_, hb⟩, fun i hi => ?_⟩
  · have := own_cell h.own (j := i) (u := hdr m (rs.getD i (0, 0))) (by rw [List.getElem?_map, hx i hi]; rfl)
    simpa [hdr] using this
  · have := own_cell (h.rows i _ (hx i hi)) (j := j) (u := .int .i64 (f i j)) (by simp [rowV, hj])
    simpa using this
  · rcases own_ne (h.rows i _ (hx i hi)) h.own (by decide) with k | k
    · simp [hdr, Value.ownBlock] at k
    · exact k (by simp only [hdr, Value.ownBlock]; exact congrArg some e)
  · exact ((h.rows i _ (hx i hi)).lt _ rfl).1
end
theorem add_off (g o j : Nat) : (⟨g, o, none⟩ : Addr).add j = ⟨g, o + j, none⟩ := by unfold Addr.add; split <;> simp_all
def CloneP (w : World) (n m : Nat) (Z : Nat → Nat → Int) (e : Ending) (w' : World) : Prop :=
  ∃ (tb c : Nat) (G C : Nat → Nat), e = .returned (.slice (some ⟨tb, 0, none⟩) n c) ∧ Ext w w' ∧ RowsAt w' tb n m G C Z ∧ (∀ i, i < n → w.heap.size ≤ G i) ∧ w.heap.size ≤ tb

set_option maxHeartbeats 4000000 in
theorem clone_any (w : World) {A0 : Option Addr} {n m : Nat} {A : Nat → Option Addr} {L C : Nat → Nat} {Z : Nat → Nat → Int} {b off : Nat} {G O : Nat → Nat} (c0 : Nat) (T : TabAt w A0 n A L C Z b off G O) (hL : ∀ i, i < n → L i = m)
    (hb : ∀ i j, i < n → j < m → 0 ≤ Z i j ∧ Z i j ≤ 10000) (hn1 : 1 ≤ n) (hn : n ≤ 91) (hm1 : 1 ≤ m) (hm : m ≤ 10) : Calls Try.prog 15 #[.slice A0 n c0] w (CloneP w n m Z) := by
  obtain ⟨i0, hi, hz0, hz1, hz2⟩ := info_parts infoI
  obtain ⟨i1, hi1, hy0, hy1, hy2⟩ := info_parts infoR
  obtain ⟨rfl, hbl⟩ := T.top hn1
  go_enter Try.func15, Try.ntmps15
  go_wp2
  go_loopw [3, 5, 8] (fun vt _ i wr => ∃ (k : Nat) (rs : List (Nat × Nat)), k ≤ n ∧ i = .int .i64 k ∧ CloInv w wr m vt k rs Z) (fun _ _ i _ => n - (intOf i).toNat)
  case atStart => exact ⟨0, [], Nat.zero_le _, rfl, Ext.refl _, rfl, World.ownsRow_nil _ _ _ _, by simp, by simp⟩
  case round =>
    obtain ⟨k, rs, hk, rfl, hI⟩ := hrel
    have HI := Lib.hid hI
    have hEx := hI.ext
    have hown := hI.own
    have T1 := T.ext hI.ext
    clear hI
    by_cases hlt : k < n
    · have hr := T1.row k hlt
      obtain ⟨hA, hG⟩ := T1.got k hlt (by rw [hL k hlt]; omega)
      rw [hA, hL k hlt] at hr
      clear hA
      have hc : ∀ j, j < m → wr.cell? ⟨G k, O k + j, none⟩ = some (.int .i64 (Z k j)) := fun j hj => T1.cell k j hlt (by rw [hL k hlt]; exact hj)
      clear T1
      go_wp2_with (at_builtin; refine wpList_append_own _ rfl _ _ 27 rfl wr.heap.size 2 i0 (.int .i64 0) 1 8 Try.underlying27 hi hz0 hz1 hz2 rfl (by decide) _ _ _ rfl (World.ownsRow_nil _ _ _ _) ⟨G k, O k, none⟩ m (C k) (rowV m (Z k)) rfl ?c0 ?c1 ?c2 ?c3 ?c4 ?c5 ?_)
      case c0 => simp [rowV]
      case c1 =>
        intro j x hx
        have hj : j < m := by have := (List.getElem?_eq_some_iff.1 hx).1; simpa [rowV] using this
        rw [add_off, hc j hj]
        simpa [rowV, hj] using hx
      case c2 => intro x hx; simp [rowV] at hx; obtain ⟨j, _, rfl⟩ := hx; rfl
      case c3 => unfold maxLen; omega
      case c4 => omega
      case c5 => exact Nat.le_refl _
      intro v1 w1 hown1 hgrow1 _
      have hX1 : Ext wr w1 := ext_grown (Ext.refl _) hgrow1 (fun _ h => by cases h)
      obtain ⟨g, c, rfl, hg, hgl⟩ := own_form hown1 (by omega)
      clear hgrow1
      have hown2 := own_ext hown hX1
      go_wp2_with (at_builtin; refine wpList_append_own _ rfl _ _ 22 rfl w.heap.size 27 i1 (.slice none 0 0) 1 24 Try.underlying22 hi1 hy0 hy1 hy2 rfl (by decide) _ _ _ rfl (hown2.alloc _) ⟨w1.heap.size, 0, none⟩ 1 1 [.slice (some ⟨g, 0, none⟩) m c] rfl rfl ?d1 ?d2 ?d3 ?d4 ?d5 ?_)
      case d1 => exact cell_one_new _ _ _
      case d2 => intro x hx; simp at hx; subst hx; rfl
      case d3 => unfold maxLen; omega
      case d4 => omega
      case d5 => have := hEx.size; have := hX1.size; simp; omega
      intro v2 w2 hown3 hgrow2 _
      have hK := HI.out.done (hX1.alloc _) hg (own_ext hown1 ((Ext.refl _).alloc _)) hgrow2 hown3
      have HK := Lib.hid hK
      clear hK hown3 hgrow2 hown1 hown2
      go_wp2
      go_roundw
      case rel => exact ⟨k + 1, _, by omega, by go_num, HK.out⟩
      case measure => simp [intOf]; omega
    · obtain rfl : k = n := by omega
      obtain ⟨g, c, rfl, hg, hR, hN⟩ := HI.out.at hn1 hb
      have HR := Lib.hid hR
      clear hown hR T1
      go_wp2
      go_ret
      exact ⟨g, c, _, _, rfl, hEx, HR.out, hN, hg⟩

end Go.Proofs.Ytoemcpndmfimiaa

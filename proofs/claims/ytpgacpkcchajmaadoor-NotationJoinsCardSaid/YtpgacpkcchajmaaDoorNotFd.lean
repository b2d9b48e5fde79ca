/-
  Fields of the reference (layer 7): the words of a text in memory.
-/
import Derived.Test.YtpgacpkcchajmaaDoorNotK
import Derived.Test.YtpgacpkcchajmaaDoorNotWd
namespace Go.Proofs.YtpgacpkcchajmaaDoor
open Go.RowKit
set_option linter.unusedSimpArgs false

/-- What gives the words of a text: a list in memory. -/
def WsRet (s : List UInt8) (w : World) (e : Ending) (w' : World) : Prop := ∃ b c, e = .returned (.slice (some ⟨b, 0, none⟩) (wd s).length c) ∧ Ext w w' ∧ ∀ j l, (wd s)[j]? = some l → w'.cell? ⟨b, j, none⟩ = some (.string ⟨l.toArray⟩)
/-- The bytes from a to k. -/
def cu (s : List UInt8) (a k : Nat) : List UInt8 := (s.drop a).take (k - a)
theorem cu_at {s : List UInt8} {a k : Nat} (h : a ≤ k) (hk : k < s.length) : s.drop a = cu s a k ++ s.getD k 0 :: s.drop (k + 1) := by
  have h1 : s.drop a = cu s a k ++ (s.drop a).drop (k - a) := (List.take_append_drop _ _).symm
  have h2 : (s.drop a).drop (k - a) = s.drop k := by rw [List.drop_drop]; congr 1; omega
  have h3 : s.drop k = s.getD k 0 :: s.drop (k + 1) := by
    rw [List.drop_eq_getElem_cons hk]; simp [List.getD, hk]
  rw [h2, h3] at h1
  exact h1
theorem cu_end (s : List UInt8) (a : Nat) : cu s a s.length = s.drop a := List.take_of_length_le (by simp)
theorem cu_nb {s : List UInt8} {a k : Nat} (hk : k ≤ s.length) (h : ∀ j, a ≤ j → j < k → s.getD j 0 ≠ 32) : ∀ c ∈ cu s a k, c ≠ 32 := by
  intro c hc
  obtain ⟨i, hi, rfl⟩ := List.getElem_of_mem hc
  have hi' : i < k - a ∧ i < s.length - a := by simpa [cu, Nat.lt_min] using hi
  have := h (a + i) (by omega) (by omega)
  have e : (cu s a k)[i] = s.getD (a + i) 0 := by
    simp [cu, List.getD, List.getElem?_eq_getElem (show a + i < s.length by omega)]
  rw [e]; exact this
theorem cu_ext (s : List UInt8) (a k : Nat) : (⟨s.toArray⟩ : ByteArray).extract a k = ⟨(cu s a k).toArray⟩ := by
  apply ByteArray.ext; simp [cu]
def strM (D : List (List UInt8)) : List Value := D.map fun l => .string ⟨l.toArray⟩
theorem strM_snoc (D : List (List UInt8)) (l : List UInt8) : strM D ++ [.string ⟨l.toArray⟩] = strM (D ++ [l]) := by simp [strM]
theorem strM_at {D : List (List UInt8)} {j : Nat} {l : List UInt8} (h : D[j]? = some l) : (strM D)[j]? = some (.string ⟨l.toArray⟩) := by simp [strM, h]
theorem byteG (L : List UInt8) (k : Nat) (hk : k < L.length) (h : k < (⟨L.toArray⟩ : ByteArray).size) : (⟨L.toArray⟩ : ByteArray)[k]'h = L.getD k 0 := by
  simp [List.getD, hk]
  rfl
theorem fields_nil (w : World) : Calls Tryd.prog 38 #[.string ⟨#[]⟩] w fun e w' => e = .returned (.slice none 0 0) ∧ w' = w := by
  go_enter Tryd.func38, Tryd.ntmps38
  go_wp2
  go_ret
  exact ⟨rfl, rfl⟩

set_option maxHeartbeats 16000000 in
theorem fields_any (s : List UInt8) (hs : s ≠ []) (hl : s.length ≤ 1000) (w : World) : Calls Tryd.prog 38 #[.string ⟨s.toArray⟩] w (WsRet s w) := by
  have hie : s.isEmpty = false := by cases s with
    | nil => exact absurd rfl hs
    | cons x t => rfl
  clear hs
  go_enter Tryd.func38, Tryd.ntmps38
  go_wp2
  go_loopw [3, 4, 5] (fun v fr i wr => ∃ (D : List (List UInt8)) (a k : Nat), i = .int .i64 k ∧ fr = .int .i64 a ∧ D.length ≤ k ∧ a ≤ k ∧ wr.ownsRow w.heap.size 9 1 v D.length (strM D) ∧ Ext w wr ∧ ((k ≤ s.length ∧ wd s = D ++ wd (s.drop a) ∧ (∀ j, a ≤ j → j < k → s.getD j 0 ≠ 32)) ∨ (k = s.length + 1 ∧ wd s = D))) (fun _ _ i _ => s.length + 1 - (intOf i).toNat)
  case atStart => exact ⟨[], 0, 0, rfl, rfl, by simp, by omega, World.ownsRow_nil _ _ _ _, Ext.refl _, Or.inl ⟨by omega, rfl, fun j h1 h2 => by omega⟩⟩
  case round =>
    obtain ⟨D, a, k, rfl, rfl, hDk, hak, hown, hE, hcase⟩ := hrel
    have HO := Lib.hid hown
    rcases hcase with ⟨hk, hwd, hnb⟩ | ⟨rfl, hwd⟩
    · have hcx := cu_ext s a k
      by_cases hlt : k < s.length
      · have hx := byteG s k hlt
        have hat := cu_at hak hlt
        obtain ⟨c, hc⟩ : ∃ c, s.getD k 0 = c := ⟨_, rfl⟩
        rw [hc] at hx hat
        have hc256 : c.toNat < 256 := c.toNat_lt
        by_cases h32 : c = 32
        · have hcn := cu_nb hk hnb
          obtain ⟨U, hU⟩ : ∃ U, cu s a k = U := ⟨_, rfl⟩
          rw [hU] at hcx hcn hat
          have hw2 : wd s = (D ++ [U]) ++ wd (s.drop (k + 1)) := by
            rw [hwd, hat, h32, wd_app, wd_none U hcn, List.append_assoc]
          have HW := Lib.hid hw2
          have hlen : (D ++ [U]).length = D.length + 1 := by simp
          have HLEN := Lib.hid hlen
          subst h32
          clear hw2 hwd hnb hcn hat hc hU hlen hown
          go_wp2_with (at_builtin; refine append_str _ rfl _ _ rfl w.heap.size _ _ _ rfl (HO.out.alloc _) ⟨wr.heap.size, 0, none⟩ 1 1 [.string ⟨U.toArray⟩] rfl rfl ?c1 ?c2 ?c3 ?c4 ?c5 ?_)
          case c1 => exact cell_one_new _ _ _
          case c2 => intro x hx; simp at hx; subst hx; rfl
          case c3 => unfold maxLen; omega
          case c4 => omega
          case c5 => have := hE.size; simp; omega
          intro v' w2 hown' hgrow _
          rw [strM_snoc, ← HLEN.out] at hown'
          have HO2 := Lib.hid hown'
          have hE2 : Ext w w2 := ext_grown (hE.alloc _) hgrow (own_row_ge HO.out)
          clear hown' hgrow
          go_wp2
          go_roundw
          case rel => exact ⟨D ++ [U], k + 1, k + 1, by go_num, by go_num, by rw [HLEN.out]; omega, Nat.le_refl _, HO2.out, hE2, Or.inl ⟨by omega, HW.out, fun j h1 h2 => by omega⟩⟩
          case measure => simp [intOf]; omega
        · have hc2 : ((c.toNat : Int) == 32) = false := by
            have : ¬ ((c.toNat : Int) = 32) := fun e => h32 (UInt8.toNat_inj.1 (by simpa using (by omega : c.toNat = 32)))
            simpa using this
          have hnb2 : ∀ j, a ≤ j → j < k + 1 → s.getD j 0 ≠ 32 := fun j h1 h2 => by
            rcases Nat.lt_or_ge j k with h | h
            · exact hnb j h1 h
            · obtain rfl : j = k := by omega
              rw [hc]; exact h32
          have HNB := Lib.hid hnb2
          have HWD := Lib.hid hwd
          clear hnb2 hnb hwd hat hc h32 hcx hown
          go_wp2
          go_roundw
          case rel => exact ⟨D, a, k + 1, by go_num, rfl, by omega, by omega, HO.out, hE, Or.inl ⟨by omega, HWD.out, HNB.out⟩⟩
          case measure => simp [intOf]; omega
      · obtain rfl : k = s.length := by omega
        have hcn := cu_nb hk hnb
        rw [cu_end] at hcn hcx
        obtain ⟨U, hU⟩ : ∃ U, s.drop a = U := ⟨_, rfl⟩
        rw [hU] at hcx hcn hwd
        have hw2 : wd s = D ++ [U] := by rw [hwd, wd_none U hcn]
        have HW := Lib.hid hw2
        have hlen : (D ++ [U]).length = D.length + 1 := by simp
        have HLEN := Lib.hid hlen
        clear hw2 hwd hnb hcn hU hlen hown hlt
        go_wp2_with (at_builtin; refine append_str _ rfl _ _ rfl w.heap.size _ _ _ rfl (HO.out.alloc _) ⟨wr.heap.size, 0, none⟩ 1 1 [.string ⟨U.toArray⟩] rfl rfl ?c1 ?c2 ?c3 ?c4 ?c5 ?_)
        case c1 => exact cell_one_new _ _ _
        case c2 => intro x hx; simp at hx; subst hx; rfl
        case c3 => unfold maxLen; omega
        case c4 => omega
        case c5 => have := hE.size; simp; omega
        intro v' w2 hown' hgrow _
        rw [strM_snoc, ← HLEN.out] at hown'
        have HO2 := Lib.hid hown'
        have hE2 : Ext w w2 := ext_grown (hE.alloc _) hgrow (own_row_ge HO.out)
        clear hown' hgrow
        go_wp2
        go_roundw
        case rel => exact ⟨D ++ [U], s.length + 1, s.length + 1, by go_num, by go_num, by rw [HLEN.out]; omega, Nat.le_refl _, HO2.out, hE2, Or.inr ⟨rfl, HW.out⟩⟩
        case measure => simp [intOf]
    · have hne := wd_ne s
      have hpos : 0 < D.length := by
        rw [hwd] at hne
        cases D with
        | nil => exact absurd rfl hne
        | cons x r => simp
      obtain ⟨g, cap, rfl, _, _⟩ := own_form hown hpos
      have HF : Hid (WsRet s w (.returned (.slice (some ⟨g, 0, none⟩) D.length cap)) wr) := ⟨g, cap, by rw [hwd], hE, fun j l hj => own_cell hown (strM_at (by rw [← hwd]; exact hj))⟩
      clear hwd hne hpos hown
      go_wp2
      go_ret
      exact HF.out

end Go.Proofs.YtpgacpkcchajmaaDoor

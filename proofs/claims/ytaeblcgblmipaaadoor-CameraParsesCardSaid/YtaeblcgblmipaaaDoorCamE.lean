/-
  heights and awake of the statements on layer 31.
-/
import Derived.Test.YtaeblcgblmipaaaDoorCamD
namespace Go.Proofs.YtaeblcgblmipaaaDoor
open Go.RowKit
set_option linter.unusedSimpArgs false

def htF (z : Nat → Int) : Nat → Nat → Int := fun i j => if j = 0 then 20 * (i : Int) else if j = 1 then 100000 - 3000 * (i : Int) else if j = 3 then z i else if j = 4 then 20 else 0
theorem cells_new5 (w : World) (e : TypeId) (a0 a1 a2 a3 a4 : Value) : ∀ j u, [a0, a1, a2, a3, a4][j]? = some u → (w.alloc (.cells #[a0, a1, a2, a3, a4] e)).cell? ((⟨w.heap.size, 0, none⟩ : Addr).add j) = some u := by
  intro j u h
  have := (World.ownsRow_lit (base := 0) (size := 5) (e := e) w #[a0, a1, a2, a3, a4] 1 (Nat.zero_le _) (by decide) rfl).cells (g := w.heap.size) rfl j u h
  exact this
def HtOK (w : World) (n : Nat) (z : Nat → Int) (e : Ending) (w' : World) : Prop := ∃ A0 C g, e = .returned (.slice A0 n C) ∧ Ext w w' ∧ SeenAt w' A0 n (htF z) g 0 ∧ n ≤ C ∧ (A0 = none → C = 0)

set_option maxHeartbeats 16000000 in
theorem heights_any (z : Nat → Int) (n g : Nat) (w : World) (hn : n ≤ 4) (hz : ∀ i, i < n → w.cell? ⟨g, i, none⟩ = some (.int .i64 (z i))) (hb : ∀ i, -9223372036854775808 ≤ z i ∧ z i ≤ 9223372036854775807) :
    Calls Tryd.prog 26 #[.slice (some ⟨g, 0, none⟩) n n] w (HtOK w n z) := by
  have HZ := Lib.hid hz
  have HB := Lib.hid hb
  clear hz hb
  go_enter Tryd.func26, Tryd.ntmps26
  go_wp2
  go_loopw [3, 8] (fun v i wr => ∃ k : Nat, k ≤ n ∧ i = .int .i64 k ∧ wr.ownsRow w.heap.size 33 5 v k (seenL k (htF z)) ∧ Ext w wr) (fun _ i _ => n - (intOf i).toNat)
  case atStart => exact ⟨0, by omega, rfl, World.ownsRow_nil _ _ _ _, Ext.refl _⟩
  case round =>
    obtain ⟨k, hk, rfl, hown, hE⟩ := hrel
    by_cases hlt : k < n
    · have ck := hE.keep (HZ.out k hlt)
      have HO := Lib.hid hown
      clear hown
      go_wp2_with (at_builtin; refine append_seen _ rfl _ _ rfl w.heap.size _ _ _ rfl (HO.out.alloc _) ⟨wr.heap.size, 0, none⟩ 1 _ [.int .i64 (htF z k 0), .int .i64 (htF z k 1), .int .i64 (htF z k 2), .int .i64 (htF z k 3), .int .i64 (htF z k 4)] rfl rfl ?c1 ?c2 ?c3 ?c4 ?c5 ?_)
      case c1 => exact cells_new5 _ _ _ _ _ _ _
      case c2 => intro u hu; simp at hu; rcases hu with rfl | rfl | rfl | rfl | rfl <;> rfl
      case c3 => unfold maxLen; omega
      case c4 => omega
      case c5 => have := hE.size; simp; omega
      intro v' w2 hown' hgrow _
      rw [seenL_snoc] at hown'
      go_wp2
      go_roundw
      case rel => exact ⟨k + 1, by omega, by go_num, hown', ext_grown (hE.alloc _) hgrow (own_row_ge HO.out)⟩
      case measure => simp [intOf]; omega
    · obtain rfl : k = n := by omega
      obtain ⟨g2, hS⟩ := seenV_own hown (by omega) (by
        intro i j hi hj
        have hb := HB.out i
        unfold htF
        split
        · omega
        · split
          · omega
          · split
            · exact hb
            · split <;> omega)
      obtain ⟨A1, C1, rfl, h2, h3, h4⟩ := hS.ex
      go_wp2
      go_ret
      exact ⟨_, _, g2, rfl, hE, h2, h3, h4⟩
def zA : Nat → Int := fun i => [9000, 4000, 400, 3000].getD i 0
def zB : Nat → Int := fun i => [9000, 4000, 1200, 3000].getD i 0
def fT : Nat → Nat → Int := fun _ j => [5, 70000, -30, 900, 20].getD j 0
theorem zA_bd (i : Nat) : -9223372036854775808 ≤ zA i ∧ zA i ≤ 9223372036854775807 := by
  match i with
  | 0 => decide
  | 1 => decide
  | 2 => decide
  | 3 => decide
  | i + 4 => exact ⟨by show (-9223372036854775808 : Int) ≤ 0; decide, by show (0 : Int) ≤ 9223372036854775807; decide⟩
theorem zB_bd (i : Nat) : -9223372036854775808 ≤ zB i ∧ zB i ≤ 9223372036854775807 := by
  match i with
  | 0 => decide
  | 1 => decide
  | 2 => decide
  | 3 => decide
  | i + 4 => exact ⟨by show (-9223372036854775808 : Int) ≤ 0; decide, by show (0 : Int) ≤ 9223372036854775807; decide⟩
theorem zA_new (W : World) (e : TypeId) : ∀ i, i < 4 → (W.alloc (.cells #[.int .i64 9000, .int .i64 4000, .int .i64 400, .int .i64 3000] e)).cell? ⟨W.heap.size, i, none⟩ = some (.int .i64 (zA i))
  | 0, _ => (Lib.cell_of_heap (heap_alloc_new W _) 0).trans (by rfl)
  | 1, _ => (Lib.cell_of_heap (heap_alloc_new W _) 1).trans (by rfl)
  | 2, _ => (Lib.cell_of_heap (heap_alloc_new W _) 2).trans (by rfl)
  | 3, _ => (Lib.cell_of_heap (heap_alloc_new W _) 3).trans (by rfl)
  | i + 4, h => by omega
theorem zB_new (W : World) (e : TypeId) : ∀ i, i < 4 → (W.alloc (.cells #[.int .i64 9000, .int .i64 4000, .int .i64 1200, .int .i64 3000] e)).cell? ⟨W.heap.size, i, none⟩ = some (.int .i64 (zB i))
  | 0, _ => (Lib.cell_of_heap (heap_alloc_new W _) 0).trans (by rfl)
  | 1, _ => (Lib.cell_of_heap (heap_alloc_new W _) 1).trans (by rfl)
  | 2, _ => (Lib.cell_of_heap (heap_alloc_new W _) 2).trans (by rfl)
  | 3, _ => (Lib.cell_of_heap (heap_alloc_new W _) 3).trans (by rfl)
  | i + 4, h => by omega
theorem fT_new (W : World) : SeenAt (W.alloc (.cells #[.int .i64 5, .int .i64 70000, .int .i64 (-30), .int .i64 900, .int .i64 20] 33)) (some ⟨W.heap.size, 0, none⟩) 1 fT W.heap.size 0 where
  nle := by omega
  top := fun _ => ⟨rfl, by simp⟩
  cell := fun i j hi hj => by
    obtain rfl : i = 0 := by omega
    have h := cells_new5 W 33 (.int .i64 5) (.int .i64 70000) (.int .i64 (-30)) (.int .i64 900) (.int .i64 20) j (.int .i64 (fT 0 j)) (by
      match j, hj with
      | 0, _ => rfl
      | 1, _ => rfl
      | 2, _ => rfl
      | 3, _ => rfl
      | 4, _ => rfl)
    rw [add_off] at h
    rw [show 0 + 0 * 5 + j = 0 + j by omega]
    exact h
  wf := fun i j hi hj => by
    obtain rfl : i = 0 := by omega
    match j, hj with
    | 0, _ => exact ⟨by decide, by decide⟩
    | 1, _ => exact ⟨by decide, by decide⟩
    | 2, _ => exact ⟨by decide, by decide⟩
    | 3, _ => exact ⟨by decide, by decide⟩
    | 4, _ => exact ⟨by decide, by decide⟩
theorem bnA : bnOk 4 (htF zA) = true ∧ bnK 4 (htF zA) = 2 ∧ bhN 4 (htF zA) = 2 := by decide +kernel
theorem bnB : bnOk 4 (htF zB) = false := by decide +kernel
theorem txA : txT 1 fT = [53, 32, 55, 48, 48, 48, 48, 32, 45, 51, 48, 32, 57, 48, 48, 32, 50, 48, 10] ∧ ckE 1 fT = 0 := by decide +kernel

set_option maxHeartbeats 16000000 in
theorem awake_any (w : World) (hX : TX w) : Calls Tryd.prog 10 #[] w fun e w' => e = .returned (.bool true) ∧ Ext w w' := by
  have HX := Lib.hid hX
  have HA := Lib.hid bnA
  have HBn := Lib.hid bnB
  have HT := Lib.hid txA
  clear hX
  go_enter Tryd.func10, Tryd.ntmps10
  go_wp2_with (first | ((fail_if_success (have hzz := hb1)); go_at_call 26; refine (heights_any zA 4 _ _ (by omega) (zA_new _ _) zA_bd).mono ?_; rintro e w1 hx1; obtain ⟨A1, C1, g1, rfl, hb1, T1, hC1, hA1⟩ := hx1) | ((fail_if_success (have hzz := hb2)); go_at_call 13; refine (bounce_any _ _ _ _ _ _ _ T1).mono ?_; rintro e w2 ⟨rfl, hb2⟩; rw [HA.out.1, HA.out.2.1]) | ((fail_if_success (have hzz := hb3)); go_at_call 26; refine (heights_any zB 4 _ _ (by omega) (zB_new _ _) zB_bd).mono ?_; rintro e w3 hx3; obtain ⟨A3, C3, g3, rfl, hb3, T3, hC3, hA3⟩ := hx3) | ((fail_if_success (have hzz := hb4)); go_at_call 13; refine (bounce_any _ _ _ _ _ _ _ T3).mono ?_; rintro e w4 ⟨rfl, hb4⟩; rw [HBn.out]) | ((fail_if_success (have hzz := hb5)); go_at_call 22; refine (text_any _ _ _ _ _ _ _ (fT_new _) (HX.out.ext (by repeat (first | exact Ext.refl _ | refine Ext.setCell ?_ (by first | exact Nat.le_refl _ | (simp; done) | (simp; omega)) _ | refine Ext.drew ?_ | refine Ext.drewN ?_ _ | refine Ext.alloc ?_ _ | refine Ext.trans ?_ hb4 | refine Ext.trans ?_ hb3 | refine Ext.trans ?_ hb2 | refine Ext.trans ?_ hb1)))).mono ?_; rintro e w5 ⟨rfl, hb5⟩; rw [HT.out.1, HT.out.2]) | ((fail_if_success (have hzz := hb6)); go_at_call 26; refine (heights_any zA 4 _ _ (by omega) (zA_new _ _) zA_bd).mono ?_; rintro e w6 hx6; obtain ⟨A6, C6, g6, rfl, hb6, T6, hC6, hA6⟩ := hx6) | ((fail_if_success (have hzz := hb7)); go_at_call 16; refine (behind_any _ _ _ _ _ _ _ T6 hC6 hA6).mono ?_; rintro e w7 ⟨v7, g7, rfl, hb7, hS7⟩; obtain ⟨A7, C7, h71, hT7, h72⟩ := hS7.ex; rw [HA.out.2.2] at h71; subst h71))
  go_ret
  exact ⟨retb (by first | rfl | simp), (by repeat (first | exact Ext.refl _ | refine Ext.setCell ?_ (by first | exact Nat.le_refl _ | (simp; done) | (simp; omega)) _ | refine Ext.drew ?_ | refine Ext.drewN ?_ _ | refine Ext.alloc ?_ _ | refine Ext.trans ?_ hb7 | refine Ext.trans ?_ hb6 | refine Ext.trans ?_ hb5 | refine Ext.trans ?_ hb4 | refine Ext.trans ?_ hb3 | refine Ext.trans ?_ hb2 | refine Ext.trans ?_ hb1))⟩

end Go.Proofs.YtaeblcgblmipaaaDoor

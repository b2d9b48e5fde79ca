/-
  Parse of layer 31 (program) at the text of a list.
-/
import Derived.Test.YtaeblcgblmipaaaDoorCamN
import Derived.Test.YtaeblcgblmipaaaDoorLibQ
namespace Go.Proofs.YtaeblcgblmipaaaDoor
open Go.RowKit
set_option linter.unusedSimpArgs false

theorem pint_itoa {v : Int} (h : -300000 ≤ v ∧ v ≤ 300000) : Lib.parseIntB 64 (Lib.itoa v) = .ok v := by
  obtain ⟨h1, h2⟩ := num_itoa (n := v) (by omega) (by omega)
  unfold numV at h1
  unfold numOk at h2
  revert h1 h2
  cases Lib.parseIntB 64 (Lib.itoa v) with
  | ok x => intro h1 _; rw [show x = v from h1]
  | _ => intro _ h2; cases h2
/-- The box of five numbers, j of them read. -/
def bxC (g : Nat → Int) (j : Nat) : Array Value := #[.int .i64 (if 0 < j then g 0 else 0), .int .i64 (if 1 < j then g 1 else 0), .int .i64 (if 2 < j then g 2 else 0), .int .i64 (if 3 < j then g 3 else 0), .int .i64 (if 4 < j then g 4 else 0)]
theorem bxC_step (g : Nat → Int) : ∀ j, j < 5 → (bxC g j).setIfInBounds j (.int .i64 (g j)) = bxC g (j + 1)
  | 0, _ => rfl
  | 1, _ => rfl
  | 2, _ => rfl
  | 3, _ => rfl
  | 4, _ => rfl
  | j + 5, h => by omega
theorem bxC_at (g : Nat → Int) : ∀ j, j < 5 → (bxC g j)[j]? = some (.int .i64 0)
  | 0, _ => rfl
  | 1, _ => rfl
  | 2, _ => rfl
  | 3, _ => rfl
  | 4, _ => rfl
  | j + 5, h => by omega
theorem bx_set {p : Nat} {cs : Array Value} {T : TypeId} {w : World} (h : w.heap[p]? = some (.cells cs T (0, 0))) (j : Nat) (u : Value) : (w.setCell ⟨p, j, none⟩ u).heap[p]? = some (.cells (cs.setIfInBounds j u) T (0, 0)) := heap_setCell_same w p j cs T u h
/-- The j-th word of a line. -/
theorem word_at (g : Nat → Int) : ∀ j, j < 5 → ((Lib.splitB ⟨#[32]⟩ 0 (Lib.countB ⟨(lineTo g 5).toArray⟩ ⟨#[32]⟩) ⟨(lineTo g 5).toArray⟩).map Value.string)[j]? = some (.string ⟨(Lib.itoa (g j)).toArray⟩) := by
  rw [word_count, word_split]
  intro j hj
  match j, hj with
  | 0, _ => rfl
  | 1, _ => rfl
  | 2, _ => rfl
  | 3, _ => rfl
  | 4, _ => rfl
theorem line_len {n : Nat} {f : Nat → Nat → Int} (h : SWf n f) {i : Nat} (hi : i < n) : (lineTo (f i) 5).length ≤ 110 := by
  have := lineTo_len (f i) (fun j hj => h i j hi hj) 5 (Nat.le_refl _)
  omega

set_option maxRecDepth 20000 in
theorem trim_any (A : List UInt8) (hA : A.length ≤ 1000000) (w : World) : Calls Tryd.prog 36 #[.string ⟨(A ++ [10]).toArray⟩, .string ⟨#[10]⟩] w fun e w' => e = .returned (.string ⟨A.toArray⟩) ∧ w = w' := by
  have hs : (⟨(A ++ [10]).toArray⟩ : ByteArray).size ≤ 9223372036854775807 := by
    have h1 : (⟨(A ++ [10]).toArray⟩ : ByteArray).size = A.length + 1 := by simp [ByteArray.size]
    rw [h1]; omega
  have HT := Tryd.strings_TrimSuffix ⟨(A ++ [10]).toArray⟩ ⟨#[10]⟩ w hs
  refine HT.mono ?_
  intro e w' he
  obtain ⟨h1, h2⟩ := he
  refine ⟨?_, h2.symm⟩
  rw [h1]
  have e1 : Lib.trimSuffix (⟨(A ++ [10]).toArray⟩ : ByteArray).data.toList (⟨#[10]⟩ : ByteArray).data.toList = A := trim_line A
  rw [e1]
theorem split5_any (g : Nat → Int) (hg : (lineTo g 5).length ≤ 1000000) (w : World) (h : DX w) : Calls Tryd.prog 35 #[.string ⟨(lineTo g 5).toArray⟩, .string ⟨#[32]⟩] w fun e w' =>
    e = .returned (.slice (some ⟨w.heap.size, 0, none⟩) 5 5) ∧ Ext w w' ∧ ∀ j, j < 5 → w'.cell? ⟨w.heap.size, j, none⟩ = some (.string ⟨(Lib.itoa (g j)).toArray⟩) := by
  obtain ⟨m, hm⟩ := h.mx
  refine (Tryd.strings_Split ⟨(lineTo g 5).toArray⟩ ⟨#[32]⟩ m w (by simp [ByteArray.size]; omega) hm (by decide)).mono ?_
  rintro e w' ⟨rfl, rfl⟩
  refine ⟨by rw [word_count], Ext.alloc (Ext.refl w) _, fun j hj => ?_⟩
  refine (Lib.cell_of_heap (heap_alloc_new w _) j).trans ?_
  rw [List.getElem?_toArray]
  exact word_at g j hj

set_option maxHeartbeats 16000000 in
set_option maxRecDepth 20000 in
theorem parse_good (n : Nat) (f : Nat → Nat → Int) (w : World) (hX : DX w) (hck : ckE n f = 0) (hwf : SWf n f) :
    Calls Tryd.prog 24 #[.string ⟨(textTo f n).toArray⟩] w fun e w' => ∃ v g, e = .returned (.tuple #[v, .int .i64 0]) ∧ Ext w w' ∧ SeenV w' v n f g 0 := by
  have hn := ck_le hck
  have HCK := Lib.hid hck
  have HX := Lib.hid hX
  have HWF := Lib.hid hwf
  have HBD : Hid (∀ i j, i < n → j < 5 → -300000 ≤ f i j ∧ f i j ≤ 300000) := fun i j hi hj => seen_bd hck hi hj
  have hlen := textTo_len f hwf n (Nat.le_refl _)
  have HT : Hid (txT n f = textTo f n) := tx_yes (by rw [hck]; rfl)
  have HCN : Hid (Lib.countB ⟨(textTo f n).toArray⟩ ⟨#[10]⟩ = n) := by rw [Hid, textTo_all]; exact ln_count f n 0
  have HSP : Hid (Lib.splitB ⟨#[10]⟩ 1 n ⟨(textTo f n).toArray⟩ = (List.range n).map (fun j => ⟨(lineTo (f j) 5 ++ [10]).toArray⟩) ++ [⟨#[]⟩]) := by
    rw [Hid, textTo_all, ln_split]
    simp
  obtain ⟨m, hm⟩ := hX.mx
  obtain ⟨L, hL⟩ : ∃ L : List UInt8, textTo f n = L := ⟨_, rfl⟩
  rw [hL] at hlen HCN HSP HT ⊢
  have hl' : L.length ≤ 1000000 := by omega
  clear hX hck hwf hL hlen
  go_enter Tryd.func24, Tryd.ntmps24
  go_wp2_with (go_at_call 34; refine (splitAfter_any L hl' m _ hm).mono ?_; rintro e w1 hs1; obtain ⟨rfl, hb1, hc1⟩ := hs1; rw [HCN.out]; rw [HCN.out, HSP.out] at hc1; have HC1 := Lib.hid hc1; clear hc1)
  obtain ⟨q, hq⟩ : ∃ q, w.heap.size = q := ⟨_, rfl⟩
  rw [hq]
  have HQ := Lib.hid hq
  clear hq
  go_loopw [4, 17] (fun v i wr => ∃ (k : Nat) (A1 : Option Addr) (C1 : Nat), k ≤ n + 1 ∧ i = .int .i64 k ∧ v = .slice A1 (min k n) C1 ∧ wr.ownsRow w1.heap.size 33 5 (.slice A1 (min k n) C1) (min k n) (seenL (min k n) f) ∧ Ext w1 wr) (fun _ i _ => n + 1 - (intOf i).toNat)
  case atStart => exact ⟨0, none, 0, by omega, rfl, by simp, by simpa [seenL] using World.ownsRow_nil _ _ _ _, Ext.refl _⟩
  case round =>
    obtain ⟨k, A1, C1, hk, rfl, rfl, hown, hE⟩ := hrel
    have HO := Lib.hid hown
    clear hown
    by_cases hlt : k < n
    · have hmn : min k n = k := by omega
      have cl : wr.cell? ⟨q, k, none⟩ = some (.string ⟨(lineTo (f k) 5 ++ [10]).toArray⟩) := by
        rw [← HQ.out]
        exact hE.keep (HC1.out k _ (by rw [List.getElem?_append_left (by simpa using hlt)]; simp [hlt]))
      rw [hmn]
      rw [hmn] at HO
      have hll := line_len HWF.out hlt
      obtain ⟨A, hA⟩ : ∃ A : List UInt8, lineTo (f k) 5 = A := ⟨_, rfl⟩
      have HA := Lib.hid hA
      rw [hA] at cl hll
      clear hA
      have hne : (A ++ [10]).isEmpty = false := by simp
      have hk64 : ¬ ((64 : Int) < (k : Int)) := by omega
      have HXr : Hid (DX wr) := HX.out.ext (hb1.trans hE)
      go_wp2_with (first | (go_at_call 36; refine (trim_any A (by omega) _).mono ?_; rintro e w' ⟨rfl, rfl⟩; rw [← HA.out]) | (go_at_call 35; refine (split5_any (f k) (by rw [HA.out]; omega) _ HXr.out).mono ?_; rintro e w2 ⟨rfl, hb2, hc2⟩; have HC2 := Lib.hid hc2; clear hc2))
      go_loopw [34] (fun i wi => ∃ j : Nat, j ≤ 5 ∧ i = .int .i64 j ∧ wi.heap[w2.heap.size]? = some (.cells (bxC (f k) j) 59 (0, 0)) ∧ Ext w2 wi) (fun i _ => 5 - (intOf i).toNat)
      case atStart => exact ⟨0, by omega, rfl, heap_alloc_new w2 _, (by repeat (first | exact Ext.refl _ | refine Ext.setCell ?_ (by first | exact Nat.le_refl _ | (simp; done) | (simp; omega)) _ | refine Ext.drew ?_ | refine Ext.drewN ?_ _ | refine Ext.alloc ?_ _))⟩
      case round =>
        obtain ⟨j, hj5, rfl, hbox, hE2⟩ := hrel
        have HBX := Lib.hid hbox
        by_cases hj : j < 5
        · have cw := hE2.keep (HC2.out j hj)
          have hbd := HBD.out k j hlt hj
          have HP := Lib.hid (pint_itoa hbd)
          have hwl := Lib.itoa_length_le (f k j) (by omega) (by omega)
          have hlb : w2.heap.size < wr.heap.size := (Array.getElem?_eq_some_iff.1 hbox).1
          clear hbox
          go_wp2_with (go_at_call 37; refine (pint_ok _ (f k j) (by omega) HP.out _).mono ?_; rintro e w3 ⟨rfl, hb3⟩; have hB3 := (hb3.block _ hlb).trans HBX.out; have cz : w3.cell? ⟨w2.heap.size, j, none⟩ = some (.int .i64 0) := (Lib.cell_of_heap hB3 j).trans (bxC_at (f k) j hj); have fz := frozen_of_row w3 w2.heap.size j _ _ hB3; have HB3 := Lib.hid hB3; clear hB3)
          go_roundw
          case rel => exact ⟨j + 1, by omega, by go_num, by rw [← bxC_step (f k) j hj]; exact bx_set HB3.out j _, (by repeat (first | exact Ext.refl _ | refine Ext.setCell ?_ (by first | exact Nat.le_refl _ | (simp; done) | (simp; omega)) _ | refine Ext.drew ?_ | refine Ext.drewN ?_ _ | refine Ext.alloc ?_ _ | exact hE2.trans hb3))⟩
          case measure => simp [intOf]; omega
        · obtain rfl : j = 5 := by omega
          have g0 : wr.cell? ⟨w2.heap.size, 0, none⟩ = some (.int .i64 (f k 0)) := Lib.cell_of_heap hbox 0
          have g1 : wr.cell? ⟨w2.heap.size, 1, none⟩ = some (.int .i64 (f k 1)) := Lib.cell_of_heap hbox 1
          have g2 : wr.cell? ⟨w2.heap.size, 2, none⟩ = some (.int .i64 (f k 2)) := Lib.cell_of_heap hbox 2
          have g3 : wr.cell? ⟨w2.heap.size, 3, none⟩ = some (.int .i64 (f k 3)) := Lib.cell_of_heap hbox 3
          have g4 : wr.cell? ⟨w2.heap.size, 4, none⟩ = some (.int .i64 (f k 4)) := Lib.cell_of_heap hbox 4
          clear hbox
          have HOr := Lib.hid (own_ext HO.out (hb2.trans hE2))
          go_wp2_with (at_builtin; refine append_seen _ rfl _ _ rfl w1.heap.size _ _ _ rfl (HOr.out.alloc _) ⟨wr.heap.size, 0, none⟩ 1 _ [.int .i64 (f k 0), .int .i64 (f k 1), .int .i64 (f k 2), .int .i64 (f k 3), .int .i64 (f k 4)] rfl rfl ?c1 ?c2 ?c3 ?c4 ?c5 ?_)
          case c1 => exact cells_new5 _ _ _ _ _ _ _
          case c2 => intro u hu; simp at hu; rcases hu with rfl | rfl | rfl | rfl | rfl <;> rfl
          case c3 => unfold maxLen; omega
          case c4 => omega
          case c5 => have := ((hE.trans hb2).trans hE2).size; simp; omega
          intro v' w4 hown' hgrow _
          rw [seenL_snoc] at hown'
          have hE4 : Ext w1 w4 := ext_grown (((hE.trans hb2).trans hE2).alloc _) hgrow (own_row_ge HOr.out)
          rcases hown'.2 with ⟨_, h0⟩ | ⟨gg, cap, cur, rfl, _⟩
          · omega
          · have hm1 : min (k + 1) n = k + 1 := by omega
            have HO4 := Lib.hid hown'
            clear hown'
            go_wp2
            go_roundw
            case rel => exact ⟨k + 1, some ⟨gg, 0, none⟩, cap, by omega, by go_num, by rw [hm1], by rw [hm1]; exact HO4.out, hE4⟩
            case measure => simp [intOf]; omega
    · by_cases hkn : k = n
      · subst hkn
        have cl : wr.cell? ⟨q, k, none⟩ = some (.string ⟨#[]⟩) := by
          rw [← HQ.out]
          exact hE.keep (HC1.out k _ (by rw [List.getElem?_append_right (by simp)]; simp))
        have hmn : min k k = k := by omega
        have hm1 : min (k + 1) k = k := by omega
        rw [hmn] at HO ⊢
        go_wp2
        go_roundw
        case rel => exact ⟨k + 1, A1, C1, by omega, by go_num, by rw [hm1], by rw [hm1]; exact HO.out, hE⟩
        case measure => simp [intOf]
      · obtain rfl : k = n + 1 := by omega
        have hmn : min (n + 1) n = n := by omega
        rw [hmn] at HO ⊢
        obtain ⟨g, hg⟩ := seenV_own HO.out (by omega) HWF.out
        have HG := Lib.hid hg
        obtain ⟨A0', C', he, hT, _⟩ := hg.ex
        cases he
        clear hg
        go_wp2_with (go_at_call 22; refine (text_any _ _ _ f _ _ _ hT (HX.out.tab.ext (hb1.trans hE))).mono ?_; rintro e w5 ⟨rfl, hb5⟩; rw [HT.out, HCK.out])
        go_ret2
        exact ⟨_, g, rfl, (hb1.trans hE).trans hb5, HG.out.ext hb5⟩

end Go.Proofs.YtaeblcgblmipaaaDoor

/-
  Text of layer 31 (reference): string by string.
-/
import Derived.Test.YtaeblcgblmipaaaDoorCamE
import Derived.Test.YtaeblcgblmipaaaDoorCamP
import Derived.Test.YtaeblcgblmipaaaDoorRNum
namespace Go.Proofs.YtaeblcgblmipaaaDoor
open Go.RowKit
set_option linter.unusedSimpArgs false

theorem seen_bd {n i j : Nat} {f : Nat → Nat → Int} (h : ckE n f = 0) (hi : i < n) (hj : j < 5) : -300000 ≤ f i j ∧ f i j ≤ 300000 := by
  have := ((ck_iff.1 h).2 i hi).1
  simp only [seenR, rng, Bool.and_eq_true, decide_eq_true_eq] at this
  match j, hj with
  | 0, _ => omega
  | 1, _ => omega
  | 2, _ => omega
  | 3, _ => omega
  | 4, _ => omega

set_option maxHeartbeats 16000000 in
theorem rtext_any (A0 : Option Addr) (n C : Nat) (f : Nat → Nat → Int) (b off : Nat) (w : World) (T : SeenAt w A0 n f b off) :
    Calls Tryd.prog 23 #[.slice A0 n C] w fun e w' => e = .returned (.tuple #[.string ⟨(txT n f).toArray⟩, .int .i64 (ckE n f)]) ∧ Ext w w' := by
  have hn := T.nle
  have HWF : Hid (SWf n f) := T.wf
  rcases and1 (ckE n f == 0) with he | he
  · have HB := Lib.hid (tx_no he)
    obtain ⟨E, hEq⟩ : ∃ E : Int, ckE n f = E := ⟨_, rfl⟩
    rw [hEq] at he
    have HE := Lib.hid hEq
    clear hEq
    go_enter Tryd.func23, Tryd.ntmps23
    go_wp2_with (go_at_call 12; refine (rcheck_any _ _ _ _ _ _ _ T).mono ?_; rintro e w1 ⟨rfl, hb1⟩; rw [HE.out])
    go_ret2
    exact ⟨by rw [HB.out, HE.out]; rfl, hb1⟩
  have he0 : ckE n f = 0 := by simpa using he
  have hle := ck_le he0
  have HE := Lib.hid he0
  have HB := Lib.hid (tx_yes he)
  have HBD : Hid (∀ i j, i < n → j < 5 → -300000 ≤ f i j ∧ f i j ≤ 300000) := fun i j hi hj => seen_bd he0 hi hj
  have hcat : ∀ a b : List UInt8, (⟨a.toArray⟩ : ByteArray) ++ ⟨b.toArray⟩ = ⟨(a ++ b).toArray⟩ := rn_cat
  clear he he0
  go_enter Tryd.func23, Tryd.ntmps23
  go_wp2_with (go_at_call 12; refine (rcheck_any _ _ _ _ _ _ _ T).mono ?_; rintro e w1 ⟨rfl, hb1⟩; rw [HE.out])
  go_loopw [6, 21] (fun s i wr => ∃ k : Nat, k ≤ n ∧ i = .int .i64 k ∧ s = .string ⟨(textTo f k).toArray⟩ ∧ Ext w wr) (fun _ i _ => n - (intOf i).toNat)
  case atStart => exact ⟨0, by omega, rfl, rfl, hb1⟩
  case round =>
    obtain ⟨k, hk, rfl, rfl, hE⟩ := hrel
    have hl1 := textTo_len f HWF.out k hk
    obtain ⟨P, hP⟩ : ∃ P : List UInt8, textTo f k = P := ⟨_, rfl⟩
    rw [hP] at hl1 ⊢
    have HP := Lib.hid hP
    have hl1' : P.length ≤ 100000 := by omega
    clear hP hl1
    by_cases hlt : k < n
    · obtain ⟨rfl, hbl⟩ := T.top (by omega)
      have T2 := T.ext hE
      have c0 := T2.cell k 0 hlt (by omega)
      simp only [Nat.add_zero] at c0
      have c1 := T2.cell k 1 hlt (by omega)
      have c2 := T2.cell k 2 hlt (by omega)
      have c3 := T2.cell k 3 hlt (by omega)
      have c4 := T2.cell k 4 hlt (by omega)
      clear T2
      have HLin := Lib.hid (lineTo_len (f k) (fun j hj => HWF.out k j hlt hj))
      go_wp2
      obtain ⟨g, hg⟩ : ∃ g, wr.heap.size + 1 = g := ⟨_, rfl⟩
      rw [hg]
      go_loopw [6, 37] (fun s i wi => ∃ j : Nat, j ≤ 5 ∧ i = .int .i64 j ∧ s = .string ⟨(P ++ lineTo (f k) j).toArray⟩ ∧ wi.heap[g]? = some (.cells (rowA (f k)) 2 (0, 0)) ∧ Ext w wi) (fun _ i _ => 5 - (intOf i).toNat)
      case atStart => exact ⟨0, by omega, rfl, by simp [lineTo], row_new _ _ _ (by simp [← hg]), (by repeat (first | exact Ext.refl _ | refine Ext.setCell ?_ (by first | exact Nat.le_refl _ | (simp; done) | (simp; omega)) _ | refine Ext.drew ?_ | refine Ext.drewN ?_ _ | refine Ext.alloc ?_ _ | exact hE))⟩
      case round =>
        obtain ⟨j, hj5, rfl, rfl, hrow, hE2⟩ := hrel
        have HQl := HLin.out j hj5
        obtain ⟨Q, hQ⟩ : ∃ Q : List UInt8, lineTo (f k) j = Q := ⟨_, rfl⟩
        rw [hQ] at HQl ⊢
        have hQl : Q.length ≤ 200 := by omega
        have HQ := Lib.hid hQ
        clear hQ HQl
        by_cases hj : j < 5
        · have cj : wr.cell? ⟨g, j, none⟩ = some (.int .i64 (f k j)) := (Lib.cell_of_heap hrow j).trans (rowA_at (f k) j hj)
          have hbd := HBD.out k j hlt hj
          obtain ⟨S, hS⟩ : ∃ S : List UInt8, Lib.itoa (f k j) = S := ⟨_, rfl⟩
          have hSl : S.length ≤ 21 := by rw [← hS]; exact Lib.itoa_length_le _ (by omega) (by omega)
          have HS := Lib.hid hS
          have HROW := Lib.hid hrow
          clear hrow hS
          rcases Nat.eq_zero_or_pos j with rfl | hj0
          · have hQ0 : Q = [] := by rw [← HQ.out]; rfl
            subst hQ0
            go_wp2_with (go_at_call 33; refine (rnumi_any _ (by omega) (by omega) _).mono ?_; rintro e w3 ⟨rfl, hb3⟩; rw [HS.out])
            go_roundw
            case rel => exact ⟨0 + 1, by omega, by go_num, by rw [lineTo, HQ.out, HS.out]; simp [hcat], (hb3.block _ (Array.getElem?_eq_some_iff.1 HROW.out).1).trans HROW.out, hE2.trans hb3⟩
            case measure => simp [intOf]
          · have hj1 : (0 : Int) < (j : Int) := by omega
            go_wp2_with (go_at_call 33; refine (rnumi_any _ (by omega) (by omega) _).mono ?_; rintro e w3 ⟨rfl, hb3⟩; rw [HS.out])
            go_roundw
            case rel => exact ⟨j + 1, by omega, by go_num, by rw [lineTo, HQ.out, HS.out, if_neg (by omega)]; simp [hcat], (hb3.block _ (Array.getElem?_eq_some_iff.1 HROW.out).1).trans HROW.out, hE2.trans hb3⟩
            case measure => simp [intOf]; omega
        · obtain rfl : j = 5 := by omega
          clear hrow
          go_wp2
          go_roundw
          case rel => exact ⟨k + 1, by omega, by go_num, by rw [textTo, HP.out, HQ.out]; first | done | simp [hcat], hE2⟩
          case measure => simp [intOf]; omega
    · obtain rfl : k = n := by omega
      go_wp2
      go_ret2
      exact ⟨by rw [HB.out, HE.out, HP.out]; rfl, hE⟩

end Go.Proofs.YtaeblcgblmipaaaDoor

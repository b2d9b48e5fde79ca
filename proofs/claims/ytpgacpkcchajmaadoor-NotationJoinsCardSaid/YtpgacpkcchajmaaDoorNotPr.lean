/-
  ParseOver of the reference (layer 7).
-/
import Derived.Test.YtpgacpkcchajmaaDoorNotPo
namespace Go.Proofs.YtpgacpkcchajmaaDoor
open Go.RowKit
set_option linter.unusedSimpArgs false

theorem rpover_nil (w : World) : Calls Tryd.prog 20 #[.string ⟨#[]⟩] w fun e w' => e = .returned (.tuple #[.slice none 0 0, .int .i64 0]) ∧ w' = w := by
  go_enter Tryd.func20, Tryd.ntmps20
  go_wp2_with (go_at_call 38; refine (fields_nil _).mono ?_; rintro e w' ⟨rfl, hw'⟩; obtain rfl := hw'.symm)
  go_loop [4, 12] (fun v i => v = .slice none 0 0 ∧ i = .int .i64 0) (fun _ _ => 0)
  case atStart => exact ⟨rfl, rfl⟩
  case round =>
    obtain ⟨rfl, rfl⟩ := hrel
    go_wp2
    go_ret2
    exact ⟨rfl, rfl⟩

set_option maxRecDepth 20000 in
set_option maxHeartbeats 16000000 in
theorem rpover_any (s : List UInt8) (hs : s ≠ []) (hl : s.length ≤ 1000) (w : World) : Calls Tryd.prog 20 #[.string ⟨s.toArray⟩] w (PoRet (wd s).length (fun j => (wd s).getD j []) w) := by
  
  
  have hgc : ∀ j, j < (wd s).length → (wd s)[j]? = some ((wd s).getD j []) := fun j h => by rw [List.getD_eq_getElem?_getD, List.getElem?_eq_getElem h]; rfl
  have HSPL : Hid (∀ W, Calls Tryd.prog 38 #[.string ⟨s.toArray⟩] W fun e w' => ∃ b c, e = .returned (.slice (some ⟨b, 0, none⟩) (wd s).length c) ∧ Ext W w' ∧ ∀ j, j < (wd s).length → w'.cell? ⟨b, j, none⟩ = some (.string ⟨((wd s).getD j []).toArray⟩)) := fun W => (fields_any s hs hl W).mono fun e w' ⟨b, c, h1, h2, h3⟩ => ⟨b, c, h1, h2, fun j hj => h3 j _ (hgc j hj)⟩
  
  have hie : s.isEmpty = false := by cases s with
    | nil => exact absurd rfl hs
    | cons x t => rfl
  have hsz := fun j (h : j < (wd s).length) => wd_sz s ((wd s).getD j []) (by rw [List.getD_eq_getElem?_getD, List.getElem?_eq_getElem h]; exact List.getElem_mem h)
  have hcn := wd_cnt s
  obtain ⟨g, hg⟩ : ∃ g : Nat → List UInt8, ∀ j, (wd s).getD j [] = g j := ⟨_, fun _ => rfl⟩
  rw [show (fun j => (wd s).getD j []) = g from funext hg]
  simp only [hg] at HSPL hsz
  obtain ⟨n, hn⟩ : ∃ n, (wd s).length = n := ⟨_, rfl⟩
  rw [hn] at HSPL hsz hcn ⊢
  obtain ⟨F, hF⟩ : ∃ F : Nat → Dl, ∀ j, paD (g j) = F j := ⟨_, fun _ => rfl⟩
  unfold PoRet
  rw [show (fun j => paD (g j)) = F from funext hF]
  have HF := Lib.hid hF
  clear hg hn hF hs hgc
  go_enter Tryd.func20, Tryd.ntmps20
  go_wp2_with (go_at_call 38; refine (HSPL.out _ ).mono ?_; rintro e w1 ⟨bw, cw, rfl, hE1, hc1⟩; have HC1 := Lib.hid hc1; clear hc1)
  go_loopw [4, 12] (fun v i wr => ∃ k : Nat, k ≤ n ∧ i = .int .i64 k ∧ wr.ownsRow w1.heap.size 26 12 v k (dlL F k) ∧ (∀ j, j < k → paE (g j) = 0) ∧ (k = 0 → v = .slice none 0 0) ∧ Ext w1 wr) (fun _ i _ => n - (intOf i).toNat)
  case atStart => exact ⟨0, by omega, rfl, World.ownsRow_nil _ _ _ _, fun j hj => absurd hj (by omega), fun _ => rfl, Ext.refl _⟩
  case round =>
    obtain ⟨k, hk, rfl, hown, hok, hvn, hE⟩ := hrel
    have HO := Lib.hid hown
    have HOK := Lib.hid hok
    clear hok
    by_cases hlt : k < n
    · have cwk := hE.keep (HC1.out k hlt)
      have hsk := hsz k hlt
      have HPA0 : (∀ W, Calls Tryd.prog 15 #[.string ⟨(g k).toArray⟩] W fun e w' => e = .returned (.tuple #[(paD (g k)).v, .int .i64 (paE (g k))]) ∧ Ext W w') := fun W => by
          have := rparse_any (g k) (by omega) W
          rw [(ra_eq _).1, (ra_eq _).2] at this
          exact this
      have HF1 : Hid (F k = paD (g k)) := (HF.out k).symm
      have HE1 : Hid (paE (g k) = 0 → ∀ j, j < k + 1 → paE (g j) = 0) := fun h0 j hj => by
        rcases Nat.lt_or_ge j k with h | h
        · exact HOK.out j h
        · obtain rfl : j = k := by omega
          exact h0
      obtain ⟨l, hll⟩ : ∃ l, g k = l := ⟨_, rfl⟩
      have HL := Lib.hid hll
      rw [hll] at cwk hsk HPA0 HF1 HE1
      obtain ⟨D, hD⟩ : ∃ D, paD l = D := ⟨_, rfl⟩
      rw [hD] at HPA0 HF1
      by_cases hE0 : paE l = 0
      · rw [hE0] at HPA0
        have HOK2 := Lib.hid (HE1.out hE0)
        have HPA := Lib.hid HPA0
        unfold Dl.v at HPA
        clear HPA0 HE1 hE0 hD hll hsk hvn hown
        go_wp2_with (first | (go_at_call 15; refine (HPA.out _).mono ?_; rintro e w2 ⟨rfl, hb2⟩; have HO2 := Lib.hid (own_ext HO.out hb2)) | (at_builtin; refine append_dl _ rfl _ _ rfl w1.heap.size _ _ _ rfl ((HO2.out.alloc _).alloc _) ⟨w2.heap.size + 1, 0, none⟩ 1 1 [.int .u8 D.ty, .int .u8 D.so, .int .i64 D.ru, .int .i64 D.sh, .int .i64 D.bo, .bool D.cr, .int .u8 D.ho, .int .i64 D.vi, .int .i64 D.fi, .int .i64 D.se, .bool D.su, .int .i64 D.sc] rfl rfl ?c1 ?c2 ?c3 ?c4 ?c5 ?_))
        case c1 => exact cells_new12 _ _ _ (by simp) _ _ _ _ _ _ _ _ _ _ _ _
        case c2 => intro u hu; simp at hu; rcases hu with rfl | rfl | rfl | rfl | rfl | rfl | rfl | rfl | rfl | rfl | rfl | rfl <;> rfl
        case c3 => unfold maxLen; omega
        case c4 => omega
        case c5 => have := (hE.trans hb2).size; simp; omega
        intro v' w4 hown' hgrow _
        have hE4 : Ext w1 w4 := ext_grown (((hE.trans hb2).alloc _).alloc _) hgrow (own_row_ge HO2.out)
        rw [show [.int .u8 D.ty, .int .u8 D.so, .int .i64 D.ru, .int .i64 D.sh, .int .i64 D.bo, .bool D.cr, .int .u8 D.ho, .int .i64 D.vi, .int .i64 D.fi, .int .i64 D.se, .bool D.su, .int .i64 D.sc] = D.arr.toList from rfl, ← HF1.out, dlL_snoc] at hown'
        have HO4 := Lib.hid hown'
        clear hown' hgrow
        go_wp2
        go_roundw
        case rel => exact ⟨k + 1, by omega, by go_num, HO4.out, HOK2.out, fun h => absurd h (by omega), hE4⟩
        case measure => simp [intOf]; omega
      · have h4 : paE l = 4 := by
          unfold paE at hE0 ⊢
          split
          · rename_i h; rw [if_pos h] at hE0; exact absurd rfl hE0
          · rfl
        rw [h4] at HPA0
        have HBAD : Hid (∃ j, j < n ∧ paE (g j) ≠ 0) := ⟨k, hlt, by rw [hll]; exact hE0⟩
        have HPA := Lib.hid HPA0
        unfold Dl.v at HPA
        clear HPA0 HE1 hE0 hD hll hsk hvn hown h4
        go_wp2_with (first | (go_at_call 15; refine (HPA.out _).mono ?_; rintro e w2 ⟨rfl, hb2⟩))
        go_ret2
        exact ⟨(by repeat (first | exact Ext.refl _ | refine Ext.setCell ?_ (by first | exact Nat.le_refl _ | (simp; done) | (simp; omega)) _ | refine Ext.drew ?_ | refine Ext.drewN ?_ _ | refine Ext.alloc ?_ _ | refine Ext.trans ?_ hb2 | refine Ext.trans ?_ hE | refine Ext.trans ?_ hE1)), Or.inl ⟨HBAD.out, rfl⟩⟩
    · obtain rfl : k = n := by omega
      obtain ⟨A0, c, bb, rfl, hT⟩ := own_dls hown hvn (by omega) (fun i hi => by rw [← HF.out i]; exact (pa_ok (HOK.out i hi)).2.2)
      have HT := Lib.hid hT
      clear hown hvn hT
      go_wp2
      go_ret2
      exact ⟨(by repeat (first | exact Ext.refl _ | refine Ext.setCell ?_ (by first | exact Nat.le_refl _ | (simp; done) | (simp; omega)) _ | refine Ext.drew ?_ | refine Ext.drewN ?_ _ | refine Ext.alloc ?_ _ | refine Ext.trans ?_ hE | refine Ext.trans ?_ hE1)), Or.inr ⟨HOK.out, A0, c, bb, rfl, HT.out⟩⟩

end Go.Proofs.YtpgacpkcchajmaaDoor

/-
  Shift of layer 31 (program and reference).
-/
import Derived.Test.YtaeblcgblmipaaaDoorCamJ
namespace Go.Proofs.YtaeblcgblmipaaaDoor
open Go.RowKit
set_option linter.unusedSimpArgs false

def ShOK (w : World) (n : Nat) (f : Nat → Nat → Int) (d : Int) (e : Ending) (w' : World) : Prop := ∃ v g, e = .returned (.tuple #[v, .int .i64 (shE n f d)]) ∧ Ext w w' ∧ SeenV w' v (shN n f d) (shF f d) g 0
theorem shO_no {f : Nat → Nat → Int} {d : Int} {i : Nat} (h : ¬ (0 ≤ f i 0 + d ∧ f i 0 + d ≤ 4000)) : shO f d i = false := by
  cases hb : shO f d i with
  | false => rfl
  | true => exact absurd (shO_iff.1 hb) h
theorem shO_next {f : Nat → Nat → Int} {d : Int} {k : Nat} (h : ∀ i, i < k → shO f d i = true) (hk : shO f d k = true) : ∀ i, i < k + 1 → shO f d i = true := fun i hi => by
  rcases Nat.lt_or_ge i k with h' | h'
  · exact h i h'
  · obtain rfl : i = k := by omega
    exact hk

set_option maxHeartbeats 16000000 in
theorem shift_any (A0 : Option Addr) (n C : Nat) (f : Nat → Nat → Int) (b off : Nat) (d : Int) (w : World) (T : SeenAt w A0 n f b off) (hC : n ≤ C) (hA0 : A0 = none → C = 0) (hn : n ≤ 200) :
    Calls Tryd.prog 18 #[.slice A0 n C, .int .i64 d] w (ShOK w n f d) := by
  have HWF : Hid (SWf n f) := T.wf
  have HC := Lib.hid hC
  have HA0 := Lib.hid hA0
  clear hC hA0
  rcases and1 (ckE n f == 0) with he | he
  · have HB := Lib.hid (sh_ck (k := d) he)
    obtain ⟨E, hEq⟩ : ∃ E : Int, ckE n f = E := ⟨_, rfl⟩
    rw [hEq] at he
    have HE := Lib.hid hEq
    clear hEq
    go_enter Tryd.func18, Tryd.ntmps18
    go_wp2_with (go_at_call 11; refine (check_any _ _ _ _ _ _ _ T).mono ?_; rintro e w1 ⟨rfl, hb1⟩; rw [HE.out])
    go_ret2
    exact ⟨_, 0, by rw [HB.out.1, HE.out]; rfl, hb1, by rw [HB.out.2]; exact SeenV.nil _ _⟩
  have he0 : ckE n f = 0 := by simpa using he
  have HE := Lib.hid he0
  have HT : Hid (∀ i, i < n → 0 ≤ f i 0 ∧ f i 0 ≤ 4000) := fun i hi => seen_t he0 hi
  have HH := Lib.hid he
  clear he he0
  go_enter Tryd.func18, Tryd.ntmps18
  go_wp2_with (first | (go_at_call 11; refine (check_any _ _ _ _ _ _ _ T).mono ?_; rintro e w1 ⟨rfl, hb1⟩; rw [HE.out]) | (at_builtin; refine copy_seen _ rfl _ _ rfl w.heap.size rfl _ _ _ _ _ _ (T.ext hb1) HC.out HA0.out rfl hn hb1.size ?_))
  intro A1 C1 w2 hown hE1 hA1
  go_wp2
  go_loopw [22] (fun i wr => ∃ k : Nat, k ≤ n ∧ i = .int .i64 k ∧ wr.ownsRow w.heap.size 33 5 (.slice A1 n C1) n (seenL n (shTo f d k)) ∧ Ext w wr ∧ w2.heap.size ≤ wr.heap.size ∧ (∀ i, i < k → shO f d i = true)) (fun i _ => n - (intOf i).toNat)
  case atStart => exact ⟨0, by omega, rfl, by rw [shTo_zero]; exact hown, hb1.trans hE1, Nat.le_refl _, fun i hi => absurd hi (by omega)⟩
  case round =>
    obtain ⟨k, hk, rfl, hown2, hE, hsz, hok⟩ := hrel
    have HK := Lib.hid hok
    clear hok
    by_cases hlt : k < n
    · obtain ⟨g, rfl, hg1, hg2⟩ := hA1 (by omega)
      have HO := Lib.hid hown2
      clear hown2 hown
      obtain ⟨hc, hf⟩ := own_at HO.out (i := k) (j := 0) hlt (by decide)
      rw [show shTo f d k k 0 = f k 0 by simp [shTo]] at hc
      simp only [Nat.add_zero] at hc hf
      have hgr : g < wr.heap.size := by omega
      obtain ⟨hb0, hb4⟩ := HT.out k hlt
      by_cases h1 : d < -f k 0
      · have HV := Lib.hid (sh_bad (k := d) HH.out hlt (shO_no (by omega)))
        go_wp2
        go_ret2
        exact ⟨_, 0, by rw [HV.out.1]; rfl, hE, by rw [HV.out.2]; exact SeenV.nil _ _⟩
      · by_cases h2 : 4000 - f k 0 < d
        · have HV := Lib.hid (sh_bad (k := d) HH.out hlt (shO_no (by omega)))
          go_wp2
          go_ret2
          exact ⟨_, 0, by rw [HV.out.1]; rfl, hE, by rw [HV.out.2]; exact SeenV.nil _ _⟩
        · have HN := Lib.hid (shO_next HK.out (shO_iff.2 (by omega)))
          go_wp2
          go_roundw
          case rel =>
            refine ⟨k + 1, by omega, by go_num, ?_, Ext.setCell hE hg1 _, by simpa using hsz, HN.out⟩
            have := own_put HO.out (i := k) (j := 0) hlt (by decide) (f k 0 + d)
            rw [shTo_step] at this
            exact this
          case measure => simp [intOf]; omega
    · obtain rfl : k = n := by omega
      have HV := Lib.hid (sh_good (k := d) HH.out HK.out)
      rw [seenL_congr (shTo_all f d)] at hown2
      obtain ⟨g, hg⟩ := seenV_own hown2 (by omega) (sh_swf HWF.out HK.out)
      go_wp2
      go_ret2
      exact ⟨_, g, by rw [HV.out.1]; rfl, hE, by rw [HV.out.2]; exact hg⟩

set_option maxHeartbeats 16000000 in
theorem rshift_any (A0 : Option Addr) (n C : Nat) (f : Nat → Nat → Int) (b off : Nat) (d : Int) (hd : -9223372036854775808 ≤ d ∧ d ≤ 9223372036854775807) (w : World) (T : SeenAt w A0 n f b off) (hn : n ≤ 200) :
    Calls Tryd.prog 19 #[.slice A0 n C, .int .i64 d] w (ShOK w n f d) := by
  have HWF : Hid (SWf n f) := T.wf
  rcases and1 (ckE n f == 0) with he | he
  · have HB := Lib.hid (sh_ck (k := d) he)
    obtain ⟨E, hEq⟩ : ∃ E : Int, ckE n f = E := ⟨_, rfl⟩
    rw [hEq] at he
    have HE := Lib.hid hEq
    clear hEq
    go_enter Tryd.func19, Tryd.ntmps19
    go_wp2_with (go_at_call 12; refine (rcheck_any _ _ _ _ _ _ _ T).mono ?_; rintro e w1 ⟨rfl, hb1⟩; rw [HE.out])
    go_ret2
    exact ⟨_, 0, by rw [HB.out.1, HE.out]; rfl, hb1, by rw [HB.out.2]; exact SeenV.nil _ _⟩
  have he0 : ckE n f = 0 := by simpa using he
  have HE := Lib.hid he0
  have HT : Hid (∀ i, i < n → 0 ≤ f i 0 ∧ f i 0 ≤ 4000) := fun i hi => seen_t he0 hi
  have HH := Lib.hid he
  clear he he0
  go_enter Tryd.func19, Tryd.ntmps19
  go_wp2_with (go_at_call 12; refine (rcheck_any _ _ _ _ _ _ _ T).mono ?_; rintro e w1 ⟨rfl, hb1⟩; rw [HE.out])
  go_loopw [8, 21] (fun v i wr => ∃ k : Nat, k ≤ n ∧ i = .int .i64 k ∧ wr.ownsRow w.heap.size 33 5 v k (seenL k (shF f d)) ∧ Ext w wr ∧ (∀ i, i < k → shO f d i = true)) (fun _ i _ => n - (intOf i).toNat)
  case atStart => exact ⟨0, by omega, rfl, World.ownsRow_nil _ _ _ _, hb1, fun i hi => absurd hi (by omega)⟩
  case round =>
    obtain ⟨k, hk, rfl, hown, hE, hok⟩ := hrel
    have HK := Lib.hid hok
    clear hok
    by_cases hlt : k < n
    · obtain ⟨rfl, hbl⟩ := T.top (by omega)
      have T2 := T.ext hE
      have c0 := T2.cell k 0 hlt (by omega)
      simp only [Nat.add_zero] at c0
      have c1 := T2.cell k 1 hlt (by omega)
      have c2 := T2.cell k 2 hlt (by omega)
      have c3 := T2.cell k 3 hlt (by omega)
      have c4 := T2.cell k 4 hlt (by omega)
      clear T2
      have HO := Lib.hid hown
      clear hown
      obtain ⟨hb0, hb4⟩ := HT.out k hlt
      by_cases h1 : 4000 < d
      · have HV := Lib.hid (sh_bad (k := d) HH.out hlt (shO_no (by omega)))
        go_wp2
        go_ret2
        exact ⟨_, 0, by rw [HV.out.1]; rfl, (by repeat (first | exact Ext.refl _ | refine Ext.setCell ?_ (by first | exact Nat.le_refl _ | (simp; done) | (simp; omega)) _ | refine Ext.drew ?_ | refine Ext.drewN ?_ _ | refine Ext.alloc ?_ _ | exact hE)), by rw [HV.out.2]; exact SeenV.nil _ _⟩
      by_cases h2 : d < -4000
      · have HV := Lib.hid (sh_bad (k := d) HH.out hlt (shO_no (by omega)))
        go_wp2
        go_ret2
        exact ⟨_, 0, by rw [HV.out.1]; rfl, (by repeat (first | exact Ext.refl _ | refine Ext.setCell ?_ (by first | exact Nat.le_refl _ | (simp; done) | (simp; omega)) _ | refine Ext.drew ?_ | refine Ext.drewN ?_ _ | refine Ext.alloc ?_ _ | exact hE)), by rw [HV.out.2]; exact SeenV.nil _ _⟩
      rcases and1 (shO f d k) with h3 | h3
      · have HV := Lib.hid (sh_bad (k := d) HH.out hlt h3)
        have H3 : Hid (rng (f k 0 + d) 0 4000 = false) := h3
        clear h3
        go_wp2_with (go_at_call 28; refine (between_any _ _ _ _).mono ?_; rintro e w' ⟨rfl, rfl⟩; rw [H3.out])
        go_ret2
        exact ⟨_, 0, by rw [HV.out.1]; rfl, (by repeat (first | exact Ext.refl _ | refine Ext.setCell ?_ (by first | exact Nat.le_refl _ | (simp; done) | (simp; omega)) _ | refine Ext.drew ?_ | refine Ext.drewN ?_ _ | refine Ext.alloc ?_ _ | exact hE)), by rw [HV.out.2]; exact SeenV.nil _ _⟩
      · have HN := Lib.hid (shO_next HK.out h3)
        have H3 : Hid (rng (f k 0 + d) 0 4000 = true) := h3
        clear h3
        go_wp2_with (first | (go_at_call 28; refine (between_any _ _ _ _).mono ?_; rintro e w' ⟨rfl, rfl⟩; rw [H3.out]) | (at_builtin; refine append_seen _ rfl _ _ rfl w.heap.size _ _ _ rfl (own_ext HO.out (by repeat (first | exact Ext.refl _ | refine Ext.setCell ?_ (by first | exact Nat.le_refl _ | (simp; done) | (simp; omega)) _ | refine Ext.drew ?_ | refine Ext.drewN ?_ _ | refine Ext.alloc ?_ _))) ⟨wr.heap.size + 1, 0, none⟩ 1 _ [.int .i64 (shF f d k 0), .int .i64 (shF f d k 1), .int .i64 (shF f d k 2), .int .i64 (shF f d k 3), .int .i64 (shF f d k 4)] (by first | rfl | simp [go_sem]) rfl ?c1 ?c2 ?c3 ?c4 ?c5 ?_))
        case c1 => intro j u hj; have := cells_new5 (wr.alloc (.cells #[.int .i64 (f k 0 + d), .int .i64 (f k 1), .int .i64 (f k 2), .int .i64 (f k 3), .int .i64 (f k 4)] 33)) 33 _ _ _ _ _ j u hj; simp only [World.alloc, Array.size_push] at this ⊢; exact this
        case c2 => intro u hu; simp at hu; rcases hu with rfl | rfl | rfl | rfl | rfl <;> rfl
        case c3 => unfold maxLen; omega
        case c4 => omega
        case c5 => have := hE.size; simp; omega
        intro v' w2 hown' hgrow _
        rw [seenL_snoc] at hown'
        go_wp2
        go_roundw
        case rel => exact ⟨k + 1, by omega, by go_num, hown', ext_grown (((hE.alloc _)).alloc _) hgrow (own_row_ge HO.out), HN.out⟩
        case measure => simp [intOf]; omega
    · obtain rfl : k = n := by omega
      have HV := Lib.hid (sh_good (k := d) HH.out HK.out)
      obtain ⟨g, hg⟩ := seenV_own hown (by omega) (sh_swf HWF.out HK.out)
      go_wp2
      go_ret2
      exact ⟨_, g, by rw [HV.out.1]; rfl, hE, by rw [HV.out.2]; exact hg⟩

end Go.Proofs.YtaeblcgblmipaaaDoor

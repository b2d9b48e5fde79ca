/-
  The laws NotationOvers and NotationJoins, walked.
-/
import Derived.Test.YtpgacpkcchajmaaDoorNotL
import Derived.Test.YtpgacpkcchajmaaDoorNotOv
import Derived.Test.YtpgacpkcchajmaaDoorNotFs
namespace Go.Proofs.YtpgacpkcchajmaaDoor
open Go.RowKit
set_option linter.unusedSimpArgs false

/-- What gives a list of n deliveries. -/
def PoOut (N : Nat) (E : Int) (F : Nat → Dl) (w : World) (e : Ending) (w' : World) : Prop := Ext w w' ∧ ∃ A0 c b, e = .returned (.tuple #[.slice A0 N c, .int .i64 E]) ∧ DlsAt w' A0 N F b 0
theorem po_nil {w : World} {E : Int} {F : Nat → Dl} {e : Ending} {w' : World} (h : e = .returned (.tuple #[.slice none 0 0, .int .i64 E])) (x : Ext w w') : PoOut 0 E F w e w' := ⟨x, none, 0, 0, h, dls_nil _ _⟩
theorem po_all (L : List UInt8) (hl : L.length ≤ 1000) : ∃ (N : Nat) (E : Int) (F : Nat → Dl), (∀ W, SX W → Calls Tryd.prog 19 #[.string ⟨L.toArray⟩] W (PoOut N E F W)) ∧ (∀ W, Calls Tryd.prog 20 #[.string ⟨L.toArray⟩] W (PoOut N E F W)) := by
  by_cases h0 : L = []
  · subst h0
    exact ⟨0, 0, fun _ => zD, fun W _ => (pover_nil W).mono fun e w' ⟨h1, h2⟩ => po_nil h1 (by rw [h2]; exact Ext.refl _), fun W => (rpover_nil W).mono fun e w' ⟨h1, h2⟩ => po_nil h1 (by rw [h2]; exact Ext.refl _)⟩
  · by_cases hg : ∀ j, j < (wd L).length → paE ((wd L).getD j []) = 0
    · refine ⟨(wd L).length, 0, fun j => paD ((wd L).getD j []), fun W hW => (pover_any L h0 (by omega) W hW).mono fun e w' h => ?_, fun W => (rpover_any L h0 (by omega) W).mono fun e w' h => ?_⟩
      · obtain ⟨hx, ⟨⟨j, hj, hb⟩, _⟩ | ⟨_, A0, c, b, h1, h2⟩⟩ := h
        · exact absurd (hg j hj) hb
        · exact ⟨hx, A0, c, b, h1, h2⟩
      · obtain ⟨hx, ⟨⟨j, hj, hb⟩, _⟩ | ⟨_, A0, c, b, h1, h2⟩⟩ := h
        · exact absurd (hg j hj) hb
        · exact ⟨hx, A0, c, b, h1, h2⟩
    · refine ⟨0, 4, fun _ => zD, fun W hW => (pover_any L h0 (by omega) W hW).mono fun e w' h => ?_, fun W => (rpover_any L h0 (by omega) W).mono fun e w' h => ?_⟩
      · obtain ⟨hx, ⟨_, h1⟩ | ⟨h2, _⟩⟩ := h
        · exact po_nil h1 hx
        · exact absurd h2 hg
      · obtain ⟨hx, ⟨_, h1⟩ | ⟨h2, _⟩⟩ := h
        · exact po_nil h1 hx
        · exact absurd h2 hg
theorem ovE_zero (f : Nat → Dl) : ∀ n k, ovE f n k = 0 → ∀ j, j < n → ckD (f (k + j)) = 0
  | n + 1, k, h, j, hj => by
    unfold ovE at h
    split at h
    · rename_i hk
      cases j with
      | zero => exact hk
      | succ j =>
        have := ovE_zero f n (k + 1) h j (by omega)
        rwa [show k + (j + 1) = k + 1 + j by omega]
    · rename_i hk; exact absurd h hk
theorem sym_ne {d : Dl} (hk : d.Ok) : symD d ≠ [] := by
  intro h
  have h1 := read_back hk
  rw [h] at h1
  rw [← h1] at h
  exact absurd h (by decide)
theorem jnTo_ne (g : Nat → List UInt8) : ∀ k, g 0 ≠ [] → jnTo g k ≠ []
  | 0, h => h
  | k + 1, _ => by simp [jnTo]
theorem po_back (f : Nat → Dl) (m : Nat) (hm : m ≤ 12) (hov : ovE f m 0 = 0) (hw : ∀ i, i < m → (f i).Wf) : ∃ F : Nat → Dl, (∀ j, j < m → F j = f j) ∧ (∀ W, SX W → Calls Tryd.prog 19 #[.string ⟨(jnL m (ovG f)).toArray⟩] W (PoOut m 0 F W)) ∧ (jnL m (ovG f)).length ≤ 2000 ∧ (0 < m → Lib.countB ⟨(jnL m (ovG f)).toArray⟩ ⟨#[32]⟩ + 1 = m) := by
  have hck : ∀ j, j < m → ckD (f j) = 0 := fun j hj => by have := ovE_zero f m 0 hov j hj; rwa [Nat.zero_add] at this
  have hok : ∀ j, j < m → (f j).Ok := fun j hj => ck_ok (hck j hj) (hw j hj)
  rcases Nat.eq_zero_or_pos m with rfl | hp
  · exact ⟨f, fun _ _ => rfl, fun W _ => (pover_nil W).mono fun e w' ⟨h1, h2⟩ => po_nil h1 (by rw [h2]; exact Ext.refl _), by simp [jnL], fun h => absurd h (by omega)⟩
  · obtain ⟨k, rfl⟩ : ∃ k, m = k + 1 := ⟨m - 1, by omega⟩
    have hS : jnL (k + 1) (ovG f) = jnTo (ovG f) k := by unfold jnL; rw [if_neg (by omega)]; rfl
    have hne : jnTo (ovG f) k ≠ [] := jnTo_ne _ k (sym_ne (hok 0 (by omega)))
    have hwd : wd (jnTo (ovG f) k) = (List.range (k + 1)).map (ovG f) := wd_join _ k (fun j hj => sym_nb (hok j (by omega)))
    have hlen : (jnTo (ovG f) k).length ≤ (k + 1) * 101 := jnTo_len (ovG f) 100 k (fun j hj => sym_len (hok j (by omega)))
    have hl : (jnTo (ovG f) k).length ≤ 2000 := Nat.le_trans hlen (by omega)
    have hn : (wd (jnTo (ovG f) k)).length = k + 1 := by rw [hwd]; simp
    have hg : ∀ j, j < k + 1 → (wd (jnTo (ovG f) k)).getD j [] = symD (f j) := fun j hj => by
      rw [hwd, List.getD_eq_getElem?_getD, List.getElem?_map, List.getElem?_range hj]
      rfl
    have hpa : ∀ j, j < k + 1 → paD (symD (f j)) = f j ∧ paE (symD (f j)) = 0 := fun j hj => by
      obtain ⟨h1, h2, _⟩ := pa_back (hw j hj) (hck j hj)
      have e : prS (f j) = symD (f j) := by rw [prS, if_pos (hck j hj)]
      rw [e] at h1 h2
      exact ⟨h1, h2⟩
    have hct := (wd_split _ (jnTo (ovG f) k) (Nat.le_refl _)).2
    rw [hS]
    refine ⟨fun j => paD ((wd (jnTo (ovG f) k)).getD j []), fun j hj => by dsimp only; rw [hg j hj]; exact (hpa j hj).1, fun W hW => (pover_any _ hne hl W hW).mono fun e w' h => ?_, hl, fun _ => by rw [hct, hn]⟩
    rw [hn] at h
    obtain ⟨hx, ⟨⟨j, hj, hb⟩, _⟩ | ⟨_, A0, c, b, h1, h2⟩⟩ := h
    · exact absurd (by dsimp only; rw [hg j hj]; exact (hpa j hj).2) hb
    · exact ⟨hx, A0, c, b, h1, h2⟩

set_option maxHeartbeats 16000000 in
theorem notationOvers_any (A0 : Option Addr) (n C : Nat) (f : Nat → Dl) (b off : Nat) (hC : n ≤ C) (hN : A0 = none → C = 0) (s : ByteArray) (hsz : s.size ≤ 9223372036854775807) (w : World) (T : DlsAt w A0 n f b off) (hX : SX w) : Calls Tryd.prog 7 #[.slice A0 n C, .string s] w fun e w' => e = .returned (.bool true) ∧ Ext w w' := by
  have HX := Lib.hid hX
  clear hX
  obtain ⟨m, hm⟩ : ∃ m, m = min n 12 := ⟨_, rfl⟩
  have hm12 : m ≤ 12 := by omega
  have hT' := T.cut (show m ≤ n by omega)
  have HT := Lib.hid hT'
  have HFEW : Hid (∀ W, Calls Tryd.prog 16 #[.slice A0 n C] W fun e w' => e = .returned (.slice A0 m C) ∧ w' = W) := fun W => few_any A0 n C hC hN T.nle m hm W
  have HO1 : Hid (∀ W, Ext w W → Calls Tryd.prog 17 #[.slice A0 m C] W fun e w' => e = .returned (.tuple #[.string ⟨(ovS m f).toArray⟩, .int .i64 (ovE f m 0)]) ∧ Ext W w') := fun W x => over_any A0 m C f b off W (HT.out.ext x) hm12 (HX.out.1.ext x)
  have HO2 : Hid (∀ W, Ext w W → Calls Tryd.prog 18 #[.slice A0 m C] W fun e w' => e = .returned (.tuple #[.string ⟨(ovS m f).toArray⟩, .int .i64 (ovE f m 0)]) ∧ Ext W w') := fun W x => rover_any A0 m C f b off W (HT.out.ext x) hm12
  obtain ⟨L, hL, hex⟩ := cut_str s 100
  obtain ⟨ms, hms⟩ : ∃ ms, min s.size 100 = ms := ⟨_, rfl⟩
  have hmi : min (s.size : Int) 100 = (ms : Int) := by omega
  have hm1 : ms ≤ s.size := by omega
  have hm2 : ms ≤ 100 := by omega
  rw [hms] at hex
  obtain ⟨N, Er, F, hP1, hP2⟩ := po_all L (by omega)
  have HP1 := Lib.hid hP1
  have HP2 := Lib.hid hP2
  obtain ⟨S, hS⟩ : ∃ S, ovS m f = S := ⟨_, rfl⟩
  obtain ⟨E, hE⟩ : ∃ E, ovE f m 0 = E := ⟨_, rfl⟩
  rw [hS, hE] at HO1 HO2
  clear hP1 hP2 hS hE hm hms hT' T hN hC hm12
  go_enter Tryd.func7, Tryd.ntmps7
  go_wp2_with (first | ((fail_if_success (have hzz := hb1)); go_at_call 9; refine (awake_any _ (HX.out.1.ext (by repeat (first | exact Ext.refl _ | refine Ext.setCell ?_ (by first | exact Nat.le_refl _ | (simp; done) | (simp; omega)) _ | refine Ext.drew ?_ | refine Ext.drewN ?_ _ | refine Ext.alloc ?_ _)))).mono ?_; rintro e w1 ⟨rfl, hb1⟩) | (go_at_call 16; refine (HFEW.out _).mono ?_; rintro e w' ⟨rfl, hw'⟩; obtain rfl := hw'.symm) | ((fail_if_success (have hzz := hb2)); go_at_call 17; refine (HO1.out _ (by repeat (first | exact Ext.refl _ | refine Ext.setCell ?_ (by first | exact Nat.le_refl _ | (simp; done) | (simp; omega)) _ | refine Ext.drew ?_ | refine Ext.drewN ?_ _ | refine Ext.alloc ?_ _ | refine Ext.trans ?_ hb1))).mono ?_; rintro e w2 ⟨rfl, hb2⟩) | ((fail_if_success (have hzz := hb3)); go_at_call 18; refine (HO2.out _ (by repeat (first | exact Ext.refl _ | refine Ext.setCell ?_ (by first | exact Nat.le_refl _ | (simp; done) | (simp; omega)) _ | refine Ext.drew ?_ | refine Ext.drewN ?_ _ | refine Ext.alloc ?_ _ | refine Ext.trans ?_ hb2 | refine Ext.trans ?_ hb1))).mono ?_; rintro e w3 ⟨rfl, hb3⟩) | ((fail_if_success (have hzz := hb4)); go_at_call 19; refine (HP1.out _ (HX.out.ext (by repeat (first | exact Ext.refl _ | refine Ext.setCell ?_ (by first | exact Nat.le_refl _ | (simp; done) | (simp; omega)) _ | refine Ext.drew ?_ | refine Ext.drewN ?_ _ | refine Ext.alloc ?_ _ | refine Ext.trans ?_ hb3 | refine Ext.trans ?_ hb2 | refine Ext.trans ?_ hb1)))).mono ?_; rintro e w4 ⟨hb4, A4, c4, b4, rfl, hT4⟩; have HT4 := Lib.hid hT4; clear hT4) | ((fail_if_success (have hzz := hb5)); go_at_call 20; refine (HP2.out _).mono ?_; rintro e w5 ⟨hb5, A5, c5, b5, rfl, hT5⟩; have HT5 := Lib.hid hT5; clear hT5) | (go_at_call 21; refine (same_any A4 A5 N c4 c5 F F b4 0 b5 0 _ (HT4.out.ext hb5) HT5.out (fun _ _ => rfl)).mono ?_; rintro e w6 ⟨rfl, hb6⟩))
  go_ret
  exact ⟨retb (by first | rfl | (simp; done)), (by repeat (first | exact Ext.refl _ | refine Ext.setCell ?_ (by first | exact Nat.le_refl _ | (simp; done) | (simp; omega)) _ | refine Ext.drew ?_ | refine Ext.drewN ?_ _ | refine Ext.alloc ?_ _ | refine Ext.trans ?_ hb6 | refine Ext.trans ?_ hb5 | refine Ext.trans ?_ hb4 | refine Ext.trans ?_ hb3 | refine Ext.trans ?_ hb2 | refine Ext.trans ?_ hb1))⟩

set_option maxHeartbeats 16000000 in
theorem notationJoins_any (A0 : Option Addr) (n C : Nat) (f : Nat → Dl) (b off : Nat) (hC : n ≤ C) (hN : A0 = none → C = 0) (w : World) (T : DlsAt w A0 n f b off) (hX : SX w) : Calls Tryd.prog 8 #[.slice A0 n C] w fun e w' => e = .returned (.bool true) ∧ Ext w w' := by
  have HX := Lib.hid hX
  clear hX
  obtain ⟨m, hm⟩ : ∃ m, m = min n 12 := ⟨_, rfl⟩
  have hm12 : m ≤ 12 := by omega
  have hT' := T.cut (show m ≤ n by omega)
  have HT := Lib.hid hT'
  have HFEW : Hid (∀ W, Calls Tryd.prog 16 #[.slice A0 n C] W fun e w' => e = .returned (.slice A0 m C) ∧ w' = W) := fun W => few_any A0 n C hC hN T.nle m hm W
  have HO1 : Hid (∀ W, Ext w W → Calls Tryd.prog 17 #[.slice A0 m C] W fun e w' => e = .returned (.tuple #[.string ⟨(ovS m f).toArray⟩, .int .i64 (ovE f m 0)]) ∧ Ext W w') := fun W x => over_any A0 m C f b off W (HT.out.ext x) hm12 (HX.out.1.ext x)
  have HO2 : Hid (∀ W, Ext w W → Calls Tryd.prog 18 #[.slice A0 m C] W fun e w' => e = .returned (.tuple #[.string ⟨(ovS m f).toArray⟩, .int .i64 (ovE f m 0)]) ∧ Ext W w') := fun W x => rover_any A0 m C f b off W (HT.out.ext x) hm12
  by_cases hov : ovE f m 0 = 0
  · obtain ⟨F, hF, hP, hlen, hct⟩ := po_back f m hm12 hov hT'.wf
    have HP := Lib.hid hP
    have HFF := Lib.hid hF
    have hS : ovS m f = jnL m (ovG f) := by unfold ovS; rw [if_pos hov]
    rw [hS, hov] at HO1
    obtain ⟨S, hSe⟩ : ∃ S, jnL m (ovG f) = S := ⟨_, rfl⟩
    rw [hSe] at HO1 HP hlen hct
    have HCT : Hid (0 < m → ∀ W, SX W → Calls Tryd.prog 22 #[.string ⟨S.toArray⟩, .string ⟨#[32]⟩] W fun e w' => e = .returned (.int .i64 ((m : Int) - 1)) ∧ w' = W) := fun h W hW => by
      obtain ⟨mm, hmm⟩ := hW.2
      refine (Tryd.strings_Count_any ⟨S.toArray⟩ ⟨#[32]⟩ mm W (by simp [ByteArray.size]; omega) hmm (by decide)).mono fun e w' ⟨h1, h2⟩ => ⟨?_, h2⟩
      have := hct h
      rw [h1, show ((Lib.countB ⟨S.toArray⟩ ⟨#[32]⟩ : Nat) : Int) = (m : Int) - 1 by omega]
    have HM12 := Lib.hid hm12
    clear hP hF hS hSe hov hct hm hT' hN hC hlen
    have SAME := fun (A : Option Addr) (c : Nat) (bb : Nat) (W : World) (T1 : DlsAt W A m F bb 0) (x : Ext w W) => same_any A A0 m c C F f bb 0 b off W T1 (HT.out.ext x) (fun i hi => (HFF.out i hi).symm)
    have HSM := Lib.hid SAME
    clear SAME T
    rcases Nat.eq_zero_or_pos m with h0 | h0
    · have h0' : ((m : Nat) : Int) = 0 := by omega
      have h0'' : (((m : Nat) : Int) == 0) = true := by simpa using h0'
      clear HCT h0 h0' hm12
      go_enter Tryd.func8, Tryd.ntmps8
      go_wp2_with (first | ((fail_if_success (have hzz := hb1)); go_at_call 9; refine (awake_any _ (HX.out.1.ext (by repeat (first | exact Ext.refl _ | refine Ext.setCell ?_ (by first | exact Nat.le_refl _ | (simp; done) | (simp; omega)) _ | refine Ext.drew ?_ | refine Ext.drewN ?_ _ | refine Ext.alloc ?_ _)))).mono ?_; rintro e w1 ⟨rfl, hb1⟩) | (go_at_call 16; refine (HFEW.out _).mono ?_; rintro e w' ⟨rfl, hw'⟩; obtain rfl := hw'.symm) | ((fail_if_success (have hzz := hb2)); go_at_call 17; refine (HO1.out _ (by repeat (first | exact Ext.refl _ | refine Ext.setCell ?_ (by first | exact Nat.le_refl _ | (simp; done) | (simp; omega)) _ | refine Ext.drew ?_ | refine Ext.drewN ?_ _ | refine Ext.alloc ?_ _ | refine Ext.trans ?_ hb1))).mono ?_; rintro e w2 ⟨rfl, hb2⟩) | ((fail_if_success (have hzz := hb3)); go_at_call 19; refine (HP.out _ (HX.out.ext (by repeat (first | exact Ext.refl _ | refine Ext.setCell ?_ (by first | exact Nat.le_refl _ | (simp; done) | (simp; omega)) _ | refine Ext.drew ?_ | refine Ext.drewN ?_ _ | refine Ext.alloc ?_ _ | refine Ext.trans ?_ hb2 | refine Ext.trans ?_ hb1)))).mono ?_; rintro e w3 ⟨hb3, A3, c3, b3, rfl, hT3⟩; have HT3 := Lib.hid hT3; clear hT3) | ((fail_if_success (have hzz := hb4)); go_at_call 21; refine (HSM.out _ _ _ _ HT3.out (by repeat (first | exact Ext.refl _ | refine Ext.setCell ?_ (by first | exact Nat.le_refl _ | (simp; done) | (simp; omega)) _ | refine Ext.drew ?_ | refine Ext.drewN ?_ _ | refine Ext.alloc ?_ _ | refine Ext.trans ?_ hb3 | refine Ext.trans ?_ hb2 | refine Ext.trans ?_ hb1))).mono ?_; rintro e w4 ⟨rfl, hb4⟩))
      go_ret
      exact ⟨retb (by first | rfl | (simp; done)), (by repeat (first | exact Ext.refl _ | refine Ext.setCell ?_ (by first | exact Nat.le_refl _ | (simp; done) | (simp; omega)) _ | refine Ext.drew ?_ | refine Ext.drewN ?_ _ | refine Ext.alloc ?_ _ | refine Ext.trans ?_ hb4 | refine Ext.trans ?_ hb3 | refine Ext.trans ?_ hb2 | refine Ext.trans ?_ hb1))⟩
    · have HC2 := Lib.hid (HCT.out h0)
      have h0' : (((m : Nat) : Int) == 0) = false := by simp; omega
      have hm1 : IntKind.i64.wrap ((m : Int) - 1) = (m : Int) - 1 := by rw [IntKind.wrap_i64]; omega
      clear HCT h0
      go_enter Tryd.func8, Tryd.ntmps8
      go_wp2_with (first | ((fail_if_success (have hzz := hb1)); go_at_call 9; refine (awake_any _ (HX.out.1.ext (by repeat (first | exact Ext.refl _ | refine Ext.setCell ?_ (by first | exact Nat.le_refl _ | (simp; done) | (simp; omega)) _ | refine Ext.drew ?_ | refine Ext.drewN ?_ _ | refine Ext.alloc ?_ _)))).mono ?_; rintro e w1 ⟨rfl, hb1⟩) | (go_at_call 16; refine (HFEW.out _).mono ?_; rintro e w' ⟨rfl, hw'⟩; obtain rfl := hw'.symm) | ((fail_if_success (have hzz := hb2)); go_at_call 17; refine (HO1.out _ (by repeat (first | exact Ext.refl _ | refine Ext.setCell ?_ (by first | exact Nat.le_refl _ | (simp; done) | (simp; omega)) _ | refine Ext.drew ?_ | refine Ext.drewN ?_ _ | refine Ext.alloc ?_ _ | refine Ext.trans ?_ hb1))).mono ?_; rintro e w2 ⟨rfl, hb2⟩) | ((fail_if_success (have hzz := hb3)); go_at_call 19; refine (HP.out _ (HX.out.ext (by repeat (first | exact Ext.refl _ | refine Ext.setCell ?_ (by first | exact Nat.le_refl _ | (simp; done) | (simp; omega)) _ | refine Ext.drew ?_ | refine Ext.drewN ?_ _ | refine Ext.alloc ?_ _ | refine Ext.trans ?_ hb2 | refine Ext.trans ?_ hb1)))).mono ?_; rintro e w3 ⟨hb3, A3, c3, b3, rfl, hT3⟩; have HT3 := Lib.hid hT3; clear hT3) | ((fail_if_success (have hzz := hb4)); go_at_call 21; refine (HSM.out _ _ _ _ HT3.out (by repeat (first | exact Ext.refl _ | refine Ext.setCell ?_ (by first | exact Nat.le_refl _ | (simp; done) | (simp; omega)) _ | refine Ext.drew ?_ | refine Ext.drewN ?_ _ | refine Ext.alloc ?_ _ | refine Ext.trans ?_ hb3 | refine Ext.trans ?_ hb2 | refine Ext.trans ?_ hb1))).mono ?_; rintro e w4 ⟨rfl, hb4⟩) | (go_at_call 22; refine (HC2.out _ (HX.out.ext (by repeat (first | exact Ext.refl _ | refine Ext.setCell ?_ (by first | exact Nat.le_refl _ | (simp; done) | (simp; omega)) _ | refine Ext.drew ?_ | refine Ext.drewN ?_ _ | refine Ext.alloc ?_ _ | refine Ext.trans ?_ hb4 | refine Ext.trans ?_ hb3 | refine Ext.trans ?_ hb2 | refine Ext.trans ?_ hb1)))).mono ?_; rintro e w' ⟨rfl, hw'⟩; obtain rfl := hw'.symm))
      go_ret
      exact ⟨retb (by first | rfl | (simp; done)), (by repeat (first | exact Ext.refl _ | refine Ext.setCell ?_ (by first | exact Nat.le_refl _ | (simp; done) | (simp; omega)) _ | refine Ext.drew ?_ | refine Ext.drewN ?_ _ | refine Ext.alloc ?_ _ | refine Ext.trans ?_ hb4 | refine Ext.trans ?_ hb3 | refine Ext.trans ?_ hb2 | refine Ext.trans ?_ hb1))⟩
  · have hS : ovS m f = [] := by unfold ovS; rw [if_neg hov]
    obtain ⟨Er, hE⟩ : ∃ E, ovE f m 0 = E := ⟨_, rfl⟩
    rw [hS, hE] at HO1
    rw [hE] at hov
    have he : (Er != 0) = true := by simpa using hov
    clear hS hE hov hm hT' T hN hC hm12
    go_enter Tryd.func8, Tryd.ntmps8
    go_wp2_with (first | ((fail_if_success (have hzz := hb1)); go_at_call 9; refine (awake_any _ (HX.out.1.ext (by repeat (first | exact Ext.refl _ | refine Ext.setCell ?_ (by first | exact Nat.le_refl _ | (simp; done) | (simp; omega)) _ | refine Ext.drew ?_ | refine Ext.drewN ?_ _ | refine Ext.alloc ?_ _)))).mono ?_; rintro e w1 ⟨rfl, hb1⟩) | (go_at_call 16; refine (HFEW.out _).mono ?_; rintro e w' ⟨rfl, hw'⟩; obtain rfl := hw'.symm) | ((fail_if_success (have hzz := hb2)); go_at_call 17; refine (HO1.out _ (by repeat (first | exact Ext.refl _ | refine Ext.setCell ?_ (by first | exact Nat.le_refl _ | (simp; done) | (simp; omega)) _ | refine Ext.drew ?_ | refine Ext.drewN ?_ _ | refine Ext.alloc ?_ _ | refine Ext.trans ?_ hb1))).mono ?_; rintro e w2 ⟨rfl, hb2⟩))
    go_ret
    exact ⟨retb (by first | rfl | (simp; done)), (by repeat (first | exact Ext.refl _ | refine Ext.setCell ?_ (by first | exact Nat.le_refl _ | (simp; done) | (simp; omega)) _ | refine Ext.drew ?_ | refine Ext.drewN ?_ _ | refine Ext.alloc ?_ _ | refine Ext.trans ?_ hb2 | refine Ext.trans ?_ hb1))⟩

end Go.Proofs.YtpgacpkcchajmaaDoor

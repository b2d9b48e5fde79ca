/-
  The laws SlowParts, SlowCuts and SlowRates, walked.
-/
import Derived.Test.YtgokaonikdmnfaaSlowG
namespace Go.Proofs.Ytgokaonikdmnfaa
open Go.RowKit

/-- What away does when the minutes come in two parts. -/
theorem away_parts {p a b : Int} (hp : 60 ≤ p) (ha : 0 ≤ a) (hb : 0 ≤ b) : away p (a + b) ≤ away p a + away p b ∧ away p a + away p b ≤ away p (a + b) + 1 ∧ away p a ≤ away p (a + b) := by
  obtain ⟨a1, a2⟩ := away_spec hp ha
  obtain ⟨b1, b2⟩ := away_spec hp hb
  obtain ⟨c1, c2⟩ := away_spec (p := p) (l := a + b) hp (by omega)
  generalize away p a = A at *
  generalize away p b = B at *
  generalize away p (a + b) = C at *
  have lt_of (x y : Int) (h : x * p < y * p) : x < y := Int.lt_of_mul_lt_mul_right h (by omega)
  refine ⟨?_, ?_, ?_⟩
  · have : C - 1 < A + B := lt_of _ _ (by rw [Int.add_mul]; omega)
    omega
  · have : (A - 1) + (B - 1) < C := lt_of _ _ (by rw [Int.add_mul]; omega)
    omega
  · have : A - 1 < C := lt_of _ _ (by omega)
    omega
/-- The three cuts of the law SlowParts, case by case: what each gives, and that the law's answer is true. -/
def PartsCase (o p s l0 l1 : Int) (a e b f c g : Int) : Prop :=
  (cutV o p s 1 = a ∧ cutE o p s 1 = e) ∧ (cutV o p l0 1 = b ∧ cutE o p l0 1 = f) ∧ (cutV b p l1 1 = c ∧ cutE b p l1 1 = g)
theorem parts_cases {o p l0 l1 : Int} (h0 : 0 ≤ l0) (h1 : l0 ≤ 600) (h2 : 0 ≤ l1) (h3 : l0 + l1 ≤ 600) :
    (∃ c g, PartsCase o p (l0 + l1) l0 l1 0 2 0 2 c g) ∨ (∃ c g, PartsCase o p (l0 + l1) l0 l1 0 6 0 6 c g) ∨
    (∃ b, PartsCase o p (l0 + l1) l0 l1 0 6 b 0 0 6) ∨ (∃ b, PartsCase o p (l0 + l1) l0 l1 1 0 b 0 0 6) ∨
    (∃ a b c, c ≤ a ∧ a ≤ c + 1 ∧ 0 ≤ c ∧ a ≤ 90 ∧ PartsCase o p (l0 + l1) l0 l1 a 0 b 0 c 0) := by
  have r0 : rng l0 0 600 = true := rng_mk h0 h1
  have r1 : rng l1 0 600 = true := rng_mk h2 (by omega)
  have r2 : rng (l0 + l1) 0 600 = true := rng_mk (by omega) h3
  by_cases hok : okC o p l0 1 = true
  · have hok2 : okC o p (l0 + l1) 1 = true := by simp only [okC, r0, r2] at hok ⊢; exact hok
    have hp : rng p 60 1000 = true ∧ rng o 1 90 = true := by simp [okC] at hok; simp [hok]
    obtain ⟨p1, p2⟩ := rng_yes hp.1
    obtain ⟨o1, o2⟩ := rng_yes hp.2
    obtain ⟨a1, a2, a3⟩ := away_parts p1 h0 h2
    obtain ⟨d1, d2⟩ := away_bd p1 h0 h1
    obtain ⟨d3, d4⟩ := away_bd (l := l1) p1 h2 (by omega)
    by_cases hb : 1 ≤ o - away p l0
    · have hok3 : okC (o - away p l0) p l1 1 = true := by
        simp only [okC, r1, hp.1, rng_mk hb (show o - away p l0 ≤ 90 by omega), rng_mk (Int.le_refl 1) hb]; rfl
      by_cases hc : 1 ≤ o - away p l0 - away p l1
      · exact .inr (.inr (.inr (.inr ⟨o - away p (l0 + l1), _, _, by omega, by omega, by omega, by omega, cut_yes hok2 (by omega), cut_yes hok hb, cut_yes hok3 hc⟩)))
      · by_cases ha : 1 ≤ o - away p (l0 + l1)
        · refine .inr (.inr (.inr (.inl ⟨_, ⟨?_, (cut_yes hok2 ha).2⟩, cut_yes hok hb, cut_none hok3 hc⟩)))
          rw [(cut_yes hok2 ha).1]; omega
        · exact .inr (.inr (.inl ⟨_, cut_none hok2 ha, cut_yes hok hb, cut_none hok3 hc⟩))
    · exact .inr (.inl ⟨_, _, cut_none hok2 (by omega), cut_none hok hb, rfl, rfl⟩)
  · have hok1 : okC o p l0 1 = false := by simpa using hok
    have hok2 : okC o p (l0 + l1) 1 = false := by simp only [okC, r0, r2] at hok1 ⊢; exact hok1
    exact .inl ⟨_, _, cut_no hok2, cut_no hok1, rfl, rfl⟩

set_option maxHeartbeats 2000000 in
theorem slowParts_in (o p l0 l1 : Int) (h0 : 0 ≤ l0) (h1 : l0 ≤ 600) (h2 : 0 ≤ l1) (h3 : l0 + l1 ≤ 600) (w : World) :
    Calls Try.prog 7 #[.int .i64 o, .int .i64 p, .agg #[.int .i64 l0, .int .i64 l1]] w fun e w' => e = .returned (.bool true) ∧ Ext w w' := by
  rcases parts_cases (o := o) (p := p) h0 h1 h2 h3 with ⟨c, g, H1, H2, H3⟩ | ⟨c, g, H1, H2, H3⟩ | ⟨b, H1, H2, H3⟩ | ⟨b, H1, H2, H3⟩ | ⟨a, b, c, k1, k2, k3, k4, H1, H2, H3⟩
  all_goals
      replace H1 := Lib.hid H1
      replace H2 := Lib.hid H2
      replace H3 := Lib.hid H3
      go_enter Try.func7, Try.ntmps7
      go_wp2_with (first | (go_at_call 10; refine (awake_any _).mono ?_; rintro e w1 ⟨rfl, hE⟩; obtain ⟨hcell, hfr⟩ := hE.cells) | (go_at_call 20; refine (cut_any _ _ _ _ _).mono ?_; rintro e w' ⟨rfl, hb⟩; (first | (replace hE := hE.trans hb) | (replace hE := hE.drew.trans hb)); clear hb hcell hfr; obtain ⟨hcell, hfr⟩ := hE.cells; (first | rw [H1.out.1, H1.out.2] | rw [H2.out.1, H2.out.2] | rw [H3.out.1, H3.out.2])))
      go_ret
      exact ⟨retb (by first | rfl | (simp; done) | (simp; omega)), ((Ext.refl _).alloc _).trans hE⟩

set_option maxHeartbeats 2000000 in
theorem slowParts_any (o p l0 l1 : Int) (_w0 : -9223372036854775808 ≤ l0 ∧ l0 ≤ 9223372036854775807) (_w1 : -9223372036854775808 ≤ l1 ∧ l1 ≤ 9223372036854775807) (w : World) :
    Calls Try.prog 7 #[.int .i64 o, .int .i64 p, .agg #[.int .i64 l0, .int .i64 l1]] w fun e w' => e = .returned (.bool true) ∧ Ext w w' := by
  by_cases h : 0 ≤ l0 ∧ l0 ≤ 600 ∧ 0 ≤ l1
  · obtain ⟨h0, h1, h2⟩ := h
    by_cases h3 : l0 + l1 ≤ 600
    · exact slowParts_in o p l0 l1 h0 h1 h2 h3 w
    · by_cases h4 : l0 + l1 ≤ 9223372036854775807
      · go_enter Try.func7, Try.ntmps7
        go_wp2_with (go_at_call 10; refine (awake_any _).mono ?_; rintro e w1 ⟨rfl, hE⟩; obtain ⟨hcell, hfr⟩ := hE.cells)
        go_ret
        exact ⟨rfl, ((Ext.refl _).alloc _).trans hE⟩
      · have hw : wrap64 (l0 + l1) = l0 + l1 - 18446744073709551616 := by unfold wrap64; omega
        have hs : wrap64 (l0 + l1) < 0 := by omega
        have r2 : rng (wrap64 (l0 + l1)) 0 600 = false := by simp [rng]; omega
        have r1 : rng l1 0 600 = false := by simp [rng]; omega
        clear hw
        generalize hS : wrap64 (l0 + l1) = S at *
        have H1 := Lib.hid (@cut_no o p S 1 (by simp [okC, r2]))
        have H3 := Lib.hid (@cut_no (cutV o p l0 1) p l1 1 (by simp [okC, r1]))
        have hE0 : cutE o p l0 1 = 0 ∨ cutE o p l0 1 = 2 ∨ cutE o p l0 1 = 6 := by unfold cutE; split <;> (try split) <;> simp
        clear h3 h4 r1 r2
        rcases hE0 with h5 | h5 | h5
        all_goals
          have H2 := Lib.hid h5
          clear h5
          go_enter Try.func7, Try.ntmps7
          go_wp2_with (first | (go_at_call 10; refine (awake_any _).mono ?_; rintro e w1 ⟨rfl, hE⟩; obtain ⟨hcell, hfr⟩ := hE.cells) | (go_at_call 20; refine (cut_any _ _ _ _ _).mono ?_; rintro e w' ⟨rfl, hb⟩; (first | (replace hE := hE.trans hb) | (replace hE := hE.drew.trans hb)); clear hb hcell hfr; obtain ⟨hcell, hfr⟩ := hE.cells; (first | rw [H1.out.1, H1.out.2] | rw [H3.out.1, H3.out.2] | rw [H2.out])))
          go_ret
          exact ⟨rfl, ((Ext.refl _).alloc _).trans hE⟩
  · have hc : l0 < 0 ∨ (0 ≤ l0 ∧ 600 < l0) ∨ (0 ≤ l0 ∧ l0 ≤ 600 ∧ l1 < 0) := by omega
    clear h
    rcases hc with h | ⟨h, h'⟩ | ⟨h, h', h''⟩
    all_goals
      go_enter Try.func7, Try.ntmps7
      go_wp2_with (go_at_call 10; refine (awake_any _).mono ?_; rintro e w1 ⟨rfl, hE⟩; obtain ⟨hcell, hfr⟩ := hE.cells)
      go_ret
      exact ⟨rfl, ((Ext.refl _).alloc _).trans hE⟩

end Go.Proofs.Ytgokaonikdmnfaa

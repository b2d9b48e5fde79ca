/-
  Plain numbers of layer 31: what Check accepts, the lowest observation, mirrored and shifted lists.
-/
import Derived.Test.YtaeblcgblmipaaaDoorCamC
namespace Go.Proofs.YtaeblcgblmipaaaDoor
open Go.RowKit
set_option linter.unusedSimpArgs false

theorem ckGo_ok (f : Nat → Nat → Int) : ∀ m k, (ckGo f m k).2 = 0 ↔ ∀ i, k ≤ i → i < k + m → seenR f i = true ∧ seenO f i = true
  | 0, k => by simp [ckGo]; omega
  | m + 1, k => by
    unfold ckGo
    by_cases h1 : seenR f k = true
    · by_cases h2 : seenO f k = true
      · rw [if_pos h1, if_pos h2, ckGo_ok f m (k + 1)]
        constructor
        · intro h i hi hlt
          rcases Nat.eq_or_lt_of_le hi with rfl | h'
          · exact ⟨h1, h2⟩
          · exact h i h' (by omega)
        · intro h i hi hlt
          exact h i (by omega) (by omega)
      · rw [if_pos h1, if_neg h2]
        constructor
        · intro h; simp at h
        · intro h; exact absurd (h k (Nat.le_refl _) (by omega)).2 h2
    · rw [if_neg h1]
      constructor
      · intro h; simp at h
      · intro h; exact absurd (h k (Nat.le_refl _) (by omega)).1 h1
theorem ck_iff {n : Nat} {f : Nat → Nat → Int} : ckE n f = 0 ↔ n ≤ 64 ∧ ∀ i, i < n → seenR f i = true ∧ seenO f i = true := by
  by_cases hn : 64 < n
  · rw [(ck_big hn).2]
    constructor
    · intro h; simp at h
    · intro h; omega
  · rw [(ck_small hn).2, ckGo_ok]
    constructor
    · intro h; exact ⟨by omega, fun i hi => h i (Nat.zero_le _) (by omega)⟩
    · intro h i _ hi; exact h.2 i (by omega)
theorem lowTo_min (f : Nat → Nat → Int) : ∀ m i, i < m → f (lowTo f m) 3 ≤ f i 3 ∧ (i < lowTo f m → f (lowTo f m) 3 < f i 3)
  | 0, i, h => by omega
  | m + 1, i, h => by
    unfold lowTo
    by_cases hc : f m 3 < f (lowTo f m) 3
    · rw [if_pos hc]
      rcases Nat.lt_or_ge i m with h' | h'
      · have := (lowTo_min f m i h').1
        exact ⟨by omega, fun _ => by omega⟩
      · obtain rfl : i = m := by omega
        exact ⟨Int.le_refl _, fun h => by omega⟩
    · rw [if_neg hc]
      rcases Nat.lt_or_ge i m with h' | h'
      · exact lowTo_min f m i h'
      · obtain rfl : i = m := by omega
        have := lowTo_le f i
        exact ⟨by omega, fun h => by omega⟩
theorem ck_from {n : Nat} {f : Nat → Nat → Int} (h : ckE n f = 0) (k : Nat) : ckE (n - k) (fun i j => f (i + k) j) = 0 := by
  obtain ⟨h1, h2⟩ := ck_iff.1 h
  refine ck_iff.2 ⟨by omega, fun i hi => ⟨?_, ?_⟩⟩
  · exact (h2 (i + k) (by omega)).1
  · have := (h2 (i + k) (by omega)).2
    simp only [seenO, decide_eq_true_eq] at this ⊢
    intro h0
    have := this (by omega)
    rwa [show i + k - 1 = i - 1 + k by omega] at this
theorem ckGo_congr {f g : Nat → Nat → Int} : ∀ m k, (∀ i, k ≤ i → i < k + m → seenR f i = seenR g i ∧ seenO f i = seenO g i) → ckGo f m k = ckGo g m k
  | 0, k, _ => rfl
  | m + 1, k, h => by
    unfold ckGo
    obtain ⟨h1, h2⟩ := h k (Nat.le_refl _) (by omega)
    rw [h1, h2, ckGo_congr m (k + 1) (fun i hi hlt => h i (by omega) (by omega))]
theorem ck_congr {n : Nat} {f g : Nat → Nat → Int} (h : ∀ i, i < n → seenR f i = seenR g i ∧ seenO f i = seenO g i) : ckE n f = ckE n g := by
  unfold ckE ckV
  rw [ckGo_congr n 0 (fun i _ hi => h i (by omega))]
theorem low_congr {f g : Nat → Nat → Int} : ∀ n, (∀ i, i < n → f i 3 = g i 3) → lowTo f n = lowTo g n
  | 0, _ => rfl
  | n + 1, h => by
    have h1 := low_congr n (fun i hi => h i (by omega))
    unfold lowTo
    rw [h1, h n (by omega)]
    rcases Nat.eq_zero_or_pos n with h0 | h0
    · subst h0; show (if g 0 3 < f 0 3 then 0 else 0) = (if g 0 3 < g 0 3 then 0 else 0); simp
    · rw [h (lowTo g n) (by have := lowTo_lt g n h0; omega)]
theorem bn_congr {n : Nat} {f g : Nat → Nat → Int} (h : ckE n f = ckE n g) (h3 : ∀ i, i < n → f i 3 = g i 3) : bnOk n f = bnOk n g ∧ bnK n f = bnK n g := by
  have hl := low_congr n h3
  have hk : bnOk n f = bnOk n g := by
    rcases Nat.eq_zero_or_pos n with h0 | h0
    · subst h0; rw [bn_zero, bn_zero]
    · unfold bnOk
      rw [h, hl, h3 (lowTo g n) (lowTo_lt g n h0)]
  exact ⟨hk, by unfold bnK; rw [hk, hl]⟩

/-- The sides of the pitch exchanged. -/
def ngw (x : Int) : Int := wrap64 (-x)
theorem ngw_val {x : Int} (h : -9223372036854775808 ≤ x ∧ x ≤ 9223372036854775807) : ngw x = if x = -9223372036854775808 then -9223372036854775808 else -x := by
  unfold ngw
  by_cases hx : x = -9223372036854775808
  · subst hx; unfold wrap64; decide
  · rw [if_neg hx, IntWalk.wrap64_in _ (by omega)]
theorem ngw_bd {x : Int} (h : -9223372036854775808 ≤ x ∧ x ≤ 9223372036854775807) : -9223372036854775808 ≤ ngw x ∧ ngw x ≤ 9223372036854775807 := by
  rw [ngw_val h]; split <;> omega
theorem ngw_ngw {x : Int} (h : -9223372036854775808 ≤ x ∧ x ≤ 9223372036854775807) : ngw (ngw x) = x := by
  rw [ngw_val (ngw_bd h), ngw_val h]
  split <;> split <;> omega
theorem ngw_rng {x : Int} (h : -9223372036854775808 ≤ x ∧ x ≤ 9223372036854775807) : rng (ngw x) (-50000) 50000 = rng x (-50000) 50000 := by
  rw [ngw_val h, Bool.eq_iff_iff]
  simp only [rng, Bool.and_eq_true, decide_eq_true_eq]
  split <;> omega
def miF (f : Nat → Nat → Int) : Nat → Nat → Int := fun i j => if j = 2 then ngw (f i 2) else f i j
/-- The first k observations turned, the others not yet. -/
def miTo (f : Nat → Nat → Int) (k : Nat) : Nat → Nat → Int := fun i j => if i < k ∧ j = 2 then ngw (f i 2) else f i j
theorem mi_swf {n : Nat} {f : Nat → Nat → Int} (h : SWf n f) : SWf n (miF f) := fun i j hi hj => by
  unfold miF
  split
  · exact ngw_bd (h i 2 hi (by decide))
  · exact h i j hi hj
theorem mi_mi {n : Nat} {f : Nat → Nat → Int} (h : SWf n f) : ∀ i j, i < n → j < 5 → miF (miF f) i j = f i j := fun i j hi hj => by
  show (if j = 2 then ngw (if (2 : Nat) = 2 then ngw (f i 2) else f i 2) else if j = 2 then ngw (f i 2) else f i j) = f i j
  by_cases hj2 : j = 2
  · subst hj2
    rw [if_pos rfl, if_pos rfl, ngw_ngw (h i 2 hi (by decide))]
  · rw [if_neg hj2, if_neg hj2]
theorem mi_ck {n : Nat} {f : Nat → Nat → Int} (h : SWf n f) : ckE n (miF f) = ckE n f := ck_congr (fun i hi => by
  refine ⟨?_, rfl⟩
  have := ngw_rng (h i 2 hi (by decide))
  show (rng (f i 0) 0 4000 && rng (f i 1) (-300000) 300000 && rng (ngw (f i 2)) (-50000) 50000 && rng (f i 3) 0 50000 && rng (f i 4) 1 1000) = _
  rw [this]; rfl)
theorem mi_bn {n : Nat} {f : Nat → Nat → Int} (h : SWf n f) : bnOk n (miF f) = bnOk n f ∧ bnK n (miF f) = bnK n f := bn_congr (mi_ck h) (fun _ _ => rfl)
theorem miTo_zero (f : Nat → Nat → Int) : miTo f 0 = f := by funext i j; simp [miTo]
theorem miTo_step (f : Nat → Nat → Int) (k : Nat) : updS (miTo f k) k 2 (ngw (f k 2)) = miTo f (k + 1) := by
  funext i j
  simp only [updS, miTo]
  by_cases h1 : i = k ∧ j = 2
  · obtain ⟨rfl, rfl⟩ := h1
    rw [if_pos ⟨rfl, rfl⟩, if_pos ⟨by omega, rfl⟩]
  · rw [if_neg h1]
    by_cases h2 : i < k ∧ j = 2
    · rw [if_pos h2, if_pos ⟨by omega, h2.2⟩]
    · rw [if_neg h2, if_neg (by omega)]
theorem miTo_all {n : Nat} (f : Nat → Nat → Int) : ∀ i j, i < n → j < 5 → miTo f n i j = miF f i j := fun i j hi _ => by
  unfold miTo miF
  by_cases h2 : j = 2
  · subst h2; simp [hi]
  · simp [h2]

/-- All times moved. -/
def shO (f : Nat → Nat → Int) (k : Int) (i : Nat) : Bool := rng (f i 0 + k) 0 4000
def shOk (n : Nat) (f : Nat → Nat → Int) (k : Int) : Bool := (List.range n).all (shO f k)
def shE (n : Nat) (f : Nat → Nat → Int) (k : Int) : Int := if ckE n f == 0 then (if shOk n f k then 0 else 2) else ckE n f
def shN (n : Nat) (f : Nat → Nat → Int) (k : Int) : Nat := if shE n f k == 0 then n else 0
def shF (f : Nat → Nat → Int) (k : Int) : Nat → Nat → Int := fun i j => if j = 0 then f i 0 + k else f i j
def shTo (f : Nat → Nat → Int) (d : Int) (k : Nat) : Nat → Nat → Int := fun i j => if i < k ∧ j = 0 then f i 0 + d else f i j
theorem shTo_zero (f : Nat → Nat → Int) (d : Int) : shTo f d 0 = f := by funext i j; simp [shTo]
theorem shTo_step (f : Nat → Nat → Int) (d : Int) (k : Nat) : updS (shTo f d k) k 0 (f k 0 + d) = shTo f d (k + 1) := by
  funext i j
  simp only [updS, shTo]
  by_cases h1 : i = k ∧ j = 0
  · obtain ⟨rfl, rfl⟩ := h1
    rw [if_pos ⟨rfl, rfl⟩, if_pos ⟨by omega, rfl⟩]
  · rw [if_neg h1]
    by_cases h2 : i < k ∧ j = 0
    · rw [if_pos h2, if_pos ⟨by omega, h2.2⟩]
    · rw [if_neg h2, if_neg (by omega)]
theorem shTo_all {n : Nat} (f : Nat → Nat → Int) (d : Int) : ∀ i j, i < n → j < 5 → shTo f d n i j = shF f d i j := fun i j hi _ => by
  unfold shTo shF
  by_cases h2 : j = 0
  · subst h2; simp [hi]
  · simp [h2]
theorem sh_ck {n : Nat} {f : Nat → Nat → Int} {k : Int} (h : (ckE n f == 0) = false) : shE n f k = ckE n f ∧ shN n f k = 0 := by
  have h1 : shE n f k = ckE n f := by simp [shE, h]
  exact ⟨h1, by unfold shN; rw [h1, h]; rfl⟩
theorem sh_bad {n i : Nat} {f : Nat → Nat → Int} {k : Int} (h : (ckE n f == 0) = true) (hi : i < n) (h2 : shO f k i = false) : shE n f k = 2 ∧ shN n f k = 0 := by
  have h0 : shOk n f k = false := by
    rw [shOk, List.all_eq_false]
    exact ⟨i, List.mem_range.2 hi, by simp [h2]⟩
  have h1 : shE n f k = 2 := by simp [shE, h, h0]
  exact ⟨h1, by unfold shN; rw [h1]; rfl⟩
theorem sh_good {n : Nat} {f : Nat → Nat → Int} {k : Int} (h : (ckE n f == 0) = true) (h2 : ∀ i, i < n → shO f k i = true) : shE n f k = 0 ∧ shN n f k = n := by
  have h0 : shOk n f k = true := by
    rw [shOk, List.all_eq_true]
    exact fun i hi => h2 i (List.mem_range.1 hi)
  have h1 : shE n f k = 0 := by simp [shE, h, h0]
  exact ⟨h1, by unfold shN; rw [h1]; rfl⟩
theorem sh_ok {n : Nat} {f : Nat → Nat → Int} {k : Int} (h : shE n f k = 0) : ckE n f = 0 ∧ (∀ i, i < n → shO f k i = true) ∧ shN n f k = n := by
  have hn : shN n f k = n := by unfold shN; rw [h]; rfl
  unfold shE at h
  by_cases hc : (ckE n f == 0) = true
  · rw [if_pos hc] at h
    refine ⟨by simpa using hc, ?_, hn⟩
    by_cases ho : shOk n f k = true
    · rw [shOk, List.all_eq_true] at ho
      exact fun i hi => ho i (List.mem_range.2 hi)
    · rw [if_neg ho] at h; simp at h
  · rw [if_neg hc] at h
    rw [h] at hc; simp at hc
theorem shO_iff {f : Nat → Nat → Int} {k : Int} {i : Nat} : shO f k i = true ↔ 0 ≤ f i 0 + k ∧ f i 0 + k ≤ 4000 := by
  simp [shO, rng]
theorem seen_t {n i : Nat} {f : Nat → Nat → Int} (h : ckE n f = 0) (hi : i < n) : 0 ≤ f i 0 ∧ f i 0 ≤ 4000 := by
  have := ((ck_iff.1 h).2 i hi).1
  simp only [seenR, rng, Bool.and_eq_true, decide_eq_true_eq] at this
  omega
theorem sh_swf {n : Nat} {f : Nat → Nat → Int} {k : Int} (hw : SWf n f) (h : ∀ i, i < n → shO f k i = true) : SWf n (shF f k) := fun i j hi hj => by
  unfold shF
  split
  · have := shO_iff.1 (h i hi); omega
  · exact hw i j hi hj
theorem sh_valid {n : Nat} {f : Nat → Nat → Int} {k : Int} (h : shE n f k = 0) : ckE n (shF f k) = 0 := by
  obtain ⟨h1, h2, _⟩ := sh_ok h
  obtain ⟨h3, h4⟩ := ck_iff.1 h1
  refine ck_iff.2 ⟨h3, fun i hi => ⟨?_, ?_⟩⟩
  · have ha := (h4 i hi).1
    have hb := shO_iff.1 (h2 i hi)
    simp only [seenR, shF, rng, Bool.and_eq_true, decide_eq_true_eq, if_true, if_neg (show ¬ (1 : Nat) = 0 by decide), if_neg (show ¬ (2 : Nat) = 0 by decide), if_neg (show ¬ (3 : Nat) = 0 by decide), if_neg (show ¬ (4 : Nat) = 0 by decide)] at ha ⊢
    omega
  · have ha := (h4 i hi).2
    simp only [seenO, shF, decide_eq_true_eq, if_true] at ha ⊢
    intro h0
    have := ha h0
    omega
theorem sh_bn {n : Nat} {f : Nat → Nat → Int} {k : Int} (h : shE n f k = 0) : bnOk n (shF f k) = bnOk n f ∧ bnK n (shF f k) = bnK n f :=
  bn_congr ((sh_valid h).trans (sh_ok h).1.symm) (fun _ _ => rfl)
/-- Shifting back. -/
theorem sh_back {n : Nat} {f : Nat → Nat → Int} {k : Int} (hk : -9223372036854775808 ≤ k ∧ k ≤ 9223372036854775807) (h : shE n f k = 0) : shE n (shF f k) (ngw k) = 0 ∧ ∀ i j, i < n → j < 5 → shF (shF f k) (ngw k) i j = f i j := by
  obtain ⟨h1, h2, _⟩ := sh_ok h
  have hg : ∀ i, i < n → ngw k = -k := fun i hi => by
    have := seen_t h1 hi
    have := shO_iff.1 (h2 i hi)
    rw [ngw_val hk, if_neg (by omega)]
  refine ⟨(sh_good (by rw [sh_valid h]; rfl) (fun i hi => ?_)).1, fun i j hi hj => ?_⟩
  · rw [shO_iff, hg i hi]
    have := seen_t h1 hi
    simp only [shF, if_true]
    omega
  · show (if j = 0 then (if (0 : Nat) = 0 then f i 0 + k else f i 0) + ngw k else if j = 0 then f i 0 + k else f i j) = f i j
    by_cases hj0 : j = 0
    · subst hj0
      rw [if_pos rfl, if_pos rfl, hg i hi]; omega
    · rw [if_neg hj0, if_neg hj0]
theorem SeenAt.congr {w : World} {A0 : Option Addr} {n : Nat} {f g : Nat → Nat → Int} {b off : Nat} (T : SeenAt w A0 n f b off) (h : ∀ i j, i < n → j < 5 → f i j = g i j) : SeenAt w A0 n g b off where
  nle := T.nle
  top := T.top
  cell := fun i j hi hj => by rw [T.cell i j hi hj, h i j hi hj]
  wf := fun i j hi hj => by rw [← h i j hi hj]; exact T.wf i j hi hj

end Go.Proofs.YtaeblcgblmipaaaDoor

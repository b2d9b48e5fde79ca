/-
  Texts in lines of words: the words of a line and the lines of a text, written one by one and read from the left (plain laws).
-/
import Derived.Test.YthccmolnfejkeaaDoorRRead
import Derived.Lib.CountLaws
import Derived.Lib.SplitLaws
import Derived.Lib.ParseIntBTie
namespace Go.Proofs.YthccmolnfejkeaaDoor
open Go.RowKit
set_option linter.unusedSimpArgs false

theorem idx_at (A B : List UInt8) (x : UInt8) (h : ∀ c ∈ A, c ≠ x) : Lib.index (A ++ x :: B) [x] = (A.length : Int) := by
  refine Lib.index_first (by simp) (by simp [Lib.occAt]) (fun j hj => ?_)
  have e : (A ++ x :: B).drop j = A[j] :: (A ++ x :: B).drop (j + 1) := by
    rw [List.drop_eq_getElem_cons (by simp; omega)]
    simp [List.getElem_append_left hj]
  unfold Lib.occAt
  rw [e]
  simp only [List.isPrefixOf]
  have := h _ (List.getElem_mem hj)
  simp [Ne.symm this]
theorem idx_none (A : List UInt8) (x : UInt8) (h : ∀ c ∈ A, c ≠ x) : Lib.index A [x] = -1 := by
  refine Lib.index_none (fun j hj => ?_)
  unfold Lib.occAt
  cases hd : A.drop j with
  | nil => rfl
  | cons a t =>
    have ha : a ∈ A := List.mem_of_mem_drop (i := j) (by rw [hd]; simp)
    simp [List.isPrefixOf, Ne.symm (h a ha)]
theorem idxB_at (A B : List UInt8) (x : UInt8) (h : ∀ c ∈ A, c ≠ x) : Lib.indexB ⟨(A ++ x :: B).toArray⟩ ⟨#[x]⟩ = (A.length : Int) := by
  have := idx_at A B x h
  simpa [Lib.indexB] using this
theorem idxB_none (A : List UInt8) (x : UInt8) (h : ∀ c ∈ A, c ≠ x) : Lib.indexB ⟨A.toArray⟩ ⟨#[x]⟩ = -1 := by
  have := idx_none A x h
  simpa [Lib.indexB] using this
theorem ext_tail (A B : List UInt8) (x : UInt8) : (⟨(A ++ x :: B).toArray⟩ : ByteArray).extract (A.length + 1) (⟨(A ++ x :: B).toArray⟩ : ByteArray).size = ⟨B.toArray⟩ := by
  apply ByteArray.ext
  simp [ByteArray.size]
  exact List.take_of_length_le (by omega)
theorem cnt_at (A B : List UInt8) (x : UInt8) (h : ∀ c ∈ A, c ≠ x) : Lib.countB ⟨(A ++ x :: B).toArray⟩ ⟨#[x]⟩ = 1 + Lib.countB ⟨B.toArray⟩ ⟨#[x]⟩ := by
  rw [Lib.countB_hit ⟨(A ++ x :: B).toArray⟩ ⟨#[x]⟩ A.length (Nat.le_refl 1) (idxB_at A B x h)]
  have e : (⟨#[x]⟩ : ByteArray).size = 1 := rfl
  rw [e, ext_tail]
theorem cnt_none (A : List UInt8) (x : UInt8) (h : ∀ c ∈ A, c ≠ x) : Lib.countB ⟨A.toArray⟩ ⟨#[x]⟩ = 0 := Lib.countB_miss _ _ (idxB_none A x h)
theorem spl_at (A B : List UInt8) (x : UInt8) (sv k : Nat) (h : ∀ c ∈ A, c ≠ x) : Lib.splitB ⟨#[x]⟩ sv (k + 1) ⟨(A ++ x :: B).toArray⟩ = (⟨(A ++ x :: B).toArray⟩ : ByteArray).extract 0 (A.length + sv) :: Lib.splitB ⟨#[x]⟩ sv k ⟨B.toArray⟩ := by
  rw [Lib.splitB_hit _ _ _ _ A.length (idxB_at A B x h)]
  have e : (⟨#[x]⟩ : ByteArray).size = 1 := rfl
  rw [e, ext_tail]
theorem ext_head (A B : List UInt8) (x : UInt8) : (⟨(A ++ x :: B).toArray⟩ : ByteArray).extract 0 (A.length + 0) = ⟨A.toArray⟩ := by
  apply ByteArray.ext
  simp
theorem num_bytes (v : Int) : ∀ c ∈ Lib.itoa v, c ≠ 32 := by
  intro c hc
  rcases itoa_bytes v c hc with rfl | h1
  · decide
  · rintro rfl
    exact absurd h1 (by decide)
theorem trim_line (A : List UInt8) : Lib.trimSuffix (A ++ [10]) [10] = A := by
  have h : Lib.hasSuffix (A ++ [10]) [10] = true := by
    unfold Lib.hasSuffix
    simp
  unfold Lib.trimSuffix
  rw [if_pos h]
  simp

theorem trim_len (L : List UInt8) : (Lib.trimSuffix L [10]).length ≤ L.length := by
  unfold Lib.trimSuffix
  split
  · simp
  · exact Nat.le_refl _
theorem spl_sz (sep : ByteArray) (sv : Nat) : ∀ (k : Nat) (s : ByteArray), ∀ x ∈ Lib.splitB sep sv k s, x.size ≤ s.size
  | 0, s, x, h => by
    rw [Lib.splitB_zero, List.mem_singleton] at h
    rw [h]; exact Nat.le_refl _
  | k + 1, s, x, h => by
    unfold Lib.splitB at h
    split at h
    · rw [List.mem_singleton] at h
      rw [h]; exact Nat.le_refl _
    · rcases List.mem_cons.1 h with h | h
      · rw [h, ByteArray.size_extract]; omega
      · have h1 := spl_sz sep sv k _ x h
        rw [ByteArray.size_extract] at h1
        omega
theorem len_of (x : ByteArray) {n : Nat} (h : x.size ≤ n) : x.data.toList.length ≤ n := by
  rw [Array.length_toList]
  exact h
theorem num_yes {l : List UInt8} (h : numOk l = true) : Lib.parseIntB 64 l = .ok (numV l) ∧ -9223372036854775808 ≤ numV l ∧ numV l ≤ 9223372036854775807 := by
  have h1 : Lib.parseIntB 64 l = .ok (numV l) := by
    unfold numOk at h
    unfold numV
    revert h
    cases Lib.parseIntB 64 l <;> intro h <;> first | rfl | cases h
  have := Lib.parseIntB_bounds h1
  exact ⟨h1, by omega, by omega⟩

/-- The first j words of a line. -/
def lineTo (g : Nat → Int) : Nat → List UInt8
  | 0 => []
  | j + 1 => lineTo g j ++ ((if j = 0 then [] else [32]) ++ Lib.itoa (g j))
/-- Words p, p + 1, .. (m of them), blanks between them. -/
def wFrom (g : Nat → Int) : Nat → Nat → List UInt8
  | 0, _ => []
  | 1, p => Lib.itoa (g p)
  | m + 2, p => Lib.itoa (g p) ++ 32 :: wFrom g (m + 1) (p + 1)
theorem line_split (g : Nat → Int) : ∀ m p, lineTo g (p + m + 1) = lineTo g p ++ ((if p = 0 then [] else [32]) ++ wFrom g (m + 1) p)
  | 0, p => by simp [lineTo, wFrom]
  | m + 1, p => by
    have := line_split g m (p + 1)
    rw [show p + (m + 1) + 1 = p + 1 + m + 1 by omega, this, if_neg (by omega)]
    simp [lineTo, wFrom]
theorem line_wFrom (g : Nat → Int) {k : Nat} (h : 0 < k) : lineTo g k = wFrom g k 0 := by
  have := line_split g (k - 1) 0
  rw [show 0 + (k - 1) + 1 = k by omega, show k - 1 + 1 = k by omega] at this
  simpa [lineTo] using this
theorem lineTo_len (g : Nat → Int) {k : Nat} (h : ∀ j, j < k → -9223372036854775808 ≤ g j ∧ g j ≤ 9223372036854775807) : ∀ j, j ≤ k → (lineTo g j).length ≤ j * 22
  | 0, _ => by simp [lineTo]
  | j + 1, hj => by
    have h1 := lineTo_len g h j (by omega)
    have h2 := Lib.itoa_length_le (g j) (h j (by omega)).1 (h j (by omega)).2
    have h3 : (if j = 0 then ([] : List UInt8) else [32]).length ≤ 1 := by split <;> simp
    simp only [lineTo, List.length_append]
    omega
theorem lineTo_congr {f g : Nat → Int} : ∀ k, (∀ j, j < k → f j = g j) → lineTo f k = lineTo g k
  | 0, _ => rfl
  | k + 1, h => by rw [lineTo, lineTo, lineTo_congr k (fun j hj => h j (by omega)), h k (by omega)]
theorem line_bytes (g : Nat → Int) : ∀ j, ∀ c ∈ lineTo g j, c ≠ 10
  | 0, c, h => by simp [lineTo] at h
  | j + 1, c, h => by
    simp only [lineTo, List.mem_append] at h
    rcases h with h | h | h
    · exact line_bytes g j c h
    · split at h
      · simp at h
      · simp at h; subst h; decide
    · rcases itoa_bytes (g j) c h with rfl | h1
      · decide
      · rintro rfl
        exact absurd h1 (by decide)
theorem wFrom_cut (g : Nat → Int) (m p : Nat) : cut1 32 (wFrom g (m + 1) p) = Lib.itoa (g p) ∧ cut2 32 (wFrom g (m + 1) p) = wFrom g m (p + 1) ∧ cut3 32 (wFrom g (m + 1) p) = decide (0 < m) := by
  unfold cut1 cut2 cut3
  cases m with
  | zero =>
    have := cut_none (Lib.itoa (g p)) 32 (num_bytes _)
    show (Lib.cut (Lib.itoa (g p)) [32]).1 = _ ∧ (Lib.cut (Lib.itoa (g p)) [32]).2.1 = _ ∧ (Lib.cut (Lib.itoa (g p)) [32]).2.2 = _
    rw [this]
    exact ⟨rfl, rfl, rfl⟩
  | succ m =>
    have := cut_at (Lib.itoa (g p)) (wFrom g (m + 1) (p + 1)) 32 (num_bytes _)
    show (Lib.cut (Lib.itoa (g p) ++ 32 :: wFrom g (m + 1) (p + 1)) [32]).1 = _ ∧ (Lib.cut (Lib.itoa (g p) ++ 32 :: wFrom g (m + 1) (p + 1)) [32]).2.1 = _ ∧ (Lib.cut (Lib.itoa (g p) ++ 32 :: wFrom g (m + 1) (p + 1)) [32]).2.2 = _
    rw [this]
    exact ⟨rfl, rfl, by simp⟩
theorem wFrom_count (g : Nat → Int) : ∀ m p, Lib.countB ⟨(wFrom g (m + 1) p).toArray⟩ ⟨#[32]⟩ = m
  | 0, p => cnt_none _ _ (num_bytes _)
  | m + 1, p => by
    show Lib.countB ⟨(Lib.itoa (g p) ++ 32 :: wFrom g (m + 1) (p + 1)).toArray⟩ ⟨#[32]⟩ = m + 1
    rw [cnt_at _ _ _ (num_bytes _), wFrom_count g m (p + 1)]
    omega
theorem wFrom_words (g : Nat → Int) : ∀ m p, Lib.splitB ⟨#[32]⟩ 0 m ⟨(wFrom g (m + 1) p).toArray⟩ = (List.range (m + 1)).map (fun j => ⟨(Lib.itoa (g (p + j))).toArray⟩)
  | 0, p => rfl
  | m + 1, p => by
    show Lib.splitB ⟨#[32]⟩ 0 (m + 1) ⟨(Lib.itoa (g p) ++ 32 :: wFrom g (m + 1) (p + 1)).toArray⟩ = _
    rw [spl_at _ _ _ _ _ (num_bytes _), ext_head, wFrom_words g m (p + 1), List.range_succ_eq_map (n := m + 1)]
    simp only [List.map_cons, List.map_map, Nat.add_zero]
    refine congr rfl (List.map_congr_left fun j _ => ?_)
    simp only [Function.comp]
    rw [show p + 1 + j = p + (j + 1) by omega]
/-- The first n lines of a text, line i of L i words. -/
def tabTo (L : Nat → Nat) (Z : Nat → Nat → Int) : Nat → List UInt8
  | 0 => []
  | k + 1 => tabTo L Z k ++ (lineTo (Z k) (L k) ++ [10])
/-- Lines i, i + 1, .. (m of them). -/
def lnF (L : Nat → Nat) (Z : Nat → Nat → Int) : Nat → Nat → List UInt8
  | 0, _ => []
  | m + 1, i => lineTo (Z i) (L i) ++ 10 :: lnF L Z m (i + 1)
theorem tabTo_from (L : Nat → Nat) (Z : Nat → Nat → Int) : ∀ m k, tabTo L Z k ++ lnF L Z m k = tabTo L Z (k + m)
  | 0, k => by simp [lnF]
  | m + 1, k => by
    have := tabTo_from L Z m (k + 1)
    rw [show k + (m + 1) = k + 1 + m by omega, ← this]
    simp [lnF, tabTo]
theorem tabTo_all (L : Nat → Nat) (Z : Nat → Nat → Int) (n : Nat) : tabTo L Z n = lnF L Z n 0 := by
  have := tabTo_from L Z n 0
  simpa [tabTo] using this.symm
theorem tabTo_congr {L M : Nat → Nat} {Z Y : Nat → Nat → Int} : ∀ n, (∀ i, i < n → L i = M i) → (∀ i j, i < n → j < L i → Z i j = Y i j) → tabTo L Z n = tabTo M Y n
  | 0, _, _ => rfl
  | n + 1, h1, h2 => by
    rw [tabTo, tabTo, tabTo_congr n (fun i hi => h1 i (by omega)) (fun i j hi hj => h2 i j (by omega) hj), ← h1 n (by omega), lineTo_congr (L n) (fun j hj => h2 n j (by omega) hj)]
theorem lnF_count (L : Nat → Nat) (Z : Nat → Nat → Int) : ∀ m i, Lib.countB ⟨(lnF L Z m i).toArray⟩ ⟨#[10]⟩ = m
  | 0, i => cnt_none [] 10 (by simp)
  | m + 1, i => by
    rw [lnF, cnt_at _ _ _ (line_bytes (Z i) (L i)), lnF_count L Z m (i + 1)]
    omega
theorem lnF_split (L : Nat → Nat) (Z : Nat → Nat → Int) : ∀ m i, Lib.splitB ⟨#[10]⟩ 1 m ⟨(lnF L Z m i).toArray⟩ = (List.range m).map (fun j => ⟨(lineTo (Z (i + j)) (L (i + j)) ++ [10]).toArray⟩) ++ [⟨#[]⟩]
  | 0, i => rfl
  | m + 1, i => by
    rw [lnF, spl_at _ _ _ _ _ (line_bytes (Z i) (L i)), lnF_split L Z m (i + 1), List.range_succ_eq_map]
    simp only [List.map_cons, List.map_map, List.cons_append, Nat.add_zero]
    refine congr (congrArg List.cons ?_) ?_
    · apply ByteArray.ext
      have e : lineTo (Z i) (L i) ++ 10 :: lnF L Z m (i + 1) = (lineTo (Z i) (L i) ++ [10]) ++ lnF L Z m (i + 1) := by simp
      have e2 : (lineTo (Z i) (L i)).length + 1 = (lineTo (Z i) (L i) ++ [10]).length := by simp
      simp
      rw [e, e2, List.take_left]
    · refine congrArg (· ++ _) (List.map_congr_left fun j _ => ?_)
      simp only [Function.comp]
      rw [show i + 1 + j = i + (j + 1) by omega]
theorem lnF_cut (L : Nat → Nat) (Z : Nat → Nat → Int) (m k : Nat) : cut1 10 (lnF L Z (m + 1) k) = lineTo (Z k) (L k) ∧ cut2 10 (lnF L Z (m + 1) k) = lnF L Z m (k + 1) := by
  have := cut_at (lineTo (Z k) (L k)) (lnF L Z m (k + 1)) 10 (line_bytes _ _)
  unfold cut1 cut2
  rw [lnF, this]
  exact ⟨rfl, rfl⟩
theorem lnF_ne (L : Nat → Nat) (Z : Nat → Nat → Int) (m k : Nat) : lnF L Z (m + 1) k ≠ [] := by simp [lnF]
theorem cut1_le (x : UInt8) (L : List UInt8) : (cut1 x L).length ≤ L.length := by
  unfold cut1 Lib.cut
  split <;> simp <;> omega
theorem cut2_le (x : UInt8) (L : List UInt8) : (cut2 x L).length ≤ L.length := by
  unfold cut2 Lib.cut
  split <;> simp

end Go.Proofs.YthccmolnfejkeaaDoor

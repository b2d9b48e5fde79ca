/-
  A text in lines: SplitAfter gives the lines back; Split at blanks gives the words back (plain laws).
-/
import Derived.Test.YtaeblcgblmipaaaDoorNumF
import Derived.Test.YtaeblcgblmipaaaDoorCamM
import Derived.Test.YtaeblcgblmipaaaDoorSplit
import Derived.Lib.CountLaws
namespace Go.Proofs.YtaeblcgblmipaaaDoor
open Go.RowKit
set_option linter.unusedSimpArgs false

theorem idx_at (A B : List UInt8) (x : UInt8) (h : ∀ c ∈ A, c ≠ x) : Lib.index (A ++ x :: B) [x] = (A.length : Int) := by
  refine Lib.index_first (by simp) (by simp [Lib.occAt]) (fun j hj => ?_)
  have e : (A ++ x :: B).drop j = A[j] :: (A ++ x :: B).drop (j + 1) := by
    rw [List.drop_eq_getElem_cons (by simp; omega)]
    simp [List.getElem_append_left hj]
  unfold Lib.occAt
  rw [e]
  simp only [List.isPrefixOf]
  have := h _ (List.getElem_mem hj)
  simp [Ne.symm this]
theorem idx_none (A : List UInt8) (x : UInt8) (h : ∀ c ∈ A, c ≠ x) : Lib.index A [x] = -1 := by
  refine Lib.index_none (fun j hj => ?_)
  unfold Lib.occAt
  cases hd : A.drop j with
  | nil => rfl
  | cons a t =>
    have ha : a ∈ A := List.mem_of_mem_drop (i := j) (by rw [hd]; simp)
    simp [List.isPrefixOf, Ne.symm (h a ha)]
theorem idxB_at (A B : List UInt8) (x : UInt8) (h : ∀ c ∈ A, c ≠ x) : Lib.indexB ⟨(A ++ x :: B).toArray⟩ ⟨#[x]⟩ = (A.length : Int) := by
  have := idx_at A B x h
  simpa [Lib.indexB] using this
theorem idxB_none (A : List UInt8) (x : UInt8) (h : ∀ c ∈ A, c ≠ x) : Lib.indexB ⟨A.toArray⟩ ⟨#[x]⟩ = -1 := by
  have := idx_none A x h
  simpa [Lib.indexB] using this
theorem ext_tail (A B : List UInt8) (x : UInt8) : (⟨(A ++ x :: B).toArray⟩ : ByteArray).extract (A.length + 1) (⟨(A ++ x :: B).toArray⟩ : ByteArray).size = ⟨B.toArray⟩ := by
  apply ByteArray.ext
  simp [ByteArray.size]
  exact List.take_of_length_le (by omega)
theorem cnt_at (A B : List UInt8) (x : UInt8) (h : ∀ c ∈ A, c ≠ x) : Lib.countB ⟨(A ++ x :: B).toArray⟩ ⟨#[x]⟩ = 1 + Lib.countB ⟨B.toArray⟩ ⟨#[x]⟩ := by
  rw [Lib.countB_hit ⟨(A ++ x :: B).toArray⟩ ⟨#[x]⟩ A.length (Nat.le_refl 1) (idxB_at A B x h)]
  have e : (⟨#[x]⟩ : ByteArray).size = 1 := rfl
  rw [e, ext_tail]
theorem cnt_none (A : List UInt8) (x : UInt8) (h : ∀ c ∈ A, c ≠ x) : Lib.countB ⟨A.toArray⟩ ⟨#[x]⟩ = 0 := Lib.countB_miss _ _ (idxB_none A x h)
theorem spl_at (A B : List UInt8) (x : UInt8) (sv k : Nat) (h : ∀ c ∈ A, c ≠ x) : Lib.splitB ⟨#[x]⟩ sv (k + 1) ⟨(A ++ x :: B).toArray⟩ = (⟨(A ++ x :: B).toArray⟩ : ByteArray).extract 0 (A.length + sv) :: Lib.splitB ⟨#[x]⟩ sv k ⟨B.toArray⟩ := by
  rw [Lib.splitB_hit _ _ _ _ A.length (idxB_at A B x h)]
  have e : (⟨#[x]⟩ : ByteArray).size = 1 := rfl
  rw [e, ext_tail]
/-- Lines i to i + m - 1 of a list of observations. -/
def lnFrom (f : Nat → Nat → Int) : Nat → Nat → List UInt8
  | 0, _ => []
  | m + 1, i => lineTo (f i) 5 ++ 10 :: lnFrom f m (i + 1)
theorem textTo_from (f : Nat → Nat → Int) : ∀ m k, textTo f k ++ lnFrom f m k = textTo f (k + m)
  | 0, k => by simp [lnFrom]
  | m + 1, k => by
    have := textTo_from f m (k + 1)
    rw [show k + (m + 1) = k + 1 + m by omega, ← this]
    simp [lnFrom, textTo]
theorem textTo_all (f : Nat → Nat → Int) (n : Nat) : textTo f n = lnFrom f n 0 := by
  have := textTo_from f n 0
  simpa [textTo] using this.symm
theorem line_bytes (g : Nat → Int) : ∀ j, ∀ c ∈ lineTo g j, c ≠ 10
  | 0, c, h => by simp [lineTo] at h
  | j + 1, c, h => by
    simp only [lineTo, List.mem_append] at h
    rcases h with h | h | h
    · exact line_bytes g j c h
    · split at h
      · simp at h
      · simp at h; subst h; decide
    · rcases itoa_bytes (g j) c h with rfl | h1
      · decide
      · rintro rfl
        exact absurd h1 (by decide)
theorem ln_count (f : Nat → Nat → Int) : ∀ m i, Lib.countB ⟨(lnFrom f m i).toArray⟩ ⟨#[10]⟩ = m
  | 0, i => cnt_none [] 10 (by simp)
  | m + 1, i => by
    rw [lnFrom, cnt_at _ _ _ (line_bytes (f i) 5), ln_count f m (i + 1)]
    omega
/-- The pieces of a text: each line with its end, and nothing behind the last. -/
theorem ln_split (f : Nat → Nat → Int) : ∀ m i, Lib.splitB ⟨#[10]⟩ 1 m ⟨(lnFrom f m i).toArray⟩ = (List.range m).map (fun j => ⟨(lineTo (f (i + j)) 5 ++ [10]).toArray⟩) ++ [⟨#[]⟩]
  | 0, i => rfl
  | m + 1, i => by
    rw [lnFrom, spl_at _ _ _ _ _ (line_bytes (f i) 5), ln_split f m (i + 1), List.range_succ_eq_map]
    simp only [List.map_cons, List.map_map, List.cons_append, Nat.add_zero]
    refine congr (congrArg List.cons ?_) ?_
    · apply ByteArray.ext
      have e : lineTo (f i) 5 ++ 10 :: lnFrom f m (i + 1) = (lineTo (f i) 5 ++ [10]) ++ lnFrom f m (i + 1) := by simp
      have e2 : (lineTo (f i) 5).length + 1 = (lineTo (f i) 5 ++ [10]).length := by simp
      simp
      rw [e, e2, List.take_left]
    · refine congrArg (· ++ _) (List.map_congr_left fun j _ => ?_)
      simp only [Function.comp]
      rw [show i + 1 + j = i + (j + 1) by omega]

theorem ext_head (A B : List UInt8) (x : UInt8) : (⟨(A ++ x :: B).toArray⟩ : ByteArray).extract 0 (A.length + 0) = ⟨A.toArray⟩ := by
  apply ByteArray.ext
  simp
theorem line_flat (g : Nat → Int) : lineTo g 5 = Lib.itoa (g 0) ++ 32 :: (Lib.itoa (g 1) ++ 32 :: (Lib.itoa (g 2) ++ 32 :: (Lib.itoa (g 3) ++ 32 :: Lib.itoa (g 4)))) := by
  simp [lineTo]
theorem num_bytes (v : Int) : ∀ c ∈ Lib.itoa v, c ≠ 32 := by
  intro c hc
  rcases itoa_bytes v c hc with rfl | h1
  · decide
  · rintro rfl
    exact absurd h1 (by decide)
/-- The words of a line. -/
theorem word_count (g : Nat → Int) : Lib.countB ⟨(lineTo g 5).toArray⟩ ⟨#[32]⟩ = 4 := by
  rw [line_flat, cnt_at _ _ _ (num_bytes _), cnt_at _ _ _ (num_bytes _), cnt_at _ _ _ (num_bytes _), cnt_at _ _ _ (num_bytes _), cnt_none _ _ (num_bytes _)]
theorem word_split (g : Nat → Int) : Lib.splitB ⟨#[32]⟩ 0 4 ⟨(lineTo g 5).toArray⟩ = [⟨(Lib.itoa (g 0)).toArray⟩, ⟨(Lib.itoa (g 1)).toArray⟩, ⟨(Lib.itoa (g 2)).toArray⟩, ⟨(Lib.itoa (g 3)).toArray⟩, ⟨(Lib.itoa (g 4)).toArray⟩] := by
  rw [line_flat, spl_at _ _ _ _ _ (num_bytes _), spl_at _ _ _ _ _ (num_bytes _), spl_at _ _ _ _ _ (num_bytes _), spl_at _ _ _ _ _ (num_bytes _), ext_head, ext_head, ext_head, ext_head]
  rfl
theorem trim_line (A : List UInt8) : Lib.trimSuffix (A ++ [10]) [10] = A := by
  have h : Lib.hasSuffix (A ++ [10]) [10] = true := by
    unfold Lib.hasSuffix
    simp
  unfold Lib.trimSuffix
  rw [if_pos h]
  simp

end Go.Proofs.YtaeblcgblmipaaaDoor

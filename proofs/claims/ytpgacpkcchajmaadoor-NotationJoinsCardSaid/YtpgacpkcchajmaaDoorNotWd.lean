/-
  Texts in words between single blanks (layer 7, plain): what strings.Split gives, and the symbols joined.
-/
import Derived.Test.YtpgacpkcchajmaaDoorNotU
import Derived.Test.YtpgacpkcchajmaaDoorJoin
import Derived.Lib.CountLaws
import Derived.Lib.SplitLaws
namespace Go.Proofs.YtpgacpkcchajmaaDoor
open Go.RowKit
set_option linter.unusedSimpArgs false

theorem idx_at (A B : List UInt8) (x : UInt8) (h : ∀ c ∈ A, c ≠ x) : Lib.index (A ++ x :: B) [x] = (A.length : Int) := by
  refine Lib.index_first (by simp) (by simp [Lib.occAt]) (fun j hj => ?_)
  have e : (A ++ x :: B).drop j = A[j] :: (A ++ x :: B).drop (j + 1) := by
    rw [List.drop_eq_getElem_cons (by simp; omega)]
    simp [List.getElem_append_left hj]
  unfold Lib.occAt
  rw [e]
  simp only [List.isPrefixOf]
  have := h _ (List.getElem_mem hj)
  simp [Ne.symm this]
theorem idx_none (A : List UInt8) (x : UInt8) (h : ∀ c ∈ A, c ≠ x) : Lib.index A [x] = -1 := by
  refine Lib.index_none (fun j hj => ?_)
  unfold Lib.occAt
  cases hd : A.drop j with
  | nil => rfl
  | cons a t =>
    have ha : a ∈ A := List.mem_of_mem_drop (i := j) (by rw [hd]; simp)
    simp [List.isPrefixOf, Ne.symm (h a ha)]
theorem idxB_at (A B : List UInt8) (x : UInt8) (h : ∀ c ∈ A, c ≠ x) : Lib.indexB ⟨(A ++ x :: B).toArray⟩ ⟨#[x]⟩ = (A.length : Int) := by
  have := idx_at A B x h
  simpa [Lib.indexB] using this
theorem idxB_none (A : List UInt8) (x : UInt8) (h : ∀ c ∈ A, c ≠ x) : Lib.indexB ⟨A.toArray⟩ ⟨#[x]⟩ = -1 := by
  have := idx_none A x h
  simpa [Lib.indexB] using this
theorem ext_tail (A B : List UInt8) (x : UInt8) : (⟨(A ++ x :: B).toArray⟩ : ByteArray).extract (A.length + 1) (⟨(A ++ x :: B).toArray⟩ : ByteArray).size = ⟨B.toArray⟩ := by
  apply ByteArray.ext
  simp [ByteArray.size]
  exact List.take_of_length_le (by omega)
theorem cnt_at (A B : List UInt8) (x : UInt8) (h : ∀ c ∈ A, c ≠ x) : Lib.countB ⟨(A ++ x :: B).toArray⟩ ⟨#[x]⟩ = 1 + Lib.countB ⟨B.toArray⟩ ⟨#[x]⟩ := by
  rw [Lib.countB_hit ⟨(A ++ x :: B).toArray⟩ ⟨#[x]⟩ A.length (Nat.le_refl 1) (idxB_at A B x h)]
  have e : (⟨#[x]⟩ : ByteArray).size = 1 := rfl
  rw [e, ext_tail]
theorem cnt_none (A : List UInt8) (x : UInt8) (h : ∀ c ∈ A, c ≠ x) : Lib.countB ⟨A.toArray⟩ ⟨#[x]⟩ = 0 := Lib.countB_miss _ _ (idxB_none A x h)
theorem spl_at (A B : List UInt8) (x : UInt8) (sv k : Nat) (h : ∀ c ∈ A, c ≠ x) : Lib.splitB ⟨#[x]⟩ sv (k + 1) ⟨(A ++ x :: B).toArray⟩ = (⟨(A ++ x :: B).toArray⟩ : ByteArray).extract 0 (A.length + sv) :: Lib.splitB ⟨#[x]⟩ sv k ⟨B.toArray⟩ := by
  rw [Lib.splitB_hit _ _ _ _ A.length (idxB_at A B x h)]
  have e : (⟨#[x]⟩ : ByteArray).size = 1 := rfl
  rw [e, ext_tail]
theorem ext_head (A B : List UInt8) (x : UInt8) : (⟨(A ++ x :: B).toArray⟩ : ByteArray).extract 0 (A.length + 0) = ⟨A.toArray⟩ := by
  apply ByteArray.ext
  simp

/-- The words of a text between single blanks. -/
def wd : List UInt8 → List (List UInt8)
  | [] => [[]]
  | c :: t => if c = 32 then [] :: wd t else match wd t with
    | [] => [[c]]
    | h :: r => (c :: h) :: r
theorem wd_ne : ∀ s, wd s ≠ []
  | [] => by simp [wd]
  | c :: t => by
    unfold wd
    split
    · simp
    · split <;> simp
theorem wd_app : ∀ X Y, wd (X ++ 32 :: Y) = wd X ++ wd Y
  | [], Y => by simp [wd]
  | c :: t, Y => by
    have ih := wd_app t Y
    simp only [List.cons_append, wd]
    split
    · rw [ih]; rfl
    · rw [ih]
      cases h : wd t with
      | nil => exact absurd h (wd_ne t)
      | cons x r => rfl
theorem wd_none : ∀ A, (∀ c ∈ A, c ≠ 32) → wd A = [A]
  | [], _ => rfl
  | c :: t, h => by
    have h1 : c ≠ 32 := h c (by simp)
    rw [wd, if_neg h1, wd_none t (fun x hx => h x (by simp [hx]))]
theorem wd_dec : ∀ s : List UInt8, (∀ c ∈ s, c ≠ 32) ∨ ∃ A B, s = A ++ 32 :: B ∧ ∀ c ∈ A, c ≠ 32
  | [] => Or.inl (by simp)
  | c :: t => by
    by_cases hc : c = 32
    · exact Or.inr ⟨[], t, by rw [hc]; rfl, by simp⟩
    · rcases wd_dec t with h | ⟨A, B, e, h⟩
      · exact Or.inl (fun x hx => by
          rcases List.mem_cons.1 hx with rfl | hx
          · exact hc
          · exact h x hx)
      · exact Or.inr ⟨c :: A, B, by rw [e]; rfl, fun x hx => by
          rcases List.mem_cons.1 hx with rfl | hx
          · exact hc
          · exact h x hx⟩
theorem wd_split : ∀ n (s : List UInt8), s.length ≤ n → Lib.splitB ⟨#[32]⟩ 0 (Lib.countB ⟨s.toArray⟩ ⟨#[32]⟩) ⟨s.toArray⟩ = (wd s).map (fun l => (⟨l.toArray⟩ : ByteArray)) ∧ Lib.countB ⟨s.toArray⟩ ⟨#[32]⟩ + 1 = (wd s).length
  | n, s, hn => by
    rcases wd_dec s with h | ⟨A, B, e, h⟩
    · rw [cnt_none s 32 h, Lib.splitB_zero, wd_none s h]
      exact ⟨rfl, rfl⟩
    · match n with
      | 0 => rw [e] at hn; simp at hn
      | n + 1 =>
        have hB : B.length ≤ n := by rw [e] at hn; simp at hn; omega
        obtain ⟨i1, i2⟩ := wd_split n B hB
        rw [e, cnt_at A B 32 h, Nat.add_comm 1, spl_at A B 32 0 _ h, ext_head, i1, wd_app, wd_none A h]
        refine ⟨rfl, ?_⟩
        simp only [List.length_append, List.length_cons, List.length_nil]
        omega
theorem wd_sz : ∀ s, ∀ x ∈ wd s, x.length ≤ s.length
  | [], x, h => by simp [wd] at h; simp [h]
  | c :: t, x, h => by
    have ih := wd_sz t
    unfold wd at h
    split at h
    · rcases List.mem_cons.1 h with rfl | h
      · simp
      · have := ih x h; simp; omega
    · cases hw : wd t with
      | nil => exact absurd hw (wd_ne t)
      | cons y r =>
        rw [hw] at h ih
        rcases List.mem_cons.1 h with rfl | h
        · have := ih y (by simp); simp; omega
        · have := ih x (by simp [h]); simp; omega
theorem wd_cnt : ∀ s, (wd s).length ≤ s.length + 1
  | [] => by simp [wd]
  | c :: t => by
    have ih := wd_cnt t
    unfold wd
    split
    · simp; omega
    · cases hw : wd t with
      | nil => exact absurd hw (wd_ne t)
      | cons y r => rw [hw] at ih; simp at ih ⊢; omega
/-- The symbols of a list, joined, are its words. -/
theorem wd_join (g : Nat → List UInt8) (k : Nat) (h : ∀ j, j ≤ k → ∀ c ∈ g j, c ≠ 32) : wd (jnTo g k) = (List.range (k + 1)).map g := by
  induction k with
  | zero =>
    show wd (g 0) = [g 0]
    exact wd_none _ (h 0 (Nat.le_refl _))
  | succ k ih =>
    have i := ih (fun j hj => h j (by omega))
    have e : jnTo g (k + 1) = jnTo g k ++ 32 :: g (k + 1) := by simp [jnTo]
    rw [e, wd_app, i, wd_none _ (h (k + 1) (Nat.le_refl _)), List.range_succ (n := k + 1), List.map_append]
    rfl
theorem dg_nb : ∀ n : Nat, n ≤ 9 → UInt8.ofNat (48 + n) ≠ 32 := by decide
theorem dgL_nb {n : Int} (h : 0 ≤ n ∧ n ≤ 9) : ∀ c ∈ dgL n, c ≠ 32 := by
  intro c hc
  unfold dgL at hc
  rw [List.mem_singleton] at hc
  rw [hc]
  exact dg_nb n.toNat (by omega)
theorem itoa_nb {n : Int} (h : 0 ≤ n ∧ n ≤ 11) : ∀ c ∈ Lib.itoa n, c ≠ 32 := by
  obtain ⟨m, rfl⟩ := Int.eq_ofNat_of_zero_le h.1
  have : ∀ m : Nat, m ≤ 11 → ∀ c ∈ Lib.itoa (m : Int), c ≠ 32 := by
    intro m hm
    by_cases h9 : m ≤ 9
    · rw [itoa_dg m h9]; exact dgL_nb (by omega)
    · have : m = 10 ∨ m = 11 := by omega
      rcases this with rfl | rfl
      · rw [Lib.itoa_nonneg, Lib.decDigits, dif_neg (by omega), Lib.decDigits, dif_pos (by omega)]; decide
      · rw [Lib.itoa_nonneg, Lib.decDigits, dif_neg (by omega), Lib.decDigits, dif_pos (by omega)]; decide
  exact this m (by omega)
theorem ltL_nb : ∀ h : Nat, h ≤ 10 → ltL.getD h 0 ≠ 32 := by decide
theorem sym_nb {d : Dl} (hk : d.Ok) : ∀ c ∈ symD d, c ≠ 32 := by
  have hr := hk.ru; have hs := hk.sh; have hv := hk.vi; have hf := hk.fi; have he := hk.se; have hc := hk.sc; have hh := hk.ho
  intro c hm
  simp only [symD, List.mem_append] at hm
  rcases hm with hm | hm | hm | hm | hm | hm | hm | hm
  · unfold tyL at hm
    split at hm
    · simp at hm; rw [hm]; decide
    · split at hm
      · simp at hm; rw [hm]; decide
      · simp at hm
  · unfold srL at hm
    repeat' split at hm
    all_goals first | (simp at hm; done) | (simp at hm; rw [hm]; decide)
  · unfold ruL at hm
    split at hm
    · exact dgL_nb (by omega) c hm
    · simp at hm
  · unfold boL at hm
    repeat' split at hm
    all_goals first | (simp at hm; done) | (simp at hm; rw [hm]; decide)
  · unfold shL at hm
    split at hm
    · rcases List.mem_cons.1 hm with rfl | hm
      · decide
      · exact dgL_nb (by omega) c hm
    · simp at hm
  · unfold crL at hm
    split at hm
    · simp at hm; rw [hm]; decide
    · simp at hm
  · unfold wiL at hm
    split at hm
    · simp at hm
    · rcases List.mem_cons.1 hm with rfl | hm
      · decide
      · rcases List.mem_cons.1 hm with rfl | hm
        · exact ltL_nb _ (by omega)
        · rcases List.mem_append.1 hm with hm | hm
          · exact dgL_nb (by omega) c hm
          · unfold wiG at hm
            split at hm
            · rcases List.mem_cons.1 hm with rfl | hm
              · decide
              · rcases List.mem_append.1 hm with hm | hm
                · exact itoa_nb (by omega) c hm
                · rcases List.mem_append.1 hm with hm | hm
                  · split at hm
                    · simp at hm
                    · rcases List.mem_cons.1 hm with rfl | hm
                      · decide
                      · exact itoa_nb (by omega) c hm
                  · rcases List.mem_append.1 hm with hm | hm
                    · split at hm
                      · simp at hm; rw [hm]; decide
                      · simp at hm
                    · simp at hm; rw [hm]; decide
            · simp at hm
  · unfold scL at hm
    split at hm
    · rcases List.mem_cons.1 hm with rfl | hm
      · decide
      · exact dgL_nb (by omega) c hm
    · simp at hm

end Go.Proofs.YtpgacpkcchajmaaDoor

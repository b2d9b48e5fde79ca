/-
  Steps in memory; what the steps keep of a room.
-/
import Derived.Test.YtppoejhfemolfaaDoorRevE
namespace Go.Proofs.YtppoejhfemolfaaDoor
open Go.RowKit
set_option linter.unusedSimpArgs false

/-- A list of n steps in memory: kind, side, call. -/
structure ActsAt (w : World) (A0 : Option Addr) (n : Nat) (K S L : Nat → Int) (b off : Nat) : Prop where
  nle : n ≤ 9223372036854775807
  top : 0 < n → A0 = some ⟨b, off, none⟩ ∧ b < w.heap.size
  cell : ∀ i, i < n → w.cell? ⟨b, off + i * 3, none⟩ = some (.int .u8 (K i)) ∧ w.cell? ⟨b, off + i * 3 + 1, none⟩ = some (.int .i64 (S i)) ∧ w.cell? ⟨b, off + i * 3 + 2, none⟩ = some (.int .u8 (L i))
  wf : ∀ i, i < n → (0 ≤ K i ∧ K i ≤ 255) ∧ (-9223372036854775808 ≤ S i ∧ S i ≤ 9223372036854775807) ∧ (0 ≤ L i ∧ L i ≤ 255)
theorem ActsAt.ext {w w' : World} {A0 : Option Addr} {n : Nat} {K S L : Nat → Int} {b off : Nat} (T : ActsAt w A0 n K S L b off) (h : Ext w w') : ActsAt w' A0 n K S L b off where
  nle := T.nle
  top := fun k => ⟨(T.top k).1, Nat.lt_of_lt_of_le (T.top k).2 h.size⟩
  cell := fun i hi => ⟨h.keep (T.cell i hi).1, h.keep (T.cell i hi).2.1, h.keep (T.cell i hi).2.2⟩
  wf := T.wf
/-- All counts lie within B. -/
structure Rm.bd (R : Rm) (B : Int) : Prop where
  m : -B ≤ R.m ∧ R.m ≤ B
  l0 : -B ≤ R.l0 ∧ R.l0 ≤ B
  w0 : -B ≤ R.w0 ∧ R.w0 ≤ B
  x0 : -B ≤ R.x0 ∧ R.x0 ≤ B
  o0 : -B ≤ R.o0 ∧ R.o0 ≤ B
  l1 : -B ≤ R.l1 ∧ R.l1 ≤ B
  w1 : -B ≤ R.w1 ∧ R.w1 ≤ B
  x1 : -B ≤ R.x1 ∧ R.x1 ≤ B
  o1 : -B ≤ R.o1 ∧ R.o1 ≤ B
  a : R.a = 0 ∨ R.a = 1 ∨ R.a = 2
theorem Rm.bd.small {R : Rm} {B : Int} (h : R.bd B) (hB : B ≤ 1000000) : R.small := by
  obtain ⟨h0, h1, h2, h3, h4, h5, h6, h7, h8, h9⟩ := h
  exact ⟨by omega, by omega, by omega, by omega, by omega, by omega, by omega, by omega, h9⟩
theorem Rm.bd.mono {R : Rm} {B B' : Int} (h : R.bd B) (hB : B ≤ B') : R.bd B' := by
  obtain ⟨h0, h1, h2, h3, h4, h5, h6, h7, h8, h9⟩ := h
  exact ⟨by omega, by omega, by omega, by omega, by omega, by omega, by omega, by omega, by omega, h9⟩
theorem bd_new {n : Int} (h0 : 0 ≤ n) (h1 : n ≤ 20) : (newR n).bd 20 := ⟨by simp only [newR]; omega, by simp only [newR]; omega, by simp [newR], by simp [newR], by simp [newR], by simp only [newR]; omega, by simp [newR], by simp [newR], by simp [newR], by simp [newR]⟩
theorem ask_side {R : Rm} {n c : Int} (h : askE R n c = 0) : sideB n = true ∧ R.a = 0 ∧ lfN R n ≠ 0 := by
  unfold askE at h
  by_cases hs : sideB n = true
  · rw [if_pos hs] at h
    by_cases hg : givB c = true
    · rw [if_pos hg] at h
      by_cases ha : (R.a == 0) = true
      · rw [if_pos ha] at h
        by_cases hl : (lfN R n == 0) = true
        · rw [if_pos hl] at h; simp at h
        · exact ⟨hs, by simpa using ha, by simpa using hl⟩
      · rw [if_neg ha] at h; simp at h
    · rw [if_neg hg] at h; simp at h
  · rw [if_neg hs] at h; simp at h
theorem bd_ask {R : Rm} {B n c : Int} (h : R.bd B) : (askR R n c).bd B := by
  unfold askR
  split
  · rename_i he
    have hs := side_cases (ask_side (by simpa using he)).1
    obtain ⟨h0, h1, h2, h3, h4, h5, h6, h7, h8, h9⟩ := h
    exact ⟨h0, h1, h2, h3, h4, h5, h6, h7, h8, by rcases hs with h | h <;> simp [h]⟩
  · exact h
theorem bd_dec {R : Rm} {B v : Int} (h : R.bd B) : (decR R v).bd (B + 1) := by
  obtain ⟨h0, h1, h2, h3, h4, h5, h6, h7, h8, h9⟩ := h
  unfold decR
  split
  · unfold decS
    split
    · split <;> (constructor <;> dsimp only <;> omega)
    · split
      · split <;> (constructor <;> dsimp only <;> omega)
      · split <;> (constructor <;> dsimp only <;> omega)
  · constructor <;> omega
theorem bd_ren {R : Rm} {B : Int} (h : R.bd B) : (renR R).bd B := by
  obtain ⟨h0, h1, h2, h3, h4, h5, h6, h7, h8, h9⟩ := h
  exact ⟨h0, h0, h2, h3, h4, h0, h6, h7, h8, h9⟩
theorem dec_a {R : Rm} {v : Int} (h : decE R v = 0) : (decR R v).a = 0 := by
  rw [(dec_ok h).2.2]
  unfold decS
  split
  · split <;> rfl
  · split
    · split <;> rfl
    · split <;> rfl
/-- What is left and what is lost are the number of the beginning. -/
structure Rm.inv (R : Rm) (N : Int) : Prop where
  s0 : R.l0 + R.x0 = N
  s1 : R.l1 + R.x1 = N
  p0 : 0 ≤ R.l0
  p1 : 0 ≤ R.l1
  q0 : R.a = 1 → 1 ≤ R.l0
  q1 : R.a = 2 → 1 ≤ R.l1
theorem inv_new {n : Int} (h0 : 0 ≤ n) : (newR n).inv n := ⟨by simp [newR], by simp [newR], h0, h0, by simp [newR], by simp [newR]⟩
theorem inv_ask {R : Rm} {N n c : Int} (h : R.inv N) : (askR R n c).inv N := by
  unfold askR
  split
  · rename_i he
    obtain ⟨hs, ha, hl⟩ := ask_side (by simpa using he)
    obtain ⟨h1, h2, h3, h4, _, _⟩ := h
    rcases side_cases hs with rfl | rfl
    · refine ⟨h1, h2, h3, h4, fun _ => ?_, (fun h => by cases h)⟩
      have : R.l0 ≠ 0 := hl
      show 1 ≤ R.l0
      omega
    · refine ⟨h1, h2, h3, h4, (fun h => by cases h), fun _ => ?_⟩
      have : R.l1 ≠ 0 := hl
      show 1 ≤ R.l1
      omega
  · exact h
theorem inv_dec {R : Rm} {N v : Int} (h : R.inv N) (ha : R.a = 0 ∨ R.a = 1 ∨ R.a = 2) : (decR R v).inv N := by
  unfold decR
  split
  · rename_i he
    have hne : R.a ≠ 0 := by
      intro h0
      rw [decE, h0] at he
      simp at he
    obtain ⟨h1, h2, h3, h4, h5, h6⟩ := h
    unfold decS
    rcases ha with h0 | h0 | h0
    · exact absurd h0 hne
    · have := h5 h0
      split
      · rw [h0]; exact ⟨h1, h2, h3, h4, (fun h => by cases h), (fun h => by cases h)⟩
      · split
        · rw [h0]; exact ⟨by show R.l0 - 1 + (R.x0 + 1) = N; omega, h2, by show 0 ≤ R.l0 - 1; omega, h4, (fun h => by cases h), (fun h => by cases h)⟩
        · rw [h0]; exact ⟨h1, h2, h3, h4, (fun h => by cases h), (fun h => by cases h)⟩
    · have := h6 h0
      split
      · rw [h0]; exact ⟨h1, h2, h3, h4, (fun h => by cases h), (fun h => by cases h)⟩
      · split
        · rw [h0]; exact ⟨h1, by show R.l1 - 1 + (R.x1 + 1) = N; omega, h3, by show 0 ≤ R.l1 - 1; omega, (fun h => by cases h), (fun h => by cases h)⟩
        · rw [h0]; exact ⟨h1, h2, h3, h4, (fun h => by cases h), (fun h => by cases h)⟩
  · exact h
theorem inv_side {R : Rm} {N n : Int} (h : R.inv N) (hn : n = 1 ∨ n = 2) : lfN R n + lsN R n = N ∧ 0 ≤ lfN R n := by
  obtain ⟨h1, h2, h3, h4, _, _⟩ := h
  rcases hn with rfl | rfl
  · exact ⟨h1, h3⟩
  · exact ⟨h2, h4⟩
theorem bd_side {R : Rm} {B n : Int} (h : R.bd B) (hn : n = 1 ∨ n = 2) : (-B ≤ lfN R n ∧ lfN R n ≤ B) ∧ (-B ≤ wnN R n ∧ wnN R n ≤ B) ∧ (-B ≤ lsN R n ∧ lsN R n ≤ B) ∧ (-B ≤ opN R n ∧ opN R n ≤ B) := by
  obtain ⟨h0, h1, h2, h3, h4, h5, h6, h7, h8, h9⟩ := h
  rcases hn with rfl | rfl
  · exact ⟨h1, h2, h3, h4⟩
  · exact ⟨h5, h6, h7, h8⟩
theorem as_side {R : Rm} {n : Int} (hn : n = 1 ∨ n = 2) : asN R n = wnN R n + lsN R n + opN R n + (if R.a = n then 1 else 0) := by
  rcases hn with rfl | rfl <;> rfl

end Go.Proofs.YtppoejhfemolfaaDoor

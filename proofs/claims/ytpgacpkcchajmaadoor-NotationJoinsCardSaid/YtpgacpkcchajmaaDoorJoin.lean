/-
  strings.Join with blanks between, of at most twelve words.
-/
import Derived.Test.YtpgacpkcchajmaaDoorMem
import Derived.Test.YtpgacpkcchajmaaDoorBldS
namespace Go.Proofs.YtpgacpkcchajmaaDoor
open Go.RowKit
set_option linter.unusedSimpArgs false
/-- Words 0 to k with blanks between. -/
def jnTo (g : Nat → List UInt8) : Nat → List UInt8
  | 0 => g 0
  | k + 1 => jnTo g k ++ 32 :: g (k + 1)
theorem jnTo_len (g : Nat → List UInt8) (M : Nat) : ∀ k, (∀ j, j ≤ k → (g j).length ≤ M) → (jnTo g k).length ≤ (k + 1) * (M + 1)
  | 0, h => by have := h 0 (Nat.le_refl _); simp [jnTo]; omega
  | k + 1, h => by
    have h1 := jnTo_len g M k (fun j hj => h j (by omega))
    have h2 := h (k + 1) (Nat.le_refl _)
    simp only [jnTo, List.length_append, List.length_cons]
    have : (k + 1 + 1) * (M + 1) = (k + 1) * (M + 1) + (M + 1) := by rw [Nat.add_mul]; omega
    omega
theorem str_size (l : List UInt8) : (⟨l.toArray⟩ : ByteArray).size = l.length := by simp [ByteArray.size]

set_option maxHeartbeats 16000000 in
theorem join2_any (bk c : Nat) (g : Nat → List UInt8) (w : World) (hg : ∀ j, j < 2 → (g j).length ≤ 100) (hcn : 2 ≤ c)
    (hcells : ∀ j, j < 2 → w.cell? ⟨bk, j, none⟩ = some (.string ⟨(g j).toArray⟩)) :
    Calls Tryd.prog 36 #[.slice (some ⟨bk, 0, none⟩) 2 c, .string ⟨#[32]⟩] w fun e w' => e = .returned (.string ⟨(jnTo g 1).toArray⟩) ∧ Ext w w' := by
  have HC := Lib.hid hcells
  have HG := Lib.hid hg
  clear hcells hg
  go_enter Tryd.func36, Tryd.ntmps36
  go_wp2
  go_loop [5, 41] (fun n i => ∃ k N : Nat, k ≤ 2 ∧ N ≤ 1 + 100 * k ∧ i = .int .i64 k ∧ n = .int .i64 N) (fun _ i => 2 - (intOf i).toNat)
  case atStart => exact ⟨0, 1, by omega, by omega, rfl, rfl⟩
  case round =>
    obtain ⟨k, N, hk, hN, rfl, rfl⟩ := hrel
    by_cases hlt : k < 2
    · have hc := HC.out k hlt
      have hl := HG.out k hlt
      obtain ⟨S, hS⟩ : ∃ S : List UInt8, g k = S := ⟨_, rfl⟩
      rw [hS] at hc hl
      go_wp2
      go_round
      case rel => exact ⟨k + 1, N + S.length, by omega, by omega, by go_num, by (try simp); (try go_num)⟩
      case measure => simp [intOf]; omega
    · obtain rfl : k = 2 := by omega
      obtain ⟨S0, hS0⟩ : ∃ S0 : List UInt8, g 0 = S0 := ⟨_, rfl⟩
      have hl0 : S0.length ≤ 100 := by rw [← hS0]; exact HG.out 0 (by decide)
      have hc0 : w.cell? ⟨bk, 0, none⟩ = some (.string ⟨S0.toArray⟩) := by rw [← hS0]; exact HC.out 0 (by decide)
      have HS0 := Lib.hid hS0
      clear hS0
      go_wp2_with (first | (go_at_call 49; refine (Tryd.Builder_Grow_fresh w.heap.size w.heap.size N _ (Nat.le_refl _) (heap_alloc_new w _) (by simp) (by omega)).mono ?_; rintro e w1 ⟨rfl, hw1, hx1⟩; have hb1 : Ext w w1 := Below.trans ((by repeat (first | exact Ext.refl _ | refine Ext.setCell ?_ (by first | exact Nat.le_refl _ | (simp; done) | (simp; omega)) _ | refine Ext.drew ?_ | refine Ext.drewN ?_ _ | refine Ext.alloc ?_ _)) : Ext w _) hx1; have hc1 := hb1.keep hc0; have HB1 : Hid (BldAt w.heap.size [] w1) := .inr hw1; have hlt1 : w.heap.size < w1.heap.size := Lib.BuilderAt.lt hw1; clear hw1 hx1) | (go_at_call 50; refine (wstr_any w.heap.size [] S0 _ HB1.out (by simp; omega) hlt1).mono ?_; rintro e w2 ⟨rfl, hw2, hx2, _⟩; have hb2 : Ext w w2 := Below.trans hb1 hx2; have HB2 : Hid (BldAt w.heap.size (jnTo g 0) w2) := (by rw [Hid, jnTo, HS0.out]; exact hw2); have hlt2' : w.heap.size < w2.heap.size := Nat.lt_of_lt_of_le hlt1 hx2.size; clear hw2 hx2))
      go_loopw [65] (fun i wr => ∃ k : Nat, k ≤ 1 ∧ i = .int .i64 k ∧ Hid (BldAt w.heap.size (jnTo g k) wr) ∧ Ext w wr ∧ w.heap.size < wr.heap.size) (fun i _ => 1 - (intOf i).toNat)
      case atStart => exact ⟨0, by omega, rfl, HB2, hb2, hlt2'⟩
      case round =>
        obtain ⟨k, hk5, rfl, HB, hE, hlt2⟩ := hrel
        by_cases hlt : k < 1
        · obtain ⟨S, hS⟩ : ∃ S : List UInt8, g (k + 1) = S := ⟨_, rfl⟩
          have hl : S.length ≤ 100 := by rw [← hS]; exact HG.out (k + 1) (by omega)
          have hc : wr.cell? ⟨bk, 1 + k, none⟩ = some (.string ⟨S.toArray⟩) := by rw [← hS, show 1 + k = k + 1 by omega]; exact hE.keep (HC.out (k + 1) (by omega))
          have HS := Lib.hid hS
          have HJ : Hid ((jnTo g k).length ≤ 2000) := by
            have := jnTo_len g 100 k (fun j hj => HG.out j (by omega))
            have h2 : (k + 1) * (100 + 1) ≤ 2 * 101 := Nat.mul_le_mul_right _ (by omega)
            exact Nat.le_trans this (by omega)
          clear hS
          go_wp2_with (first | ((fail_if_success (have hzz := HB3)); go_at_call 50; refine (wstr_any w.heap.size (jnTo g k) [32] _ HB.out (by have := HJ.out; simp; omega) hlt2).mono ?_; rintro e w3 ⟨rfl, hw3, hx3, _⟩; have hb3 : Ext w w3 := Below.trans hE hx3; have hc3 : w3.cell? ⟨bk, 1 + k, none⟩ = some (.string ⟨S.toArray⟩) := (by rw [← HS.out, show 1 + k = k + 1 by omega]; exact hb3.keep (HC.out (k + 1) (by omega))); have HB3 := Lib.hid hw3; have hlt3 : w.heap.size < w3.heap.size := Nat.lt_of_lt_of_le hlt2 hx3.size; clear hw3 hx3) | (go_at_call 50; refine (wstr_any w.heap.size (jnTo g k ++ [32]) S _ HB3.out (by have := HJ.out; simp; omega) hlt3).mono ?_; rintro e w4 ⟨rfl, hw4, hx4, _⟩; have hb4 : Ext w w4 := Below.trans hb3 hx4; have HB4 : Hid (BldAt w.heap.size (jnTo g (k + 1)) w4) := (by rw [Hid, jnTo, HS.out]; simpa using hw4); have hlt4 : w.heap.size < w4.heap.size := Nat.lt_of_lt_of_le hlt3 hx4.size; clear hw4 hx4))
          go_roundw
          case rel => exact ⟨k + 1, by omega, by go_num, HB4, hb4, hlt4⟩
          case measure => simp [intOf]; omega
        · obtain rfl : k = 1 := by omega
          go_wp2_with (first | (go_at_call 51; refine (Tryd.Builder_String_any w.heap.size w.heap.size _ _ HB.out (Nat.le_of_lt hlt2)).mono ?_; rintro e w5 ⟨rfl, hb5⟩))
          go_ret
          exact ⟨rfl, Below.trans hE hb5⟩


set_option maxHeartbeats 16000000 in
theorem join3_any (bk c : Nat) (g : Nat → List UInt8) (w : World) (hg : ∀ j, j < 3 → (g j).length ≤ 100) (hcn : 3 ≤ c)
    (hcells : ∀ j, j < 3 → w.cell? ⟨bk, j, none⟩ = some (.string ⟨(g j).toArray⟩)) :
    Calls Tryd.prog 36 #[.slice (some ⟨bk, 0, none⟩) 3 c, .string ⟨#[32]⟩] w fun e w' => e = .returned (.string ⟨(jnTo g 2).toArray⟩) ∧ Ext w w' := by
  have HC := Lib.hid hcells
  have HG := Lib.hid hg
  clear hcells hg
  go_enter Tryd.func36, Tryd.ntmps36
  go_wp2
  go_loop [5, 41] (fun n i => ∃ k N : Nat, k ≤ 3 ∧ N ≤ 2 + 100 * k ∧ i = .int .i64 k ∧ n = .int .i64 N) (fun _ i => 3 - (intOf i).toNat)
  case atStart => exact ⟨0, 2, by omega, by omega, rfl, rfl⟩
  case round =>
    obtain ⟨k, N, hk, hN, rfl, rfl⟩ := hrel
    by_cases hlt : k < 3
    · have hc := HC.out k hlt
      have hl := HG.out k hlt
      obtain ⟨S, hS⟩ : ∃ S : List UInt8, g k = S := ⟨_, rfl⟩
      rw [hS] at hc hl
      go_wp2
      go_round
      case rel => exact ⟨k + 1, N + S.length, by omega, by omega, by go_num, by (try simp); (try go_num)⟩
      case measure => simp [intOf]; omega
    · obtain rfl : k = 3 := by omega
      obtain ⟨S0, hS0⟩ : ∃ S0 : List UInt8, g 0 = S0 := ⟨_, rfl⟩
      have hl0 : S0.length ≤ 100 := by rw [← hS0]; exact HG.out 0 (by decide)
      have hc0 : w.cell? ⟨bk, 0, none⟩ = some (.string ⟨S0.toArray⟩) := by rw [← hS0]; exact HC.out 0 (by decide)
      have HS0 := Lib.hid hS0
      clear hS0
      go_wp2_with (first | (go_at_call 49; refine (Tryd.Builder_Grow_fresh w.heap.size w.heap.size N _ (Nat.le_refl _) (heap_alloc_new w _) (by simp) (by omega)).mono ?_; rintro e w1 ⟨rfl, hw1, hx1⟩; have hb1 : Ext w w1 := Below.trans ((by repeat (first | exact Ext.refl _ | refine Ext.setCell ?_ (by first | exact Nat.le_refl _ | (simp; done) | (simp; omega)) _ | refine Ext.drew ?_ | refine Ext.drewN ?_ _ | refine Ext.alloc ?_ _)) : Ext w _) hx1; have hc1 := hb1.keep hc0; have HB1 : Hid (BldAt w.heap.size [] w1) := .inr hw1; have hlt1 : w.heap.size < w1.heap.size := Lib.BuilderAt.lt hw1; clear hw1 hx1) | (go_at_call 50; refine (wstr_any w.heap.size [] S0 _ HB1.out (by simp; omega) hlt1).mono ?_; rintro e w2 ⟨rfl, hw2, hx2, _⟩; have hb2 : Ext w w2 := Below.trans hb1 hx2; have HB2 : Hid (BldAt w.heap.size (jnTo g 0) w2) := (by rw [Hid, jnTo, HS0.out]; exact hw2); have hlt2' : w.heap.size < w2.heap.size := Nat.lt_of_lt_of_le hlt1 hx2.size; clear hw2 hx2))
      go_loopw [65] (fun i wr => ∃ k : Nat, k ≤ 2 ∧ i = .int .i64 k ∧ Hid (BldAt w.heap.size (jnTo g k) wr) ∧ Ext w wr ∧ w.heap.size < wr.heap.size) (fun i _ => 2 - (intOf i).toNat)
      case atStart => exact ⟨0, by omega, rfl, HB2, hb2, hlt2'⟩
      case round =>
        obtain ⟨k, hk5, rfl, HB, hE, hlt2⟩ := hrel
        by_cases hlt : k < 2
        · obtain ⟨S, hS⟩ : ∃ S : List UInt8, g (k + 1) = S := ⟨_, rfl⟩
          have hl : S.length ≤ 100 := by rw [← hS]; exact HG.out (k + 1) (by omega)
          have hc : wr.cell? ⟨bk, 1 + k, none⟩ = some (.string ⟨S.toArray⟩) := by rw [← hS, show 1 + k = k + 1 by omega]; exact hE.keep (HC.out (k + 1) (by omega))
          have HS := Lib.hid hS
          have HJ : Hid ((jnTo g k).length ≤ 2000) := by
            have := jnTo_len g 100 k (fun j hj => HG.out j (by omega))
            have h2 : (k + 1) * (100 + 1) ≤ 3 * 101 := Nat.mul_le_mul_right _ (by omega)
            exact Nat.le_trans this (by omega)
          clear hS
          go_wp2_with (first | ((fail_if_success (have hzz := HB3)); go_at_call 50; refine (wstr_any w.heap.size (jnTo g k) [32] _ HB.out (by have := HJ.out; simp; omega) hlt2).mono ?_; rintro e w3 ⟨rfl, hw3, hx3, _⟩; have hb3 : Ext w w3 := Below.trans hE hx3; have hc3 : w3.cell? ⟨bk, 1 + k, none⟩ = some (.string ⟨S.toArray⟩) := (by rw [← HS.out, show 1 + k = k + 1 by omega]; exact hb3.keep (HC.out (k + 1) (by omega))); have HB3 := Lib.hid hw3; have hlt3 : w.heap.size < w3.heap.size := Nat.lt_of_lt_of_le hlt2 hx3.size; clear hw3 hx3) | (go_at_call 50; refine (wstr_any w.heap.size (jnTo g k ++ [32]) S _ HB3.out (by have := HJ.out; simp; omega) hlt3).mono ?_; rintro e w4 ⟨rfl, hw4, hx4, _⟩; have hb4 : Ext w w4 := Below.trans hb3 hx4; have HB4 : Hid (BldAt w.heap.size (jnTo g (k + 1)) w4) := (by rw [Hid, jnTo, HS.out]; simpa using hw4); have hlt4 : w.heap.size < w4.heap.size := Nat.lt_of_lt_of_le hlt3 hx4.size; clear hw4 hx4))
          go_roundw
          case rel => exact ⟨k + 1, by omega, by go_num, HB4, hb4, hlt4⟩
          case measure => simp [intOf]; omega
        · obtain rfl : k = 2 := by omega
          go_wp2_with (first | (go_at_call 51; refine (Tryd.Builder_String_any w.heap.size w.heap.size _ _ HB.out (Nat.le_of_lt hlt2)).mono ?_; rintro e w5 ⟨rfl, hb5⟩))
          go_ret
          exact ⟨rfl, Below.trans hE hb5⟩


set_option maxHeartbeats 16000000 in
theorem join4_any (bk c : Nat) (g : Nat → List UInt8) (w : World) (hg : ∀ j, j < 4 → (g j).length ≤ 100) (hcn : 4 ≤ c)
    (hcells : ∀ j, j < 4 → w.cell? ⟨bk, j, none⟩ = some (.string ⟨(g j).toArray⟩)) :
    Calls Tryd.prog 36 #[.slice (some ⟨bk, 0, none⟩) 4 c, .string ⟨#[32]⟩] w fun e w' => e = .returned (.string ⟨(jnTo g 3).toArray⟩) ∧ Ext w w' := by
  have HC := Lib.hid hcells
  have HG := Lib.hid hg
  clear hcells hg
  go_enter Tryd.func36, Tryd.ntmps36
  go_wp2
  go_loop [5, 41] (fun n i => ∃ k N : Nat, k ≤ 4 ∧ N ≤ 3 + 100 * k ∧ i = .int .i64 k ∧ n = .int .i64 N) (fun _ i => 4 - (intOf i).toNat)
  case atStart => exact ⟨0, 3, by omega, by omega, rfl, rfl⟩
  case round =>
    obtain ⟨k, N, hk, hN, rfl, rfl⟩ := hrel
    by_cases hlt : k < 4
    · have hc := HC.out k hlt
      have hl := HG.out k hlt
      obtain ⟨S, hS⟩ : ∃ S : List UInt8, g k = S := ⟨_, rfl⟩
      rw [hS] at hc hl
      go_wp2
      go_round
      case rel => exact ⟨k + 1, N + S.length, by omega, by omega, by go_num, by (try simp); (try go_num)⟩
      case measure => simp [intOf]; omega
    · obtain rfl : k = 4 := by omega
      obtain ⟨S0, hS0⟩ : ∃ S0 : List UInt8, g 0 = S0 := ⟨_, rfl⟩
      have hl0 : S0.length ≤ 100 := by rw [← hS0]; exact HG.out 0 (by decide)
      have hc0 : w.cell? ⟨bk, 0, none⟩ = some (.string ⟨S0.toArray⟩) := by rw [← hS0]; exact HC.out 0 (by decide)
      have HS0 := Lib.hid hS0
      clear hS0
      go_wp2_with (first | (go_at_call 49; refine (Tryd.Builder_Grow_fresh w.heap.size w.heap.size N _ (Nat.le_refl _) (heap_alloc_new w _) (by simp) (by omega)).mono ?_; rintro e w1 ⟨rfl, hw1, hx1⟩; have hb1 : Ext w w1 := Below.trans ((by repeat (first | exact Ext.refl _ | refine Ext.setCell ?_ (by first | exact Nat.le_refl _ | (simp; done) | (simp; omega)) _ | refine Ext.drew ?_ | refine Ext.drewN ?_ _ | refine Ext.alloc ?_ _)) : Ext w _) hx1; have hc1 := hb1.keep hc0; have HB1 : Hid (BldAt w.heap.size [] w1) := .inr hw1; have hlt1 : w.heap.size < w1.heap.size := Lib.BuilderAt.lt hw1; clear hw1 hx1) | (go_at_call 50; refine (wstr_any w.heap.size [] S0 _ HB1.out (by simp; omega) hlt1).mono ?_; rintro e w2 ⟨rfl, hw2, hx2, _⟩; have hb2 : Ext w w2 := Below.trans hb1 hx2; have HB2 : Hid (BldAt w.heap.size (jnTo g 0) w2) := (by rw [Hid, jnTo, HS0.out]; exact hw2); have hlt2' : w.heap.size < w2.heap.size := Nat.lt_of_lt_of_le hlt1 hx2.size; clear hw2 hx2))
      go_loopw [65] (fun i wr => ∃ k : Nat, k ≤ 3 ∧ i = .int .i64 k ∧ Hid (BldAt w.heap.size (jnTo g k) wr) ∧ Ext w wr ∧ w.heap.size < wr.heap.size) (fun i _ => 3 - (intOf i).toNat)
      case atStart => exact ⟨0, by omega, rfl, HB2, hb2, hlt2'⟩
      case round =>
        obtain ⟨k, hk5, rfl, HB, hE, hlt2⟩ := hrel
        by_cases hlt : k < 3
        · obtain ⟨S, hS⟩ : ∃ S : List UInt8, g (k + 1) = S := ⟨_, rfl⟩
          have hl : S.length ≤ 100 := by rw [← hS]; exact HG.out (k + 1) (by omega)
          have hc : wr.cell? ⟨bk, 1 + k, none⟩ = some (.string ⟨S.toArray⟩) := by rw [← hS, show 1 + k = k + 1 by omega]; exact hE.keep (HC.out (k + 1) (by omega))
          have HS := Lib.hid hS
          have HJ : Hid ((jnTo g k).length ≤ 2000) := by
            have := jnTo_len g 100 k (fun j hj => HG.out j (by omega))
            have h2 : (k + 1) * (100 + 1) ≤ 4 * 101 := Nat.mul_le_mul_right _ (by omega)
            exact Nat.le_trans this (by omega)
          clear hS
          go_wp2_with (first | ((fail_if_success (have hzz := HB3)); go_at_call 50; refine (wstr_any w.heap.size (jnTo g k) [32] _ HB.out (by have := HJ.out; simp; omega) hlt2).mono ?_; rintro e w3 ⟨rfl, hw3, hx3, _⟩; have hb3 : Ext w w3 := Below.trans hE hx3; have hc3 : w3.cell? ⟨bk, 1 + k, none⟩ = some (.string ⟨S.toArray⟩) := (by rw [← HS.out, show 1 + k = k + 1 by omega]; exact hb3.keep (HC.out (k + 1) (by omega))); have HB3 := Lib.hid hw3; have hlt3 : w.heap.size < w3.heap.size := Nat.lt_of_lt_of_le hlt2 hx3.size; clear hw3 hx3) | (go_at_call 50; refine (wstr_any w.heap.size (jnTo g k ++ [32]) S _ HB3.out (by have := HJ.out; simp; omega) hlt3).mono ?_; rintro e w4 ⟨rfl, hw4, hx4, _⟩; have hb4 : Ext w w4 := Below.trans hb3 hx4; have HB4 : Hid (BldAt w.heap.size (jnTo g (k + 1)) w4) := (by rw [Hid, jnTo, HS.out]; simpa using hw4); have hlt4 : w.heap.size < w4.heap.size := Nat.lt_of_lt_of_le hlt3 hx4.size; clear hw4 hx4))
          go_roundw
          case rel => exact ⟨k + 1, by omega, by go_num, HB4, hb4, hlt4⟩
          case measure => simp [intOf]; omega
        · obtain rfl : k = 3 := by omega
          go_wp2_with (first | (go_at_call 51; refine (Tryd.Builder_String_any w.heap.size w.heap.size _ _ HB.out (Nat.le_of_lt hlt2)).mono ?_; rintro e w5 ⟨rfl, hb5⟩))
          go_ret
          exact ⟨rfl, Below.trans hE hb5⟩


set_option maxHeartbeats 16000000 in
theorem join5_any (bk c : Nat) (g : Nat → List UInt8) (w : World) (hg : ∀ j, j < 5 → (g j).length ≤ 100) (hcn : 5 ≤ c)
    (hcells : ∀ j, j < 5 → w.cell? ⟨bk, j, none⟩ = some (.string ⟨(g j).toArray⟩)) :
    Calls Tryd.prog 36 #[.slice (some ⟨bk, 0, none⟩) 5 c, .string ⟨#[32]⟩] w fun e w' => e = .returned (.string ⟨(jnTo g 4).toArray⟩) ∧ Ext w w' := by
  have HC := Lib.hid hcells
  have HG := Lib.hid hg
  clear hcells hg
  go_enter Tryd.func36, Tryd.ntmps36
  go_wp2
  go_loop [5, 41] (fun n i => ∃ k N : Nat, k ≤ 5 ∧ N ≤ 4 + 100 * k ∧ i = .int .i64 k ∧ n = .int .i64 N) (fun _ i => 5 - (intOf i).toNat)
  case atStart => exact ⟨0, 4, by omega, by omega, rfl, rfl⟩
  case round =>
    obtain ⟨k, N, hk, hN, rfl, rfl⟩ := hrel
    by_cases hlt : k < 5
    · have hc := HC.out k hlt
      have hl := HG.out k hlt
      obtain ⟨S, hS⟩ : ∃ S : List UInt8, g k = S := ⟨_, rfl⟩
      rw [hS] at hc hl
      go_wp2
      go_round
      case rel => exact ⟨k + 1, N + S.length, by omega, by omega, by go_num, by (try simp); (try go_num)⟩
      case measure => simp [intOf]; omega
    · obtain rfl : k = 5 := by omega
      obtain ⟨S0, hS0⟩ : ∃ S0 : List UInt8, g 0 = S0 := ⟨_, rfl⟩
      have hl0 : S0.length ≤ 100 := by rw [← hS0]; exact HG.out 0 (by decide)
      have hc0 : w.cell? ⟨bk, 0, none⟩ = some (.string ⟨S0.toArray⟩) := by rw [← hS0]; exact HC.out 0 (by decide)
      have HS0 := Lib.hid hS0
      clear hS0
      go_wp2_with (first | (go_at_call 49; refine (Tryd.Builder_Grow_fresh w.heap.size w.heap.size N _ (Nat.le_refl _) (heap_alloc_new w _) (by simp) (by omega)).mono ?_; rintro e w1 ⟨rfl, hw1, hx1⟩; have hb1 : Ext w w1 := Below.trans ((by repeat (first | exact Ext.refl _ | refine Ext.setCell ?_ (by first | exact Nat.le_refl _ | (simp; done) | (simp; omega)) _ | refine Ext.drew ?_ | refine Ext.drewN ?_ _ | refine Ext.alloc ?_ _)) : Ext w _) hx1; have hc1 := hb1.keep hc0; have HB1 : Hid (BldAt w.heap.size [] w1) := .inr hw1; have hlt1 : w.heap.size < w1.heap.size := Lib.BuilderAt.lt hw1; clear hw1 hx1) | (go_at_call 50; refine (wstr_any w.heap.size [] S0 _ HB1.out (by simp; omega) hlt1).mono ?_; rintro e w2 ⟨rfl, hw2, hx2, _⟩; have hb2 : Ext w w2 := Below.trans hb1 hx2; have HB2 : Hid (BldAt w.heap.size (jnTo g 0) w2) := (by rw [Hid, jnTo, HS0.out]; exact hw2); have hlt2' : w.heap.size < w2.heap.size := Nat.lt_of_lt_of_le hlt1 hx2.size; clear hw2 hx2))
      go_loopw [65] (fun i wr => ∃ k : Nat, k ≤ 4 ∧ i = .int .i64 k ∧ Hid (BldAt w.heap.size (jnTo g k) wr) ∧ Ext w wr ∧ w.heap.size < wr.heap.size) (fun i _ => 4 - (intOf i).toNat)
      case atStart => exact ⟨0, by omega, rfl, HB2, hb2, hlt2'⟩
      case round =>
        obtain ⟨k, hk5, rfl, HB, hE, hlt2⟩ := hrel
        by_cases hlt : k < 4
        · obtain ⟨S, hS⟩ : ∃ S : List UInt8, g (k + 1) = S := ⟨_, rfl⟩
          have hl : S.length ≤ 100 := by rw [← hS]; exact HG.out (k + 1) (by omega)
          have hc : wr.cell? ⟨bk, 1 + k, none⟩ = some (.string ⟨S.toArray⟩) := by rw [← hS, show 1 + k = k + 1 by omega]; exact hE.keep (HC.out (k + 1) (by omega))
          have HS := Lib.hid hS
          have HJ : Hid ((jnTo g k).length ≤ 2000) := by
            have := jnTo_len g 100 k (fun j hj => HG.out j (by omega))
            have h2 : (k + 1) * (100 + 1) ≤ 5 * 101 := Nat.mul_le_mul_right _ (by omega)
            exact Nat.le_trans this (by omega)
          clear hS
          go_wp2_with (first | ((fail_if_success (have hzz := HB3)); go_at_call 50; refine (wstr_any w.heap.size (jnTo g k) [32] _ HB.out (by have := HJ.out; simp; omega) hlt2).mono ?_; rintro e w3 ⟨rfl, hw3, hx3, _⟩; have hb3 : Ext w w3 := Below.trans hE hx3; have hc3 : w3.cell? ⟨bk, 1 + k, none⟩ = some (.string ⟨S.toArray⟩) := (by rw [← HS.out, show 1 + k = k + 1 by omega]; exact hb3.keep (HC.out (k + 1) (by omega))); have HB3 := Lib.hid hw3; have hlt3 : w.heap.size < w3.heap.size := Nat.lt_of_lt_of_le hlt2 hx3.size; clear hw3 hx3) | (go_at_call 50; refine (wstr_any w.heap.size (jnTo g k ++ [32]) S _ HB3.out (by have := HJ.out; simp; omega) hlt3).mono ?_; rintro e w4 ⟨rfl, hw4, hx4, _⟩; have hb4 : Ext w w4 := Below.trans hb3 hx4; have HB4 : Hid (BldAt w.heap.size (jnTo g (k + 1)) w4) := (by rw [Hid, jnTo, HS.out]; simpa using hw4); have hlt4 : w.heap.size < w4.heap.size := Nat.lt_of_lt_of_le hlt3 hx4.size; clear hw4 hx4))
          go_roundw
          case rel => exact ⟨k + 1, by omega, by go_num, HB4, hb4, hlt4⟩
          case measure => simp [intOf]; omega
        · obtain rfl : k = 4 := by omega
          go_wp2_with (first | (go_at_call 51; refine (Tryd.Builder_String_any w.heap.size w.heap.size _ _ HB.out (Nat.le_of_lt hlt2)).mono ?_; rintro e w5 ⟨rfl, hb5⟩))
          go_ret
          exact ⟨rfl, Below.trans hE hb5⟩


set_option maxHeartbeats 16000000 in
theorem join6_any (bk c : Nat) (g : Nat → List UInt8) (w : World) (hg : ∀ j, j < 6 → (g j).length ≤ 100) (hcn : 6 ≤ c)
    (hcells : ∀ j, j < 6 → w.cell? ⟨bk, j, none⟩ = some (.string ⟨(g j).toArray⟩)) :
    Calls Tryd.prog 36 #[.slice (some ⟨bk, 0, none⟩) 6 c, .string ⟨#[32]⟩] w fun e w' => e = .returned (.string ⟨(jnTo g 5).toArray⟩) ∧ Ext w w' := by
  have HC := Lib.hid hcells
  have HG := Lib.hid hg
  clear hcells hg
  go_enter Tryd.func36, Tryd.ntmps36
  go_wp2
  go_loop [5, 41] (fun n i => ∃ k N : Nat, k ≤ 6 ∧ N ≤ 5 + 100 * k ∧ i = .int .i64 k ∧ n = .int .i64 N) (fun _ i => 6 - (intOf i).toNat)
  case atStart => exact ⟨0, 5, by omega, by omega, rfl, rfl⟩
  case round =>
    obtain ⟨k, N, hk, hN, rfl, rfl⟩ := hrel
    by_cases hlt : k < 6
    · have hc := HC.out k hlt
      have hl := HG.out k hlt
      obtain ⟨S, hS⟩ : ∃ S : List UInt8, g k = S := ⟨_, rfl⟩
      rw [hS] at hc hl
      go_wp2
      go_round
      case rel => exact ⟨k + 1, N + S.length, by omega, by omega, by go_num, by (try simp); (try go_num)⟩
      case measure => simp [intOf]; omega
    · obtain rfl : k = 6 := by omega
      obtain ⟨S0, hS0⟩ : ∃ S0 : List UInt8, g 0 = S0 := ⟨_, rfl⟩
      have hl0 : S0.length ≤ 100 := by rw [← hS0]; exact HG.out 0 (by decide)
      have hc0 : w.cell? ⟨bk, 0, none⟩ = some (.string ⟨S0.toArray⟩) := by rw [← hS0]; exact HC.out 0 (by decide)
      have HS0 := Lib.hid hS0
      clear hS0
      go_wp2_with (first | (go_at_call 49; refine (Tryd.Builder_Grow_fresh w.heap.size w.heap.size N _ (Nat.le_refl _) (heap_alloc_new w _) (by simp) (by omega)).mono ?_; rintro e w1 ⟨rfl, hw1, hx1⟩; have hb1 : Ext w w1 := Below.trans ((by repeat (first | exact Ext.refl _ | refine Ext.setCell ?_ (by first | exact Nat.le_refl _ | (simp; done) | (simp; omega)) _ | refine Ext.drew ?_ | refine Ext.drewN ?_ _ | refine Ext.alloc ?_ _)) : Ext w _) hx1; have hc1 := hb1.keep hc0; have HB1 : Hid (BldAt w.heap.size [] w1) := .inr hw1; have hlt1 : w.heap.size < w1.heap.size := Lib.BuilderAt.lt hw1; clear hw1 hx1) | (go_at_call 50; refine (wstr_any w.heap.size [] S0 _ HB1.out (by simp; omega) hlt1).mono ?_; rintro e w2 ⟨rfl, hw2, hx2, _⟩; have hb2 : Ext w w2 := Below.trans hb1 hx2; have HB2 : Hid (BldAt w.heap.size (jnTo g 0) w2) := (by rw [Hid, jnTo, HS0.out]; exact hw2); have hlt2' : w.heap.size < w2.heap.size := Nat.lt_of_lt_of_le hlt1 hx2.size; clear hw2 hx2))
      go_loopw [65] (fun i wr => ∃ k : Nat, k ≤ 5 ∧ i = .int .i64 k ∧ Hid (BldAt w.heap.size (jnTo g k) wr) ∧ Ext w wr ∧ w.heap.size < wr.heap.size) (fun i _ => 5 - (intOf i).toNat)
      case atStart => exact ⟨0, by omega, rfl, HB2, hb2, hlt2'⟩
      case round =>
        obtain ⟨k, hk5, rfl, HB, hE, hlt2⟩ := hrel
        by_cases hlt : k < 5
        · obtain ⟨S, hS⟩ : ∃ S : List UInt8, g (k + 1) = S := ⟨_, rfl⟩
          have hl : S.length ≤ 100 := by rw [← hS]; exact HG.out (k + 1) (by omega)
          have hc : wr.cell? ⟨bk, 1 + k, none⟩ = some (.string ⟨S.toArray⟩) := by rw [← hS, show 1 + k = k + 1 by omega]; exact hE.keep (HC.out (k + 1) (by omega))
          have HS := Lib.hid hS
          have HJ : Hid ((jnTo g k).length ≤ 2000) := by
            have := jnTo_len g 100 k (fun j hj => HG.out j (by omega))
            have h2 : (k + 1) * (100 + 1) ≤ 6 * 101 := Nat.mul_le_mul_right _ (by omega)
            exact Nat.le_trans this (by omega)
          clear hS
          go_wp2_with (first | ((fail_if_success (have hzz := HB3)); go_at_call 50; refine (wstr_any w.heap.size (jnTo g k) [32] _ HB.out (by have := HJ.out; simp; omega) hlt2).mono ?_; rintro e w3 ⟨rfl, hw3, hx3, _⟩; have hb3 : Ext w w3 := Below.trans hE hx3; have hc3 : w3.cell? ⟨bk, 1 + k, none⟩ = some (.string ⟨S.toArray⟩) := (by rw [← HS.out, show 1 + k = k + 1 by omega]; exact hb3.keep (HC.out (k + 1) (by omega))); have HB3 := Lib.hid hw3; have hlt3 : w.heap.size < w3.heap.size := Nat.lt_of_lt_of_le hlt2 hx3.size; clear hw3 hx3) | (go_at_call 50; refine (wstr_any w.heap.size (jnTo g k ++ [32]) S _ HB3.out (by have := HJ.out; simp; omega) hlt3).mono ?_; rintro e w4 ⟨rfl, hw4, hx4, _⟩; have hb4 : Ext w w4 := Below.trans hb3 hx4; have HB4 : Hid (BldAt w.heap.size (jnTo g (k + 1)) w4) := (by rw [Hid, jnTo, HS.out]; simpa using hw4); have hlt4 : w.heap.size < w4.heap.size := Nat.lt_of_lt_of_le hlt3 hx4.size; clear hw4 hx4))
          go_roundw
          case rel => exact ⟨k + 1, by omega, by go_num, HB4, hb4, hlt4⟩
          case measure => simp [intOf]; omega
        · obtain rfl : k = 5 := by omega
          go_wp2_with (first | (go_at_call 51; refine (Tryd.Builder_String_any w.heap.size w.heap.size _ _ HB.out (Nat.le_of_lt hlt2)).mono ?_; rintro e w5 ⟨rfl, hb5⟩))
          go_ret
          exact ⟨rfl, Below.trans hE hb5⟩


set_option maxHeartbeats 16000000 in
theorem join7_any (bk c : Nat) (g : Nat → List UInt8) (w : World) (hg : ∀ j, j < 7 → (g j).length ≤ 100) (hcn : 7 ≤ c)
    (hcells : ∀ j, j < 7 → w.cell? ⟨bk, j, none⟩ = some (.string ⟨(g j).toArray⟩)) :
    Calls Tryd.prog 36 #[.slice (some ⟨bk, 0, none⟩) 7 c, .string ⟨#[32]⟩] w fun e w' => e = .returned (.string ⟨(jnTo g 6).toArray⟩) ∧ Ext w w' := by
  have HC := Lib.hid hcells
  have HG := Lib.hid hg
  clear hcells hg
  go_enter Tryd.func36, Tryd.ntmps36
  go_wp2
  go_loop [5, 41] (fun n i => ∃ k N : Nat, k ≤ 7 ∧ N ≤ 6 + 100 * k ∧ i = .int .i64 k ∧ n = .int .i64 N) (fun _ i => 7 - (intOf i).toNat)
  case atStart => exact ⟨0, 6, by omega, by omega, rfl, rfl⟩
  case round =>
    obtain ⟨k, N, hk, hN, rfl, rfl⟩ := hrel
    by_cases hlt : k < 7
    · have hc := HC.out k hlt
      have hl := HG.out k hlt
      obtain ⟨S, hS⟩ : ∃ S : List UInt8, g k = S := ⟨_, rfl⟩
      rw [hS] at hc hl
      go_wp2
      go_round
      case rel => exact ⟨k + 1, N + S.length, by omega, by omega, by go_num, by (try simp); (try go_num)⟩
      case measure => simp [intOf]; omega
    · obtain rfl : k = 7 := by omega
      obtain ⟨S0, hS0⟩ : ∃ S0 : List UInt8, g 0 = S0 := ⟨_, rfl⟩
      have hl0 : S0.length ≤ 100 := by rw [← hS0]; exact HG.out 0 (by decide)
      have hc0 : w.cell? ⟨bk, 0, none⟩ = some (.string ⟨S0.toArray⟩) := by rw [← hS0]; exact HC.out 0 (by decide)
      have HS0 := Lib.hid hS0
      clear hS0
      go_wp2_with (first | (go_at_call 49; refine (Tryd.Builder_Grow_fresh w.heap.size w.heap.size N _ (Nat.le_refl _) (heap_alloc_new w _) (by simp) (by omega)).mono ?_; rintro e w1 ⟨rfl, hw1, hx1⟩; have hb1 : Ext w w1 := Below.trans ((by repeat (first | exact Ext.refl _ | refine Ext.setCell ?_ (by first | exact Nat.le_refl _ | (simp; done) | (simp; omega)) _ | refine Ext.drew ?_ | refine Ext.drewN ?_ _ | refine Ext.alloc ?_ _)) : Ext w _) hx1; have hc1 := hb1.keep hc0; have HB1 : Hid (BldAt w.heap.size [] w1) := .inr hw1; have hlt1 : w.heap.size < w1.heap.size := Lib.BuilderAt.lt hw1; clear hw1 hx1) | (go_at_call 50; refine (wstr_any w.heap.size [] S0 _ HB1.out (by simp; omega) hlt1).mono ?_; rintro e w2 ⟨rfl, hw2, hx2, _⟩; have hb2 : Ext w w2 := Below.trans hb1 hx2; have HB2 : Hid (BldAt w.heap.size (jnTo g 0) w2) := (by rw [Hid, jnTo, HS0.out]; exact hw2); have hlt2' : w.heap.size < w2.heap.size := Nat.lt_of_lt_of_le hlt1 hx2.size; clear hw2 hx2))
      go_loopw [65] (fun i wr => ∃ k : Nat, k ≤ 6 ∧ i = .int .i64 k ∧ Hid (BldAt w.heap.size (jnTo g k) wr) ∧ Ext w wr ∧ w.heap.size < wr.heap.size) (fun i _ => 6 - (intOf i).toNat)
      case atStart => exact ⟨0, by omega, rfl, HB2, hb2, hlt2'⟩
      case round =>
        obtain ⟨k, hk5, rfl, HB, hE, hlt2⟩ := hrel
        by_cases hlt : k < 6
        · obtain ⟨S, hS⟩ : ∃ S : List UInt8, g (k + 1) = S := ⟨_, rfl⟩
          have hl : S.length ≤ 100 := by rw [← hS]; exact HG.out (k + 1) (by omega)
          have hc : wr.cell? ⟨bk, 1 + k, none⟩ = some (.string ⟨S.toArray⟩) := by rw [← hS, show 1 + k = k + 1 by omega]; exact hE.keep (HC.out (k + 1) (by omega))
          have HS := Lib.hid hS
          have HJ : Hid ((jnTo g k).length ≤ 2000) := by
            have := jnTo_len g 100 k (fun j hj => HG.out j (by omega))
            have h2 : (k + 1) * (100 + 1) ≤ 7 * 101 := Nat.mul_le_mul_right _ (by omega)
            exact Nat.le_trans this (by omega)
          clear hS
          go_wp2_with (first | ((fail_if_success (have hzz := HB3)); go_at_call 50; refine (wstr_any w.heap.size (jnTo g k) [32] _ HB.out (by have := HJ.out; simp; omega) hlt2).mono ?_; rintro e w3 ⟨rfl, hw3, hx3, _⟩; have hb3 : Ext w w3 := Below.trans hE hx3; have hc3 : w3.cell? ⟨bk, 1 + k, none⟩ = some (.string ⟨S.toArray⟩) := (by rw [← HS.out, show 1 + k = k + 1 by omega]; exact hb3.keep (HC.out (k + 1) (by omega))); have HB3 := Lib.hid hw3; have hlt3 : w.heap.size < w3.heap.size := Nat.lt_of_lt_of_le hlt2 hx3.size; clear hw3 hx3) | (go_at_call 50; refine (wstr_any w.heap.size (jnTo g k ++ [32]) S _ HB3.out (by have := HJ.out; simp; omega) hlt3).mono ?_; rintro e w4 ⟨rfl, hw4, hx4, _⟩; have hb4 : Ext w w4 := Below.trans hb3 hx4; have HB4 : Hid (BldAt w.heap.size (jnTo g (k + 1)) w4) := (by rw [Hid, jnTo, HS.out]; simpa using hw4); have hlt4 : w.heap.size < w4.heap.size := Nat.lt_of_lt_of_le hlt3 hx4.size; clear hw4 hx4))
          go_roundw
          case rel => exact ⟨k + 1, by omega, by go_num, HB4, hb4, hlt4⟩
          case measure => simp [intOf]; omega
        · obtain rfl : k = 6 := by omega
          go_wp2_with (first | (go_at_call 51; refine (Tryd.Builder_String_any w.heap.size w.heap.size _ _ HB.out (Nat.le_of_lt hlt2)).mono ?_; rintro e w5 ⟨rfl, hb5⟩))
          go_ret
          exact ⟨rfl, Below.trans hE hb5⟩


set_option maxHeartbeats 16000000 in
theorem join8_any (bk c : Nat) (g : Nat → List UInt8) (w : World) (hg : ∀ j, j < 8 → (g j).length ≤ 100) (hcn : 8 ≤ c)
    (hcells : ∀ j, j < 8 → w.cell? ⟨bk, j, none⟩ = some (.string ⟨(g j).toArray⟩)) :
    Calls Tryd.prog 36 #[.slice (some ⟨bk, 0, none⟩) 8 c, .string ⟨#[32]⟩] w fun e w' => e = .returned (.string ⟨(jnTo g 7).toArray⟩) ∧ Ext w w' := by
  have HC := Lib.hid hcells
  have HG := Lib.hid hg
  clear hcells hg
  go_enter Tryd.func36, Tryd.ntmps36
  go_wp2
  go_loop [5, 41] (fun n i => ∃ k N : Nat, k ≤ 8 ∧ N ≤ 7 + 100 * k ∧ i = .int .i64 k ∧ n = .int .i64 N) (fun _ i => 8 - (intOf i).toNat)
  case atStart => exact ⟨0, 7, by omega, by omega, rfl, rfl⟩
  case round =>
    obtain ⟨k, N, hk, hN, rfl, rfl⟩ := hrel
    by_cases hlt : k < 8
    · have hc := HC.out k hlt
      have hl := HG.out k hlt
      obtain ⟨S, hS⟩ : ∃ S : List UInt8, g k = S := ⟨_, rfl⟩
      rw [hS] at hc hl
      go_wp2
      go_round
      case rel => exact ⟨k + 1, N + S.length, by omega, by omega, by go_num, by (try simp); (try go_num)⟩
      case measure => simp [intOf]; omega
    · obtain rfl : k = 8 := by omega
      obtain ⟨S0, hS0⟩ : ∃ S0 : List UInt8, g 0 = S0 := ⟨_, rfl⟩
      have hl0 : S0.length ≤ 100 := by rw [← hS0]; exact HG.out 0 (by decide)
      have hc0 : w.cell? ⟨bk, 0, none⟩ = some (.string ⟨S0.toArray⟩) := by rw [← hS0]; exact HC.out 0 (by decide)
      have HS0 := Lib.hid hS0
      clear hS0
      go_wp2_with (first | (go_at_call 49; refine (Tryd.Builder_Grow_fresh w.heap.size w.heap.size N _ (Nat.le_refl _) (heap_alloc_new w _) (by simp) (by omega)).mono ?_; rintro e w1 ⟨rfl, hw1, hx1⟩; have hb1 : Ext w w1 := Below.trans ((by repeat (first | exact Ext.refl _ | refine Ext.setCell ?_ (by first | exact Nat.le_refl _ | (simp; done) | (simp; omega)) _ | refine Ext.drew ?_ | refine Ext.drewN ?_ _ | refine Ext.alloc ?_ _)) : Ext w _) hx1; have hc1 := hb1.keep hc0; have HB1 : Hid (BldAt w.heap.size [] w1) := .inr hw1; have hlt1 : w.heap.size < w1.heap.size := Lib.BuilderAt.lt hw1; clear hw1 hx1) | (go_at_call 50; refine (wstr_any w.heap.size [] S0 _ HB1.out (by simp; omega) hlt1).mono ?_; rintro e w2 ⟨rfl, hw2, hx2, _⟩; have hb2 : Ext w w2 := Below.trans hb1 hx2; have HB2 : Hid (BldAt w.heap.size (jnTo g 0) w2) := (by rw [Hid, jnTo, HS0.out]; exact hw2); have hlt2' : w.heap.size < w2.heap.size := Nat.lt_of_lt_of_le hlt1 hx2.size; clear hw2 hx2))
      go_loopw [65] (fun i wr => ∃ k : Nat, k ≤ 7 ∧ i = .int .i64 k ∧ Hid (BldAt w.heap.size (jnTo g k) wr) ∧ Ext w wr ∧ w.heap.size < wr.heap.size) (fun i _ => 7 - (intOf i).toNat)
      case atStart => exact ⟨0, by omega, rfl, HB2, hb2, hlt2'⟩
      case round =>
        obtain ⟨k, hk5, rfl, HB, hE, hlt2⟩ := hrel
        by_cases hlt : k < 7
        · obtain ⟨S, hS⟩ : ∃ S : List UInt8, g (k + 1) = S := ⟨_, rfl⟩
          have hl : S.length ≤ 100 := by rw [← hS]; exact HG.out (k + 1) (by omega)
          have hc : wr.cell? ⟨bk, 1 + k, none⟩ = some (.string ⟨S.toArray⟩) := by rw [← hS, show 1 + k = k + 1 by omega]; exact hE.keep (HC.out (k + 1) (by omega))
          have HS := Lib.hid hS
          have HJ : Hid ((jnTo g k).length ≤ 2000) := by
            have := jnTo_len g 100 k (fun j hj => HG.out j (by omega))
            have h2 : (k + 1) * (100 + 1) ≤ 8 * 101 := Nat.mul_le_mul_right _ (by omega)
            exact Nat.le_trans this (by omega)
          clear hS
          go_wp2_with (first | ((fail_if_success (have hzz := HB3)); go_at_call 50; refine (wstr_any w.heap.size (jnTo g k) [32] _ HB.out (by have := HJ.out; simp; omega) hlt2).mono ?_; rintro e w3 ⟨rfl, hw3, hx3, _⟩; have hb3 : Ext w w3 := Below.trans hE hx3; have hc3 : w3.cell? ⟨bk, 1 + k, none⟩ = some (.string ⟨S.toArray⟩) := (by rw [← HS.out, show 1 + k = k + 1 by omega]; exact hb3.keep (HC.out (k + 1) (by omega))); have HB3 := Lib.hid hw3; have hlt3 : w.heap.size < w3.heap.size := Nat.lt_of_lt_of_le hlt2 hx3.size; clear hw3 hx3) | (go_at_call 50; refine (wstr_any w.heap.size (jnTo g k ++ [32]) S _ HB3.out (by have := HJ.out; simp; omega) hlt3).mono ?_; rintro e w4 ⟨rfl, hw4, hx4, _⟩; have hb4 : Ext w w4 := Below.trans hb3 hx4; have HB4 : Hid (BldAt w.heap.size (jnTo g (k + 1)) w4) := (by rw [Hid, jnTo, HS.out]; simpa using hw4); have hlt4 : w.heap.size < w4.heap.size := Nat.lt_of_lt_of_le hlt3 hx4.size; clear hw4 hx4))
          go_roundw
          case rel => exact ⟨k + 1, by omega, by go_num, HB4, hb4, hlt4⟩
          case measure => simp [intOf]; omega
        · obtain rfl : k = 7 := by omega
          go_wp2_with (first | (go_at_call 51; refine (Tryd.Builder_String_any w.heap.size w.heap.size _ _ HB.out (Nat.le_of_lt hlt2)).mono ?_; rintro e w5 ⟨rfl, hb5⟩))
          go_ret
          exact ⟨rfl, Below.trans hE hb5⟩


set_option maxHeartbeats 16000000 in
theorem join9_any (bk c : Nat) (g : Nat → List UInt8) (w : World) (hg : ∀ j, j < 9 → (g j).length ≤ 100) (hcn : 9 ≤ c)
    (hcells : ∀ j, j < 9 → w.cell? ⟨bk, j, none⟩ = some (.string ⟨(g j).toArray⟩)) :
    Calls Tryd.prog 36 #[.slice (some ⟨bk, 0, none⟩) 9 c, .string ⟨#[32]⟩] w fun e w' => e = .returned (.string ⟨(jnTo g 8).toArray⟩) ∧ Ext w w' := by
  have HC := Lib.hid hcells
  have HG := Lib.hid hg
  clear hcells hg
  go_enter Tryd.func36, Tryd.ntmps36
  go_wp2
  go_loop [5, 41] (fun n i => ∃ k N : Nat, k ≤ 9 ∧ N ≤ 8 + 100 * k ∧ i = .int .i64 k ∧ n = .int .i64 N) (fun _ i => 9 - (intOf i).toNat)
  case atStart => exact ⟨0, 8, by omega, by omega, rfl, rfl⟩
  case round =>
    obtain ⟨k, N, hk, hN, rfl, rfl⟩ := hrel
    by_cases hlt : k < 9
    · have hc := HC.out k hlt
      have hl := HG.out k hlt
      obtain ⟨S, hS⟩ : ∃ S : List UInt8, g k = S := ⟨_, rfl⟩
      rw [hS] at hc hl
      go_wp2
      go_round
      case rel => exact ⟨k + 1, N + S.length, by omega, by omega, by go_num, by (try simp); (try go_num)⟩
      case measure => simp [intOf]; omega
    · obtain rfl : k = 9 := by omega
      obtain ⟨S0, hS0⟩ : ∃ S0 : List UInt8, g 0 = S0 := ⟨_, rfl⟩
      have hl0 : S0.length ≤ 100 := by rw [← hS0]; exact HG.out 0 (by decide)
      have hc0 : w.cell? ⟨bk, 0, none⟩ = some (.string ⟨S0.toArray⟩) := by rw [← hS0]; exact HC.out 0 (by decide)
      have HS0 := Lib.hid hS0
      clear hS0
      go_wp2_with (first | (go_at_call 49; refine (Tryd.Builder_Grow_fresh w.heap.size w.heap.size N _ (Nat.le_refl _) (heap_alloc_new w _) (by simp) (by omega)).mono ?_; rintro e w1 ⟨rfl, hw1, hx1⟩; have hb1 : Ext w w1 := Below.trans ((by repeat (first | exact Ext.refl _ | refine Ext.setCell ?_ (by first | exact Nat.le_refl _ | (simp; done) | (simp; omega)) _ | refine Ext.drew ?_ | refine Ext.drewN ?_ _ | refine Ext.alloc ?_ _)) : Ext w _) hx1; have hc1 := hb1.keep hc0; have HB1 : Hid (BldAt w.heap.size [] w1) := .inr hw1; have hlt1 : w.heap.size < w1.heap.size := Lib.BuilderAt.lt hw1; clear hw1 hx1) | (go_at_call 50; refine (wstr_any w.heap.size [] S0 _ HB1.out (by simp; omega) hlt1).mono ?_; rintro e w2 ⟨rfl, hw2, hx2, _⟩; have hb2 : Ext w w2 := Below.trans hb1 hx2; have HB2 : Hid (BldAt w.heap.size (jnTo g 0) w2) := (by rw [Hid, jnTo, HS0.out]; exact hw2); have hlt2' : w.heap.size < w2.heap.size := Nat.lt_of_lt_of_le hlt1 hx2.size; clear hw2 hx2))
      go_loopw [65] (fun i wr => ∃ k : Nat, k ≤ 8 ∧ i = .int .i64 k ∧ Hid (BldAt w.heap.size (jnTo g k) wr) ∧ Ext w wr ∧ w.heap.size < wr.heap.size) (fun i _ => 8 - (intOf i).toNat)
      case atStart => exact ⟨0, by omega, rfl, HB2, hb2, hlt2'⟩
      case round =>
        obtain ⟨k, hk5, rfl, HB, hE, hlt2⟩ := hrel
        by_cases hlt : k < 8
        · obtain ⟨S, hS⟩ : ∃ S : List UInt8, g (k + 1) = S := ⟨_, rfl⟩
          have hl : S.length ≤ 100 := by rw [← hS]; exact HG.out (k + 1) (by omega)
          have hc : wr.cell? ⟨bk, 1 + k, none⟩ = some (.string ⟨S.toArray⟩) := by rw [← hS, show 1 + k = k + 1 by omega]; exact hE.keep (HC.out (k + 1) (by omega))
          have HS := Lib.hid hS
          have HJ : Hid ((jnTo g k).length ≤ 2000) := by
            have := jnTo_len g 100 k (fun j hj => HG.out j (by omega))
            have h2 : (k + 1) * (100 + 1) ≤ 9 * 101 := Nat.mul_le_mul_right _ (by omega)
            exact Nat.le_trans this (by omega)
          clear hS
          go_wp2_with (first | ((fail_if_success (have hzz := HB3)); go_at_call 50; refine (wstr_any w.heap.size (jnTo g k) [32] _ HB.out (by have := HJ.out; simp; omega) hlt2).mono ?_; rintro e w3 ⟨rfl, hw3, hx3, _⟩; have hb3 : Ext w w3 := Below.trans hE hx3; have hc3 : w3.cell? ⟨bk, 1 + k, none⟩ = some (.string ⟨S.toArray⟩) := (by rw [← HS.out, show 1 + k = k + 1 by omega]; exact hb3.keep (HC.out (k + 1) (by omega))); have HB3 := Lib.hid hw3; have hlt3 : w.heap.size < w3.heap.size := Nat.lt_of_lt_of_le hlt2 hx3.size; clear hw3 hx3) | (go_at_call 50; refine (wstr_any w.heap.size (jnTo g k ++ [32]) S _ HB3.out (by have := HJ.out; simp; omega) hlt3).mono ?_; rintro e w4 ⟨rfl, hw4, hx4, _⟩; have hb4 : Ext w w4 := Below.trans hb3 hx4; have HB4 : Hid (BldAt w.heap.size (jnTo g (k + 1)) w4) := (by rw [Hid, jnTo, HS.out]; simpa using hw4); have hlt4 : w.heap.size < w4.heap.size := Nat.lt_of_lt_of_le hlt3 hx4.size; clear hw4 hx4))
          go_roundw
          case rel => exact ⟨k + 1, by omega, by go_num, HB4, hb4, hlt4⟩
          case measure => simp [intOf]; omega
        · obtain rfl : k = 8 := by omega
          go_wp2_with (first | (go_at_call 51; refine (Tryd.Builder_String_any w.heap.size w.heap.size _ _ HB.out (Nat.le_of_lt hlt2)).mono ?_; rintro e w5 ⟨rfl, hb5⟩))
          go_ret
          exact ⟨rfl, Below.trans hE hb5⟩


set_option maxHeartbeats 16000000 in
theorem join10_any (bk c : Nat) (g : Nat → List UInt8) (w : World) (hg : ∀ j, j < 10 → (g j).length ≤ 100) (hcn : 10 ≤ c)
    (hcells : ∀ j, j < 10 → w.cell? ⟨bk, j, none⟩ = some (.string ⟨(g j).toArray⟩)) :
    Calls Tryd.prog 36 #[.slice (some ⟨bk, 0, none⟩) 10 c, .string ⟨#[32]⟩] w fun e w' => e = .returned (.string ⟨(jnTo g 9).toArray⟩) ∧ Ext w w' := by
  have HC := Lib.hid hcells
  have HG := Lib.hid hg
  clear hcells hg
  go_enter Tryd.func36, Tryd.ntmps36
  go_wp2
  go_loop [5, 41] (fun n i => ∃ k N : Nat, k ≤ 10 ∧ N ≤ 9 + 100 * k ∧ i = .int .i64 k ∧ n = .int .i64 N) (fun _ i => 10 - (intOf i).toNat)
  case atStart => exact ⟨0, 9, by omega, by omega, rfl, rfl⟩
  case round =>
    obtain ⟨k, N, hk, hN, rfl, rfl⟩ := hrel
    by_cases hlt : k < 10
    · have hc := HC.out k hlt
      have hl := HG.out k hlt
      obtain ⟨S, hS⟩ : ∃ S : List UInt8, g k = S := ⟨_, rfl⟩
      rw [hS] at hc hl
      go_wp2
      go_round
      case rel => exact ⟨k + 1, N + S.length, by omega, by omega, by go_num, by (try simp); (try go_num)⟩
      case measure => simp [intOf]; omega
    · obtain rfl : k = 10 := by omega
      obtain ⟨S0, hS0⟩ : ∃ S0 : List UInt8, g 0 = S0 := ⟨_, rfl⟩
      have hl0 : S0.length ≤ 100 := by rw [← hS0]; exact HG.out 0 (by decide)
      have hc0 : w.cell? ⟨bk, 0, none⟩ = some (.string ⟨S0.toArray⟩) := by rw [← hS0]; exact HC.out 0 (by decide)
      have HS0 := Lib.hid hS0
      clear hS0
      go_wp2_with (first | (go_at_call 49; refine (Tryd.Builder_Grow_fresh w.heap.size w.heap.size N _ (Nat.le_refl _) (heap_alloc_new w _) (by simp) (by omega)).mono ?_; rintro e w1 ⟨rfl, hw1, hx1⟩; have hb1 : Ext w w1 := Below.trans ((by repeat (first | exact Ext.refl _ | refine Ext.setCell ?_ (by first | exact Nat.le_refl _ | (simp; done) | (simp; omega)) _ | refine Ext.drew ?_ | refine Ext.drewN ?_ _ | refine Ext.alloc ?_ _)) : Ext w _) hx1; have hc1 := hb1.keep hc0; have HB1 : Hid (BldAt w.heap.size [] w1) := .inr hw1; have hlt1 : w.heap.size < w1.heap.size := Lib.BuilderAt.lt hw1; clear hw1 hx1) | (go_at_call 50; refine (wstr_any w.heap.size [] S0 _ HB1.out (by simp; omega) hlt1).mono ?_; rintro e w2 ⟨rfl, hw2, hx2, _⟩; have hb2 : Ext w w2 := Below.trans hb1 hx2; have HB2 : Hid (BldAt w.heap.size (jnTo g 0) w2) := (by rw [Hid, jnTo, HS0.out]; exact hw2); have hlt2' : w.heap.size < w2.heap.size := Nat.lt_of_lt_of_le hlt1 hx2.size; clear hw2 hx2))
      go_loopw [65] (fun i wr => ∃ k : Nat, k ≤ 9 ∧ i = .int .i64 k ∧ Hid (BldAt w.heap.size (jnTo g k) wr) ∧ Ext w wr ∧ w.heap.size < wr.heap.size) (fun i _ => 9 - (intOf i).toNat)
      case atStart => exact ⟨0, by omega, rfl, HB2, hb2, hlt2'⟩
      case round =>
        obtain ⟨k, hk5, rfl, HB, hE, hlt2⟩ := hrel
        by_cases hlt : k < 9
        · obtain ⟨S, hS⟩ : ∃ S : List UInt8, g (k + 1) = S := ⟨_, rfl⟩
          have hl : S.length ≤ 100 := by rw [← hS]; exact HG.out (k + 1) (by omega)
          have hc : wr.cell? ⟨bk, 1 + k, none⟩ = some (.string ⟨S.toArray⟩) := by rw [← hS, show 1 + k = k + 1 by omega]; exact hE.keep (HC.out (k + 1) (by omega))
          have HS := Lib.hid hS
          have HJ : Hid ((jnTo g k).length ≤ 2000) := by
            have := jnTo_len g 100 k (fun j hj => HG.out j (by omega))
            have h2 : (k + 1) * (100 + 1) ≤ 10 * 101 := Nat.mul_le_mul_right _ (by omega)
            exact Nat.le_trans this (by omega)
          clear hS
          go_wp2_with (first | ((fail_if_success (have hzz := HB3)); go_at_call 50; refine (wstr_any w.heap.size (jnTo g k) [32] _ HB.out (by have := HJ.out; simp; omega) hlt2).mono ?_; rintro e w3 ⟨rfl, hw3, hx3, _⟩; have hb3 : Ext w w3 := Below.trans hE hx3; have hc3 : w3.cell? ⟨bk, 1 + k, none⟩ = some (.string ⟨S.toArray⟩) := (by rw [← HS.out, show 1 + k = k + 1 by omega]; exact hb3.keep (HC.out (k + 1) (by omega))); have HB3 := Lib.hid hw3; have hlt3 : w.heap.size < w3.heap.size := Nat.lt_of_lt_of_le hlt2 hx3.size; clear hw3 hx3) | (go_at_call 50; refine (wstr_any w.heap.size (jnTo g k ++ [32]) S _ HB3.out (by have := HJ.out; simp; omega) hlt3).mono ?_; rintro e w4 ⟨rfl, hw4, hx4, _⟩; have hb4 : Ext w w4 := Below.trans hb3 hx4; have HB4 : Hid (BldAt w.heap.size (jnTo g (k + 1)) w4) := (by rw [Hid, jnTo, HS.out]; simpa using hw4); have hlt4 : w.heap.size < w4.heap.size := Nat.lt_of_lt_of_le hlt3 hx4.size; clear hw4 hx4))
          go_roundw
          case rel => exact ⟨k + 1, by omega, by go_num, HB4, hb4, hlt4⟩
          case measure => simp [intOf]; omega
        · obtain rfl : k = 9 := by omega
          go_wp2_with (first | (go_at_call 51; refine (Tryd.Builder_String_any w.heap.size w.heap.size _ _ HB.out (Nat.le_of_lt hlt2)).mono ?_; rintro e w5 ⟨rfl, hb5⟩))
          go_ret
          exact ⟨rfl, Below.trans hE hb5⟩


set_option maxHeartbeats 16000000 in
theorem join11_any (bk c : Nat) (g : Nat → List UInt8) (w : World) (hg : ∀ j, j < 11 → (g j).length ≤ 100) (hcn : 11 ≤ c)
    (hcells : ∀ j, j < 11 → w.cell? ⟨bk, j, none⟩ = some (.string ⟨(g j).toArray⟩)) :
    Calls Tryd.prog 36 #[.slice (some ⟨bk, 0, none⟩) 11 c, .string ⟨#[32]⟩] w fun e w' => e = .returned (.string ⟨(jnTo g 10).toArray⟩) ∧ Ext w w' := by
  have HC := Lib.hid hcells
  have HG := Lib.hid hg
  clear hcells hg
  go_enter Tryd.func36, Tryd.ntmps36
  go_wp2
  go_loop [5, 41] (fun n i => ∃ k N : Nat, k ≤ 11 ∧ N ≤ 10 + 100 * k ∧ i = .int .i64 k ∧ n = .int .i64 N) (fun _ i => 11 - (intOf i).toNat)
  case atStart => exact ⟨0, 10, by omega, by omega, rfl, rfl⟩
  case round =>
    obtain ⟨k, N, hk, hN, rfl, rfl⟩ := hrel
    by_cases hlt : k < 11
    · have hc := HC.out k hlt
      have hl := HG.out k hlt
      obtain ⟨S, hS⟩ : ∃ S : List UInt8, g k = S := ⟨_, rfl⟩
      rw [hS] at hc hl
      go_wp2
      go_round
      case rel => exact ⟨k + 1, N + S.length, by omega, by omega, by go_num, by (try simp); (try go_num)⟩
      case measure => simp [intOf]; omega
    · obtain rfl : k = 11 := by omega
      obtain ⟨S0, hS0⟩ : ∃ S0 : List UInt8, g 0 = S0 := ⟨_, rfl⟩
      have hl0 : S0.length ≤ 100 := by rw [← hS0]; exact HG.out 0 (by decide)
      have hc0 : w.cell? ⟨bk, 0, none⟩ = some (.string ⟨S0.toArray⟩) := by rw [← hS0]; exact HC.out 0 (by decide)
      have HS0 := Lib.hid hS0
      clear hS0
      go_wp2_with (first | (go_at_call 49; refine (Tryd.Builder_Grow_fresh w.heap.size w.heap.size N _ (Nat.le_refl _) (heap_alloc_new w _) (by simp) (by omega)).mono ?_; rintro e w1 ⟨rfl, hw1, hx1⟩; have hb1 : Ext w w1 := Below.trans ((by repeat (first | exact Ext.refl _ | refine Ext.setCell ?_ (by first | exact Nat.le_refl _ | (simp; done) | (simp; omega)) _ | refine Ext.drew ?_ | refine Ext.drewN ?_ _ | refine Ext.alloc ?_ _)) : Ext w _) hx1; have hc1 := hb1.keep hc0; have HB1 : Hid (BldAt w.heap.size [] w1) := .inr hw1; have hlt1 : w.heap.size < w1.heap.size := Lib.BuilderAt.lt hw1; clear hw1 hx1) | (go_at_call 50; refine (wstr_any w.heap.size [] S0 _ HB1.out (by simp; omega) hlt1).mono ?_; rintro e w2 ⟨rfl, hw2, hx2, _⟩; have hb2 : Ext w w2 := Below.trans hb1 hx2; have HB2 : Hid (BldAt w.heap.size (jnTo g 0) w2) := (by rw [Hid, jnTo, HS0.out]; exact hw2); have hlt2' : w.heap.size < w2.heap.size := Nat.lt_of_lt_of_le hlt1 hx2.size; clear hw2 hx2))
      go_loopw [65] (fun i wr => ∃ k : Nat, k ≤ 10 ∧ i = .int .i64 k ∧ Hid (BldAt w.heap.size (jnTo g k) wr) ∧ Ext w wr ∧ w.heap.size < wr.heap.size) (fun i _ => 10 - (intOf i).toNat)
      case atStart => exact ⟨0, by omega, rfl, HB2, hb2, hlt2'⟩
      case round =>
        obtain ⟨k, hk5, rfl, HB, hE, hlt2⟩ := hrel
        by_cases hlt : k < 10
        · obtain ⟨S, hS⟩ : ∃ S : List UInt8, g (k + 1) = S := ⟨_, rfl⟩
          have hl : S.length ≤ 100 := by rw [← hS]; exact HG.out (k + 1) (by omega)
          have hc : wr.cell? ⟨bk, 1 + k, none⟩ = some (.string ⟨S.toArray⟩) := by rw [← hS, show 1 + k = k + 1 by omega]; exact hE.keep (HC.out (k + 1) (by omega))
          have HS := Lib.hid hS
          have HJ : Hid ((jnTo g k).length ≤ 2000) := by
            have := jnTo_len g 100 k (fun j hj => HG.out j (by omega))
            have h2 : (k + 1) * (100 + 1) ≤ 11 * 101 := Nat.mul_le_mul_right _ (by omega)
            exact Nat.le_trans this (by omega)
          clear hS
          go_wp2_with (first | ((fail_if_success (have hzz := HB3)); go_at_call 50; refine (wstr_any w.heap.size (jnTo g k) [32] _ HB.out (by have := HJ.out; simp; omega) hlt2).mono ?_; rintro e w3 ⟨rfl, hw3, hx3, _⟩; have hb3 : Ext w w3 := Below.trans hE hx3; have hc3 : w3.cell? ⟨bk, 1 + k, none⟩ = some (.string ⟨S.toArray⟩) := (by rw [← HS.out, show 1 + k = k + 1 by omega]; exact hb3.keep (HC.out (k + 1) (by omega))); have HB3 := Lib.hid hw3; have hlt3 : w.heap.size < w3.heap.size := Nat.lt_of_lt_of_le hlt2 hx3.size; clear hw3 hx3) | (go_at_call 50; refine (wstr_any w.heap.size (jnTo g k ++ [32]) S _ HB3.out (by have := HJ.out; simp; omega) hlt3).mono ?_; rintro e w4 ⟨rfl, hw4, hx4, _⟩; have hb4 : Ext w w4 := Below.trans hb3 hx4; have HB4 : Hid (BldAt w.heap.size (jnTo g (k + 1)) w4) := (by rw [Hid, jnTo, HS.out]; simpa using hw4); have hlt4 : w.heap.size < w4.heap.size := Nat.lt_of_lt_of_le hlt3 hx4.size; clear hw4 hx4))
          go_roundw
          case rel => exact ⟨k + 1, by omega, by go_num, HB4, hb4, hlt4⟩
          case measure => simp [intOf]; omega
        · obtain rfl : k = 10 := by omega
          go_wp2_with (first | (go_at_call 51; refine (Tryd.Builder_String_any w.heap.size w.heap.size _ _ HB.out (Nat.le_of_lt hlt2)).mono ?_; rintro e w5 ⟨rfl, hb5⟩))
          go_ret
          exact ⟨rfl, Below.trans hE hb5⟩


set_option maxHeartbeats 16000000 in
theorem join12_any (bk c : Nat) (g : Nat → List UInt8) (w : World) (hg : ∀ j, j < 12 → (g j).length ≤ 100) (hcn : 12 ≤ c)
    (hcells : ∀ j, j < 12 → w.cell? ⟨bk, j, none⟩ = some (.string ⟨(g j).toArray⟩)) :
    Calls Tryd.prog 36 #[.slice (some ⟨bk, 0, none⟩) 12 c, .string ⟨#[32]⟩] w fun e w' => e = .returned (.string ⟨(jnTo g 11).toArray⟩) ∧ Ext w w' := by
  have HC := Lib.hid hcells
  have HG := Lib.hid hg
  clear hcells hg
  go_enter Tryd.func36, Tryd.ntmps36
  go_wp2
  go_loop [5, 41] (fun n i => ∃ k N : Nat, k ≤ 12 ∧ N ≤ 11 + 100 * k ∧ i = .int .i64 k ∧ n = .int .i64 N) (fun _ i => 12 - (intOf i).toNat)
  case atStart => exact ⟨0, 11, by omega, by omega, rfl, rfl⟩
  case round =>
    obtain ⟨k, N, hk, hN, rfl, rfl⟩ := hrel
    by_cases hlt : k < 12
    · have hc := HC.out k hlt
      have hl := HG.out k hlt
      obtain ⟨S, hS⟩ : ∃ S : List UInt8, g k = S := ⟨_, rfl⟩
      rw [hS] at hc hl
      go_wp2
      go_round
      case rel => exact ⟨k + 1, N + S.length, by omega, by omega, by go_num, by (try simp); (try go_num)⟩
      case measure => simp [intOf]; omega
    · obtain rfl : k = 12 := by omega
      obtain ⟨S0, hS0⟩ : ∃ S0 : List UInt8, g 0 = S0 := ⟨_, rfl⟩
      have hl0 : S0.length ≤ 100 := by rw [← hS0]; exact HG.out 0 (by decide)
      have hc0 : w.cell? ⟨bk, 0, none⟩ = some (.string ⟨S0.toArray⟩) := by rw [← hS0]; exact HC.out 0 (by decide)
      have HS0 := Lib.hid hS0
      clear hS0
      go_wp2_with (first | (go_at_call 49; refine (Tryd.Builder_Grow_fresh w.heap.size w.heap.size N _ (Nat.le_refl _) (heap_alloc_new w _) (by simp) (by omega)).mono ?_; rintro e w1 ⟨rfl, hw1, hx1⟩; have hb1 : Ext w w1 := Below.trans ((by repeat (first | exact Ext.refl _ | refine Ext.setCell ?_ (by first | exact Nat.le_refl _ | (simp; done) | (simp; omega)) _ | refine Ext.drew ?_ | refine Ext.drewN ?_ _ | refine Ext.alloc ?_ _)) : Ext w _) hx1; have hc1 := hb1.keep hc0; have HB1 : Hid (BldAt w.heap.size [] w1) := .inr hw1; have hlt1 : w.heap.size < w1.heap.size := Lib.BuilderAt.lt hw1; clear hw1 hx1) | (go_at_call 50; refine (wstr_any w.heap.size [] S0 _ HB1.out (by simp; omega) hlt1).mono ?_; rintro e w2 ⟨rfl, hw2, hx2, _⟩; have hb2 : Ext w w2 := Below.trans hb1 hx2; have HB2 : Hid (BldAt w.heap.size (jnTo g 0) w2) := (by rw [Hid, jnTo, HS0.out]; exact hw2); have hlt2' : w.heap.size < w2.heap.size := Nat.lt_of_lt_of_le hlt1 hx2.size; clear hw2 hx2))
      go_loopw [65] (fun i wr => ∃ k : Nat, k ≤ 11 ∧ i = .int .i64 k ∧ Hid (BldAt w.heap.size (jnTo g k) wr) ∧ Ext w wr ∧ w.heap.size < wr.heap.size) (fun i _ => 11 - (intOf i).toNat)
      case atStart => exact ⟨0, by omega, rfl, HB2, hb2, hlt2'⟩
      case round =>
        obtain ⟨k, hk5, rfl, HB, hE, hlt2⟩ := hrel
        by_cases hlt : k < 11
        · obtain ⟨S, hS⟩ : ∃ S : List UInt8, g (k + 1) = S := ⟨_, rfl⟩
          have hl : S.length ≤ 100 := by rw [← hS]; exact HG.out (k + 1) (by omega)
          have hc : wr.cell? ⟨bk, 1 + k, none⟩ = some (.string ⟨S.toArray⟩) := by rw [← hS, show 1 + k = k + 1 by omega]; exact hE.keep (HC.out (k + 1) (by omega))
          have HS := Lib.hid hS
          have HJ : Hid ((jnTo g k).length ≤ 2000) := by
            have := jnTo_len g 100 k (fun j hj => HG.out j (by omega))
            have h2 : (k + 1) * (100 + 1) ≤ 12 * 101 := Nat.mul_le_mul_right _ (by omega)
            exact Nat.le_trans this (by omega)
          clear hS
          go_wp2_with (first | ((fail_if_success (have hzz := HB3)); go_at_call 50; refine (wstr_any w.heap.size (jnTo g k) [32] _ HB.out (by have := HJ.out; simp; omega) hlt2).mono ?_; rintro e w3 ⟨rfl, hw3, hx3, _⟩; have hb3 : Ext w w3 := Below.trans hE hx3; have hc3 : w3.cell? ⟨bk, 1 + k, none⟩ = some (.string ⟨S.toArray⟩) := (by rw [← HS.out, show 1 + k = k + 1 by omega]; exact hb3.keep (HC.out (k + 1) (by omega))); have HB3 := Lib.hid hw3; have hlt3 : w.heap.size < w3.heap.size := Nat.lt_of_lt_of_le hlt2 hx3.size; clear hw3 hx3) | (go_at_call 50; refine (wstr_any w.heap.size (jnTo g k ++ [32]) S _ HB3.out (by have := HJ.out; simp; omega) hlt3).mono ?_; rintro e w4 ⟨rfl, hw4, hx4, _⟩; have hb4 : Ext w w4 := Below.trans hb3 hx4; have HB4 : Hid (BldAt w.heap.size (jnTo g (k + 1)) w4) := (by rw [Hid, jnTo, HS.out]; simpa using hw4); have hlt4 : w.heap.size < w4.heap.size := Nat.lt_of_lt_of_le hlt3 hx4.size; clear hw4 hx4))
          go_roundw
          case rel => exact ⟨k + 1, by omega, by go_num, HB4, hb4, hlt4⟩
          case measure => simp [intOf]; omega
        · obtain rfl : k = 11 := by omega
          go_wp2_with (first | (go_at_call 51; refine (Tryd.Builder_String_any w.heap.size w.heap.size _ _ HB.out (Nat.le_of_lt hlt2)).mono ?_; rintro e w5 ⟨rfl, hb5⟩))
          go_ret
          exact ⟨rfl, Below.trans hE hb5⟩



theorem join0_any (c : Nat) (w : World) : Calls Tryd.prog 36 #[.slice none 0 c, .string ⟨#[32]⟩] w fun e w' => e = .returned (.string ⟨#[]⟩) ∧ Ext w w' := by
  go_enter Tryd.func36, Tryd.ntmps36
  go_wp2
  go_ret
  exact ⟨rfl, Ext.refl _⟩
theorem join1_any (bk c : Nat) (g : Nat → List UInt8) (w : World) (hcells : ∀ j, j < 1 → w.cell? ⟨bk, j, none⟩ = some (.string ⟨(g j).toArray⟩)) :
    Calls Tryd.prog 36 #[.slice (some ⟨bk, 0, none⟩) 1 c, .string ⟨#[32]⟩] w fun e w' => e = .returned (.string ⟨(jnTo g 0).toArray⟩) ∧ Ext w w' := by
  have c0 := hcells 0 (by omega)
  go_enter Tryd.func36, Tryd.ntmps36
  go_wp2
  go_ret
  exact ⟨rfl, Ext.refl _⟩
def jnL (n : Nat) (g : Nat → List UInt8) : List UInt8 := if n = 0 then [] else jnTo g (n - 1)
theorem join_any (n : Nat) (hn : n ≤ 12) (A0 : Option Addr) (bk c : Nat) (g : Nat → List UInt8) (w : World) (hc : n ≤ c) (hA : 0 < n → A0 = some ⟨bk, 0, none⟩) (h0 : n = 0 → A0 = none) (hg : ∀ j, j < n → (g j).length ≤ 100)
    (hcells : ∀ j, j < n → w.cell? ⟨bk, j, none⟩ = some (.string ⟨(g j).toArray⟩)) :
    Calls Tryd.prog 36 #[.slice A0 n c, .string ⟨#[32]⟩] w fun e w' => e = .returned (.string ⟨(jnL n g).toArray⟩) ∧ Ext w w' := by
  match n, hn with
  | 0, _ => rw [h0 rfl]; exact join0_any c w
  | 1, _ => rw [hA (by omega)]; exact join1_any bk c g w hcells
  | 2, _ => rw [hA (by omega)]; exact join2_any bk c g w hg hc hcells
  | 3, _ => rw [hA (by omega)]; exact join3_any bk c g w hg hc hcells
  | 4, _ => rw [hA (by omega)]; exact join4_any bk c g w hg hc hcells
  | 5, _ => rw [hA (by omega)]; exact join5_any bk c g w hg hc hcells
  | 6, _ => rw [hA (by omega)]; exact join6_any bk c g w hg hc hcells
  | 7, _ => rw [hA (by omega)]; exact join7_any bk c g w hg hc hcells
  | 8, _ => rw [hA (by omega)]; exact join8_any bk c g w hg hc hcells
  | 9, _ => rw [hA (by omega)]; exact join9_any bk c g w hg hc hcells
  | 10, _ => rw [hA (by omega)]; exact join10_any bk c g w hg hc hcells
  | 11, _ => rw [hA (by omega)]; exact join11_any bk c g w hg hc hcells
  | 12, _ => rw [hA (by omega)]; exact join12_any bk c g w hg hc hcells

end Go.Proofs.YtpgacpkcchajmaaDoor

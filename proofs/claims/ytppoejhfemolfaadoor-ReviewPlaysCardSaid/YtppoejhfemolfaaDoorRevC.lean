/-
  strings.Join of six words with blanks between; append to a list of words.
-/
import Derived.Test.YtppoejhfemolfaaDoorRevB
import Derived.Test.YtppoejhfemolfaaDoorMem
import Derived.Test.YtppoejhfemolfaaDoorBldS
import Derived.Test.YtppoejhfemolfaaDoorTabI
namespace Go.Proofs.YtppoejhfemolfaaDoor
open Go.RowKit
set_option linter.unusedSimpArgs false

/-- Words 0 to k with blanks between. -/
def jnTo (g : Nat → List UInt8) : Nat → List UInt8
  | 0 => g 0
  | k + 1 => jnTo g k ++ 32 :: g (k + 1)
theorem jnTo_len (g : Nat → List UInt8) (M : Nat) : ∀ k, (∀ j, j ≤ k → (g j).length ≤ M) → (jnTo g k).length ≤ (k + 1) * (M + 1)
  | 0, h => by have := h 0 (Nat.le_refl _); simp [jnTo]; omega
  | k + 1, h => by
    have h1 := jnTo_len g M k (fun j hj => h j (by omega))
    have h2 := h (k + 1) (Nat.le_refl _)
    simp only [jnTo, List.length_append, List.length_cons]
    have : (k + 1 + 1) * (M + 1) = (k + 1) * (M + 1) + (M + 1) := by rw [Nat.add_mul]; omega
    omega
theorem str_size (l : List UInt8) : (⟨l.toArray⟩ : ByteArray).size = l.length := by simp [ByteArray.size]

set_option maxHeartbeats 16000000 in
theorem join6_any (bk c : Nat) (g : Nat → List UInt8) (w : World) (hg : ∀ j, j < 6 → (g j).length ≤ 100) (hc6 : 6 ≤ c)
    (hcells : ∀ j, j < 6 → w.cell? ⟨bk, j, none⟩ = some (.string ⟨(g j).toArray⟩)) :
    Calls Tryd.prog 30 #[.slice (some ⟨bk, 0, none⟩) 6 c, .string ⟨#[32]⟩] w fun e w' => e = .returned (.string ⟨(jnTo g 5).toArray⟩) ∧ Ext w w' := by
  have HC := Lib.hid hcells
  have HG := Lib.hid hg
  clear hcells hg
  go_enter Tryd.func30, Tryd.ntmps30
  go_wp2
  go_loop [5, 41] (fun n i => ∃ k N : Nat, k ≤ 6 ∧ N ≤ 5 + 100 * k ∧ i = .int .i64 k ∧ n = .int .i64 N) (fun _ i => 6 - (intOf i).toNat)
  case atStart => exact ⟨0, 5, by omega, by omega, rfl, rfl⟩
  case round =>
    obtain ⟨k, N, hk, hN, rfl, rfl⟩ := hrel
    by_cases hlt : k < 6
    · have hc := HC.out k hlt
      have hl := HG.out k hlt
      obtain ⟨S, hS⟩ : ∃ S : List UInt8, g k = S := ⟨_, rfl⟩
      rw [hS] at hc hl
      go_wp2
      go_round
      case rel => exact ⟨k + 1, N + S.length, by omega, by omega, by go_num, by (try simp); (try go_num)⟩
      case measure => simp [intOf]; omega
    · obtain rfl : k = 6 := by omega
      obtain ⟨S0, hS0⟩ : ∃ S0 : List UInt8, g 0 = S0 := ⟨_, rfl⟩
      have hl0 : S0.length ≤ 100 := by rw [← hS0]; exact HG.out 0 (by decide)
      have hc0 : w.cell? ⟨bk, 0, none⟩ = some (.string ⟨S0.toArray⟩) := by rw [← hS0]; exact HC.out 0 (by decide)
      have HS0 := Lib.hid hS0
      clear hS0
      go_wp2_with (first | (go_at_call 33; refine (Tryd.Builder_Grow_fresh w.heap.size w.heap.size N _ (Nat.le_refl _) (heap_alloc_new w _) (by simp) (by omega)).mono ?_; rintro e w1 ⟨rfl, hw1, hx1⟩; have hb1 : Ext w w1 := Below.trans ((by repeat (first | exact Ext.refl _ | refine Ext.setCell ?_ (by first | exact Nat.le_refl _ | (simp; done) | (simp; omega)) _ | refine Ext.drew ?_ | refine Ext.drewN ?_ _ | refine Ext.alloc ?_ _)) : Ext w _) hx1; have hc1 := hb1.keep hc0; have HB1 : Hid (BldAt w.heap.size [] w1) := .inr hw1; have hlt1 : w.heap.size < w1.heap.size := Lib.BuilderAt.lt hw1; clear hw1 hx1) | (go_at_call 34; refine (wstr_any w.heap.size [] S0 _ HB1.out (by simp; omega) hlt1).mono ?_; rintro e w2 ⟨rfl, hw2, hx2, _⟩; have hb2 : Ext w w2 := Below.trans hb1 hx2; have HB2 : Hid (BldAt w.heap.size (jnTo g 0) w2) := (by rw [Hid, jnTo, HS0.out]; exact hw2); have hlt2' : w.heap.size < w2.heap.size := Nat.lt_of_lt_of_le hlt1 hx2.size; clear hw2 hx2))
      go_loopw [65] (fun i wr => ∃ k : Nat, k ≤ 5 ∧ i = .int .i64 k ∧ Hid (BldAt w.heap.size (jnTo g k) wr) ∧ Ext w wr ∧ w.heap.size < wr.heap.size) (fun i _ => 5 - (intOf i).toNat)
      case atStart => exact ⟨0, by omega, rfl, HB2, hb2, hlt2'⟩
      case round =>
        obtain ⟨k, hk5, rfl, HB, hE, hlt2⟩ := hrel
        by_cases hlt : k < 5
        · obtain ⟨S, hS⟩ : ∃ S : List UInt8, g (k + 1) = S := ⟨_, rfl⟩
          have hl : S.length ≤ 100 := by rw [← hS]; exact HG.out (k + 1) (by omega)
          have hc : wr.cell? ⟨bk, 1 + k, none⟩ = some (.string ⟨S.toArray⟩) := by rw [← hS, show 1 + k = k + 1 by omega]; exact hE.keep (HC.out (k + 1) (by omega))
          have HS := Lib.hid hS
          have HJ : Hid ((jnTo g k).length ≤ 1000) := by
            have := jnTo_len g 100 k (fun j hj => HG.out j (by omega))
            have h2 : (k + 1) * (100 + 1) ≤ 6 * 101 := Nat.mul_le_mul_right _ (by omega)
            exact Nat.le_trans this (by omega)
          clear hS
          go_wp2_with (first | ((fail_if_success (have hzz := HB3)); go_at_call 34; refine (wstr_any w.heap.size (jnTo g k) [32] _ HB.out (by have := HJ.out; simp; omega) hlt2).mono ?_; rintro e w3 ⟨rfl, hw3, hx3, _⟩; have hb3 : Ext w w3 := Below.trans hE hx3; have hc3 : w3.cell? ⟨bk, 1 + k, none⟩ = some (.string ⟨S.toArray⟩) := (by rw [← HS.out, show 1 + k = k + 1 by omega]; exact hb3.keep (HC.out (k + 1) (by omega))); have HB3 := Lib.hid hw3; have hlt3 : w.heap.size < w3.heap.size := Nat.lt_of_lt_of_le hlt2 hx3.size; clear hw3 hx3) | (go_at_call 34; refine (wstr_any w.heap.size (jnTo g k ++ [32]) S _ HB3.out (by have := HJ.out; simp; omega) hlt3).mono ?_; rintro e w4 ⟨rfl, hw4, hx4, _⟩; have hb4 : Ext w w4 := Below.trans hb3 hx4; have HB4 : Hid (BldAt w.heap.size (jnTo g (k + 1)) w4) := (by rw [Hid, jnTo, HS.out]; simpa using hw4); have hlt4 : w.heap.size < w4.heap.size := Nat.lt_of_lt_of_le hlt3 hx4.size; clear hw4 hx4))
          go_roundw
          case rel => exact ⟨k + 1, by omega, by go_num, HB4, hb4, hlt4⟩
          case measure => simp [intOf]; omega
        · obtain rfl : k = 5 := by omega
          go_wp2_with (first | (go_at_call 35; refine (Tryd.Builder_String_any w.heap.size w.heap.size _ _ HB.out (Nat.le_of_lt hlt2)).mono ?_; rintro e w5 ⟨rfl, hb5⟩))
          go_ret
          exact ⟨rfl, Below.trans hE hb5⟩

end Go.Proofs.YtppoejhfemolfaaDoor

/-
  The reference's decimal numerals (scorebookref03.Padded at width 1) of small numbers.
-/
import Derived.Test.YtpgacpkcchajmaaDoorNotP
import Derived.Lib.ItoaLen
namespace Go.Proofs.YtpgacpkcchajmaaDoor
open Go.RowKit
set_option linter.unusedSimpArgs false

theorem ext_ten : ∀ h : Nat, h < 10 → (⟨#[48, 49, 50, 51, 52, 53, 54, 55, 56, 57]⟩ : ByteArray).extract h (h + 1) = ⟨[UInt8.ofNat (48 + h)].toArray⟩ := by decide
theorem itoa_99 : ∀ n : Nat, n < 100 → Lib.itoa (n : Int) = if n < 10 then [UInt8.ofNat (48 + n)] else [UInt8.ofNat (48 + n / 10), UInt8.ofNat (48 + n % 10)] := by
  intro n h
  rw [Lib.itoa_nonneg]
  by_cases h1 : n < 10
  · rw [if_pos h1, Lib.decDigits, dif_pos h1]
  · rw [if_neg h1, Lib.decDigits, dif_neg h1, Lib.decDigits, dif_pos (by omega)]; rfl

set_option maxRecDepth 100000 in
set_option maxHeartbeats 4000000 in
theorem padded_pos (n : Nat) (hn : n < 100) (hp : 0 < n) (w : World) :
    Calls Tryd.prog 55 #[.int .i64 (n : Int), .int .i64 1] w fun e w' => e = .returned (.string ⟨(Lib.itoa (n : Int)).toArray⟩) ∧ w' = w := by
  have HV := Lib.hid (itoa_99 n hn)
  have h0 : ¬ ((n : Int) < 0) := by omega
  have hw0 : IntKind.u64.wrap (n : Int) = (n : Int) := by rw [IntKind.wrap_u64]; omega
  obtain ⟨q, hq⟩ : ∃ q : Nat, n / 10 = q := ⟨_, rfl⟩
  obtain ⟨m, hm⟩ : ∃ m : Nat, n % 10 = m := ⟨_, rfl⟩
  have hq9 : q < 10 := by omega
  have hm9 : m < 10 := by omega
  have HN : Hid (n = 10 * q + m) := show n = 10 * q + m by omega
  have e1 : (n : Int).tmod 10 = (m : Int) := by rw [Int.tmod_eq_emod_of_nonneg (by omega)]; omega
  have e1' : (n : Int) % 10 = (m : Int) := by omega
  have e2 : (n : Int).tdiv 10 = (q : Int) := by rw [Int.tdiv_eq_ediv_of_nonneg (by omega)]; omega
  have e2' : (n : Int) / 10 = (q : Int) := by omega
  have e3 : (q : Int).tmod 10 = (q : Int) := by rw [Int.tmod_eq_emod_of_nonneg (by omega)]; omega
  have e3' : (q : Int) % 10 = (q : Int) := by omega
  have e4 : (q : Int).tdiv 10 = 0 := by rw [Int.tdiv_eq_ediv_of_nonneg (by omega)]; omega
  have e4' : (q : Int) / 10 = 0 := by omega
  have w1 : IntKind.u64.wrap ((m : Int) + 1) = (m : Int) + 1 := by rw [IntKind.wrap_u64]; omega
  have w2 : IntKind.u64.wrap ((q : Int) + 1) = (q : Int) + 1 := by rw [IntKind.wrap_u64]; omega
  have bm1 : (m : Int) + 1 ≤ 10 := by omega
  have bm2 : (m : Int) ≤ (m : Int) + 1 := by omega
  have bm3 : m + 1 ≤ 10 := by omega
  have bm4 : (0 : Int) ≤ (m : Int) + 1 := by omega
  have bm5 : ((m : Int) + 1).toNat = m + 1 := by omega
  have bq1 : (q : Int) + 1 ≤ 10 := by omega
  have bq2 : (q : Int) ≤ (q : Int) + 1 := by omega
  have bq3 : q + 1 ≤ 10 := by omega
  have bq4 : (0 : Int) ≤ (q : Int) + 1 := by omega
  have bq5 : ((q : Int) + 1).toNat = q + 1 := by omega
  have xm := ext_ten m hm9
  have xq := ext_ten q hq9
  obtain ⟨M, hM⟩ : ∃ C : UInt8, UInt8.ofNat (48 + m) = C := ⟨_, rfl⟩
  obtain ⟨K, hK⟩ : ∃ C : UInt8, UInt8.ofNat (48 + q) = C := ⟨_, rfl⟩
  rw [hM] at xm
  rw [hK] at xq
  have HMK : Hid (Lib.itoa (n : Int) = if n < 10 then [M] else [K, M]) := by
    show Lib.itoa (n : Int) = _
    rw [HV.out, hq, hm, hM, hK]
    by_cases h : n < 10
    · rw [if_pos h, if_pos h, show n = m by omega, hM]
    · rw [if_neg h, if_neg h]
  clear HV hM hK hq hm
  have hcat : ∀ a b : List UInt8, (⟨a.toArray⟩ : ByteArray) ++ ⟨b.toArray⟩ = ⟨(a ++ b).toArray⟩ := fun a b => by apply ByteArray.ext; simp
  go_enter Tryd.func55, Tryd.ntmps55
  go_wp2
  go_loopw [6, 8] (fun u s wr => wr = w ∧ ((u = .int .u64 (n : Int) ∧ s = .string ⟨#[]⟩) ∨ (u = .int .u64 (q : Int) ∧ s = .string ⟨#[M]⟩) ∨ (10 ≤ n ∧ u = .int .u64 0 ∧ s = .string ⟨#[K, M]⟩))) (fun _ s _ => match s with | .string b => 3 - b.size | _ => 0)
  case atStart => exact ⟨rfl, Or.inl ⟨by first | rfl | (rw [hw0]; done), rfl⟩⟩
  case round =>
    obtain ⟨rfl, h⟩ := hrel
    rcases h with ⟨rfl, rfl⟩ | ⟨rfl, rfl⟩ | ⟨hn10, rfl, rfl⟩
    · have hz1 : (0 : Int) < (n : Int) := by omega
      go_wp2
      go_roundw
      case rel => exact ⟨by first | rfl | trivial, Or.inr (Or.inl ⟨rfl, rfl⟩)⟩
      case measure => simp [ByteArray.size]
    · by_cases hz : q = 0
      · subst hz
        have hv : Lib.itoa (n : Int) = [M] := by rw [HMK.out, if_pos (by have := HN.out; omega)]
        go_wp2
        go_ret
        exact ⟨by rw [hv]; rfl, rfl⟩
      · have hz1 : (0 : Int) < (q : Int) := by omega
        have h10 : 10 ≤ n := by have := HN.out; omega
        go_wp2
        go_roundw
        case rel => exact ⟨by first | rfl | trivial, Or.inr (Or.inr ⟨h10, rfl, rfl⟩)⟩
        case measure => simp [ByteArray.size]
    · have hv : Lib.itoa (n : Int) = [K, M] := by rw [HMK.out, if_neg (by omega)]
      go_wp2
      go_ret
      exact ⟨by rw [hv]; rfl, rfl⟩

set_option maxRecDepth 100000 in
set_option maxHeartbeats 4000000 in
theorem padded_zero (w : World) :
    Calls Tryd.prog 55 #[.int .i64 0, .int .i64 1] w fun e w' => e = .returned (.string ⟨#[48]⟩) ∧ w' = w := by
  have hx : (⟨#[48, 49, 50, 51, 52, 53, 54, 55, 56, 57]⟩ : ByteArray).extract 0 1 = ⟨#[48]⟩ := by decide
  go_enter Tryd.func55, Tryd.ntmps55
  go_wp2
  go_loopw [6, 8] (fun u s wr => wr = w ∧ u = .int .u64 0 ∧ (s = .string ⟨#[]⟩ ∨ s = .string ⟨#[48]⟩)) (fun _ s _ => match s with | .string b => 3 - b.size | _ => 0)
  case atStart => exact ⟨rfl, rfl, Or.inl rfl⟩
  case round =>
    obtain ⟨rfl, rfl, h⟩ := hrel
    rcases h with rfl | rfl
    · go_wp2
      go_roundw
      case rel => exact ⟨by first | rfl | trivial, rfl, Or.inr rfl⟩
      case measure => simp [ByteArray.size]
    · go_wp2
      go_ret
      exact ⟨rfl, rfl⟩
theorem padded_any (n : Nat) (hn : n < 100) (w : World) :
    Calls Tryd.prog 55 #[.int .i64 (n : Int), .int .i64 1] w fun e w' => e = .returned (.string ⟨(Lib.itoa (n : Int)).toArray⟩) ∧ w' = w := by
  rcases Nat.eq_zero_or_pos n with rfl | h
  · have := padded_zero w
    rw [itoa_99 0 (by omega)]
    exact this
  · exact padded_pos n hn h w

set_option maxHeartbeats 1000000 in
theorem rdecimal_any (n : Int) (h0 : 0 ≤ n) (h1 : n < 100) (w : World) :
    Calls Tryd.prog 43 #[.int .i64 n] w fun e w' => e = .returned (.string ⟨(Lib.itoa n).toArray⟩) ∧ w' = w := by
  obtain ⟨m, rfl⟩ := Int.eq_ofNat_of_zero_le h0
  have IH := fun W => padded_any m (by omega) W
  go_enter Tryd.func43, Tryd.ntmps43
  go_wp2_with (first | (go_at_call 55; refine (IH _).mono ?_; rintro e w1 ⟨rfl, rfl⟩))
  go_ret
  exact ⟨rfl, rfl⟩
theorem rdec_any (n : Int) (h0 : 0 ≤ n) (h1 : n < 100) (w : World) :
    Calls Tryd.prog 28 #[.int .i64 n] w fun e w' => e = .returned (.string ⟨(Lib.itoa n).toArray⟩) ∧ w' = w := by
  have IH := fun W => rdecimal_any n h0 h1 W
  go_enter Tryd.func28, Tryd.ntmps28
  go_wp2_with (first | (go_at_call 43; refine (IH _).mono ?_; rintro e w1 ⟨rfl, rfl⟩))
  go_ret
  exact ⟨rfl, rfl⟩

end Go.Proofs.YtpgacpkcchajmaaDoor

/-
  Over of the reference (layer 7).
-/
import Derived.Test.YtpgacpkcchajmaaDoorNotK
import Derived.Test.YtpgacpkcchajmaaDoorNotS
namespace Go.Proofs.YtpgacpkcchajmaaDoor
open Go.RowKit
set_option linter.unusedSimpArgs false

theorem jnL_succ (g : Nat → List UInt8) {k : Nat} (h : 0 < k) : jnL (k + 1) g = jnL k g ++ 32 :: g k := by
  obtain ⟨m, rfl⟩ : ∃ m, k = m + 1 := ⟨k - 1, by omega⟩
  unfold jnL
  rw [if_neg (by omega), if_neg (by omega)]
  rfl
set_option maxHeartbeats 16000000 in
theorem rover_any (A0 : Option Addr) (n C : Nat) (f : Nat → Dl) (b off : Nat) (w : World) (T : DlsAt w A0 n f b off) (hn : n ≤ 12) :
    Calls Tryd.prog 18 #[.slice A0 n C] w fun e w' => e = .returned (.tuple #[.string ⟨(ovS n f).toArray⟩, .int .i64 (ovE f n 0)]) ∧ Ext w w' := by
  have hcat : ∀ a b : List UInt8, (⟨a.toArray⟩ : ByteArray) ++ ⟨b.toArray⟩ = ⟨(a ++ b).toArray⟩ := fun a b => by apply ByteArray.ext; simp
  go_enter Tryd.func18, Tryd.ntmps18
  go_wp2
  go_loopw [4, 11] (fun v i wr => ∃ k : Nat, k ≤ n ∧ i = .int .i64 k ∧ v = .string ⟨(jnL k (ovG f)).toArray⟩ ∧ (jnL k (ovG f)).length ≤ k * 101 ∧ ovE f n 0 = ovE f (n - k) k ∧ Ext w wr) (fun _ i _ => n - (intOf i).toNat)
  case atStart => exact ⟨0, by omega, rfl, rfl, by simp [jnL], rfl, Ext.refl _⟩
  case round =>
    obtain ⟨k, hk, rfl, rfl, hlen, hov, hE⟩ := hrel
    have HOV := Lib.hid hov
    clear hov
    by_cases hlt : k < n
    · obtain ⟨rfl, hb⟩ := T.top (by omega)
      obtain ⟨c0, c1, c2, c3, c4, c5, c6, c7, c8, c9, c10, c11⟩ := (T.ext hE).cell k hlt
      have hst := ovE_step f hlt
      have hwf := T.wf k hlt
      by_cases hck : ckD (f k) = 0
      · have hok := ck_ok hck hwf
        have hsl := sym_len hok
        rw [if_pos hck] at hst
        have hps : prS (f k) = ovG f k := by unfold prS ovG; rw [if_pos hck]
        have hsl2 : (ovG f k).length ≤ 100 := hsl
        have hj0 : k = 0 → jnL (k + 1) (ovG f) = ovG f k := fun h => by subst h; rfl
        have hj1 : 0 < k → jnL (k + 1) (ovG f) = jnL k (ovG f) ++ 32 :: ovG f k := fun h => jnL_succ _ h
        have hz0 : k = 0 → jnL k (ovG f) = [] := fun h => by subst h; rfl
        obtain ⟨S, hS⟩ : ∃ S, ovG f k = S := ⟨_, rfl⟩
        obtain ⟨X, hX⟩ : ∃ X, jnL k (ovG f) = X := ⟨_, rfl⟩
        rw [hX] at hlen hj1 hz0 ⊢
        rw [hS] at hsl2 hj0 hj1
        have HOV2 : Hid (ovE f n 0 = ovE f (n - (k + 1)) (k + 1)) := HOV.out.trans hst
        have HPR : Hid (∀ W, Calls Tryd.prog 11 #[(f k).v] W fun e w' => e = .returned (.tuple #[.string ⟨S.toArray⟩, .int .i64 0]) ∧ Ext W w') := fun W => by
          have := rprint_any (f k) hwf W
          rwa [hps, hck, hS] at this
        unfold Dl.v at HPR
        clear hck hst hps hS hok hX hsl
        rcases Nat.eq_zero_or_pos k with h0 | h0
        · obtain rfl := hz0 h0
          have HJ := Lib.hid (hj0 h0)
          have h0' : ¬ (0 : Int) < (k : Nat) := by omega
          have z1 : ¬ 9223372036854775807 < S.length := by omega
          clear hj0 hj1 hz0 h0
          go_wp2_with (first | (go_at_call 11; refine (HPR.out _).mono ?_; rintro e w1 ⟨rfl, hb1⟩))
          go_roundw
          case rel => exact ⟨k + 1, by omega, by go_num, by rw [HJ.out]; first | done | rfl | (simp; done) | (simp [hcat]; done), by rw [HJ.out]; omega, HOV2.out, (hE.alloc _).trans hb1⟩
          case measure => simp [intOf]; omega
        · have HJ := Lib.hid (hj1 h0)
          have h0' : (0 : Int) < (k : Nat) := by omega
          have z1 : ¬ 9223372036854775807 < X.length + 1 := by omega
          have z2 : ¬ 9223372036854775807 < X.length + 1 + S.length := by omega
          clear hj0 hj1 hz0 h0
          go_wp2_with (first | (go_at_call 11; refine (HPR.out _).mono ?_; rintro e w1 ⟨rfl, hb1⟩))
          go_roundw
          case rel => exact ⟨k + 1, by omega, by go_num, by rw [HJ.out]; first | done | rfl | (simp; done) | (simp [hcat]; done), by rw [HJ.out]; simp; omega, HOV2.out, (hE.alloc _).trans hb1⟩
          case measure => simp [intOf]; omega
      · rw [if_neg hck] at hst
        obtain ⟨E, hEq⟩ : ∃ E, ckD (f k) = E := ⟨_, rfl⟩
        have hps : prS (f k) = [] := by unfold prS; rw [if_neg hck]
        have HPR : Hid (∀ W, Calls Tryd.prog 11 #[(f k).v] W fun e w' => e = .returned (.tuple #[.string ⟨([] : List UInt8).toArray⟩, .int .i64 E]) ∧ Ext W w') := fun W => by
          have := rprint_any (f k) hwf W
          rwa [hps, hEq] at this
        rw [hEq] at hck hst
        have HV : Hid (ovE f n 0 = E ∧ ovS n f = []) := by
          have h1 := HOV.out.trans hst
          refine ⟨h1, ?_⟩
          unfold ovS
          rw [h1, if_neg hck]
        have he1 : (E != 0) = true := by simpa using hck
        unfold Dl.v at HPR
        clear hck hst hps hEq
        go_wp2_with (first | (go_at_call 11; refine (HPR.out _).mono ?_; rintro e w1 ⟨rfl, hb1⟩))
        go_ret2
        exact ⟨by rw [HV.out.1, HV.out.2]; rfl, (hE.alloc _).trans hb1⟩
    · obtain rfl : k = n := by omega
      have hv0 : ovE f k 0 = 0 := by rw [HOV.out, Nat.sub_self]; rfl
      have HV : Hid (ovE f k 0 = 0 ∧ ovS k f = jnL k (ovG f)) := ⟨hv0, by unfold ovS; rw [hv0, if_pos rfl]⟩
      clear hv0
      go_wp2
      go_ret2
      exact ⟨by rw [HV.out.1, HV.out.2]; rfl, hE⟩

end Go.Proofs.YtpgacpkcchajmaaDoor

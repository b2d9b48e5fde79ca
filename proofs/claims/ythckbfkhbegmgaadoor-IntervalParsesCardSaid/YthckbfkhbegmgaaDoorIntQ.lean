/-
  The size of any wide number in parts (reference of layer 2).
-/
import Derived.Test.YthckbfkhbegmgaaDoorIntN
import Derived.Test.YthckbfkhbegmgaaDoorIntP
namespace Go.Proofs.YthckbfkhbegmgaaDoor
open Go.RowKit
set_option linter.unusedSimpArgs false

theorem lims {M : Nat} {hi lo : Int} (h0 : 0 ≤ lo) (h1 : lo < 18446744073709551616) (h2 : 0 ≤ hi) (h3 : hi < 18446744073709551616) (e : (M : Int) = hi * 18446744073709551616 + lo) :
    ((lb M 0 : Nat) : Int) = lo % 4294967296 ∧ ((lb M 1 : Nat) : Int) = lo / 4294967296 ∧ ((lb M 2 : Nat) : Int) = hi % 4294967296 ∧ ((lb M 3 : Nat) : Int) = hi / 4294967296 := by
  have e0 : lb M 0 = M % 4294967296 := by simp [lb]
  have e1 : lb M 1 = M / 4294967296 % 4294967296 := rfl
  have e2 : lb M 2 = M / 18446744073709551616 % 4294967296 := rfl
  have e3 : lb M 3 = M / 79228162514264337593543950336 % 4294967296 := rfl
  rw [e0, e1, e2, e3]
  omega
def vI (hi lo : Int) : Int := hi * 18446744073709551616 + lo
set_option maxHeartbeats 4000000 in
theorem size128_any (hi lo : Int) (a1 : -9223372036854775808 ≤ hi) (a2 : hi ≤ 9223372036854775807) (b1 : 0 ≤ lo) (b2 : lo ≤ 18446744073709551615) (w : World) :
    Calls Tryd.prog 31 #[.agg #[.int .i64 hi, .int .u64 lo]] w fun e w' => e = .returned (.agg #[.int .u64 (lb (vI hi lo).natAbs 0 : Nat), .int .u64 (lb (vI hi lo).natAbs 1 : Nat), .int .u64 (lb (vI hi lo).natAbs 2 : Nat), .int .u64 (lb (vI hi lo).natAbs 3 : Nat)]) ∧ Ext w w' := by
  have hs : IntKind.u64.signed = false := rfl
  have hm : IntKind.u64.max = 18446744073709551615 := by decide
  obtain ⟨M, hM⟩ : ∃ M, (vI hi lo).natAbs = M := ⟨_, rfl⟩
  have hMi : (M : Int) = if hi < 0 then -(hi * 18446744073709551616 + lo) else hi * 18446744073709551616 + lo := by
    rw [← hM]; unfold vI; split <;> omega
  rw [hM]
  clear hM
  by_cases hn : hi < 0
  · rw [if_pos hn] at hMi
    obtain ⟨H, hH⟩ : ∃ H : Int, hi + 18446744073709551616 = H := ⟨_, rfl⟩
    have hw1 : IntKind.u64.wrap hi = H := by rw [IntKind.wrap_u64]; omega
    have hx1 : bits .xor .u64 18446744073709551615 H = 18446744073709551615 - H := not_int _ (by omega) (by omega)
    have hx2 : bits .xor .u64 18446744073709551615 lo = 18446744073709551615 - lo := not_int _ (by omega) (by omega)
    by_cases h0 : lo = 0
    · subst h0
      obtain ⟨U, hU⟩ : ∃ U : Int, 18446744073709551615 - H + 1 = U := ⟨_, rfl⟩
      have HV := Lib.hid (lims (M := M) (hi := U) (lo := 0) (by omega) (by omega) (by omega) (by omega) (by omega))
      have hw2 : IntKind.u64.wrap (18446744073709551615 - 0 + 1) = 0 := by rw [IntKind.wrap_u64]; omega
      have hw4 : IntKind.u64.wrap 18446744073709551616 = 0 := by decide
      have hw3 : IntKind.u64.wrap (18446744073709551615 - H + 1) = U := by rw [IntKind.wrap_u64]; omega
      have hand := and_low U (by omega) (by omega)
      have hz : bits .and .u64 0 4294967295 = 0 := and_low 0 (by omega) (by omega)
      clear hMi hU hH
      go_enter Tryd.func31, Tryd.ntmps31
      go_wp2
      go_quiet (fail)
      go_wp2
      refine bodyPost_ret (v := .agg #[.int .u64 (0 % 4294967296), .int .u64 (0 / 4294967296), .int .u64 (U % 4294967296), .int .u64 (U / 4294967296)]) (by simp [results, Tryd.results31, go_sem, *]) rfl ?_
      exact ⟨by rw [HV.out.1, HV.out.2.1, HV.out.2.2.1, HV.out.2.2.2], (by repeat (first | exact Ext.refl _ | refine Ext.setCell ?_ (by first | exact Nat.le_refl _ | (simp; done) | (simp; omega)) _ | refine Ext.drew ?_ | refine Ext.drewN ?_ _ | refine Ext.alloc ?_ _))⟩
    · obtain ⟨L, hL⟩ : ∃ L : Int, 18446744073709551615 - lo + 1 = L := ⟨_, rfl⟩
      obtain ⟨U, hU⟩ : ∃ U : Int, 18446744073709551615 - H = U := ⟨_, rfl⟩
      have HV := Lib.hid (lims (M := M) (hi := U) (lo := L) (by omega) (by omega) (by omega) (by omega) (by omega))
      have hw2 : IntKind.u64.wrap (18446744073709551615 - lo + 1) = L := by rw [IntKind.wrap_u64]; omega
      have hand := and_low U (by omega) (by omega)
      have hand2 := and_low L (by omega) (by omega)
      have hL0 : (L == 0) = false := by simp; omega
      clear hMi hH
      go_enter Tryd.func31, Tryd.ntmps31
      go_wp2
      go_quiet (fail)
      go_wp2
      refine bodyPost_ret (v := .agg #[.int .u64 (L % 4294967296), .int .u64 (L / 4294967296), .int .u64 (U % 4294967296), .int .u64 (U / 4294967296)]) (by simp [results, Tryd.results31, go_sem, *]) rfl ?_
      exact ⟨by rw [HV.out.1, HV.out.2.1, HV.out.2.2.1, HV.out.2.2.2], (by repeat (first | exact Ext.refl _ | refine Ext.setCell ?_ (by first | exact Nat.le_refl _ | (simp; done) | (simp; omega)) _ | refine Ext.drew ?_ | refine Ext.drewN ?_ _ | refine Ext.alloc ?_ _))⟩
  · rw [if_neg hn] at hMi
    have HV := Lib.hid (lims (M := M) (hi := hi) (lo := lo) (by omega) (by omega) (by omega) (by omega) hMi)
    have hw1 : IntKind.u64.wrap hi = hi := by rw [IntKind.wrap_u64]; omega
    have hand := and_low hi (by omega) (by omega)
    have hand2 := and_low lo (by omega) (by omega)
    clear hMi
    go_enter Tryd.func31, Tryd.ntmps31
    go_wp2
    go_quiet (fail)
    go_wp2
    refine bodyPost_ret (v := .agg #[.int .u64 (lo % 4294967296), .int .u64 (lo / 4294967296), .int .u64 (hi % 4294967296), .int .u64 (hi / 4294967296)]) (by simp [results, Tryd.results31, go_sem, *]) rfl ?_
    exact ⟨by rw [HV.out.1, HV.out.2.1, HV.out.2.2.1, HV.out.2.2.2], (by repeat (first | exact Ext.refl _ | refine Ext.setCell ?_ (by first | exact Nat.le_refl _ | (simp; done) | (simp; omega)) _ | refine Ext.drew ?_ | refine Ext.drewN ?_ _ | refine Ext.alloc ?_ _))⟩

end Go.Proofs.YthckbfkhbegmgaaDoor

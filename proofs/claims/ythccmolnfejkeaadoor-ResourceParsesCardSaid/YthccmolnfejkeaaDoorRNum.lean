/-
  The decimal numerals of the reference (scorebookref01.Number), at any integer but the least.
-/
import Derived.Test.YthccmolnfejkeaaDoorKit
import Derived.Lib.ItoaLen
import Derived.Laws.BytesArg
namespace Go.Proofs.YthccmolnfejkeaaDoor
open Go.RowKit
set_option linter.unusedSimpArgs false

theorem rn_cat (a b : List UInt8) : (⟨a.toArray⟩ : ByteArray) ++ ⟨b.toArray⟩ = ⟨(a ++ b).toArray⟩ := by
  apply ByteArray.ext; simp
open Lib (decDigits) in
theorem dd_small {u : Nat} (h : u < 10) : decDigits u = [UInt8.ofNat (48 + u)] := by rw [decDigits, dif_pos h]
open Lib (decDigits) in
theorem dd_big {u : Nat} (h : ¬ u < 10) : decDigits u = decDigits (u / 10) ++ [UInt8.ofNat (48 + u % 10)] := by rw [decDigits, dif_neg h]

set_option maxRecDepth 100000 in
set_option maxHeartbeats 2000000 in
theorem rnum_any (u : Nat) (hu : u < 9223372036854775808) (w : World) :
    Calls Tryd.prog 38 #[.int .i64 (u : Int)] w fun e w' => e = .returned (.string ⟨(Lib.decDigits u).toArray⟩) ∧ Ext w w' := by
  have h0 : ¬ ((u : Int) < 0) := by omega
  have e1 : (u : Int).tmod 10 = ((u % 10 : Nat) : Int) := by rw [Int.tmod_eq_emod_of_nonneg (by omega)]; rfl
  obtain ⟨d, hd⟩ : ∃ d : Nat, u % 10 = d := ⟨_, rfl⟩
  have hd9 : d < 10 := by omega
  rw [hd] at e1
  have e2 : IntKind.u8.wrap (48 + (d : Int)) = 48 + (d : Int) := by rw [IntKind.wrap_u8]; omega
  have hcv : (convert 40 9 (.slice (some ⟨w.heap.size, 0, none⟩) 1 1)).run Tryd.prog (w.alloc (.cells #[.int .u8 (48 + (d : Int))] 5)) = .ok (.string ⟨[UInt8.ofNat (48 + d)].toArray⟩) (w.alloc (.cells #[.int .u8 (48 + (d : Int))] 5)) := by
    rw [run_convert_bytes_arg (P := Tryd.prog) (w.alloc (.cells #[.int .u8 (48 + (d : Int))] 5)) 40 5 (by kernel_rfl) (by kernel_rfl) w.heap.size 0 1 1 [48 + (d : Int)] rfl (fun i hi => by obtain rfl : i = 0 := (by omega); simp [go_sem]) 9 (by kernel_rfl)]
    rw [strOfNums, List.map_singleton, show (48 + (d : Int)).toNat = 48 + d by omega]
  obtain ⟨C, hC⟩ : ∃ C : UInt8, UInt8.ofNat (48 + d) = C := ⟨_, rfl⟩
  rw [hC] at hcv
  by_cases hs : u < 10
  · obtain rfl : u = d := by omega
    have hs' : ¬ ((10 : Int) ≤ (u : Int)) := by omega
    have HV : Hid (Lib.decDigits u = [C]) := (dd_small hs).trans (by rw [hC])
    clear hC
    go_enter Tryd.func38, Tryd.ntmps38
    go_wp2
    go_ret
    exact ⟨by rw [HV.out]; rfl, (by repeat (first | exact Ext.refl _ | refine Ext.setCell ?_ (by first | (simp; done) | (simp; omega)) _ | refine Ext.drew ?_ | refine Ext.drewN ?_ _ | refine Ext.alloc ?_ _))⟩
  · have hs' : (10 : Int) ≤ (u : Int) := by omega
    have e3 : (u : Int).tdiv 10 = ((u / 10 : Nat) : Int) := by rw [Int.tdiv_eq_ediv_of_nonneg (by omega)]; rfl
    have e4 : (u : Int) / 10 = ((u / 10 : Nat) : Int) := rfl
    have HV := Lib.hid (dd_big hs)
    obtain ⟨q, hq⟩ : ∃ q : Nat, u / 10 = q := ⟨_, rfl⟩
    have IH := fun W => rnum_any q (by omega) W
    have hlen : (Lib.decDigits q).length ≤ 20 := by rw [Lib.decDigits_length]; exact Lib.nDigits_le20 q (by omega)
    rw [hq] at e3 e4 HV
    rw [hd, hC] at HV
    clear hC
    obtain ⟨D, hD⟩ : ∃ D : List UInt8, Lib.decDigits q = D := ⟨_, rfl⟩
    rw [hD] at hlen HV
    have hcat : ∀ a b : List UInt8, (⟨a.toArray⟩ : ByteArray) ++ ⟨b.toArray⟩ = ⟨(a ++ b).toArray⟩ := rn_cat
    have hs1 : ¬ (9223372036854775807 < D.length + 1) := by omega
    clear hd
    go_enter Tryd.func38, Tryd.ntmps38
    go_wp2_with (first | (go_at_call 38; refine (IH _).mono ?_; rintro e w1 ⟨rfl, hb1⟩; rw [hD]))
    go_ret
    exact ⟨by rw [HV.out]; rfl, (by repeat (first | exact Ext.refl _ | refine Ext.setCell ?_ (by first | (simp; done) | (simp; omega)) _ | refine Ext.drew ?_ | refine Ext.drewN ?_ _ | refine Ext.alloc ?_ _ | refine Ext.trans ?_ hb1))⟩
termination_by u
decreasing_by omega
set_option maxRecDepth 100000 in
set_option maxHeartbeats 2000000 in
theorem rnumi_any (n : Int) (h : -9223372036854775807 ≤ n) (h' : n ≤ 9223372036854775807) (w : World) :
    Calls Tryd.prog 38 #[.int .i64 n] w fun e w' => e = .returned (.string ⟨(Lib.itoa n).toArray⟩) ∧ Ext w w' := by
  rcases Int.lt_or_le n 0 with hn | hn
  · obtain ⟨m, hm⟩ : ∃ m : Nat, n = -(m : Int) := ⟨n.natAbs, by omega⟩
    subst hm
    have hm1 : 1 ≤ m := by omega
    have HV := Lib.hid (Lib.itoa_neg m hm1)
    have IH := fun W => rnum_any m (by omega) W
    have e1 : IntKind.i64.wrap (- -(m : Int)) = (m : Int) := by rw [Int.neg_neg]; exact IntWalk.i64_in _ (by omega)
    have hcat : ∀ a b : List UInt8, (⟨a.toArray⟩ : ByteArray) ++ ⟨b.toArray⟩ = ⟨(a ++ b).toArray⟩ := rn_cat
    have hlen : (Lib.decDigits m).length ≤ 20 := by rw [Lib.decDigits_length]; exact Lib.nDigits_le20 m (by omega)
    obtain ⟨D, hD⟩ : ∃ D : List UInt8, Lib.decDigits m = D := ⟨_, rfl⟩
    rw [hD] at hlen HV
    have hs1 : ¬ (9223372036854775807 < 1 + D.length) := by omega
    have hs2 : ¬ (9223372036854775807 < D.length + 1) := by omega
    go_enter Tryd.func38, Tryd.ntmps38
    go_wp2_with (first | (go_at_call 38; refine (IH _).mono ?_; rintro e w1 ⟨rfl, hb1⟩; rw [hD]))
    go_ret
    exact ⟨(by rw [HV.out]; first | done | rfl | (simp; done)), (by repeat (first | exact Ext.refl _ | refine Ext.alloc ?_ _ | refine Ext.trans ?_ hb1))⟩
  · obtain ⟨m, rfl⟩ := Int.eq_ofNat_of_zero_le hn
    rw [Lib.itoa_nonneg m]
    exact rnum_any m (by omega) w

end Go.Proofs.YthccmolnfejkeaaDoor

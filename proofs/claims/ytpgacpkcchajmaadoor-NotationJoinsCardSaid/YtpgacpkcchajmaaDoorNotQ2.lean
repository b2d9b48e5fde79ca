/-
  The law NotationParses, walked.
-/
import Derived.Test.YtpgacpkcchajmaaDoorNotL
import Derived.Test.YtpgacpkcchajmaaDoorNotQ
import Derived.Test.YtpgacpkcchajmaaDoorNotY
namespace Go.Proofs.YtpgacpkcchajmaaDoor
open Go.RowKit
set_option linter.unusedSimpArgs false

set_option maxHeartbeats 16000000 in
theorem notationParses_any (s : ByteArray) (hsz : s.size ≤ 9223372036854775807) (w : World) (hX : TX w) : Calls Tryd.prog 4 #[.string s] w fun e w' => e = .returned (.bool true) ∧ Ext w w' := by
  have HX := Lib.hid hX
  clear hX
  obtain ⟨L, hL, hex⟩ := cut_str s 40
  have hL' : L.length ≤ 100000 := by omega
  have hL2 : L.length ≤ 9223372036854775807 := by omega
  obtain ⟨m, hm⟩ : ∃ m, min s.size 40 = m := ⟨_, rfl⟩
  have hmi : min (s.size : Int) 40 = (m : Int) := by omega
  have hm1 : m ≤ s.size := by omega
  have hm2 : m ≤ 40 := by omega
  rw [hm] at hex
  clear hm
  have H5 : Hid (∀ W, TX W → Calls Tryd.prog 14 #[.string ⟨L.toArray⟩] W fun e w' => e = .returned (.tuple #[(paD L).v, .int .i64 (paE L)]) ∧ Ext W w') := fun W h => parse_any L hL' W h
  have H6 : Hid (∀ W, Calls Tryd.prog 15 #[.string ⟨L.toArray⟩] W fun e w' => e = .returned (.tuple #[(paD L).v, .int .i64 (paE L)]) ∧ Ext W w') := fun W => by
    have := rparse_any L hL2 W
    rwa [(ra_eq L).1, (ra_eq L).2] at this
  obtain ⟨E2, hE2⟩ : ∃ E, paE L = E := ⟨_, rfl⟩
  obtain ⟨G, hG⟩ : ∃ E, paD L = E := ⟨_, rfl⟩
  rw [hE2, hG] at H5 H6
  clear hE2 hG hL' hL2
  unfold Dl.v at H5 H6
  go_enter Tryd.func4, Tryd.ntmps4
  go_wp2_with (first | ((fail_if_success (have hzz := hb1)); go_at_call 9; refine (awake_any _ (HX.out.ext (by repeat (first | exact Ext.refl _ | refine Ext.setCell ?_ (by first | exact Nat.le_refl _ | (simp; done) | (simp; omega)) _ | refine Ext.drew ?_ | refine Ext.drewN ?_ _ | refine Ext.alloc ?_ _)))).mono ?_; rintro e w1 ⟨rfl, hb1⟩) | ((fail_if_success (have hzz := hb2)); go_at_call 14; refine (H5.out _ (HX.out.ext (by repeat (first | exact Ext.refl _ | refine Ext.setCell ?_ (by first | exact Nat.le_refl _ | (simp; done) | (simp; omega)) _ | refine Ext.drew ?_ | refine Ext.drewN ?_ _ | refine Ext.alloc ?_ _ | refine Ext.trans ?_ hb1)))).mono ?_; rintro e w2 ⟨rfl, hb2⟩) | ((fail_if_success (have hzz := hb3)); go_at_call 15; refine (H6.out _).mono ?_; rintro e w3 ⟨rfl, hb3⟩; have p3_0 : w3.cell? ⟨w2.heap.size, 0, none⟩ = some (.int .u8 G.ty) := hb3.keep (by first | assumption | (simp [go_sem]; done)); have p3_1 : w3.cell? ⟨w2.heap.size, 1, none⟩ = some (.int .u8 G.so) := hb3.keep (by first | assumption | (simp [go_sem]; done)); have p3_2 : w3.cell? ⟨w2.heap.size, 2, none⟩ = some (.int .i64 G.ru) := hb3.keep (by first | assumption | (simp [go_sem]; done)); have p3_3 : w3.cell? ⟨w2.heap.size, 3, none⟩ = some (.int .i64 G.sh) := hb3.keep (by first | assumption | (simp [go_sem]; done)); have p3_4 : w3.cell? ⟨w2.heap.size, 4, none⟩ = some (.int .i64 G.bo) := hb3.keep (by first | assumption | (simp [go_sem]; done)); have p3_5 : w3.cell? ⟨w2.heap.size, 5, none⟩ = some (.bool G.cr) := hb3.keep (by first | assumption | (simp [go_sem]; done)); have p3_6 : w3.cell? ⟨w2.heap.size, 6, none⟩ = some (.int .u8 G.ho) := hb3.keep (by first | assumption | (simp [go_sem]; done)); have p3_7 : w3.cell? ⟨w2.heap.size, 7, none⟩ = some (.int .i64 G.vi) := hb3.keep (by first | assumption | (simp [go_sem]; done)); have p3_8 : w3.cell? ⟨w2.heap.size, 8, none⟩ = some (.int .i64 G.fi) := hb3.keep (by first | assumption | (simp [go_sem]; done)); have p3_9 : w3.cell? ⟨w2.heap.size, 9, none⟩ = some (.int .i64 G.se) := hb3.keep (by first | assumption | (simp [go_sem]; done)); have p3_10 : w3.cell? ⟨w2.heap.size, 10, none⟩ = some (.bool G.su) := hb3.keep (by first | assumption | (simp [go_sem]; done)); have p3_11 : w3.cell? ⟨w2.heap.size, 11, none⟩ = some (.int .i64 G.sc) := hb3.keep (by first | assumption | (simp [go_sem]; done)); have l3 : w2.heap.size < w3.heap.size := cell_lt p3_0))
  go_ret
  exact ⟨retb (by first | rfl | (simp; done)), (by repeat (first | exact Ext.refl _ | refine Ext.setCell ?_ (by first | exact Nat.le_refl _ | (simp; done) | (simp; omega)) _ | refine Ext.drew ?_ | refine Ext.drewN ?_ _ | refine Ext.alloc ?_ _ | refine Ext.trans ?_ hb3 | refine Ext.trans ?_ hb2 | refine Ext.trans ?_ hb1))⟩

end Go.Proofs.YtpgacpkcchajmaaDoor

/-
  The text of any wide number (reference of layer 2).
-/
import Derived.Test.YthckbfkhbegmgaaDoorArr4
import Derived.Laws.BytesArg
import Derived.Lib.ItoaLen
namespace Go.Proofs.YthckbfkhbegmgaaDoor
open Go.RowKit
set_option linter.unusedSimpArgs false

structure TxI (w : World) (b m : Nat) (wr : World) : Prop where
  ext : Ext w wr
  hb : w.heap.size ≤ b
  pb : wr.heap[b]? = some (.cells #[.int .u64 (lb m 0 : Nat), .int .u64 (lb m 1 : Nat), .int .u64 (lb m 2 : Nat), .int .u64 (lb m 3 : Nat)] 57 (0, 0))
theorem TxI.grow {w wr w' : World} {b m : Nat} (h : TxI w b m wr) (x : Ext wr w') : TxI w b m w' := ⟨h.ext.trans x, h.hb, (x.block _ (Array.getElem?_eq_some_iff.1 h.pb).1).trans h.pb⟩
theorem TxI.set {w wr : World} {b m : Nat} (h : TxI w b m wr) (m' : Nat) : TxI w b m' ((((wr.setCell ⟨b, 0, none⟩ (.int .u64 (lb m' 0 : Nat))).setCell ⟨b, 1, none⟩ (.int .u64 (lb m' 1 : Nat))).setCell ⟨b, 2, none⟩ (.int .u64 (lb m' 2 : Nat))).setCell ⟨b, 3, none⟩ (.int .u64 (lb m' 3 : Nat))) where
  ext := (((h.ext.setCell h.hb _).setCell h.hb _).setCell h.hb _).setCell h.hb _
  hb := h.hb
  pb := by
    have h0 : (wr.setCell ⟨b, 0, none⟩ (.int .u64 (lb m' 0 : Nat))).heap[b]? = some (.cells #[.int .u64 (lb m' 0 : Nat), .int .u64 (lb m 1 : Nat), .int .u64 (lb m 2 : Nat), .int .u64 (lb m 3 : Nat)] 57 (0, 0)) := heap_setCell_same _ _ _ _ _ _ h.pb
    have h1 : ((wr.setCell ⟨b, 0, none⟩ (.int .u64 (lb m' 0 : Nat))).setCell ⟨b, 1, none⟩ (.int .u64 (lb m' 1 : Nat))).heap[b]? = some (.cells #[.int .u64 (lb m' 0 : Nat), .int .u64 (lb m' 1 : Nat), .int .u64 (lb m 2 : Nat), .int .u64 (lb m 3 : Nat)] 57 (0, 0)) := heap_setCell_same _ _ _ _ _ _ h0
    have h2 : (((wr.setCell ⟨b, 0, none⟩ (.int .u64 (lb m' 0 : Nat))).setCell ⟨b, 1, none⟩ (.int .u64 (lb m' 1 : Nat))).setCell ⟨b, 2, none⟩ (.int .u64 (lb m' 2 : Nat))).heap[b]? = some (.cells #[.int .u64 (lb m' 0 : Nat), .int .u64 (lb m' 1 : Nat), .int .u64 (lb m' 2 : Nat), .int .u64 (lb m 3 : Nat)] 57 (0, 0)) := heap_setCell_same _ _ _ _ _ _ h1
    have h3 : ((((wr.setCell ⟨b, 0, none⟩ (.int .u64 (lb m' 0 : Nat))).setCell ⟨b, 1, none⟩ (.int .u64 (lb m' 1 : Nat))).setCell ⟨b, 2, none⟩ (.int .u64 (lb m' 2 : Nat))).setCell ⟨b, 3, none⟩ (.int .u64 (lb m' 3 : Nat))).heap[b]? = some (.cells #[.int .u64 (lb m' 0 : Nat), .int .u64 (lb m' 1 : Nat), .int .u64 (lb m' 2 : Nat), .int .u64 (lb m' 3 : Nat)] 57 (0, 0)) := heap_setCell_same _ _ _ _ _ _ h2
    exact h3
theorem TxI.p {w wr : World} {b m : Nat} (h : TxI w b m wr) : (wr.cell? ⟨b, 0, none⟩ = some (.int .u64 (lb m 0 : Nat)) ∧ wr.cell? ⟨b, 1, none⟩ = some (.int .u64 (lb m 1 : Nat)) ∧ wr.cell? ⟨b, 2, none⟩ = some (.int .u64 (lb m 2 : Nat)) ∧ wr.cell? ⟨b, 3, none⟩ = some (.int .u64 (lb m 3 : Nat))) ∧ ∀ j, wr.frozen? ⟨b, j, none⟩ = false :=
  ⟨⟨Lib.cell_of_heap h.pb 0, Lib.cell_of_heap h.pb 1, Lib.cell_of_heap h.pb 2, Lib.cell_of_heap h.pb 3⟩, fun j => by have := h.pb; simp [World.frozen?, this]⟩
theorem dd_len : ∀ k u, u < 10 ^ (k + 1) → (Lib.decDigits u).length ≤ k + 1
  | 0, u, h => by
    have h : u < 10 := by simpa using h
    rw [Lib.decDigits, dif_pos h]; simp
  | k + 1, u, h => by
    by_cases h1 : u < 10
    · rw [Lib.decDigits, dif_pos h1]; simp
    · have := dd_len k (u / 10) (by rw [Nat.pow_succ] at h; omega)
      rw [Lib.decDigits, dif_neg h1, List.length_append, List.length_singleton]; omega
theorem wf_lb (m j : Nat) : (Lit.int .u64 (lb m j : Nat)).wf = true := by
  have := lb_lt m j
  simp [Lit.wf, IntKind.min, IntKind.max, IntKind.signed, IntKind.bits]
  omega
theorem wf_zero : (Lit.int .u64 0).wf = true := by decide
theorem lb_zero : ∀ j, lb 0 j = 0 := fun j => by simp [lb]
theorem lbs_pos {m : Nat} (h : m < 2 ^ 128) (hp : 0 < m) : decide (((lb m 0 : Nat) : Int) = 0 ∧ ((lb m 1 : Nat) : Int) = 0 ∧ ((lb m 2 : Nat) : Int) = 0 ∧ ((lb m 3 : Nat) : Int) = 0) = false := by
  have e0 : lb m 0 = m % 4294967296 := by simp [lb]
  have e1 : lb m 1 = m / 4294967296 % 4294967296 := rfl
  have e2 : lb m 2 = m / 18446744073709551616 % 4294967296 := rfl
  have e3 : lb m 3 = m / 79228162514264337593543950336 % 4294967296 := rfl
  rw [decide_eq_false_iff_not]
  omega
theorem lb_pos {m : Nat} (h : m < 2 ^ 128) (h0 : lb m 0 = 0) (h1 : lb m 1 = 0) (h2 : lb m 2 = 0) (h3 : lb m 3 = 0) : m = 0 := by
  have e0 : lb m 0 = m % 4294967296 := by simp [lb]
  have e1 : lb m 1 = m / 4294967296 % 4294967296 := rfl
  have e2 : lb m 2 = m / 18446744073709551616 % 4294967296 := rfl
  have e3 : lb m 3 = m / 79228162514264337593543950336 % 4294967296 := rfl
  omega
/-- What has been written of the digits of M when m is left. -/
def Dg (M m : Nat) (S : List UInt8) : Prop := (S = [] ∧ m = M) ∨ (S ≠ [] ∧ ((m = 0 ∧ S = Lib.decDigits M) ∨ (0 < m ∧ Lib.decDigits M = Lib.decDigits m ++ S)))
theorem Dg.step {M m : Nat} {S : List UInt8} (h : Dg M m S) (hc : 0 < m ∨ S = []) : Dg M (m / 10) (UInt8.ofNat (48 + m % 10) :: S) ∧ S.length < (Lib.decDigits M).length := by
  have hd : Lib.decDigits M = Lib.decDigits m ++ S := by
    rcases h with ⟨rfl, rfl⟩ | ⟨hs, ⟨h0, _⟩ | ⟨_, h1⟩⟩
    · simp
    · rcases hc with hc | hc
      · omega
      · exact absurd hc hs
    · exact h1
  have hp : 0 < (Lib.decDigits m).length := by rw [Lib.decDigits_length]; exact Lib.nDigits_pos m
  refine ⟨Or.inr ⟨by simp, ?_⟩, by rw [hd, List.length_append]; omega⟩
  by_cases h10 : m < 10
  · refine Or.inl ⟨by omega, ?_⟩
    rw [hd, Lib.decDigits, dif_pos h10, show m % 10 = m by omega]
    rfl
  · refine Or.inr ⟨by omega, ?_⟩
    rw [hd, Lib.decDigits, dif_neg h10]
    simp

set_option maxRecDepth 20000 in
set_option maxHeartbeats 8000000 in
theorem text128_any (hi lo : Int) (a1 : -9223372036854775808 ≤ hi) (a2 : hi ≤ 9223372036854775807) (b1 : 0 ≤ lo) (b2 : lo ≤ 18446744073709551615) (w : World) :
    Calls Tryd.prog 16 #[.agg #[.int .i64 hi, .int .u64 lo]] w fun e w' => e = .returned (.string ⟨(Lib.itoa (vI hi lo)).toArray⟩) ∧ Ext w w' := by
  have hcat : ∀ a b : List UInt8, (⟨a.toArray⟩ : ByteArray) ++ ⟨b.toArray⟩ = ⟨(a ++ b).toArray⟩ := fun a b => by apply ByteArray.ext; simp
  have HSZ := Lib.hid (fun W => size128_any hi lo a1 a2 b1 b2 W)
  have hM128 : (vI hi lo).natAbs < 2 ^ 128 := by unfold vI; omega
  have hit : Lib.itoa (vI hi lo) = if hi < 0 then 45 :: Lib.decDigits (vI hi lo).natAbs else Lib.decDigits (vI hi lo).natAbs := by
    unfold Lib.itoa
    have e : (vI hi lo < 0) ↔ hi < 0 := by unfold vI; omega
    by_cases h : hi < 0
    · rw [if_pos h, if_pos (e.2 h)]
    · rw [if_neg h, if_neg (fun x => h (e.1 x)), show (vI hi lo).toNat = (vI hi lo).natAbs by unfold vI; omega]
  have HIT := Lib.hid hit
  obtain ⟨M, hM⟩ : ∃ M, (vI hi lo).natAbs = M := ⟨_, rfl⟩
  rw [hM] at HSZ hM128 HIT
  have hlen : (Lib.decDigits M).length ≤ 100 := by
    have := dd_len 38 M (Nat.lt_of_lt_of_le hM128 (by decide))
    omega
  clear hM hit
  go_enter Tryd.func16, Tryd.ntmps16
  go_wp2_with (go_at_call 31; refine (HSZ.out _).mono ?_; rintro e w1 ⟨rfl, hb1⟩; have chi : w1.cell? ⟨w.heap.size, 0, none⟩ = some (.int .i64 hi) := hb1.keep (by simp [go_sem]))
  go_loopw [4] (fun s wr => ∃ (m : Nat) (S : List UInt8), s = .string ⟨S.toArray⟩ ∧ TxI w1 w1.heap.size m wr ∧ Dg M m S ∧ m < 2 ^ 128) (fun s _ => match s with | .string x => (Lib.decDigits M).length - x.size | _ => 0)
  case atStart => exact ⟨M, [], rfl, ⟨(Ext.refl w1).alloc _, Nat.le_refl _, heap_alloc_new w1 _⟩, Or.inl ⟨rfl, rfl⟩, hM128⟩
  case round =>
    obtain ⟨m, S, rfl, hI, hD, hm⟩ := hrel
    obtain ⟨⟨p0, p1, p2, p3⟩, fz⟩ := hI.p
    have f0 := fz 0
    have f1 := fz 1
    have f2 := fz 2
    have f3 := fz 3
    have HI := Lib.hid hI
    clear fz hI
    have heq := fun W => arr4_eq W (lb m 0 : Nat) (lb m 1 : Nat) (lb m 2 : Nat) (lb m 3 : Nat) 0 0 0 0 (wf_lb m 0) (wf_lb m 1) (wf_lb m 2) (wf_lb m 3) wf_zero wf_zero wf_zero wf_zero
    by_cases hgo : 0 < m ∨ S = []
    · have HST := Lib.hid (hD.step hgo)
      have HDV := Lib.hid (fun W => div10_any m hm W)
      have hSl : S.length < 100 := Nat.lt_of_lt_of_le HST.out.2 hlen
      have hm2 : m / 10 < 2 ^ 128 := Nat.lt_of_le_of_lt (Nat.div_le_self _ _) hm
      obtain ⟨d, hd⟩ : ∃ d, m % 10 = d := ⟨_, rfl⟩
      have hd9 : d < 10 := by omega
      have e2 : IntKind.u8.wrap (48 + (d : Int)) = 48 + (d : Int) := by rw [IntKind.wrap_u8]; omega
      have hcv : ∀ (W : World) (b : Nat), W.heap.size = b → (convert 61 9 (.slice (some ⟨b, 0, none⟩) 1 1)).run Tryd.prog (W.alloc (.cells #[.int .u8 (48 + (d : Int))] 5)) = .ok (.string ⟨[UInt8.ofNat (48 + d)].toArray⟩) (W.alloc (.cells #[.int .u8 (48 + (d : Int))] 5)) := fun W b hb => by
        subst hb
        rw [run_convert_bytes_arg (P := Tryd.prog) (W.alloc (.cells #[.int .u8 (48 + (d : Int))] 5)) 61 5 (by kernel_rfl) (by kernel_rfl) W.heap.size 0 1 1 [48 + (d : Int)] rfl (fun i hi => by obtain rfl : i = 0 := (by omega); simp [go_sem]) 9 (by kernel_rfl)]
        rw [strOfNums, List.map_singleton, show (48 + (d : Int)).toNat = 48 + d by omega]
      rw [hd] at HST HDV
      obtain ⟨C, hC⟩ : ∃ C : UInt8, UInt8.ofNat (48 + d) = C := ⟨_, rfl⟩
      rw [hC] at hcv HST
      have hz1 : ¬ (9223372036854775807 < 1 + S.length) := by omega
      have HM2 := Lib.hid hm2
      obtain ⟨q, hq⟩ : ∃ q, m / 10 = q := ⟨_, rfl⟩
      rw [hq] at HDV HST HM2
      have DIV : Hid True := trivial
      by_cases hp : 0 < m
      · have hb0 := lbs_pos hm hp
        rw [hb0] at heq
        clear hm hm2 hgo hD hb0 hp hd hC hq
        go_wp2_with (go_at_call 32; refine (HDV.out _).mono ?_; rintro e w2 ⟨rfl, hb2⟩; have hI2 := HI.out.grow hb2; obtain ⟨⟨g0, g1, g2, g3⟩, gz⟩ := hI2.p; have z0 := gz 0; have z1 := gz 1; have z2 := gz 2; have z3 := gz 3; have HI2 := Lib.hid hI2; clear gz hI2)
        go_roundw
        case rel => exact ⟨q, C :: S, rfl, (HI2.out.set q).grow ((Ext.refl _).alloc _), HST.out.1, HM2.out⟩
        case measure =>
          have h9 := HST.out.2
          simp [ByteArray.size]
          omega
      · have hie : S.isEmpty = true := by
          rcases hgo with h | h
          · exact absurd h hp
          · rw [h]; rfl
        have hb0 : decide (((lb m 0 : Nat) : Int) = 0 ∧ ((lb m 1 : Nat) : Int) = 0 ∧ ((lb m 2 : Nat) : Int) = 0 ∧ ((lb m 3 : Nat) : Int) = 0) = true := by
          obtain rfl : m = 0 := by omega
          simp [lb_zero]
        rw [hb0] at heq
        clear hm hm2 hgo hD hb0 hp hd hC hq
        go_wp2_with (go_at_call 32; refine (HDV.out _).mono ?_; rintro e w2 ⟨rfl, hb2⟩; have hI2 := HI.out.grow hb2; obtain ⟨⟨g0, g1, g2, g3⟩, gz⟩ := hI2.p; have z0 := gz 0; have z1 := gz 1; have z2 := gz 2; have z3 := gz 3; have HI2 := Lib.hid hI2; clear gz hI2)
        go_roundw
        case rel => exact ⟨q, C :: S, rfl, (HI2.out.set q).grow ((Ext.refl _).alloc _), HST.out.1, HM2.out⟩
        case measure =>
          have h9 := HST.out.2
          simp [ByteArray.size]
          omega
    · have hm0 : m = 0 := by omega
      have hie : S.isEmpty = false := by
        cases S with
        | nil => exact absurd (Or.inr rfl) hgo
        | cons x t => rfl
      have HS : Hid (S = Lib.decDigits M) := by
        rcases hD with ⟨h1, _⟩ | ⟨_, ⟨_, h⟩ | ⟨h, _⟩⟩
        · exact absurd (Or.inr h1) hgo
        · exact h
        · omega
      have hb0 : decide (((lb m 0 : Nat) : Int) = 0 ∧ ((lb m 1 : Nat) : Int) = 0 ∧ ((lb m 2 : Nat) : Int) = 0 ∧ ((lb m 3 : Nat) : Int) = 0) = true := by
        rw [hm0]
        simp [lb_zero]
      rw [hb0] at heq
      have chi2 := HI.out.ext.keep chi
      have hSl : S.length ≤ 100 := by rw [HS.out]; exact hlen
      have hz1 : ¬ (9223372036854775807 < 1 + S.length) := by omega
      have hE := hb1
      clear hm hgo hD hb0 hm0 chi
      by_cases hneg : hi < 0
      · go_wp2
        go_ret
        exact ⟨by rw [HIT.out, if_pos hneg, ← HS.out]; first | rfl | (simp [hcat]; done), (by repeat (first | exact Ext.refl _ | refine Ext.setCell ?_ (by first | exact Nat.le_refl _ | (simp; done) | (simp; omega)) _ | refine Ext.drew ?_ | refine Ext.drewN ?_ _ | refine Ext.alloc ?_ _ | refine Ext.trans ?_ HI.out.ext | refine Ext.trans ?_ hb1))⟩
      · have HN := Lib.hid hneg
        go_wp2
        go_ret
        exact ⟨by rw [HIT.out, if_neg (by have := HN.out; omega), ← HS.out]; first | rfl | (simp [hcat]; done), (by repeat (first | exact Ext.refl _ | refine Ext.setCell ?_ (by first | exact Nat.le_refl _ | (simp; done) | (simp; omega)) _ | refine Ext.drew ?_ | refine Ext.drewN ?_ _ | refine Ext.alloc ?_ _ | refine Ext.trans ?_ HI.out.ext | refine Ext.trans ?_ hb1))⟩

end Go.Proofs.YthckbfkhbegmgaaDoor

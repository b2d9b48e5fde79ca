/-
  Text of layer 37 (reference): string by string.
-/
import Derived.Test.YthccmolnfejkeaaDoorResS
import Derived.Test.YthccmolnfejkeaaDoorResA
namespace Go.Proofs.YthccmolnfejkeaaDoor
open Go.RowKit
set_option linter.unusedSimpArgs false

set_option maxHeartbeats 4000000 in
theorem rline_any (g o m Cp : Nat) (f : Nat → Int) (w : World) (hm : m ≤ 100) (hc : ∀ j, j < m → w.cell? ⟨g, o + j, none⟩ = some (.int .i64 (f j))) (hb : ∀ j, j < m → -9223372036854775807 ≤ f j ∧ f j ≤ 9223372036854775807) :
    Calls Tryd.prog 24 #[.slice (some ⟨g, o, none⟩) m Cp] w fun e w' => e = .returned (.string ⟨(lineTo f m ++ [10]).toArray⟩) ∧ Ext w w' := by
  have hcat : ∀ a b : List UInt8, (⟨a.toArray⟩ : ByteArray) ++ ⟨b.toArray⟩ = ⟨(a ++ b).toArray⟩ := rn_cat
  have HC := Lib.hid hc
  have HB := Lib.hid hb
  have HLen := Lib.hid (lineTo_len f (k := m) (fun j hj => ⟨by have := (hb j hj).1; omega, (hb j hj).2⟩))
  clear hc hb
  go_enter Tryd.func24, Tryd.ntmps24
  go_wp2
  go_loopw [3, 8] (fun s i wr => ∃ j : Nat, j ≤ m ∧ i = .int .i64 j ∧ s = .string ⟨(lineTo f j).toArray⟩ ∧ Ext w wr) (fun _ i _ => m - (intOf i).toNat)
  case atStart => exact ⟨0, by omega, rfl, rfl, Ext.refl _⟩
  case round =>
    obtain ⟨j, hj, rfl, rfl, hE⟩ := hrel
    have hQl := HLen.out j hj
    obtain ⟨Q, hQ⟩ : ∃ Q : List UInt8, lineTo f j = Q := ⟨_, rfl⟩
    rw [hQ] at hQl ⊢
    have hq : Q.length ≤ 2200 := by omega
    have HQ := Lib.hid hQ
    clear hQ hQl
    by_cases hjm : j < m
    · have cj := hE.keep (HC.out j hjm)
      have hbd := HB.out j hjm
      have hSl := Lib.itoa_length_le (f j) (by omega) (by omega)
      obtain ⟨S, hS⟩ : ∃ S : List UInt8, Lib.itoa (f j) = S := ⟨_, rfl⟩
      rw [hS] at hSl
      have HS := Lib.hid hS
      clear hS
      rcases Nat.eq_zero_or_pos j with rfl | hj0
      · have hQ0 : Q = [] := by rw [← HQ.out]; rfl
        subst hQ0
        simp only [Nat.add_zero] at cj
        go_wp2_with (go_at_call 38; refine (rnumi_any _ (by omega) (by omega) _).mono ?_; rintro e w3 ⟨rfl, hb3⟩; rw [HS.out])
        go_roundw
        case rel => exact ⟨0 + 1, by omega, by go_num, by rw [lineTo, HQ.out, HS.out]; simp [hcat], hE.trans hb3⟩
        case measure => simp [intOf]; omega
      · have hj1 : (0 : Int) < (j : Int) := by omega
        have s1 : ¬ 9223372036854775807 < Q.length + 1 := by omega
        have s2 : ¬ 9223372036854775807 < Q.length + 1 + S.length := by omega
        go_wp2_with (go_at_call 38; refine (rnumi_any _ (by omega) (by omega) _).mono ?_; rintro e w3 ⟨rfl, hb3⟩; rw [HS.out])
        go_roundw
        case rel => exact ⟨j + 1, by omega, by go_num, by rw [lineTo, HQ.out, HS.out, if_neg (by omega)]; simp [hcat], hE.trans hb3⟩
        case measure => simp [intOf]; omega
    · obtain rfl : j = m := by omega
      have s1 : ¬ 9223372036854775807 < Q.length + 1 := by omega
      go_wp2
      go_ret
      exact ⟨by rw [HQ.out]; rfl, hE⟩

def two (a b : Int) : Nat → Int := fun j => if j = 0 then a else b
theorem two_bd {a b : Int} (ha : 0 ≤ a ∧ a ≤ 100) (hb : 0 ≤ b ∧ b ≤ 100) : ∀ j, j < 2 → -9223372036854775807 ≤ two a b j ∧ two a b j ≤ 9223372036854775807 := by
  intro j _
  unfold two
  split <;> omega
theorem two_new2 (W : World) (a b : Int) (e : TypeId) : ∀ j, j < 2 → (W.alloc (.cells #[.int .i64 a, .int .i64 b] e)).cell? ⟨W.heap.size, 0 + j, none⟩ = some (.int .i64 (two a b j))
  | 0, _ => (Lib.cell_of_heap (heap_alloc_new W _) 0).trans (by rfl)
  | 1, _ => (Lib.cell_of_heap (heap_alloc_new W _) 1).trans (by rfl)
  | j + 2, h => by omega
theorem two_line (a b : Int) : lineTo (two a b) 2 ++ [10] = Lib.itoa a ++ (32 :: (Lib.itoa b ++ [10])) := by
  simp [lineTo, two]

set_option maxHeartbeats 16000000 in
theorem rtext_any (w : World) {A0 : Option Addr} {n : Nat} {A : Nat → Option Addr} {L C : Nat → Nat} {Z : Nat → Nat → Int} {b off : Nat} {G O : Nat → Nat} (c0 : Nat) (T : TabAt w A0 n A L C Z b off G O) :
    Calls Tryd.prog 8 #[.agg #[.slice A0 n c0]] w fun e w' => e = .returned (.tuple #[.string ⟨(txR n L Z).toArray⟩, .int .i64 (shapeV n L Z)]) ∧ Ext w w' := by
  have hn := T.nle
  by_cases he : shapeV n L Z = 0
  rotate_left
  · have HB := Lib.hid (txR_no he)
    obtain ⟨E, hEq⟩ : ∃ E : Int, shapeV n L Z = E := ⟨_, rfl⟩
    rw [hEq] at he
    have HE := Lib.hid hEq
    clear hEq
    go_enter Tryd.func8, Tryd.ntmps8
    go_wp2_with (first | (go_at_call 23; refine (rshape_any _ _ (T.ext (by repeat (first | exact Ext.refl _ | refine Ext.setCell ?_ (by first | exact Nat.le_refl _ | (simp; done) | (simp; omega)) _ | refine Ext.drew ?_ | refine Ext.drewN ?_ _ | refine Ext.alloc ?_ _)))).mono ?_; rintro e w1 ⟨rfl, hb1⟩; rw [HE.out]))
    go_ret2
    exact ⟨by rw [HB.out, HE.out]; rfl, (by repeat (first | exact Ext.refl _ | refine Ext.setCell ?_ (by first | exact Nat.le_refl _ | (simp; done) | (simp; omega)) _ | refine Ext.drew ?_ | refine Ext.drewN ?_ _ | refine Ext.alloc ?_ _ | refine Ext.trans ?_ hb1))⟩
  · obtain ⟨hn2, hn91, hl1, hl10, hLs, hVs⟩ := shape_zero he
    have HLs := Lib.hid hLs
    have HVs := Lib.hid hVs
    have HE := Lib.hid he
    have HB := Lib.hid (txR_yes he)
    have ho := ovV_pos (n := n) (by omega)
    have hk := wkV_pos (n := n) (L := L) (by omega)
    obtain ⟨OV, hO⟩ : ∃ o : Int, ovV n = o := ⟨_, rfl⟩
    obtain ⟨KV, hK⟩ : ∃ o : Int, wkV n L = o := ⟨_, rfl⟩
    rw [hO] at ho HB
    rw [hK] at hk HB
    have HO := Lib.hid hO
    have HK := Lib.hid hK
    have ho1 : 0 ≤ OV ∧ OV ≤ 100 := by omega
    have hk1 : 0 ≤ KV ∧ KV ≤ 100 := by omega
    have HHL := Lib.hid (hdr_len ho1 hk1)
    obtain ⟨Hd, hH⟩ : ∃ l : List UInt8, hdrT OV KV = l := ⟨_, rfl⟩
    obtain ⟨L2, hL2⟩ : ∃ l : List UInt8, lineTo (two OV KV) 2 ++ [10] = l := ⟨_, rfl⟩
    have HH : Hid ([82, 69, 83, 79, 85, 82, 67, 69, 32] ++ L2 = Hd) := by rw [Hid, ← hL2, two_line, ← hH]; rfl
    rw [hH] at HB HHL
    have HL2 := Lib.hid hL2
    have hl2 : L2.length ≤ 60 := by
      have h1 := HHL.out
      rw [← HH.out] at h1
      simp at h1; omega
    have hcat : ∀ a b : List UInt8, (⟨a.toArray⟩ : ByteArray) ++ ⟨b.toArray⟩ = ⟨(a ++ b).toArray⟩ := rn_cat
    obtain ⟨rfl, hbl⟩ := T.top (by omega)
    have s1 : ¬ 9223372036854775807 < 9 + L2.length := by omega
    clear he hO hK hH hL2 hLs hVs ho hk
    go_enter Tryd.func8, Tryd.ntmps8
    go_wp2_with (first | (go_at_call 23; refine (rshape_any _ _ (T.ext (by repeat (first | exact Ext.refl _ | refine Ext.setCell ?_ (by first | exact Nat.le_refl _ | (simp; done) | (simp; omega)) _ | refine Ext.drew ?_ | refine Ext.drewN ?_ _ | refine Ext.alloc ?_ _)))).mono ?_; rintro e w1 ⟨rfl, hb1⟩; rw [HE.out]; have q1 : w1.cell? ⟨w.heap.size, 0, none⟩ = some (.slice (some ⟨b, off, none⟩) n c0) := hb1.keep (by simp [go_sem]); have l1 : w.heap.size < w1.heap.size := hb1.lt (by simp)))
    go_region_held3 (fun w' => w'.cell? ⟨w.heap.size, 0, none⟩ = some (.slice (some ⟨b, off, none⟩) n c0)) (simp [go_sem, *]) ((first | ((fail_if_success (have hzz := hb2)); go_at_call 25; refine (rovers_any _ _ _ _ hn).mono ?_; rintro e w2 ⟨rfl, hb2⟩; rw [HO.out]; have q2 : w2.cell? ⟨w.heap.size, 0, none⟩ = some (.slice (some ⟨b, off, none⟩) n c0) := hb2.keep (by first | assumption | (simp [go_sem, *]; done)); have l2 : w.heap.size < w2.heap.size := hb2.lt (by first | assumption | (simp; done) | (simp; omega)); have m2 : w.heap.size ≤ w2.heap.size := Nat.le_of_lt l2) | ((fail_if_success (have hzz := hb3)); go_at_call 26; refine (rwkts_any _ _ (T.ext (by repeat (first | exact Ext.refl _ | refine Ext.setCell ?_ (by first | exact Nat.le_refl _ | (simp; done) | (simp; omega)) _ | refine Ext.drew ?_ | refine Ext.drewN ?_ _ | refine Ext.alloc ?_ _ | refine Ext.trans ?_ hb2 | refine Ext.trans ?_ hb1)))).mono ?_; rintro e w3 ⟨rfl, hb3⟩; rw [HK.out]; have q3 : w3.cell? ⟨w.heap.size, 0, none⟩ = some (.slice (some ⟨b, off, none⟩) n c0) := hb3.keep (by first | assumption | (simp [go_sem, *]; done)); have l3 : w.heap.size < w3.heap.size := hb3.lt (by first | assumption | (simp; done) | (simp; omega)); have m3 : w.heap.size ≤ w3.heap.size := Nat.le_of_lt l3) | ((fail_if_success (have hzz := hb4)); go_at_call 24; refine (rline_any _ 0 2 _ (two OV KV) _ (by omega) (two_new2 _ _ _ _) (two_bd ho1 hk1)).mono ?_; rintro e w4 ⟨rfl, hb4⟩; rw [HL2.out]; have q4 : w4.cell? ⟨w.heap.size, 0, none⟩ = some (.slice (some ⟨b, off, none⟩) n c0) := ((Ext.refl w3).alloc _ |>.trans hb4).keep q3)))
    go_wp2
    go_loopw [5, 23] (fun s i wr => ∃ k : Nat, k ≤ n ∧ i = .int .i64 k ∧ s = .string ⟨(Hd ++ tabTo L Z k).toArray⟩ ∧ Ext w wr) (fun _ i _ => n - (intOf i).toNat)
    case atStart =>
      refine ⟨0, by omega, rfl, ?_, (by repeat (first | exact Ext.refl _ | refine Ext.setCell ?_ (by first | exact Nat.le_refl _ | (simp; done) | (simp; omega)) _ | refine Ext.drew ?_ | refine Ext.drewN ?_ _ | refine Ext.alloc ?_ _ | refine Ext.trans ?_ hb4 | refine Ext.trans ?_ hb3 | refine Ext.trans ?_ hb2 | refine Ext.trans ?_ hb1))⟩
      rw [tabTo, List.append_nil, ← HH.out]
      rfl
    case round =>
      obtain ⟨k, hk, rfl, rfl, hE⟩ := hrel
      have hP : (tabTo L Z k).length ≤ 30000 := by
        have := tabTo_len L Z (n := n) (fun i hi => by have := HLs.out i hi; omega) (fun i j hi hj => T.wf i j hi hj) k hk
        omega
      have hH60 := HHL.out
      by_cases hlt : k < n
      · have T2 := T.ext hE
        have hLk := HLs.out k hlt
        obtain ⟨hAk, hGk⟩ := T2.got k hlt (by omega)
        have hr := T2.row k hlt
        rw [hAk] at hr
        have hlk := T.lle k hlt
        have HC : Hid (∀ j, j < L k → wr.cell? ⟨G k, O k + j, none⟩ = some (.int .i64 (Z k j))) := fun j hj => T2.cell k j hlt hj
        have HV2 : Hid (∀ j, j < L k → -9223372036854775807 ≤ Z k j ∧ Z k j ≤ 9223372036854775807) := fun j hj => by have := HVs.out k hlt j hj; omega
        have hLl := lineTo_len (Z k) (k := L k) (fun j hj => T.wf k j hlt hj) (L k) (Nat.le_refl _)
        obtain ⟨Ln, hLn⟩ : ∃ l : List UInt8, lineTo (Z k) (L k) ++ [10] = l := ⟨_, rfl⟩
        have hLn1 : Ln.length ≤ 300 := by rw [← hLn]; simp; omega
        have HLn := Lib.hid hLn
        obtain ⟨P, hPq⟩ : ∃ l : List UInt8, tabTo L Z k = l := ⟨_, rfl⟩
        rw [hPq] at hP ⊢
        have HPq := Lib.hid hPq
        have s2 : ¬ 9223372036854775807 < Hd.length + P.length + Ln.length := by omega
        have HL100 : Hid (L k ≤ 100) := by rw [Hid]; omega
        have hcall := Lib.hid (rline_any (G k) (O k) (L k) (C k) (Z k) wr HL100.out HC.out HV2.out)
        clear T2 hAk hLn hPq hLl hLk
        go_wp2_with (go_at_call 24; refine hcall.out.mono ?_; rintro e w5 ⟨rfl, hb5⟩; rw [HLn.out])
        go_roundw
        case rel => exact ⟨k + 1, by omega, by go_num, by rw [tabTo, HLn.out, HPq.out]; first | done | simp only [List.append_assoc, hcat], hE.trans hb5⟩
        case measure => simp [intOf]; omega
      · obtain rfl : k = n := by omega
        go_wp2
        go_ret2
        exact ⟨by rw [HB.out, HE.out]; rfl, hE⟩

end Go.Proofs.YthccmolnfejkeaaDoor

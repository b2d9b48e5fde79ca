/-
  Text of the reference's room of layer 36.
-/
import Derived.Test.YtppoejhfemolfaaDoorRevL
namespace Go.Proofs.YtppoejhfemolfaaDoor
open Go.RowKit
set_option linter.unusedSimpArgs false

/-- Words 0 to j with blanks between, none for no word. -/
def wdTo (g : Nat → List UInt8) : Nat → List UInt8
  | 0 => []
  | j + 1 => wdTo g j ++ ((if j = 0 then [] else [32]) ++ g j)
theorem wdTo_jn (g : Nat → List UInt8) : ∀ j, wdTo g (j + 1) = jnTo g j
  | 0 => by simp [wdTo, jnTo]
  | j + 1 => by rw [wdTo, wdTo_jn g j, jnTo]; simp
theorem wdTo_len (g : Nat → List UInt8) (M : Nat) : ∀ j, (∀ i, i < j → (g i).length ≤ M) → (wdTo g j).length ≤ j * (M + 1)
  | 0, _ => by simp [wdTo]
  | j + 1, h => by
    have h1 := wdTo_len g M j (fun i hi => h i (by omega))
    have h2 := h j (by omega)
    have h3 : (if j = 0 then ([] : List UInt8) else [32]).length ≤ 1 := by split <;> simp
    simp only [wdTo, List.length_append]
    have : (j + 1) * (M + 1) = j * (M + 1) + (M + 1) := by rw [Nat.add_mul]; omega
    omega
theorem txV_bd2 {R : Rm} (hB : R.small) {n : Int} (hn : n = 1 ∨ n = 2) (j : Nat) : -9223372036854775807 ≤ txV R n j ∧ txV R n j ≤ 9223372036854775807 := by
  obtain ⟨b1, b2, b3, b4, b5, b6, b7, b8, b9⟩ := hB
  rcases hn with rfl | rfl
  all_goals
    unfold txV lfN asN wnN lsN opN sideB
    rcases b9 with h | h | h <;> rw [h] <;> split <;> simp <;> omega

set_option maxHeartbeats 16000000 in
theorem rtext_any (R : Rm) (w : World) (hB : R.small) : Calls Tryd.prog 28 #[.agg #[.int .i64 R.m, .int .i64 R.l0, .int .i64 R.l1, .int .i64 R.w0, .int .i64 R.w1, .int .i64 R.x0, .int .i64 R.x1, .int .i64 R.o0, .int .i64 R.o1, .int .i64 R.a, .int .u8 R.c]] w fun e w' => e = .returned (.string ⟨(txTo R 2).toArray⟩) ∧ Ext w w' := by
  have HB := Lib.hid hB
  have hcat : ∀ a b : List UInt8, (⟨a.toArray⟩ : ByteArray) ++ ⟨b.toArray⟩ = ⟨(a ++ b).toArray⟩ := rn_cat
  clear hB
  go_enter Tryd.func28, Tryd.ntmps28
  go_wp2
  go_loopw [3, 4] (fun s i wr => ∃ k : Nat, k ≤ 2 ∧ i = .int .i64 ((k : Int) + 1) ∧ s = .string ⟨(txTo R k).toArray⟩ ∧ wr.heap[w.heap.size]? = some (.cells (rcC R) 31 (0, 0)) ∧ Ext w wr) (fun _ i _ => 3 - (intOf i).toNat)
  case atStart => exact ⟨0, by omega, rfl, rfl, heap_alloc_new w _, (by repeat (first | exact Ext.refl _ | refine Ext.setCell ?_ (by first | exact Nat.le_refl _ | (simp; done) | (simp; omega)) _ | refine Ext.drew ?_ | refine Ext.drewN ?_ _ | refine Ext.alloc ?_ _))⟩
  case round =>
    obtain ⟨k, hk, rfl, rfl, hbox, hE⟩ := hrel
    by_cases hlt : k < 2
    · obtain ⟨n, hn⟩ : ∃ n : Int, (k : Int) + 1 = n := ⟨_, rfl⟩
      have hn12 : n = 1 ∨ n = 2 := by omega
      have HN := Lib.hid hn
      have hn2 : n ≤ 2 := by omega
      have hn0 : 1 ≤ n := by omega
      rw [hn]
      have hl1 := txTo_len HB.out k (by omega)
      obtain ⟨P, hP⟩ : ∃ P : List UInt8, txTo R k = P := ⟨_, rfl⟩
      rw [hP] at hl1 ⊢
      have HP := Lib.hid hP
      have hl1' : P.length ≤ 2000 := by omega
      clear hn hP hl1
      have HBX := Lib.hid hbox
      have c0 : wr.cell? ⟨w.heap.size, 0, none⟩ = some (.int .i64 R.m) := Lib.cell_of_heap hbox 0
      have c1 : wr.cell? ⟨w.heap.size, 1, none⟩ = some (.int .i64 R.l0) := Lib.cell_of_heap hbox 1
      have c2 : wr.cell? ⟨w.heap.size, 2, none⟩ = some (.int .i64 R.l1) := Lib.cell_of_heap hbox 2
      have c3 : wr.cell? ⟨w.heap.size, 3, none⟩ = some (.int .i64 R.w0) := Lib.cell_of_heap hbox 3
      have c4 : wr.cell? ⟨w.heap.size, 4, none⟩ = some (.int .i64 R.w1) := Lib.cell_of_heap hbox 4
      have c5 : wr.cell? ⟨w.heap.size, 5, none⟩ = some (.int .i64 R.x0) := Lib.cell_of_heap hbox 5
      have c6 : wr.cell? ⟨w.heap.size, 6, none⟩ = some (.int .i64 R.x1) := Lib.cell_of_heap hbox 6
      have c7 : wr.cell? ⟨w.heap.size, 7, none⟩ = some (.int .i64 R.o0) := Lib.cell_of_heap hbox 7
      have c8 : wr.cell? ⟨w.heap.size, 8, none⟩ = some (.int .i64 R.o1) := Lib.cell_of_heap hbox 8
      have c9 : wr.cell? ⟨w.heap.size, 9, none⟩ = some (.int .i64 R.a) := Lib.cell_of_heap hbox 9
      have c10 : wr.cell? ⟨w.heap.size, 10, none⟩ = some (.int .u8 R.c) := Lib.cell_of_heap hbox 10
      clear hbox
      go_wp2_with (first | ((fail_if_success (have hzz := hb1)); go_at_call 26; refine (rcount_any R n _ HB.out).mono ?_; rintro e w1 ⟨rfl, hb1⟩; dsimp only [cntV]; have d0 := hb1.keep c0; have d1 := hb1.keep c1; have d2 := hb1.keep c2; have d3 := hb1.keep c3; have d4 := hb1.keep c4; have d5 := hb1.keep c5; have d6 := hb1.keep c6; have d7 := hb1.keep c7; have d8 := hb1.keep c8; have d9 := hb1.keep c9; have d10 := hb1.keep c10) | ((fail_if_success (have hzz := hb2)); go_at_call 27; refine (rleft_any R n _).mono ?_; rintro e w2 ⟨rfl, hb2⟩))
      go_loopw [3, 33] (fun s i wi => ∃ j : Nat, j ≤ 6 ∧ i = .int .i64 j ∧ s = .string ⟨(P ++ wdTo (fun q => Lib.itoa (txV R n q)) j).toArray⟩ ∧ wi.heap[w2.heap.size]? = some (.cells (txVC R n) 3 (0, 0)) ∧ Ext w2 wi) (fun _ i _ => 6 - (intOf i).toNat)
      case atStart => exact ⟨0, by omega, rfl, by simp [wdTo], heap_alloc_new w2 _, (by repeat (first | exact Ext.refl _ | refine Ext.setCell ?_ (by first | exact Nat.le_refl _ | (simp; done) | (simp; omega)) _ | refine Ext.drew ?_ | refine Ext.drewN ?_ _ | refine Ext.alloc ?_ _))⟩
      case round =>
        obtain ⟨j, hj6, rfl, rfl, hrow, hE2⟩ := hrel
        have HW : Hid ((wdTo (fun q => Lib.itoa (txV R n q)) j).length ≤ 1000) := by
          have := wdTo_len (fun q => Lib.itoa (txV R n q)) 100 j (fun i _ => txG_len HB.out hn12 i)
          have h2 : j * (100 + 1) ≤ 6 * 101 := Nat.mul_le_mul_right _ hj6
          exact Nat.le_trans this (by omega)
        obtain ⟨Q, hQ⟩ : ∃ Q : List UInt8, wdTo (fun q => Lib.itoa (txV R n q)) j = Q := ⟨_, rfl⟩
        have hQl : Q.length ≤ 1000 := by rw [← hQ]; exact HW.out
        rw [hQ]
        have HQ := Lib.hid hQ
        clear hQ
        have hE3 : Ext w wr := ((hE.trans hb1).trans hb2).trans hE2
        by_cases hj : j < 6
        · have cj : wr.cell? ⟨w2.heap.size, j, none⟩ = some (.int .i64 (txV R n j)) := (Lib.cell_of_heap hrow j).trans (txV_at R n j hj)
          have hbd := txV_bd2 HB.out hn12 j
          obtain ⟨S, hS⟩ : ∃ S : List UInt8, Lib.itoa (txV R n j) = S := ⟨_, rfl⟩
          have hSl : S.length ≤ 100 := by rw [← hS]; exact txG_len HB.out hn12 j
          have HS := Lib.hid hS
          have HROW := Lib.hid hrow
          clear hrow hS
          rcases Nat.eq_zero_or_pos j with rfl | hj0
          · have hQ0 : Q = [] := by rw [← HQ.out]; rfl
            subst hQ0
            go_wp2_with (go_at_call 31; refine (rnumi_any _ hbd.1 hbd.2 _).mono ?_; rintro e w3 ⟨rfl, hb3⟩; rw [HS.out])
            go_roundw
            case rel => exact ⟨0 + 1, by omega, by go_num, by rw [wdTo, HQ.out, HS.out]; simp [hcat], (hb3.block _ (Array.getElem?_eq_some_iff.1 HROW.out).1).trans HROW.out, hE2.trans hb3⟩
            case measure => simp [intOf]
          · have hj1 : (0 : Int) < (j : Int) := by omega
            go_wp2_with (go_at_call 31; refine (rnumi_any _ hbd.1 hbd.2 _).mono ?_; rintro e w3 ⟨rfl, hb3⟩; rw [HS.out])
            go_roundw
            case rel => exact ⟨j + 1, by omega, by go_num, by rw [wdTo, HQ.out, HS.out, if_neg (by omega)]; simp [hcat], (hb3.block _ (Array.getElem?_eq_some_iff.1 HROW.out).1).trans HROW.out, hE2.trans hb3⟩
            case measure => simp [intOf]; omega
        · obtain rfl : j = 6 := by omega
          clear hrow
          have HQ5 : Hid (jnTo (fun q => Lib.itoa (txV R n q)) 5 = Q) := (wdTo_jn _ 5).symm.trans HQ.out
          go_wp2
          go_roundw
          case rel => exact ⟨k + 1, by omega, by (first | (rw [← HN.out]; go_num) | (simp [← HN.out])), by rw [txTo, HP.out, HN.out, txLn, HQ5.out], (((hb1.trans hb2).trans hE2).block _ (Array.getElem?_eq_some_iff.1 HBX.out).1).trans HBX.out, hE3⟩
          case measure => rw [← HN.out]; simp [intOf]; omega
    · obtain rfl : k = 2 := by omega
      go_wp2
      go_ret
      exact ⟨rfl, hE⟩

end Go.Proofs.YtppoejhfemolfaaDoor

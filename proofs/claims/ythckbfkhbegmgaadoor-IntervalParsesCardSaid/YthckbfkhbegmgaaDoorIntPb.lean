/-
  Parse of the reference of layer 29 at any string; the law IntervalParses, walked.
-/
import Derived.Test.YthckbfkhbegmgaaDoorIntU
import Derived.Test.YthckbfkhbegmgaaDoorIntPa
namespace Go.Proofs.YthckbfkhbegmgaaDoor
open Go.RowKit
set_option linter.unusedSimpArgs false

def dd2 (L : List UInt8) (j : Nat) : Bool := Lib.occAt L [46, 46] j
theorem dd2_eq {L : List UInt8} {j : Nat} (h : j + 1 < L.length) : dd2 L j = (L.getD j 0 == 46 && L.getD (j + 1) 0 == 46) := by
  have e : L.drop j = L[j] :: L[j + 1] :: L.drop (j + 2) := by
    rw [List.drop_eq_getElem_cons (by omega), List.drop_eq_getElem_cons h]
  unfold dd2 Lib.occAt
  rw [e]
  simp only [List.isPrefixOf, Bool.and_true]
  simp [List.getD, h, show j < L.length by omega, BEq.comm (a := (46 : UInt8))]
theorem dd2_end {L : List UInt8} {j : Nat} (h : L.length ≤ j + 1) : dd2 L j = false := by
  unfold dd2 Lib.occAt
  rcases hd : L.drop j with _ | ⟨a, t⟩
  · rfl
  · have hl : (L.drop j).length ≤ 1 := by simp; omega
    rw [hd] at hl
    have : t = [] := by
      cases t with
      | nil => rfl
      | cons b u => simp at hl
    subst this
    simp [List.isPrefixOf]
theorem dd_cut {L : List UInt8} {k : Nat} (h : ∀ j, j < k → dd2 L j = false) (hk : dd2 L k = true) : cutA L = L.take k ∧ cutB L = L.drop (k + 2) ∧ L = L.take k ++ 46 :: 46 :: L.drop (k + 2) := by
  have hlt : k + 1 < L.length := by
    rcases Nat.lt_or_ge (k + 1) L.length with g | g
    · exact g
    · rw [dd2_end g] at hk; cases hk
  have hi : Lib.index L [46, 46] = (k : Int) := Lib.index_first (by first | omega | (simp; omega)) hk (fun j hj => h j hj)
  have hc : Lib.cut L [46, 46] = (L.take k, L.drop (k + 2), true) := by
    unfold Lib.cut
    rw [hi, if_pos (by omega)]
    simp
  rw [dd2_eq hlt] at hk
  simp only [Bool.and_eq_true, beq_iff_eq] at hk
  refine ⟨by unfold cutA; rw [hc], by unfold cutB; rw [hc], ?_⟩
  have h1 := List.take_append_drop k L
  rw [List.drop_eq_getElem_cons (by omega), List.drop_eq_getElem_cons hlt] at h1
  have e1 : L[k] = 46 := by have := hk.1; simpa [List.getD, show k < L.length by omega] using this
  have e2 : L[k + 1] = 46 := by have := hk.2; simpa [List.getD, hlt] using this
  rw [e1, e2] at h1
  exact h1.symm
theorem dd_none {L : List UInt8} (h : ∀ j, dd2 L j = false) : ipA L = 0 ∧ ipB L = 0 ∧ ipE L = 4 := by
  have hi : Lib.index L [46, 46] = -1 := Lib.index_none (fun j _ => h j)
  have hc : Lib.cut L [46, 46] = (L, [], false) := by
    unfold Lib.cut
    rw [hi, if_neg (by decide)]
  have hb : cutB L = [] := by unfold cutB; rw [hc]
  have hk : ipOk L = false := by
    have : numOk ([] : List UInt8) = false := by decide +kernel
    simp only [ipOk, hb, this, Bool.and_false, Bool.false_and]
  unfold ipA ipB ipE
  rw [hk]
  exact ⟨rfl, rfl, rfl⟩
theorem ip_no {L : List UInt8} (h : ipOk L = false) : ipA L = 0 ∧ ipB L = 0 ∧ ipE L = 4 := by
  unfold ipA ipB ipE
  rw [h]
  exact ⟨rfl, rfl, rfl⟩
theorem ip_parts {L : List UInt8} (h : ipOk L = true) : ∃ x y, vR x y = true ∧ ixL x y = L ∧ cutA L = Lib.itoa x ∧ cutB L = Lib.itoa y := by
  simp only [ipOk, Bool.and_eq_true, decide_eq_true_eq] at h
  obtain ⟨⟨⟨h1, h2⟩, h3⟩, h4⟩ := h
  obtain ⟨c1, c2⟩ := ix_cut h3
  rw [h4] at c1 c2
  exact ⟨_, _, h3, h4, c1, c2⟩
theorem ip_mk {x y : Int} {L : List UInt8} (h : vR x y = true) (e : L = Lib.itoa x ++ 46 :: 46 :: Lib.itoa y) : ipOk L = true := by
  have e2 : ixL x y = L := by rw [e]; simp [ixL, h]
  obtain ⟨p1, p2, p3⟩ := vR_parts h
  obtain ⟨c1, c2⟩ := ix_cut h
  obtain ⟨n1, n2⟩ := num_itoa (n := x) (by omega) (by omega)
  obtain ⟨m1, m2⟩ := num_itoa (n := y) (by omega) (by omega)
  rw [e2] at c1 c2
  simp only [ipOk, c1, c2, n1, n2, m1, m2, h, e2, Bool.and_self, decide_true]
theorem nml_of {x y : Int} (h : vR x y = true) : Nml (Lib.itoa x) x ∧ Nml (Lib.itoa y) y := by
  obtain ⟨p1, p2, p3⟩ := vR_parts h
  exact ⟨⟨rfl, by omega, by omega⟩, ⟨rfl, by omega, by omega⟩⟩
theorem itoa_inj' {x y : Int} (h : Lib.itoa x = Lib.itoa y) : x = y := by
  unfold Lib.itoa at h
  have hd : ∀ u : Nat, Lib.decDigits u = [] → False := fun u hu => by
    have := Lib.nDigits_pos u
    rw [← Lib.decDigits_length, hu] at this
    exact absurd this (by simp)
  have h45 : ∀ u : Nat, ∀ t, Lib.decDigits u = 45 :: t → False := fun u t hu => by
    have := dd_dg u 45 (by rw [hu]; simp)
    exact absurd this (by decide)
  by_cases h1 : x < 0 <;> by_cases h2 : y < 0
  · rw [if_pos h1, if_pos h2] at h
    have := congrArg dval (List.cons.inj h).2
    rw [dval_dd, dval_dd] at this
    omega
  · rw [if_pos h1, if_neg h2] at h
    exact (h45 _ _ h.symm).elim
  · rw [if_neg h1, if_pos h2] at h
    exact (h45 _ _ h).elim
  · rw [if_neg h1, if_neg h2] at h
    have := congrArg dval h
    rw [dval_dd, dval_dd] at this
    omega
/-- Exact at a numeral. -/
theorem r2parse_num {A : List UInt8} {x : Int} (hx : Nml (Lib.itoa x) x) (hA : A = Lib.itoa x) (hl : A.length ≤ 1000000) (w : World) :
    Calls Tryd.prog 20 #[.string ⟨A.toArray⟩] w fun e w' => e = .returned (.tuple #[.agg #[.int .i64 (whi x), .int .u64 (wlo x)], .int .i64 0]) ∧ Ext w w' := by
  subst hA
  refine (r2parse_any _ hl w).mono ?_
  rintro e w' ⟨v, c, rfl, hb, hc, hn, hw⟩
  have h0 := hn x hx
  rcases hc with ⟨_, h1⟩ | ⟨h1, _⟩
  · rw [itoa_inj' h1, h0]
    exact ⟨rfl, hw⟩
  · omega
/-- What is known at any string, in a form that a walk takes. -/
def QPost (A : List UInt8) (w : World) (e : Ending) (w' : World) : Prop :=
  (∃ v : Int, e = .returned (.tuple #[.agg #[.int .i64 (whi v), .int .u64 (wlo v)], .int .i64 0]) ∧ Lib.itoa v = A ∧ Ext w w') ∨ (∃ v : Int, e = .returned (.tuple #[.agg #[.int .i64 (whi v), .int .u64 (wlo v)], .int .i64 4]) ∧ Ext w w')
theorem r2parse_q (A : List UInt8) (hl : A.length ≤ 1000000) (w : World) : Calls Tryd.prog 20 #[.string ⟨A.toArray⟩] w (QPost A w) := by
  refine (r2parse_any _ hl w).mono ?_
  rintro e w' ⟨v, c, rfl, hb, hc, hn, hw⟩
  rcases hc with ⟨rfl, h1⟩ | ⟨rfl, rfl⟩
  · exact Or.inl ⟨v, rfl, h1, hw⟩
  · exact Or.inr ⟨0, rfl, hw⟩

set_option maxRecDepth 20000 in
set_option maxHeartbeats 16000000 in
theorem riparse_any (L : List UInt8) (hL : L.length ≤ 1000000) (w : World) :
    Calls Tryd.prog 9 #[.string ⟨L.toArray⟩] w fun e w' => e = .returned (.tuple #[.agg #[.int .i64 (ipA L), .int .i64 (ipB L)], .int .i64 (ipE L)]) ∧ Ext w w' := by
  go_enter Tryd.func9, Tryd.ntmps9
  go_wp2
  go_loop [4] (fun i => ∃ k : Nat, k ≤ L.length ∧ i = .int .i64 k ∧ ∀ j, j < k → dd2 L j = false) (fun i => L.length - (intOf i).toNat)
  case atStart => exact ⟨0, by omega, rfl, fun j hj => by omega⟩
  case round =>
    obtain ⟨k, hk, rfl, hn⟩ := hrel
    have HN := Lib.hid hn
    clear hn
    by_cases hlt : k + 1 < L.length
    · have e1 : ((k : Int) + 1).toNat = k + 1 := by omega
      have e2 : ((k : Int) + 2).toNat = k + 2 := by omega
      have e3 : IntKind.i64.wrap ((k : Int) + 1) = (k : Int) + 1 := IntWalk.i64_in _ (by omega)
      have e4 : IntKind.i64.wrap ((k : Int) + 2) = (k : Int) + 2 := IntWalk.i64_in _ (by omega)
      have hx : ∀ h, (⟨L.toArray⟩ : ByteArray)[k]'h = L.getD k 0 := byte_at L k (by omega)
      have hx1 : ∀ h, (⟨L.toArray⟩ : ByteArray)[k + 1]'h = L.getD (k + 1) 0 := byte_at L (k + 1) hlt
      have HQ := Lib.hid (dd2_eq hlt)
      have HS : Hid (dd2 L k = false → ∀ j, j < k + 1 → dd2 L j = false) := fun h0 j hj => by
        rcases Nat.lt_or_ge j k with h | h
        · exact HN.out j h
        · have : j = k := by omega
          subst this; exact h0
      obtain ⟨b, hb⟩ : ∃ b : UInt8, L.getD k 0 = b := ⟨_, rfl⟩
      obtain ⟨c, hc⟩ : ∃ c : UInt8, L.getD (k + 1) 0 = c := ⟨_, rfl⟩
      rw [hb] at hx HQ
      rw [hc] at hx1 HQ
      clear hb hc
      by_cases hb : b = 46
      · by_cases hc : c = 46
        · subst hb hc
          obtain ⟨c1, c2, c3⟩ := dd_cut HN.out (show dd2 L k = true from HQ.out)
          have x1 := ext_take L k
          have x2 := ext_drop L (k + 2)
          have hl1 : (L.take k).length ≤ 1000000 := by simp; omega
          have hl2 : (L.drop (k + 2)).length ≤ 1000000 := by simp; omega
          rw [← c1] at x1 hl1
          rw [← c2] at x2 hl2
          rw [← c1, ← c2] at c3
          clear c1 c2
          obtain ⟨A, hA⟩ : ∃ A, cutA L = A := ⟨_, rfl⟩
          obtain ⟨B, hB⟩ : ∃ B, cutB L = B := ⟨_, rfl⟩
          rw [hA] at x1 hl1 c3
          rw [hB] at x2 hl2 c3
          rcases and1 (ipOk L) with hok | hok
          rotate_left
          · obtain ⟨x, y, v1, v2, v3, v4⟩ := ip_parts hok
            have HA1 : Hid (A = Lib.itoa x) := hA.symm.trans v3
            have HA2 : Hid (B = Lib.itoa y) := hB.symm.trans v4
            have HX1 := Lib.hid (nml_of v1).1
            have HX2 := Lib.hid (nml_of v1).2
            have HVR := Lib.hid v1
            obtain ⟨p1, p2, p3⟩ := vR_parts v1
            have hf1 : fits64 x = true := by simp only [fits64, decide_eq_true_eq]; omega
            have hf2 : fits64 y = true := by simp only [fits64, decide_eq_true_eq]; omega
            have HF1 : Hid (fitV x = x ∧ fits64 x = true) := ⟨by simp [fitV, hf1], hf1⟩
            have HF2 : Hid (fitV y = y ∧ fits64 y = true) := ⟨by simp [fitV, hf2], hf2⟩
            have hip := ip_ix v1
            rw [v2] at hip
            have HIP := Lib.hid hip
            clear hok v1 v2 v3 v4 hip hf1 hf2 c3 hA hB
            go_wp2_with (first | ((fail_if_success (have hzz := hb1)); go_at_call 20; refine (r2parse_num HX1.out HA1.out (by omega) _).mono ?_; rintro e w1 ⟨rfl, hb1⟩; obtain ⟨hc1, hf1⟩ := hb1.cells; (have q1_0_0 : w1.cell? ⟨w.heap.size, 0, none⟩ = some (.int .i64 0) := hb1.keep (by first | assumption | (simp [go_sem, *]; done))); (have q1_0_1 : w1.cell? ⟨w.heap.size, 1, none⟩ = some (.int .i64 0) := hb1.keep (by first | assumption | (simp [go_sem, *]; done))); (have z1_0 : w1.frozen? ⟨w.heap.size, 0, none⟩ = false := (hf1 _ _ (by first | (simp; done) | (simp; omega) | (simp [go_sem]; done) | (simp [go_sem]; omega) | omega)).trans (by first | assumption | (simp [go_sem, *]; done))); (have z1_1 : w1.frozen? ⟨w.heap.size, 1, none⟩ = false := (hf1 _ _ (by first | (simp; done) | (simp; omega) | (simp [go_sem]; done) | (simp [go_sem]; omega) | omega)).trans (by first | assumption | (simp [go_sem, *]; done))); (try (have l1_0 : w.heap.size < w1.heap.size := hb1.lt (by first | (simp; done) | (simp; omega) | (simp [go_sem]; done) | (simp [go_sem]; omega) | omega))); clear hc1 hf1) | ((fail_if_success (have hzz := hb2)); go_at_call 20; refine (r2parse_num HX2.out HA2.out (by omega) _).mono ?_; rintro e w2 ⟨rfl, hb2⟩; obtain ⟨hc2, hf2⟩ := hb2.cells; (have q2_0_0 : w2.cell? ⟨w.heap.size, 0, none⟩ = some (.int .i64 0) := hb2.keep (by first | assumption | (simp [go_sem, *]; done))); (have q2_0_1 : w2.cell? ⟨w.heap.size, 1, none⟩ = some (.int .i64 0) := hb2.keep (by first | assumption | (simp [go_sem, *]; done))); (have q2_1_0 : w2.cell? ⟨w1.heap.size, 0, none⟩ = some (.int .i64 (whi x)) := hb2.keep (by first | assumption | (simp [go_sem, *]; done))); (have q2_1_1 : w2.cell? ⟨w1.heap.size, 1, none⟩ = some (.int .u64 (wlo x)) := hb2.keep (by first | assumption | (simp [go_sem, *]; done))); (have z2_0 : w2.frozen? ⟨w.heap.size, 0, none⟩ = false := (hf2 _ _ (by first | (simp; done) | (simp; omega) | (simp [go_sem]; done) | (simp [go_sem]; omega) | omega)).trans (by first | assumption | (simp [go_sem, *]; done))); (have z2_1 : w2.frozen? ⟨w.heap.size, 1, none⟩ = false := (hf2 _ _ (by first | (simp; done) | (simp; omega) | (simp [go_sem]; done) | (simp [go_sem]; omega) | omega)).trans (by first | assumption | (simp [go_sem, *]; done))); (try (have l2_0 : w.heap.size < w2.heap.size := hb2.lt (by first | (simp; done) | (simp; omega) | (simp [go_sem]; done) | (simp [go_sem]; omega) | omega))); (try (have l2_1 : w1.heap.size < w2.heap.size := hb2.lt (by first | (simp; done) | (simp; omega) | (simp [go_sem]; done) | (simp [go_sem]; omega) | omega))); clear hc2 hf2) | ((fail_if_success (have hzz := hb3)); go_at_call 21; refine (rfits_any x _).mono ?_; rintro e w3 ⟨rfl, hb3⟩; rw [HF1.out.1, HF1.out.2]; obtain ⟨hc3, hf3⟩ := hb3.cells; (have q3_0_0 : w3.cell? ⟨w.heap.size, 0, none⟩ = some (.int .i64 0) := hb3.keep (by first | assumption | (simp [go_sem, *]; done))); (have q3_0_1 : w3.cell? ⟨w.heap.size, 1, none⟩ = some (.int .i64 0) := hb3.keep (by first | assumption | (simp [go_sem, *]; done))); (have q3_1_0 : w3.cell? ⟨w1.heap.size, 0, none⟩ = some (.int .i64 (whi x)) := hb3.keep (by first | assumption | (simp [go_sem, *]; done))); (have q3_1_1 : w3.cell? ⟨w1.heap.size, 1, none⟩ = some (.int .u64 (wlo x)) := hb3.keep (by first | assumption | (simp [go_sem, *]; done))); (have q3_2_0 : w3.cell? ⟨w2.heap.size, 0, none⟩ = some (.int .i64 (whi y)) := hb3.keep (by first | assumption | (simp [go_sem, *]; done))); (have q3_2_1 : w3.cell? ⟨w2.heap.size, 1, none⟩ = some (.int .u64 (wlo y)) := hb3.keep (by first | assumption | (simp [go_sem, *]; done))); (have z3_0 : w3.frozen? ⟨w.heap.size, 0, none⟩ = false := (hf3 _ _ (by first | (simp; done) | (simp; omega) | (simp [go_sem]; done) | (simp [go_sem]; omega) | omega)).trans (by first | assumption | (simp [go_sem, *]; done))); (have z3_1 : w3.frozen? ⟨w.heap.size, 1, none⟩ = false := (hf3 _ _ (by first | (simp; done) | (simp; omega) | (simp [go_sem]; done) | (simp [go_sem]; omega) | omega)).trans (by first | assumption | (simp [go_sem, *]; done))); (try (have l3_0 : w.heap.size < w3.heap.size := hb3.lt (by first | (simp; done) | (simp; omega) | (simp [go_sem]; done) | (simp [go_sem]; omega) | omega))); (try (have l3_1 : w1.heap.size < w3.heap.size := hb3.lt (by first | (simp; done) | (simp; omega) | (simp [go_sem]; done) | (simp [go_sem]; omega) | omega))); (try (have l3_2 : w2.heap.size < w3.heap.size := hb3.lt (by first | (simp; done) | (simp; omega) | (simp [go_sem]; done) | (simp [go_sem]; omega) | omega))); clear hc3 hf3) | ((fail_if_success (have hzz := hb4)); go_at_call 21; refine (rfits_any y _).mono ?_; rintro e w4 ⟨rfl, hb4⟩; rw [HF2.out.1, HF2.out.2]; obtain ⟨hc4, hf4⟩ := hb4.cells; (have q4_0_0 : w4.cell? ⟨w.heap.size, 0, none⟩ = some (.int .i64 0) := hb4.keep (by first | assumption | (simp [go_sem, *]; done))); (have q4_0_1 : w4.cell? ⟨w.heap.size, 1, none⟩ = some (.int .i64 0) := hb4.keep (by first | assumption | (simp [go_sem, *]; done))); (have q4_1_0 : w4.cell? ⟨w1.heap.size, 0, none⟩ = some (.int .i64 (whi x)) := hb4.keep (by first | assumption | (simp [go_sem, *]; done))); (have q4_1_1 : w4.cell? ⟨w1.heap.size, 1, none⟩ = some (.int .u64 (wlo x)) := hb4.keep (by first | assumption | (simp [go_sem, *]; done))); (have q4_2_0 : w4.cell? ⟨w2.heap.size, 0, none⟩ = some (.int .i64 (whi y)) := hb4.keep (by first | assumption | (simp [go_sem, *]; done))); (have q4_2_1 : w4.cell? ⟨w2.heap.size, 1, none⟩ = some (.int .u64 (wlo y)) := hb4.keep (by first | assumption | (simp [go_sem, *]; done))); (have z4_0 : w4.frozen? ⟨w.heap.size, 0, none⟩ = false := (hf4 _ _ (by first | (simp; done) | (simp; omega) | (simp [go_sem]; done) | (simp [go_sem]; omega) | omega)).trans (by first | assumption | (simp [go_sem, *]; done))); (have z4_1 : w4.frozen? ⟨w.heap.size, 1, none⟩ = false := (hf4 _ _ (by first | (simp; done) | (simp; omega) | (simp [go_sem]; done) | (simp [go_sem]; omega) | omega)).trans (by first | assumption | (simp [go_sem, *]; done))); (try (have l4_0 : w.heap.size < w4.heap.size := hb4.lt (by first | (simp; done) | (simp; omega) | (simp [go_sem]; done) | (simp [go_sem]; omega) | omega))); (try (have l4_1 : w1.heap.size < w4.heap.size := hb4.lt (by first | (simp; done) | (simp; omega) | (simp [go_sem]; done) | (simp [go_sem]; omega) | omega))); (try (have l4_2 : w2.heap.size < w4.heap.size := hb4.lt (by first | (simp; done) | (simp; omega) | (simp [go_sem]; done) | (simp [go_sem]; omega) | omega))); clear hc4 hf4) | ((fail_if_success (have hzz := hb5)); go_at_call 15; refine (rvalid29_any x y _).mono ?_; rintro e w5 ⟨rfl, hb5⟩; rw [HVR.out]; obtain ⟨hc5, hf5⟩ := hb5.cells; (have q5_0_0 : w5.cell? ⟨w.heap.size, 0, none⟩ = some (.int .i64 0) := hb5.keep (by first | assumption | (simp [go_sem, *]; done))); (have q5_0_1 : w5.cell? ⟨w.heap.size, 1, none⟩ = some (.int .i64 0) := hb5.keep (by first | assumption | (simp [go_sem, *]; done))); (have q5_1_0 : w5.cell? ⟨w4.heap.size, 0, none⟩ = some (.int .i64 x) := hb5.keep (by first | assumption | (simp [go_sem, *]; done))); (have q5_1_1 : w5.cell? ⟨w4.heap.size, 1, none⟩ = some (.int .i64 y) := hb5.keep (by first | assumption | (simp [go_sem, *]; done))); (have z5_0 : w5.frozen? ⟨w.heap.size, 0, none⟩ = false := (hf5 _ _ (by first | (simp; done) | (simp; omega) | (simp [go_sem]; done) | (simp [go_sem]; omega) | omega)).trans (by first | assumption | (simp [go_sem, *]; done))); (have z5_1 : w5.frozen? ⟨w.heap.size, 1, none⟩ = false := (hf5 _ _ (by first | (simp; done) | (simp; omega) | (simp [go_sem]; done) | (simp [go_sem]; omega) | omega)).trans (by first | assumption | (simp [go_sem, *]; done))); (try (have l5_0 : w.heap.size < w5.heap.size := hb5.lt (by first | (simp; done) | (simp; omega) | (simp [go_sem]; done) | (simp [go_sem]; omega) | omega))); (try (have l5_1 : w4.heap.size < w5.heap.size := hb5.lt (by first | (simp; done) | (simp; omega) | (simp [go_sem]; done) | (simp [go_sem]; omega) | omega))); clear hc5 hf5))
            refine bodyPost_ret (v := .tuple #[.agg #[.int .i64 x, .int .i64 y], .int .i64 0]) (by simp [results, Tryd.results9, go_sem, *]) rfl ?_
            exact ⟨by rw [HIP.out.1, HIP.out.2.1, HIP.out.2.2], (by repeat (first | exact Ext.refl _ | refine Ext.setCell ?_ (by first | exact Nat.le_refl _ | (simp; done) | (simp; omega)) _ | refine Ext.drew ?_ | refine Ext.drewN ?_ _ | refine Ext.alloc ?_ _ | refine Ext.trans ?_ hb5 | refine Ext.trans ?_ hb4 | refine Ext.trans ?_ hb3 | refine Ext.trans ?_ hb2 | refine Ext.trans ?_ hb1))⟩
          · have HIP := Lib.hid (ip_no hok)
            have HBAD : Hid (∀ x y : Int, Lib.itoa x = A → Lib.itoa y = B → vR x y = true → False) := fun x y g1 g2 g3 => by
              rw [ip_mk g3 (by rw [g1, g2]; exact c3)] at hok
              cases hok
            have HBAD2 : Hid (∀ x y : Int, Lib.itoa x = A → Lib.itoa y = B → fits64 x = true → fits64 y = true → (!vR (fitV x) (fitV y)) = false → False) := fun x y g1 g2 g3 g4 g5 => HBAD.out x y g1 g2 (by rw [show fitV x = x by simp [fitV, g3], show fitV y = y by simp [fitV, g4]] at g5; simpa using g5)
            clear hok c3 hA hB
            go_wp2_with (first | ((fail_if_success (have hzz := hb1)); go_at_call 20; refine (r2parse_q A hl1 _).mono ?_; rintro e w1 (⟨v, rfl, hv, hb1⟩ | ⟨v, rfl, hb1⟩); (replace hv := Lib.hid hv); obtain ⟨hc1, hf1⟩ := hb1.cells; (have q1_0_0 : w1.cell? ⟨w.heap.size, 0, none⟩ = some (.int .i64 0) := hb1.keep (by first | assumption | (simp [go_sem, *]; done))); (have q1_0_1 : w1.cell? ⟨w.heap.size, 1, none⟩ = some (.int .i64 0) := hb1.keep (by first | assumption | (simp [go_sem, *]; done))); (have z1_0 : w1.frozen? ⟨w.heap.size, 0, none⟩ = false := (hf1 _ _ (by first | (simp; done) | (simp; omega) | (simp [go_sem]; done) | (simp [go_sem]; omega) | omega)).trans (by first | assumption | (simp [go_sem, *]; done))); (have z1_1 : w1.frozen? ⟨w.heap.size, 1, none⟩ = false := (hf1 _ _ (by first | (simp; done) | (simp; omega) | (simp [go_sem]; done) | (simp [go_sem]; omega) | omega)).trans (by first | assumption | (simp [go_sem, *]; done))); (try (have l1_0 : w.heap.size < w1.heap.size := hb1.lt (by first | (simp; done) | (simp; omega) | (simp [go_sem]; done) | (simp [go_sem]; omega) | omega))); clear hc1 hf1; rotate_left; obtain ⟨hc1, hf1⟩ := hb1.cells; (have q1_0_0 : w1.cell? ⟨w.heap.size, 0, none⟩ = some (.int .i64 0) := hb1.keep (by first | assumption | (simp [go_sem, *]; done))); (have q1_0_1 : w1.cell? ⟨w.heap.size, 1, none⟩ = some (.int .i64 0) := hb1.keep (by first | assumption | (simp [go_sem, *]; done))); (have z1_0 : w1.frozen? ⟨w.heap.size, 0, none⟩ = false := (hf1 _ _ (by first | (simp; done) | (simp; omega) | (simp [go_sem]; done) | (simp [go_sem]; omega) | omega)).trans (by first | assumption | (simp [go_sem, *]; done))); (have z1_1 : w1.frozen? ⟨w.heap.size, 1, none⟩ = false := (hf1 _ _ (by first | (simp; done) | (simp; omega) | (simp [go_sem]; done) | (simp [go_sem]; omega) | omega)).trans (by first | assumption | (simp [go_sem, *]; done))); (try (have l1_0 : w.heap.size < w1.heap.size := hb1.lt (by first | (simp; done) | (simp; omega) | (simp [go_sem]; done) | (simp [go_sem]; omega) | omega))); clear hc1 hf1; rotate_left) | ((fail_if_success (have hzz := hb2)); go_at_call 20; refine (r2parse_q B hl2 _).mono ?_; rintro e w2 (⟨u, rfl, hu, hb2⟩ | ⟨u, rfl, hb2⟩); (replace hu := Lib.hid hu); obtain ⟨hc2, hf2⟩ := hb2.cells; (have q2_0_0 : w2.cell? ⟨w.heap.size, 0, none⟩ = some (.int .i64 0) := hb2.keep (by first | assumption | (simp [go_sem, *]; done))); (have q2_0_1 : w2.cell? ⟨w.heap.size, 1, none⟩ = some (.int .i64 0) := hb2.keep (by first | assumption | (simp [go_sem, *]; done))); (have q2_1_0 : w2.cell? ⟨w1.heap.size, 0, none⟩ = some (.int .i64 (whi v)) := hb2.keep (by first | assumption | (simp [go_sem, *]; done))); (have q2_1_1 : w2.cell? ⟨w1.heap.size, 1, none⟩ = some (.int .u64 (wlo v)) := hb2.keep (by first | assumption | (simp [go_sem, *]; done))); (have z2_0 : w2.frozen? ⟨w.heap.size, 0, none⟩ = false := (hf2 _ _ (by first | (simp; done) | (simp; omega) | (simp [go_sem]; done) | (simp [go_sem]; omega) | omega)).trans (by first | assumption | (simp [go_sem, *]; done))); (have z2_1 : w2.frozen? ⟨w.heap.size, 1, none⟩ = false := (hf2 _ _ (by first | (simp; done) | (simp; omega) | (simp [go_sem]; done) | (simp [go_sem]; omega) | omega)).trans (by first | assumption | (simp [go_sem, *]; done))); (try (have l2_0 : w.heap.size < w2.heap.size := hb2.lt (by first | (simp; done) | (simp; omega) | (simp [go_sem]; done) | (simp [go_sem]; omega) | omega))); (try (have l2_1 : w1.heap.size < w2.heap.size := hb2.lt (by first | (simp; done) | (simp; omega) | (simp [go_sem]; done) | (simp [go_sem]; omega) | omega))); clear hc2 hf2; rotate_left; obtain ⟨hc2, hf2⟩ := hb2.cells; (have q2_0_0 : w2.cell? ⟨w.heap.size, 0, none⟩ = some (.int .i64 0) := hb2.keep (by first | assumption | (simp [go_sem, *]; done))); (have q2_0_1 : w2.cell? ⟨w.heap.size, 1, none⟩ = some (.int .i64 0) := hb2.keep (by first | assumption | (simp [go_sem, *]; done))); (have q2_1_0 : w2.cell? ⟨w1.heap.size, 0, none⟩ = some (.int .i64 (whi v)) := hb2.keep (by first | assumption | (simp [go_sem, *]; done))); (have q2_1_1 : w2.cell? ⟨w1.heap.size, 1, none⟩ = some (.int .u64 (wlo v)) := hb2.keep (by first | assumption | (simp [go_sem, *]; done))); (have z2_0 : w2.frozen? ⟨w.heap.size, 0, none⟩ = false := (hf2 _ _ (by first | (simp; done) | (simp; omega) | (simp [go_sem]; done) | (simp [go_sem]; omega) | omega)).trans (by first | assumption | (simp [go_sem, *]; done))); (have z2_1 : w2.frozen? ⟨w.heap.size, 1, none⟩ = false := (hf2 _ _ (by first | (simp; done) | (simp; omega) | (simp [go_sem]; done) | (simp [go_sem]; omega) | omega)).trans (by first | assumption | (simp [go_sem, *]; done))); (try (have l2_0 : w.heap.size < w2.heap.size := hb2.lt (by first | (simp; done) | (simp; omega) | (simp [go_sem]; done) | (simp [go_sem]; omega) | omega))); (try (have l2_1 : w1.heap.size < w2.heap.size := hb2.lt (by first | (simp; done) | (simp; omega) | (simp [go_sem]; done) | (simp [go_sem]; omega) | omega))); clear hc2 hf2; rotate_left) | ((fail_if_success (have hzz := hb3)); go_at_call 21; refine (rfits_any v _).mono ?_; rintro e w3 ⟨rfl, hb3⟩; obtain ⟨hc3, hf3⟩ := hb3.cells; (have q3_0_0 : w3.cell? ⟨w.heap.size, 0, none⟩ = some (.int .i64 0) := hb3.keep (by first | assumption | (simp [go_sem, *]; done))); (have q3_0_1 : w3.cell? ⟨w.heap.size, 1, none⟩ = some (.int .i64 0) := hb3.keep (by first | assumption | (simp [go_sem, *]; done))); (have q3_1_0 : w3.cell? ⟨w1.heap.size, 0, none⟩ = some (.int .i64 (whi v)) := hb3.keep (by first | assumption | (simp [go_sem, *]; done))); (have q3_1_1 : w3.cell? ⟨w1.heap.size, 1, none⟩ = some (.int .u64 (wlo v)) := hb3.keep (by first | assumption | (simp [go_sem, *]; done))); (have q3_2_0 : w3.cell? ⟨w2.heap.size, 0, none⟩ = some (.int .i64 (whi u)) := hb3.keep (by first | assumption | (simp [go_sem, *]; done))); (have q3_2_1 : w3.cell? ⟨w2.heap.size, 1, none⟩ = some (.int .u64 (wlo u)) := hb3.keep (by first | assumption | (simp [go_sem, *]; done))); (have z3_0 : w3.frozen? ⟨w.heap.size, 0, none⟩ = false := (hf3 _ _ (by first | (simp; done) | (simp; omega) | (simp [go_sem]; done) | (simp [go_sem]; omega) | omega)).trans (by first | assumption | (simp [go_sem, *]; done))); (have z3_1 : w3.frozen? ⟨w.heap.size, 1, none⟩ = false := (hf3 _ _ (by first | (simp; done) | (simp; omega) | (simp [go_sem]; done) | (simp [go_sem]; omega) | omega)).trans (by first | assumption | (simp [go_sem, *]; done))); (try (have l3_0 : w.heap.size < w3.heap.size := hb3.lt (by first | (simp; done) | (simp; omega) | (simp [go_sem]; done) | (simp [go_sem]; omega) | omega))); (try (have l3_1 : w1.heap.size < w3.heap.size := hb3.lt (by first | (simp; done) | (simp; omega) | (simp [go_sem]; done) | (simp [go_sem]; omega) | omega))); (try (have l3_2 : w2.heap.size < w3.heap.size := hb3.lt (by first | (simp; done) | (simp; omega) | (simp [go_sem]; done) | (simp [go_sem]; omega) | omega))); clear hc3 hf3) | ((fail_if_success (have hzz := hb4)); go_at_call 21; refine (rfits_any u _).mono ?_; rintro e w4 ⟨rfl, hb4⟩; obtain ⟨hc4, hf4⟩ := hb4.cells; (have q4_0_0 : w4.cell? ⟨w.heap.size, 0, none⟩ = some (.int .i64 0) := hb4.keep (by first | assumption | (simp [go_sem, *]; done))); (have q4_0_1 : w4.cell? ⟨w.heap.size, 1, none⟩ = some (.int .i64 0) := hb4.keep (by first | assumption | (simp [go_sem, *]; done))); (have q4_1_0 : w4.cell? ⟨w1.heap.size, 0, none⟩ = some (.int .i64 (whi v)) := hb4.keep (by first | assumption | (simp [go_sem, *]; done))); (have q4_1_1 : w4.cell? ⟨w1.heap.size, 1, none⟩ = some (.int .u64 (wlo v)) := hb4.keep (by first | assumption | (simp [go_sem, *]; done))); (have q4_2_0 : w4.cell? ⟨w2.heap.size, 0, none⟩ = some (.int .i64 (whi u)) := hb4.keep (by first | assumption | (simp [go_sem, *]; done))); (have q4_2_1 : w4.cell? ⟨w2.heap.size, 1, none⟩ = some (.int .u64 (wlo u)) := hb4.keep (by first | assumption | (simp [go_sem, *]; done))); (have z4_0 : w4.frozen? ⟨w.heap.size, 0, none⟩ = false := (hf4 _ _ (by first | (simp; done) | (simp; omega) | (simp [go_sem]; done) | (simp [go_sem]; omega) | omega)).trans (by first | assumption | (simp [go_sem, *]; done))); (have z4_1 : w4.frozen? ⟨w.heap.size, 1, none⟩ = false := (hf4 _ _ (by first | (simp; done) | (simp; omega) | (simp [go_sem]; done) | (simp [go_sem]; omega) | omega)).trans (by first | assumption | (simp [go_sem, *]; done))); (try (have l4_0 : w.heap.size < w4.heap.size := hb4.lt (by first | (simp; done) | (simp; omega) | (simp [go_sem]; done) | (simp [go_sem]; omega) | omega))); (try (have l4_1 : w1.heap.size < w4.heap.size := hb4.lt (by first | (simp; done) | (simp; omega) | (simp [go_sem]; done) | (simp [go_sem]; omega) | omega))); (try (have l4_2 : w2.heap.size < w4.heap.size := hb4.lt (by first | (simp; done) | (simp; omega) | (simp [go_sem]; done) | (simp [go_sem]; omega) | omega))); clear hc4 hf4) | ((fail_if_success (have hzz := hb5)); go_at_call 15; refine (rvalid29_any (fitV v) (fitV u) _).mono ?_; rintro e w5 ⟨rfl, hb5⟩; obtain ⟨hc5, hf5⟩ := hb5.cells; (have q5_0_0 : w5.cell? ⟨w.heap.size, 0, none⟩ = some (.int .i64 0) := hb5.keep (by first | assumption | (simp [go_sem, *]; done))); (have q5_0_1 : w5.cell? ⟨w.heap.size, 1, none⟩ = some (.int .i64 0) := hb5.keep (by first | assumption | (simp [go_sem, *]; done))); (have q5_1_0 : w5.cell? ⟨w4.heap.size, 0, none⟩ = some (.int .i64 (fitV v)) := hb5.keep (by first | assumption | (simp [go_sem, *]; done))); (have q5_1_1 : w5.cell? ⟨w4.heap.size, 1, none⟩ = some (.int .i64 (fitV u)) := hb5.keep (by first | assumption | (simp [go_sem, *]; done))); (have z5_0 : w5.frozen? ⟨w.heap.size, 0, none⟩ = false := (hf5 _ _ (by first | (simp; done) | (simp; omega) | (simp [go_sem]; done) | (simp [go_sem]; omega) | omega)).trans (by first | assumption | (simp [go_sem, *]; done))); (have z5_1 : w5.frozen? ⟨w.heap.size, 1, none⟩ = false := (hf5 _ _ (by first | (simp; done) | (simp; omega) | (simp [go_sem]; done) | (simp [go_sem]; omega) | omega)).trans (by first | assumption | (simp [go_sem, *]; done))); (try (have l5_0 : w.heap.size < w5.heap.size := hb5.lt (by first | (simp; done) | (simp; omega) | (simp [go_sem]; done) | (simp [go_sem]; omega) | omega))); (try (have l5_1 : w4.heap.size < w5.heap.size := hb5.lt (by first | (simp; done) | (simp; omega) | (simp [go_sem]; done) | (simp [go_sem]; omega) | omega))); clear hc5 hf5))
            all_goals first
              | ((refine (HBAD2.out v u hv.out hu.out ?_ ?_ ?_).elim) <;> assumption)
              | (refine bodyPost_ret (v := .tuple #[.agg #[.int .i64 0, .int .i64 0], .int .i64 4]) (by simp [results, Tryd.results9, go_sem, *]) rfl ?_
                 exact ⟨by rw [HIP.out.1, HIP.out.2.1, HIP.out.2.2], (by repeat (first | exact Ext.refl _ | refine Ext.setCell ?_ (by first | exact Nat.le_refl _ | (simp; done) | (simp; omega)) _ | refine Ext.drew ?_ | refine Ext.drewN ?_ _ | refine Ext.alloc ?_ _ | refine Ext.trans ?_ hb5 | refine Ext.trans ?_ hb4 | refine Ext.trans ?_ hb3 | refine Ext.trans ?_ hb2 | refine Ext.trans ?_ hb1))⟩)
        · have hc' : ¬ (((c.toNat : Nat) : Int) = 46) := fun h => hc (UInt8.toNat_inj.1 (by have : c.toNat = 46 := (by omega); exact this))
          subst hb
          have HS2 : Hid (∀ j, j < k + 1 → dd2 L j = false) := HS.out (HQ.out.trans (by simp [hc]))
          clear HQ HS hc
          go_wp2
          go_round
          case rel => exact ⟨k + 1, by omega, by go_num, HS2.out⟩
          case measure => simp [intOf]; omega
      · have hb' : ¬ (((b.toNat : Nat) : Int) = 46) := fun h => hb (UInt8.toNat_inj.1 (by have : b.toNat = 46 := (by omega); exact this))
        have HS2 : Hid (∀ j, j < k + 1 → dd2 L j = false) := HS.out (HQ.out.trans (by simp [hb]))
        clear HQ HS hb
        go_wp2
        go_round
        case rel => exact ⟨k + 1, by omega, by go_num, HS2.out⟩
        case measure => simp [intOf]; omega
    · have HIP := Lib.hid (dd_none (fun j => by
        rcases Nat.lt_or_ge j k with h | h
        · exact HN.out j h
        · exact dd2_end (by omega)))
      have e3 : IntKind.i64.wrap ((k : Int) + 1) = (k : Int) + 1 := IntWalk.i64_in _ (by omega)
      go_wp2
      refine bodyPost_ret (v := .tuple #[.agg #[.int .i64 0, .int .i64 0], .int .i64 4]) (by simp [results, Tryd.results9, go_sem, *]) rfl ?_
      exact ⟨by rw [HIP.out.1, HIP.out.2.1, HIP.out.2.2], (by repeat (first | exact Ext.refl _ | refine Ext.setCell ?_ (by first | exact Nat.le_refl _ | (simp; done) | (simp; omega)) _ | refine Ext.drew ?_ | refine Ext.drewN ?_ _ | refine Ext.alloc ?_ _))⟩

end Go.Proofs.YthckbfkhbegmgaaDoor

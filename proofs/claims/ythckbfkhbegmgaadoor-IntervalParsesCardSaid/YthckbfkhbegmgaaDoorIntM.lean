/-
  The schoolbook product of the reference of layer 2, walked.
-/
import Derived.Test.YthckbfkhbegmgaaDoorIntL
namespace Go.Proofs.YthckbfkhbegmgaaDoor
open Go.RowKit
set_option linter.unusedSimpArgs false

structure TInv (w wr : World) (A B o : Nat → Int) : Prop where
  ext : Ext w wr
  ca : ∀ j, j < 4 → wr.cell? ⟨w.heap.size, j, none⟩ = some (.int .u64 (A j))
  cb : ∀ j, j < 4 → wr.cell? ⟨w.heap.size + 1, j, none⟩ = some (.int .u64 (B j))
  cr : ∀ j, j < 4 → wr.cell? ⟨w.heap.size + 2, j, none⟩ = some (.int .u64 0)
  fr : ∀ j, j < 4 → wr.frozen? ⟨w.heap.size + 2, j, none⟩ = false
  co : ∀ j, j < 8 → wr.cell? ⟨w.heap.size + 3, j, none⟩ = some (.int .u64 (o j))
  fo : ∀ j, j < 8 → wr.frozen? ⟨w.heap.size + 3, j, none⟩ = false
theorem TInv.drew {w wr : World} {A B o : Nat → Int} (h : TInv w wr A B o) (n : Nat) : TInv w (wr.drewN n) A B o :=
  ⟨h.ext.drewN n, fun j hj => h.ca j hj, fun j hj => h.cb j hj, fun j hj => h.cr j hj, fun j hj => h.fr j hj, fun j hj => h.co j hj, fun j hj => h.fo j hj⟩
theorem TInv.set {w wr : World} {A B o : Nat → Int} (h : TInv w wr A B o) {m : Nat} (hm : m < 8) (x : Int) : TInv w (wr.setCell ⟨w.heap.size + 3, m, none⟩ (.int .u64 x)) A B (upd o m x) := by
  refine ⟨h.ext.setCell (by simp) _, fun j hj => ?_, fun j hj => ?_, fun j hj => ?_, fun j hj => ?_, fun j hj => ?_, fun j hj => ?_⟩
  · rw [World.cell?_setCell_other _ _ _ _ (by simp)]; exact h.ca j hj
  · rw [World.cell?_setCell_other _ _ _ _ (by simp)]; exact h.cb j hj
  · rw [World.cell?_setCell_other _ _ _ _ (by simp)]; exact h.cr j hj
  · rw [World.frozen?_setCell]; exact h.fr j hj
  · by_cases e : j = m
    · subst e; rw [World.cell?_setCell_same _ _ _ (h.co j hj)]; simp [upd]
    · rw [World.cell?_setCell_other _ _ _ _ (by first | (simp; done) | (simp; omega) | (simp [e]; done)), h.co j hj]; simp [upd, e]
  · rw [World.frozen?_setCell]; exact h.fo j hj
theorem below8 {P : Nat → Prop} (h : P 0 ∧ P 1 ∧ P 2 ∧ P 3 ∧ P 4 ∧ P 5 ∧ P 6 ∧ P 7) : ∀ j, j < 8 → P j := by
  intro j hj
  match j, hj with
  | 0, _ => exact h.1
  | 1, _ => exact h.2.1
  | 2, _ => exact h.2.2.1
  | 3, _ => exact h.2.2.2.1
  | 4, _ => exact h.2.2.2.2.1
  | 5, _ => exact h.2.2.2.2.2.1
  | 6, _ => exact h.2.2.2.2.2.2.1
  | 7, _ => exact h.2.2.2.2.2.2.2
theorem below4 {P : Nat → Prop} (h : P 0 ∧ P 1 ∧ P 2 ∧ P 3) : ∀ j, j < 4 → P j := by
  intro j hj
  match j, hj with
  | 0, _ => exact h.1
  | 1, _ => exact h.2.1
  | 2, _ => exact h.2.2.1
  | 3, _ => exact h.2.2.2
theorem tinv0 (w : World) (A B : Nat → Int) (ta tb tr to : TypeId) : TInv w ((((w.alloc (.cells #[.int .u64 (A 0), .int .u64 (A 1), .int .u64 (A 2), .int .u64 (A 3)] ta)).alloc (.cells #[.int .u64 (B 0), .int .u64 (B 1), .int .u64 (B 2), .int .u64 (B 3)] tb)).alloc
    (.cells #[.int .u64 0, .int .u64 0, .int .u64 0, .int .u64 0] tr)).alloc (.cells #[.int .u64 0, .int .u64 0, .int .u64 0, .int .u64 0, .int .u64 0, .int .u64 0, .int .u64 0, .int .u64 0] to)) A B (fun _ => 0) := by
  refine ⟨((((Ext.refl _).alloc _).alloc _).alloc _).alloc _, below4 ?_, below4 ?_, below4 ?_, below4 ?_, below8 ?_, below8 ?_⟩ <;> simp [go_sem]

set_option maxHeartbeats 8000000 in
theorem r2times_any (A B : Nat → Int) (hA : ∀ j, j < 4 → 0 ≤ A j ∧ A j < 4294967296) (hB : ∀ j, j < 4 → 0 ≤ B j ∧ B j < 4294967296) (hp : val A 4 * val B 4 < 340282366920938463463374607431768211456) (w : World) :
    Calls Tryd.prog 54 #[.agg #[.int .u64 (A 0), .int .u64 (A 1), .int .u64 (A 2), .int .u64 (A 3)], .agg #[.int .u64 (B 0), .int .u64 (B 1), .int .u64 (B 2), .int .u64 (B 3)]] w fun e w' =>
      ∃ o : Nat → Int, e = .returned (.tuple #[.agg #[.int .u64 (o 0), .int .u64 (o 1), .int .u64 (o 2), .int .u64 (o 3)], .bool true]) ∧ (∀ j, j < 4 → 0 ≤ o j ∧ o j < 4294967296) ∧ o 0 + o 1 * 4294967296 + (o 2 + o 3 * 4294967296) * 18446744073709551616 = val A 4 * val B 4 ∧ Ext w w' := by
  have HA := Lib.hid hA
  have HB := Lib.hid hB
  have HP := Lib.hid hp
  clear hA hB hp
  go_enter Tryd.func54, Tryd.ntmps54
  go_wp2
  go_loopw [7] (fun i wr => ∃ (u : Nat) (o : Nat → Int), u ≤ 4 ∧ i = .int .i64 u ∧ TInv w wr A B o ∧ Nums A B u o) (fun i _ => 4 - (intOf i).toNat)
  case atStart => exact ⟨0, fun _ => 0, by omega, rfl, tinv0 w A B _ _ _ _, nums0 A B⟩
  case round =>
    obtain ⟨u, o, hu4, rfl, hT, hN⟩ := hrel
    by_cases hu : u < 4
    · have HN := Lib.hid hN
      clear hN
      go_wp2
      obtain ⟨wo, rfl⟩ : ∃ wo : World, wo = wr := ⟨_, rfl⟩
      go_loopw [9, 8] (fun k c wr => ∃ (v : Nat) (o : Nat → Int) (n : Int), v ≤ 4 ∧ k = .int .i64 v ∧ c = .int .u64 n ∧ TInv w wr A B o ∧ Ins A B u v o n) (fun k _ _ => 4 - (intOf k).toNat)
      case atStart => exact ⟨0, o, 0, by omega, rfl, rfl, hT, HN.out.start⟩
      case round =>
        clear hT HN
        obtain ⟨v, o, c, hv4, rfl, rfl, hT, hI⟩ := hrel
        by_cases hv : v < 4
        · have ca := hT.ca u hu
          have cb := hT.cb v hv
          have co := hT.co (u + v) (by omega)
          have fo := hT.fo (u + v) (by omega)
          have HT := Lib.hid hT
          obtain ⟨N, hN⟩ : ∃ N : Int, A u * B v + o (u + v) + c = N := ⟨_, rfl⟩
          obtain ⟨n1, n2, n3, n4, n5, n6⟩ := hI.sum_bd hu hv (HA.out u hu) (HB.out v hv) hN
          have HI := Lib.hid (hI.step hu hv hN n5 n6)
          have W1 : IntKind.u64.wrap (A u * B v) = A u * B v := IntWalk.u64_in _ ⟨n1, by omega⟩
          have W2 : IntKind.u64.wrap (A u * B v + o (u + v)) = A u * B v + o (u + v) := IntWalk.u64_in _ ⟨n2, by omega⟩
          have W3 : IntKind.u64.wrap (A u * B v + o (u + v) + c) = N := by rw [hN]; exact IntWalk.u64_in _ ⟨n5, by omega⟩
          have W4 := and_low N n5 n6
          have e1 : ((u : Int) + (v : Int)).toNat = u + v := by omega
          have e2 : IntKind.i64.wrap ((u : Int) + (v : Int)) = (u : Int) + (v : Int) := IntWalk.i64_in _ (by omega)
          clear hT hI hN
          go_wp2
          go_quiet (fail)
          go_wp2
          go_roundw
          case rel => exact ⟨v + 1, _, _, by omega, by go_num, rfl, (HT.out.drew _).set (by omega) _, HI.out⟩
          case measure => simp [intOf]; omega
        · obtain rfl : v = 4 := by omega
          have co := hT.co (u + 4) (by omega)
          have fo := hT.fo (u + 4) (by omega)
          have HT := Lib.hid hT
          have HI := Lib.hid (hI.stop hu)
          have e1 : ((u : Int) + 4).toNat = u + 4 := by omega
          clear hT hI
          go_wp2
          go_roundw
          case rel => exact ⟨u + 1, _, by omega, by go_num, HT.out.set (by omega) _, HI.out⟩
          case measure => simp [intOf]; omega
    · obtain rfl : u = 4 := by omega
      obtain ⟨z4, z5, z6, z7, hv⟩ := hN.low HP.out
      have HV := Lib.hid hv
      have HO := Lib.hid hN.bd
      have hX := hT.ext
      have c0 := hT.co 0 (by omega); have c1 := hT.co 1 (by omega); have c2 := hT.co 2 (by omega); have c3 := hT.co 3 (by omega)
      have c4 := hT.co 4 (by omega); have c5 := hT.co 5 (by omega); have c6 := hT.co 6 (by omega); have c7 := hT.co 7 (by omega)
      have r0 := hT.cr 0 (by omega); have r1 := hT.cr 1 (by omega); have r2 := hT.cr 2 (by omega); have r3 := hT.cr 3 (by omega)
      have f0 := hT.fr 0 (by omega); have f1 := hT.fr 1 (by omega); have f2 := hT.fr 2 (by omega); have f3 := hT.fr 3 (by omega)
      rw [z4] at c4
      rw [z5] at c5
      rw [z6] at c6
      rw [z7] at c7
      clear hT hN hv z4 z5 z6 z7
      go_wp2
      go_region_held3 (fun w' => w'.cell? ⟨w.heap.size + 3, 0, none⟩ = some (.int .u64 (o 0)) ∧ w'.cell? ⟨w.heap.size + 3, 1, none⟩ = some (.int .u64 (o 1)) ∧ w'.cell? ⟨w.heap.size + 3, 2, none⟩ = some (.int .u64 (o 2)) ∧ w'.cell? ⟨w.heap.size + 3, 3, none⟩ = some (.int .u64 (o 3)) ∧ w'.cell? ⟨w.heap.size + 3, 4, none⟩ = some (.int .u64 0) ∧ w'.cell? ⟨w.heap.size + 3, 5, none⟩ = some (.int .u64 0) ∧ w'.cell? ⟨w.heap.size + 3, 6, none⟩ = some (.int .u64 0) ∧ w'.cell? ⟨w.heap.size + 3, 7, none⟩ = some (.int .u64 0)) (simp [go_sem, *]) (fail)
      go_wp2
      refine bodyPost_ret (v := .tuple #[.agg #[.int .u64 (o 0), .int .u64 (o 1), .int .u64 (o 2), .int .u64 (o 3)], .bool true]) (by simp [results, Tryd.results54, go_sem, *]) rfl ?_
      exact ⟨o, rfl, fun j hj => HO.out j (by omega), HV.out, (by repeat (first | exact hX | refine Ext.setCell ?_ (by first | (simp; done) | (simp; omega)) _ | refine Ext.drew ?_ | refine Ext.drewN ?_ _))⟩

end Go.Proofs.YthckbfkhbegmgaaDoor

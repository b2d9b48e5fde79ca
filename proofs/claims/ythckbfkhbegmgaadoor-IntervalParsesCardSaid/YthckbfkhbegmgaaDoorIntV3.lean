/-
  The schoolbook product of the reference of layer 2, for products that may be too great.
-/
import Derived.Test.YthckbfkhbegmgaaDoorIntV2
import Derived.Test.YthckbfkhbegmgaaDoorIntM
namespace Go.Proofs.YthckbfkhbegmgaaDoor
open Go.RowKit
set_option linter.unusedSimpArgs false

theorem val_bd {A : Nat → Int} (h : ∀ j, j < 4 → 0 ≤ A j ∧ A j < 4294967296) : 0 ≤ val A 4 ∧ val A 4 < 340282366920938463463374607431768211456 := by
  have b0 := h 0 (by omega); have b1 := h 1 (by omega); have b2 := h 2 (by omega); have b3 := h 3 (by omega)
  simp only [val]
  simp only [show (4294967296 : Int) ^ 0 = 1 from rfl, show (4294967296 : Int) ^ 1 = 4294967296 from rfl, show (4294967296 : Int) ^ 2 = 18446744073709551616 from rfl, show (4294967296 : Int) ^ 3 = 79228162514264337593543950336 from rfl, show (4294967296 : Int) ^ 4 = 340282366920938463463374607431768211456 from rfl, show (4294967296 : Int) ^ 5 = 1461501637330902918203684832716283019655932542976 from rfl, show (4294967296 : Int) ^ 6 = 6277101735386680763835789423207666416102355444464034512896 from rfl, show (4294967296 : Int) ^ 7 = 26959946667150639794667015087019630673637144422540572481103610249216 from rfl]
  omega
def TPost (A B : Nat → Int) (w : World) (e : Ending) (w' : World) : Prop :=
  ∃ (o : Nat → Int) (k : Bool), e = .returned (.tuple #[.agg #[.int .u64 (o 0), .int .u64 (o 1), .int .u64 (o 2), .int .u64 (o 3)], .bool k]) ∧ (∀ j, j < 4 → 0 ≤ o j ∧ o j < 4294967296) ∧ (val A 4 * val B 4 < 340282366920938463463374607431768211456 → k = true ∧ o 0 + o 1 * 4294967296 + (o 2 + o 3 * 4294967296) * 18446744073709551616 = val A 4 * val B 4) ∧ Ext w w'
/-- A product with a number of 32 bits: three upper parts are 0. -/
theorem Nums.low5 {A B : Nat → Int} {o : Nat → Int} (h : Nums A B 4 o) (ha : 0 ≤ val A 4 ∧ val A 4 < 340282366920938463463374607431768211456) (hb : val B 4 < 4294967296) :
    o 5 = 0 ∧ o 6 = 0 ∧ o 7 = 0 ∧ (val A 4 * val B 4 < 340282366920938463463374607431768211456 → o 4 = 0 ∧ o 0 + o 1 * 4294967296 + (o 2 + o 3 * 4294967296) * 18446744073709551616 = val A 4 * val B 4) := by
  have hp : val A 4 * val B 4 < 340282366920938463463374607431768211456 * 4294967296 := by
    rcases Int.lt_or_le (val B 4) 0 with g | g
    · have := Int.mul_nonpos_of_nonneg_of_nonpos ha.1 (Int.le_of_lt g)
      omega
    · exact Int.lt_of_le_of_lt (Int.mul_le_mul_of_nonneg_right (Int.le_of_lt ha.2) g) (Int.mul_lt_mul_of_pos_left hb (by omega))
  have e := h.eq
  rw [← e] at hp ⊢
  have b0 := h.bd 0 (by omega); have b1 := h.bd 1 (by omega); have b2 := h.bd 2 (by omega); have b3 := h.bd 3 (by omega)
  have b4 := h.bd 4 (by omega); have b5 := h.bd 5 (by omega); have b6 := h.bd 6 (by omega); have b7 := h.bd 7 (by omega)
  simp only [val] at hp ⊢
  simp only [show (4294967296 : Int) ^ 0 = 1 from rfl, show (4294967296 : Int) ^ 1 = 4294967296 from rfl, show (4294967296 : Int) ^ 2 = 18446744073709551616 from rfl, show (4294967296 : Int) ^ 3 = 79228162514264337593543950336 from rfl, show (4294967296 : Int) ^ 4 = 340282366920938463463374607431768211456 from rfl, show (4294967296 : Int) ^ 5 = 1461501637330902918203684832716283019655932542976 from rfl, show (4294967296 : Int) ^ 6 = 6277101735386680763835789423207666416102355444464034512896 from rfl, show (4294967296 : Int) ^ 7 = 26959946667150639794667015087019630673637144422540572481103610249216 from rfl] at hp ⊢
  omega

set_option maxHeartbeats 8000000 in
theorem r2timesw_any (A B : Nat → Int) (hA : ∀ j, j < 4 → 0 ≤ A j ∧ A j < 4294967296) (hB : ∀ j, j < 4 → 0 ≤ B j ∧ B j < 4294967296) (hp : val B 4 < 4294967296) (w : World) :
    Calls Tryd.prog 54 #[.agg #[.int .u64 (A 0), .int .u64 (A 1), .int .u64 (A 2), .int .u64 (A 3)], .agg #[.int .u64 (B 0), .int .u64 (B 1), .int .u64 (B 2), .int .u64 (B 3)]] w (TPost A B w) := by
  have HA := Lib.hid hA
  have HB := Lib.hid hB
  have HP := Lib.hid hp
  clear hA hB hp
  go_enter Tryd.func54, Tryd.ntmps54
  go_wp2
  go_loopw [7] (fun i wr => ∃ (u : Nat) (o : Nat → Int), u ≤ 4 ∧ i = .int .i64 u ∧ TInv w wr A B o ∧ Nums A B u o) (fun i _ => 4 - (intOf i).toNat)
  case atStart => exact ⟨0, fun _ => 0, by omega, rfl, tinv0 w A B _ _ _ _, nums0 A B⟩
  case round =>
    obtain ⟨u, o, hu4, rfl, hT, hN⟩ := hrel
    by_cases hu : u < 4
    · have HN := Lib.hid hN
      clear hN
      go_wp2
      obtain ⟨wo, rfl⟩ : ∃ wo : World, wo = wr := ⟨_, rfl⟩
      go_loopw [9, 8] (fun k c wr => ∃ (v : Nat) (o : Nat → Int) (n : Int), v ≤ 4 ∧ k = .int .i64 v ∧ c = .int .u64 n ∧ TInv w wr A B o ∧ Ins A B u v o n) (fun k _ _ => 4 - (intOf k).toNat)
      case atStart => exact ⟨0, o, 0, by omega, rfl, rfl, hT, HN.out.start⟩
      case round =>
        clear hT HN
        obtain ⟨v, o, c, hv4, rfl, rfl, hT, hI⟩ := hrel
        by_cases hv : v < 4
        · have ca := hT.ca u hu
          have cb := hT.cb v hv
          have co := hT.co (u + v) (by omega)
          have fo := hT.fo (u + v) (by omega)
          have HT := Lib.hid hT
          obtain ⟨N, hN⟩ : ∃ N : Int, A u * B v + o (u + v) + c = N := ⟨_, rfl⟩
          obtain ⟨n1, n2, n3, n4, n5, n6⟩ := hI.sum_bd hu hv (HA.out u hu) (HB.out v hv) hN
          have HI := Lib.hid (hI.step hu hv hN n5 n6)
          have W1 : IntKind.u64.wrap (A u * B v) = A u * B v := IntWalk.u64_in _ ⟨n1, by omega⟩
          have W2 : IntKind.u64.wrap (A u * B v + o (u + v)) = A u * B v + o (u + v) := IntWalk.u64_in _ ⟨n2, by omega⟩
          have W3 : IntKind.u64.wrap (A u * B v + o (u + v) + c) = N := by rw [hN]; exact IntWalk.u64_in _ ⟨n5, by omega⟩
          have W4 := and_low N n5 n6
          have e1 : ((u : Int) + (v : Int)).toNat = u + v := by omega
          have e2 : IntKind.i64.wrap ((u : Int) + (v : Int)) = (u : Int) + (v : Int) := IntWalk.i64_in _ (by omega)
          clear hT hI hN
          go_wp2
          go_quiet (fail)
          go_wp2
          go_roundw
          case rel => exact ⟨v + 1, _, _, by omega, by go_num, rfl, (HT.out.drew _).set (by omega) _, HI.out⟩
          case measure => simp [intOf]; omega
        · obtain rfl : v = 4 := by omega
          have co := hT.co (u + 4) (by omega)
          have fo := hT.fo (u + 4) (by omega)
          have HT := Lib.hid hT
          have HI := Lib.hid (hI.stop hu)
          have e1 : ((u : Int) + 4).toNat = u + 4 := by omega
          clear hT hI
          go_wp2
          go_roundw
          case rel => exact ⟨u + 1, _, by omega, by go_num, HT.out.set (by omega) _, HI.out⟩
          case measure => simp [intOf]; omega
    · obtain rfl : u = 4 := by omega
      obtain ⟨z5, z6, z7, hlow⟩ := hN.low5 (val_bd HA.out) HP.out
      have HV := Lib.hid hlow
      have HO := Lib.hid hN.bd
      have hX := hT.ext
      have c0 := hT.co 0 (by omega); have c1 := hT.co 1 (by omega); have c2 := hT.co 2 (by omega); have c3 := hT.co 3 (by omega)
      have c4 := hT.co 4 (by omega); have c5 := hT.co 5 (by omega); have c6 := hT.co 6 (by omega); have c7 := hT.co 7 (by omega)
      have r0 := hT.cr 0 (by omega); have r1 := hT.cr 1 (by omega); have r2 := hT.cr 2 (by omega); have r3 := hT.cr 3 (by omega)
      have f0 := hT.fr 0 (by omega); have f1 := hT.fr 1 (by omega); have f2 := hT.fr 2 (by omega); have f3 := hT.fr 3 (by omega)
      rw [z5] at c5
      rw [z6] at c6
      rw [z7] at c7
      clear hT hN hlow z5 z6 z7
      by_cases h4' : o 4 = 0
      · have h4 := Lib.hid h4'
        rw [h4'] at c4
        clear h4'
        go_wp2
        go_region_held3 (fun w' => w'.cell? ⟨w.heap.size + 3, 0, none⟩ = some (.int .u64 (o 0)) ∧ w'.cell? ⟨w.heap.size + 3, 1, none⟩ = some (.int .u64 (o 1)) ∧ w'.cell? ⟨w.heap.size + 3, 2, none⟩ = some (.int .u64 (o 2)) ∧ w'.cell? ⟨w.heap.size + 3, 3, none⟩ = some (.int .u64 (o 3)) ∧ w'.cell? ⟨w.heap.size + 3, 4, none⟩ = some (.int .u64 0) ∧ w'.cell? ⟨w.heap.size + 3, 5, none⟩ = some (.int .u64 0) ∧ w'.cell? ⟨w.heap.size + 3, 6, none⟩ = some (.int .u64 0) ∧ w'.cell? ⟨w.heap.size + 3, 7, none⟩ = some (.int .u64 0)) (simp [go_sem, *]) (fail)
        go_wp2
        refine bodyPost_ret (v := .tuple #[.agg #[.int .u64 (o 0), .int .u64 (o 1), .int .u64 (o 2), .int .u64 (o 3)], .bool true]) (by simp [results, Tryd.results54, go_sem, *]) rfl ?_
        exact ⟨o, true, rfl, fun j hj => HO.out j (by omega), fun hh => ⟨rfl, (HV.out hh).2⟩, (by repeat (first | exact hX | refine Ext.setCell ?_ (by first | (simp; done) | (simp; omega)) _ | refine Ext.drew ?_ | refine Ext.drewN ?_ _))⟩
      · have h4 := Lib.hid h4'
        have h5 : decide (o 4 = 0) = false := by simpa using h4'
        have h6 : (o 4 == 0) = false := by simpa using h4'
        clear h4'
        go_wp2
        refine wp_region_held_drew (S := (fun w' => w'.cell? ⟨w.heap.size + 3, 0, none⟩ = some (.int .u64 (o 0)) ∧ w'.cell? ⟨w.heap.size + 3, 1, none⟩ = some (.int .u64 (o 1)) ∧ w'.cell? ⟨w.heap.size + 3, 2, none⟩ = some (.int .u64 (o 2)) ∧ w'.cell? ⟨w.heap.size + 3, 3, none⟩ = some (.int .u64 (o 3)) ∧ w'.cell? ⟨w.heap.size + 3, 4, none⟩ = some (.int .u64 (o 4)) ∧ w'.cell? ⟨w.heap.size + 3, 5, none⟩ = some (.int .u64 0) ∧ w'.cell? ⟨w.heap.size + 3, 6, none⟩ = some (.int .u64 0) ∧ w'.cell? ⟨w.heap.size + 3, 7, none⟩ = some (.int .u64 0))) (by kernel_rfl) (by simp [go_sem, *]) (fun hHeld => ?_)
        refine wpAnyH_take (i := 0) (v := ?v0) rfl (by kernel_rfl) (by kernel_rfl) (by kernel_rfl) (fun _ _ _ h => h) (Or.inl ⟨by rfl, ?y0⟩) (by assumption) ?r0
        case y0 => ((intro w hSw); (try dsimp only at hSw); go_simp; (first | done | with_reducible rfl))
        (try simp only [List.getElem_toArray, List.getElem_cons_succ, List.getElem_cons_zero, Act.put, List.setIfInBounds_toArray, List.set_cons_zero, List.set_cons_succ])
        refine wpAnyH_take (i := 1) (v := ?v1) rfl (by kernel_rfl) (by kernel_rfl) (by kernel_rfl) (fun _ _ _ h => h) (Or.inl ⟨by rfl, ?y1⟩) (by assumption) ?r1
        case y1 => ((intro w hSw); (try dsimp only at hSw); go_simp; (first | done | with_reducible rfl))
        (try simp only [List.getElem_toArray, List.getElem_cons_succ, List.getElem_cons_zero, Act.put, List.setIfInBounds_toArray, List.set_cons_zero, List.set_cons_succ])
        refine wpAnyH_take (i := 2) (v := ?v2) rfl (by kernel_rfl) (by kernel_rfl) (by kernel_rfl) (fun _ _ _ h => h) (Or.inl ⟨by rfl, ?y2⟩) (by assumption) ?r2
        case y2 => ((intro w hSw); (try dsimp only at hSw); go_simp; (first | done | with_reducible rfl))
        (try simp only [List.getElem_toArray, List.getElem_cons_succ, List.getElem_cons_zero, Act.put, List.setIfInBounds_toArray, List.set_cons_zero, List.set_cons_succ])
        refine wpAnyH_take (i := 3) (v := ?v3) rfl (by kernel_rfl) (by kernel_rfl) (by kernel_rfl) (fun _ _ _ h => h) (Or.inl ⟨by rfl, ?y3⟩) (by assumption) ?r3
        case y3 => ((intro w hSw); (try dsimp only at hSw); go_simp; (first | done | with_reducible rfl))
        (try simp only [List.getElem_toArray, List.getElem_cons_succ, List.getElem_cons_zero, Act.put, List.setIfInBounds_toArray, List.set_cons_zero, List.set_cons_succ])
        refine wpAnyH_take (i := 4) (v := ?v4) rfl (by kernel_rfl) (by kernel_rfl) (by kernel_rfl) (fun _ _ _ h => h) (Or.inl ⟨by rfl, ?y4⟩) (by assumption) ?r4
        case y4 => ((intro w hSw); (try dsimp only at hSw); go_simp; (first | done | with_reducible rfl))
        (try simp only [List.getElem_toArray, List.getElem_cons_succ, List.getElem_cons_zero, Act.put, List.setIfInBounds_toArray, List.set_cons_zero, List.set_cons_succ])
        refine wpAnyH_take (i := 5) (v := ?v5) rfl (by kernel_rfl) (by kernel_rfl) (by kernel_rfl) (fun _ _ _ h => h) (Or.inl ⟨by rfl, ?y5⟩) (by assumption) ?r5
        case y5 => ((intro w hSw); (try dsimp only at hSw); go_simp; (first | done | with_reducible rfl))
        (try simp only [List.getElem_toArray, List.getElem_cons_succ, List.getElem_cons_zero, Act.put, List.setIfInBounds_toArray, List.set_cons_zero, List.set_cons_succ])
        refine wpAnyH_take (i := 6) (v := ?v6) rfl (by kernel_rfl) (by kernel_rfl) (by kernel_rfl) (fun _ _ _ h => h) (Or.inl ⟨by rfl, ?y6⟩) (by assumption) ?r6
        case y6 => ((intro w hSw); (try dsimp only at hSw); go_simp; (first | done | with_reducible rfl))
        (try simp only [List.getElem_toArray, List.getElem_cons_succ, List.getElem_cons_zero, Act.put, List.setIfInBounds_toArray, List.set_cons_zero, List.set_cons_succ])
        refine wpAnyH_take (i := 7) (v := ?v7) rfl (by kernel_rfl) (by kernel_rfl) (by kernel_rfl) (fun _ _ _ h => h) (Or.inl ⟨by rfl, ?y7⟩) (by assumption) ?r7
        case y7 => ((intro w hSw); (try dsimp only at hSw); go_simp; (first | done | with_reducible rfl))
        (try simp only [List.getElem_toArray, List.getElem_cons_succ, List.getElem_cons_zero, Act.put, List.setIfInBounds_toArray, List.set_cons_zero, List.set_cons_succ])
        refine wpAnyH_take (i := 8) (v := ?v8) rfl (by kernel_rfl) (by kernel_rfl) (by kernel_rfl) (fun _ _ _ h => h) (Or.inl ⟨by rfl, ?y8⟩) (by assumption) ?r8
        case y8 => ((intro w hSw); (try dsimp only at hSw); go_simp; (first | done | with_reducible rfl))
        (try simp only [List.getElem_toArray, List.getElem_cons_succ, List.getElem_cons_zero, Act.put, List.setIfInBounds_toArray, List.set_cons_zero, List.set_cons_succ])
        refine wpAnyH_take (i := 9) (v := ?v9) rfl (by kernel_rfl) (by kernel_rfl) (by kernel_rfl) (fun _ _ _ h => h) (Or.inl ⟨by rfl, ?y9⟩) (by assumption) ?r9
        case y9 => ((intro w hSw); (try dsimp only at hSw); go_simp; (first | done | with_reducible rfl))
        (try simp only [List.getElem_toArray, List.getElem_cons_succ, List.getElem_cons_zero, Act.put, List.setIfInBounds_toArray, List.set_cons_zero, List.set_cons_succ])
        refine wpAnyH_take (i := 10) (v := ?v10) rfl (by kernel_rfl) (by kernel_rfl) (by kernel_rfl) (fun _ _ _ h => h) (Or.inl ⟨by rfl, ?y10⟩) (by assumption) ?r10
        case y10 => ((intro w hSw); (try dsimp only at hSw); go_simp; (first | done | with_reducible rfl))
        (try simp only [List.getElem_toArray, List.getElem_cons_succ, List.getElem_cons_zero, Act.put, List.setIfInBounds_toArray, List.set_cons_zero, List.set_cons_succ])
        refine wpAnyH_take (i := 11) (v := ?v11) rfl (by kernel_rfl) (by kernel_rfl) (by kernel_rfl) (fun _ _ _ h => h) (Or.inl ⟨by rfl, ?y11⟩) (by assumption) ?r11
        case y11 => ((intro w hSw); (try dsimp only at hSw); go_simp; (first | done | with_reducible rfl))
        (try simp only [List.getElem_toArray, List.getElem_cons_succ, List.getElem_cons_zero, Act.put, List.setIfInBounds_toArray, List.set_cons_zero, List.set_cons_succ])
        refine wpAnyH_take (i := 12) (v := ?v12) rfl (by kernel_rfl) (by kernel_rfl) (by kernel_rfl) (fun _ _ _ h => h) (Or.inl ⟨by rfl, ?y12⟩) (by assumption) ?r12
        case y12 => ((intro w hSw); (try dsimp only at hSw); go_simp; (first | done | with_reducible rfl))
        (try simp only [List.getElem_toArray, List.getElem_cons_succ, List.getElem_cons_zero, Act.put, List.setIfInBounds_toArray, List.set_cons_zero, List.set_cons_succ])
        refine wpAnyH_take (i := 13) (v := undef) rfl (by kernel_rfl) (by kernel_rfl) (by kernel_rfl) (fun _ _ _ h => h) (Or.inr ⟨by rfl, rfl⟩) (by assumption) ?_
        (try simp only [List.getElem_toArray, List.getElem_cons_succ, List.getElem_cons_zero, Act.put, List.setIfInBounds_toArray, List.set_cons_zero, List.set_cons_succ])
        refine wpAnyH_take (i := 14) (v := undef) rfl (by kernel_rfl) (by kernel_rfl) (by kernel_rfl) (fun _ _ _ h => h) (Or.inr ⟨by rfl, rfl⟩) (by assumption) ?_
        (try simp only [List.getElem_toArray, List.getElem_cons_succ, List.getElem_cons_zero, Act.put, List.setIfInBounds_toArray, List.set_cons_zero, List.set_cons_succ])
        refine wpAnyH_take (i := 15) (v := undef) rfl (by kernel_rfl) (by kernel_rfl) (by kernel_rfl) (fun _ _ _ h => h) (Or.inr ⟨by rfl, rfl⟩) (by assumption) ?_
        (try simp only [List.getElem_toArray, List.getElem_cons_succ, List.getElem_cons_zero, Act.put, List.setIfInBounds_toArray, List.set_cons_zero, List.set_cons_succ])
        refine wpAnyH_take (i := 16) (v := ?v16) rfl (by kernel_rfl) (by kernel_rfl) (by kernel_rfl) (fun _ _ _ h => h) (Or.inl ⟨by rfl, ?y16⟩) (by assumption) ?r16
        case y16 => ((intro w hSw); (try dsimp only at hSw); go_simp; (first | done | with_reducible rfl))
        (try simp only [List.getElem_toArray, List.getElem_cons_succ, List.getElem_cons_zero, Act.put, List.setIfInBounds_toArray, List.set_cons_zero, List.set_cons_succ])
        refine wpAnyH_take (i := 17) (v := ?v17) rfl (by kernel_rfl) (by kernel_rfl) (by kernel_rfl) (fun _ _ _ h => h) (Or.inl ⟨by rfl, ?y17⟩) (by assumption) ?r17
        case y17 => ((intro w hSw); (try dsimp only at hSw); go_simp; (first | done | with_reducible rfl))
        (try simp only [List.getElem_toArray, List.getElem_cons_succ, List.getElem_cons_zero, Act.put, List.setIfInBounds_toArray, List.set_cons_zero, List.set_cons_succ])
        refine wpAnyH_take (i := 18) (v := undef) rfl (by kernel_rfl) (by kernel_rfl) (by kernel_rfl) (fun _ _ _ h => h) (Or.inr ⟨by rfl, rfl⟩) (by assumption) ?_
        (try simp only [List.getElem_toArray, List.getElem_cons_succ, List.getElem_cons_zero, Act.put, List.setIfInBounds_toArray, List.set_cons_zero, List.set_cons_succ])
        refine wpAnyH_take (i := 19) (v := undef) rfl (by kernel_rfl) (by kernel_rfl) (by kernel_rfl) (fun _ _ _ h => h) (Or.inr ⟨by rfl, rfl⟩) (by assumption) ?_
        (try simp only [List.getElem_toArray, List.getElem_cons_succ, List.getElem_cons_zero, Act.put, List.setIfInBounds_toArray, List.set_cons_zero, List.set_cons_succ])
        refine wpAnyH_take (i := 20) (v := undef) rfl (by kernel_rfl) (by kernel_rfl) (by kernel_rfl) (fun _ _ _ h => h) (Or.inr ⟨by rfl, rfl⟩) (by assumption) ?_
        (try simp only [List.getElem_toArray, List.getElem_cons_succ, List.getElem_cons_zero, Act.put, List.setIfInBounds_toArray, List.set_cons_zero, List.set_cons_succ])
        refine wpAnyH_take (i := 21) (v := ?v21) rfl (by kernel_rfl) (by kernel_rfl) (by kernel_rfl) (fun _ _ _ h => h) (Or.inl ⟨by rfl, ?y21⟩) (by assumption) ?r21
        case y21 => ((intro w hSw); (try dsimp only at hSw); go_simp; (first | done | with_reducible rfl))
        (try simp only [List.getElem_toArray, List.getElem_cons_succ, List.getElem_cons_zero, Act.put, List.setIfInBounds_toArray, List.set_cons_zero, List.set_cons_succ])
        refine wpAnyH_take (i := 22) (v := ?v22) rfl (by kernel_rfl) (by kernel_rfl) (by kernel_rfl) (fun _ _ _ h => h) (Or.inl ⟨by rfl, ?y22⟩) (by assumption) ?r22
        case y22 => ((intro w hSw); (try dsimp only at hSw); go_simp; (first | done | with_reducible rfl))
        (try simp only [List.getElem_toArray, List.getElem_cons_succ, List.getElem_cons_zero, Act.put, List.setIfInBounds_toArray, List.set_cons_zero, List.set_cons_succ])
        refine wpAnyH_take (i := 23) (v := undef) rfl (by kernel_rfl) (by kernel_rfl) (by kernel_rfl) (fun _ _ _ h => h) (Or.inr ⟨by rfl, rfl⟩) (by assumption) ?_
        (try simp only [List.getElem_toArray, List.getElem_cons_succ, List.getElem_cons_zero, Act.put, List.setIfInBounds_toArray, List.set_cons_zero, List.set_cons_succ])
        refine wpAnyH_take (i := 24) (v := undef) rfl (by kernel_rfl) (by kernel_rfl) (by kernel_rfl) (fun _ _ _ h => h) (Or.inr ⟨by rfl, rfl⟩) (by assumption) ?_
        (try simp only [List.getElem_toArray, List.getElem_cons_succ, List.getElem_cons_zero, Act.put, List.setIfInBounds_toArray, List.set_cons_zero, List.set_cons_succ])
        refine wpAnyH_take (i := 25) (v := undef) rfl (by kernel_rfl) (by kernel_rfl) (by kernel_rfl) (fun _ _ _ h => h) (Or.inr ⟨by rfl, rfl⟩) (by assumption) ?_
        (try simp only [List.getElem_toArray, List.getElem_cons_succ, List.getElem_cons_zero, Act.put, List.setIfInBounds_toArray, List.set_cons_zero, List.set_cons_succ])
        refine wpAnyH_take (i := 26) (v := ?v26) rfl (by kernel_rfl) (by kernel_rfl) (by kernel_rfl) (fun _ _ _ h => h) (Or.inl ⟨by rfl, ?y26⟩) (by assumption) ?r26
        case y26 => ((intro w hSw); (try dsimp only at hSw); go_simp; (first | done | with_reducible rfl))
        (try simp only [List.getElem_toArray, List.getElem_cons_succ, List.getElem_cons_zero, Act.put, List.setIfInBounds_toArray, List.set_cons_zero, List.set_cons_succ])
        refine wpAnyH_ready (rs := [27]) (by kernel_rfl) (by simp) ?_
        refine AllReadyH.cons rfl (fun K hK => ?_) AllReadyH.nil
        go_simp
        try (fail)
        refine hK.out _ _ (by first | (dsimp only; simp [go_sem, *]; done) | (simp [go_sem, *])) (fun hHeld => ?_)
        clear hK K
        (try simp only [List.getElem_toArray, List.getElem_cons_succ, List.getElem_cons_zero, Act.put, List.setIfInBounds_toArray, List.set_cons_zero, List.set_cons_succ])
        refine wpAnyH_take (i := 28) (v := ?v28) rfl (by kernel_rfl) (by kernel_rfl) (by kernel_rfl) (fun _ _ _ h => h) (Or.inl ⟨by rfl, ?y28⟩) (by assumption) ?r28
        case y28 => ((intro w hSw); (try dsimp only at hSw); go_simp; (first | done | with_reducible rfl))
        (try simp only [List.getElem_toArray, List.getElem_cons_succ, List.getElem_cons_zero, Act.put, List.setIfInBounds_toArray, List.set_cons_zero, List.set_cons_succ])
        refine wpAnyH_done (by kernel_rfl) ?_ _
        go_wp2
        refine bodyPost_ret (v := .tuple #[.agg #[.int .u64 (o 0), .int .u64 (o 1), .int .u64 (o 2), .int .u64 (o 3)], .bool false]) (by simp [results, Tryd.results54, go_sem, *]) rfl ?_
        exact ⟨o, false, rfl, fun j hj => HO.out j (by omega), fun hh => absurd (HV.out hh).1 h4.out, (by repeat (first | exact hX | refine Ext.setCell ?_ (by first | (simp; done) | (simp; omega)) _ | refine Ext.drew ?_ | refine Ext.drewN ?_ _))⟩

end Go.Proofs.YthckbfkhbegmgaaDoor

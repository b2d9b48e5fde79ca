/-
  Names and numbers of rules (layers 5 and 4).
-/
import Derived.Test.YtpeabgfolpgfjaaSymB
import Derived.Laws.IdiomStrings
namespace Go.Proofs.Ytpeabgfolpgfjaa
open Go.RowKit
set_option linter.unusedSimpArgs false

theorem rbet_any (n lo hi : Int) (w : World) : Calls Try.prog 79 #[.int .i64 n, .int .i64 lo, .int .i64 hi] w fun e w' => e = .returned (.bool (rng n lo hi)) ∧ w = w' := by
  obtain ⟨V, hV⟩ : ∃ V, rng n lo hi = V := ⟨_, rfl⟩
  have HV := Lib.hid hV
  rw [hV]
  clear hV
  go_enter Try.func79, Try.ntmps79
  go_wp2
  all_goals
    refine bodyPost_ret (v := .bool V) ?_ rfl ⟨rfl, rfl⟩
    rw [← HV.out]
    simp [results, Try.results79, go_sem, rng, *]
    try omega
def nmC (k : Nat) (x : Int) : Bool := decide ((65 ≤ x ∧ x ≤ 90) ∨ (k ≠ 0 ∧ (x = 95 ∨ x = 45 ∨ (48 ≤ x ∧ x ≤ 57))))
def nmX (L : List UInt8) (k : Nat) : Int := ((L.getD k 0).toNat : Nat)
def nmOk (L : List UInt8) : Bool := decide (∀ j, j < L.length → nmC j (nmX L j) = true) && decide (1 ≤ L.length ∧ L.length ≤ 16)
theorem nm_bad {L : List UInt8} {k : Nat} (hk : k < L.length) (h : nmC k (nmX L k) = false) : nmOk L = false := by
  unfold nmOk
  rw [Bool.and_eq_false_iff]
  refine Or.inl (decide_eq_false fun g => ?_)
  have := g k hk
  rw [h] at this; cases this
theorem nm_end {L : List UInt8} (h : ∀ j, j < L.length → nmC j (nmX L j) = true) : nmOk L = decide (1 ≤ L.length ∧ L.length ≤ 16) := by
  unfold nmOk
  rw [decide_eq_true h, Bool.true_and]
theorem bytes_world (L : List UInt8) (w : World) : ∃ (K : Nat) (W1 : World), (convert 9 127 (.string ⟨L.toArray⟩)).run Try.prog w = .ok (.slice (some ⟨w.heap.size, 0, none⟩) L.length K) W1 ∧ Ext w W1 ∧
    ∀ j, j < L.length → W1.cell? ⟨w.heap.size, j, none⟩ = some (.int .u8 (nmX L j)) := by
  refine ⟨_, _, run_bytes_of_string (P := Try.prog) w 9 127 5 ⟨L.toArray⟩ (by kernel_rfl) (by kernel_rfl) (by kernel_rfl), ((Ext.refl _).drew).alloc _, fun j hj => ?_⟩
  have h1 := bytesRow_at ⟨L.toArray⟩ (grownCap w (⟨L.toArray⟩ : ByteArray).size 0 5) j (by simpa using hj)
  have h2 := heap_alloc_new w.drew (.cells (bytesRow ⟨L.toArray⟩ (grownCap w (⟨L.toArray⟩ : ByteArray).size 0 5)) 5 ((bytesRow ⟨L.toArray⟩ (grownCap w (⟨L.toArray⟩ : ByteArray).size 0 5)).size, (bytesRow ⟨L.toArray⟩ (grownCap w (⟨L.toArray⟩ : ByteArray).size 0 5)).size + 1))
  refine (Lib.cell_of_heap h2 j).trans (h1.trans ?_)
  unfold nmX
  simp [List.getD, hj]

set_option maxRecDepth 20000 in
set_option maxHeartbeats 8000000 in
theorem name_any (L : List UInt8) (hl : L.length ≤ 9223372036854775807) (w : World) : Calls Try.prog 51 #[.string ⟨L.toArray⟩] w fun e w' => e = .returned (.bool (nmOk L)) ∧ Ext w w' := by
  obtain ⟨V, hVV⟩ : ∃ V, nmOk L = V := ⟨_, rfl⟩
  have HVV := Lib.hid hVV
  rw [hVV]
  clear hVV
  obtain ⟨K, W1, hcv, hE, hcell⟩ := bytes_world L w
  have HE := Lib.hid hE
  have HCL := Lib.hid hcell
  clear hE hcell
  go_enter Try.func51, Try.ntmps51
  go_wp2
  go_loop [9] (fun i => ∃ k : Nat, k ≤ L.length ∧ i = .int .i64 k ∧ ∀ j, j < k → nmC j (nmX L j) = true) (fun i => L.length - (intOf i).toNat)
  case atStart => exact ⟨0, by omega, rfl, fun j hj => by omega⟩
  case round =>
    obtain ⟨k, hk, rfl, hn⟩ := hrel
    by_cases hlt : k < L.length
    · have hc := HCL.out k hlt
      obtain ⟨x, hx⟩ : ∃ x, nmX L k = x := ⟨_, rfl⟩
      rw [hx] at hc
      have HX := Lib.hid hx
      have hx0 : 0 ≤ x ∧ x ≤ 255 := by
        rw [← hx]; unfold nmX
        have := (L.getD k 0).toNat_lt
        omega
      have HS : Hid (nmC k (nmX L k) = true → ∀ j, j < k + 1 → nmC j (nmX L j) = true) := fun h0 j hj => by
        rcases Nat.lt_or_ge j k with h | h
        · exact hn j h
        · have : j = k := by omega
          subst this; exact h0
      clear hx hn
      by_cases q1 : x < 65
      · by_cases hk0 : k = 0
        · have HB : Hid (nmOk L = false) := nm_bad hlt (by rw [HX.out]; unfold nmC; rw [decide_eq_false_iff_not]; omega)
          clear hx0
          subst hk0
          go_wp2
          go_ret
          exact ⟨by rw [← HVV.out, HB.out]; rfl, HE.out⟩

        · have hk1 : ¬ ((k : Int) = 0) := (by omega); have hk2 : ((k : Int) == 0) = false := by simpa using hk1
          by_cases q2 : x = 45
          · have HN2 : Hid (∀ j, j < k + 1 → nmC j (nmX L j) = true) := HS.out (by rw [HX.out]; unfold nmC; rw [decide_eq_true_eq]; omega)
            subst q2
            clear hx0
            go_wp2
            go_round
            case rel => exact ⟨k + 1, by omega, by go_num, HN2.out⟩
            case measure => simp [intOf]; omega

          · by_cases q3 : x < 48
            · have HB : Hid (nmOk L = false) := nm_bad hlt (by rw [HX.out]; unfold nmC; rw [decide_eq_false_iff_not]; omega)
              have n1 : ¬ (x = 95) := (by omega); have m1 : (x != 95) = true := (by simpa using n1); have m2 : (x != 45) = true := by simpa using q2
              clear hx0
              go_wp2
              go_ret
              exact ⟨by rw [← HVV.out, HB.out]; rfl, HE.out⟩

            · by_cases q4 : 57 < x
              · have HB : Hid (nmOk L = false) := nm_bad hlt (by rw [HX.out]; unfold nmC; rw [decide_eq_false_iff_not]; omega)
                have n1 : ¬ (x = 95) := (by omega); have m1 : (x != 95) = true := (by simpa using n1); have m2 : (x != 45) = true := by simpa using q2
                clear hx0
                go_wp2
                go_ret
                exact ⟨by rw [← HVV.out, HB.out]; rfl, HE.out⟩

              · have HN2 : Hid (∀ j, j < k + 1 → nmC j (nmX L j) = true) := HS.out (by rw [HX.out]; unfold nmC; rw [decide_eq_true_eq]; omega)
                have n1 : ¬ (x = 95) := (by omega); have m1 : (x != 95) = true := (by simpa using n1); have m2 : (x != 45) = true := by simpa using q2
                clear hx0
                go_wp2
                go_round
                case rel => exact ⟨k + 1, by omega, by go_num, HN2.out⟩
                case measure => simp [intOf]; omega

      · by_cases q5 : 90 < x
        · have m9 : decide (x ≤ 90) = false := decide_eq_false (by omega)
          by_cases hk0 : k = 0
          · have HB : Hid (nmOk L = false) := nm_bad hlt (by rw [HX.out]; unfold nmC; rw [decide_eq_false_iff_not]; omega)
            clear hx0
            subst hk0
            go_wp2
            go_ret
            exact ⟨by rw [← HVV.out, HB.out]; rfl, HE.out⟩

          · have hk1 : ¬ ((k : Int) = 0) := (by omega); have hk2 : ((k : Int) == 0) = false := by simpa using hk1
            by_cases q2 : x = 95
            · have HN2 : Hid (∀ j, j < k + 1 → nmC j (nmX L j) = true) := HS.out (by rw [HX.out]; unfold nmC; rw [decide_eq_true_eq]; omega)
              subst q2
              clear hx0
              go_wp2
              go_round
              case rel => exact ⟨k + 1, by omega, by go_num, HN2.out⟩
              case measure => simp [intOf]; omega

            · have HB : Hid (nmOk L = false) := nm_bad hlt (by rw [HX.out]; unfold nmC; rw [decide_eq_false_iff_not]; omega)
              have n1 : ¬ (x = 45) := (by omega); have m1 : (x != 95) = true := (by simpa using q2); have m2 : (x != 45) = true := (by simpa using n1); have m3 : decide (x ≤ 90) = false := decide_eq_false (by omega)
              have n2 : ¬ (x < 48) := by omega
              have n3 : 57 < x := by omega
              clear hx0
              go_wp2
              go_ret
              exact ⟨by rw [← HVV.out, HB.out]; rfl, HE.out⟩

        · have HN2 : Hid (∀ j, j < k + 1 → nmC j (nmX L j) = true) := HS.out (by rw [HX.out]; unfold nmC; rw [decide_eq_true_eq]; omega)
          clear hx0
          go_wp2
          go_round
          case rel => exact ⟨k + 1, by omega, by go_num, HN2.out⟩
          case measure => simp [intOf]; omega

    · obtain rfl : k = L.length := by omega
      have HV := Lib.hid (nm_end hn)
      clear hn
      go_wp2
      all_goals
        refine bodyPost_ret (v := .bool V) ?_ rfl ⟨rfl, HE.out⟩
        rw [← HVV.out, HV.out]
        simp [results, Try.results51, go_sem, *]
        try first | omega | (intros; omega) | (rw [Bool.eq_iff_iff]; simp only [Bool.and_eq_true, decide_eq_true_eq]; omega)

end Go.Proofs.Ytpeabgfolpgfjaa

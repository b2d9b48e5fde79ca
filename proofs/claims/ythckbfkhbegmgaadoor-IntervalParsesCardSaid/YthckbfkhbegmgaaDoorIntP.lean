/-
  The reference's division by ten (layer 2).
-/
import Derived.Test.YthckbfkhbegmgaaDoorDivP
import Derived.WalkSmall
import Derived.RegionTactic
import Derived.ChangeAlike
import Derived.Deep.DeepCutAuto
import Derived.Deep.CutBlock
namespace Go.Proofs.YthckbfkhbegmgaaDoor
open Go.RowKit
set_option linter.unusedSimpArgs false

/-- The number in block b, the result in the next, the quotient in the next but one. -/
structure DI (w : World) (b : Nat) (P Q : Nat) (wr : World) : Prop where
  ext : Ext w wr
  hb : w.heap.size = b
  pb : wr.heap[b]? = some (.cells #[.int .u64 (lb P 0 : Nat), .int .u64 (lb P 1 : Nat), .int .u64 (lb P 2 : Nat), .int .u64 (lb P 3 : Nat)] 57 (0, 0))
  rb : wr.heap[b + 1]? = some (.cells #[.int .u64 0, .int .u64 0, .int .u64 0, .int .u64 0] 57 (0, 0))
  qb : wr.heap[b + 1 + 1]? = some (.cells #[.int .u64 (lb Q 0 : Nat), .int .u64 (lb Q 1 : Nat), .int .u64 (lb Q 2 : Nat), .int .u64 (lb Q 3 : Nat)] 57 (0, 0))
theorem lim_at (Q : Nat) : ∀ j, j < 4 → (#[.int .u64 (lb Q 0 : Nat), .int .u64 (lb Q 1 : Nat), .int .u64 (lb Q 2 : Nat), .int .u64 (lb Q 3 : Nat)] : Array Value)[j]? = some (.int .u64 (lb Q j : Nat))
  | 0, _ => rfl
  | 1, _ => rfl
  | 2, _ => rfl
  | 3, _ => rfl
theorem DI.p {w wr : World} {b P Q : Nat} (h : DI w b P Q wr) {j : Nat} (hj : j < 4) : wr.cell? ⟨b, j, none⟩ = some (.int .u64 (lb P j : Nat)) := (Lib.cell_of_heap h.pb j).trans (lim_at P j hj)
theorem DI.q {w wr : World} {b P Q : Nat} (h : DI w b P Q wr) {j : Nat} (hj : j < 4) : wr.cell? ⟨b + 1 + 1, j, none⟩ = some (.int .u64 (lb Q j : Nat)) ∧ wr.frozen? ⟨b + 1 + 1, j, none⟩ = false :=
  ⟨(Lib.cell_of_heap h.qb j).trans (lim_at Q j hj), by have := h.qb; simp [World.frozen?, this]⟩
theorem lim_set (Q i : Nat) (hi : i < 128) : (#[.int .u64 (lb Q 0 : Nat), .int .u64 (lb Q 1 : Nat), .int .u64 (lb Q 2 : Nat), .int .u64 (lb Q 3 : Nat)] : Array Value).setIfInBounds (i / 32) (.int .u64 (lb Q (i / 32) ||| 2 ^ (i % 32) : Nat)) = #[.int .u64 (lb (Q ||| 2 ^ i) 0 : Nat), .int .u64 (lb (Q ||| 2 ^ i) 1 : Nat), .int .u64 (lb (Q ||| 2 ^ i) 2 : Nat), .int .u64 (lb (Q ||| 2 ^ i) 3 : Nat)] := by
  have h : i / 32 = 0 ∨ i / 32 = 1 ∨ i / 32 = 2 ∨ i / 32 = 3 := by omega
  simp only [lb_or, lb_pow]
  rcases h with h | h | h | h <;> rw [h] <;> simp
theorem DI.grow {w wr w' : World} {b P Q : Nat} (h : DI w b P Q wr) (x : Ext wr w') : DI w b P Q w' where
  ext := h.ext.trans x
  hb := h.hb
  pb := (x.block _ (Array.getElem?_eq_some_iff.1 h.pb).1).trans h.pb
  rb := (x.block _ (Array.getElem?_eq_some_iff.1 h.rb).1).trans h.rb
  qb := (x.block _ (Array.getElem?_eq_some_iff.1 h.qb).1).trans h.qb
theorem DI.set {w wr : World} {b P Q i : Nat} (h : DI w b P Q wr) (hi : i < 128) : DI w b P (Q ||| 2 ^ i) (wr.setCell ⟨b + 1 + 1, i / 32, none⟩ (.int .u64 (lb Q (i / 32) ||| 2 ^ (i % 32) : Nat))) where
  ext := h.ext.setCell (by have := h.hb; show w.heap.size ≤ b + 1 + 1; omega) _
  hb := h.hb
  pb := by rw [Below.heap_setCell _ _ _ _ (show b ≠ b + 1 + 1 by omega)]; exact h.pb
  rb := by rw [Below.heap_setCell _ _ _ _ (show b + 1 ≠ b + 1 + 1 by omega)]; exact h.rb
  qb := by rw [← lim_set Q i hi]; exact heap_setCell_same _ _ _ _ _ _ h.qb
theorem bit_fact (P r i : Nat) (hr : r < 10) (x : Int) (hx : x = (lb P (i / 32) : Nat)) : bits .or .u64 ((r : Int) * 2) (bits .and .u64 (x / 2 ^ (i % 32)) 1) = ((2 * r + P / 2 ^ i % 2 : Nat) : Int) := by
  have hl := lb_lt P (i / 32)
  have hbit := lb_bit P i
  have h2 : P / 2 ^ i % 2 < 2 := Nat.mod_lt _ (by decide)
  have hq : lb P (i / 32) / 2 ^ (i % 32) ≤ lb P (i / 32) := Nat.div_le_self _ _
  have e0 : x / 2 ^ (i % 32) = ((lb P (i / 32) / 2 ^ (i % 32) : Nat) : Int) := by rw [hx]; push_cast; rfl
  rw [e0]
  generalize lb P (i / 32) / 2 ^ (i % 32) = y at hbit hq
  have hy : (y : Int) ≤ 18446744073709551615 := by omega
  rw [and_one_u64 _ (by omega) hy]
  have e1 : (y : Int) % 2 = ((P / 2 ^ i % 2 : Nat) : Int) := by rw [← hbit]; omega
  rw [e1]
  generalize P / 2 ^ i % 2 = b at h2
  have e := Nat.two_pow_add_eq_or_of_lt (i := 1) (b := b) (by omega) r
  have := bits_or_u64_nat (2 ^ 1 * r) b (by omega) (by omega)
  rw [← e] at this
  rw [show (r : Int) * 2 = ((2 ^ 1 * r : Nat) : Int) by omega]
  exact this
theorem di_new (w : World) (P : Nat) : DI w w.heap.size P 0 (((w.alloc (.cells #[.int .u64 (lb P 0 : Nat), .int .u64 (lb P 1 : Nat), .int .u64 (lb P 2 : Nat), .int .u64 (lb P 3 : Nat)] 57)).alloc (.cells #[.int .u64 0, .int .u64 0, .int .u64 0, .int .u64 0] 57)).alloc (.cells #[.int .u64 0, .int .u64 0, .int .u64 0, .int .u64 0] 57)) where
  ext := (((Ext.refl w).alloc _).alloc _).alloc _
  hb := rfl
  pb := (Below.heap_alloc _ _ _ (by simp; omega)).trans ((Below.heap_alloc _ _ _ (by simp)).trans (heap_alloc_new w _))
  rb := (Below.heap_alloc _ _ _ (by simp)).trans (by have := heap_alloc_new (w.alloc (.cells #[.int .u64 (lb P 0 : Nat), .int .u64 (lb P 1 : Nat), .int .u64 (lb P 2 : Nat), .int .u64 (lb P 3 : Nat)] 57)) (.cells #[.int .u64 0, .int .u64 0, .int .u64 0, .int .u64 0] 57); rwa [show (w.alloc (.cells #[.int .u64 (lb P 0 : Nat), .int .u64 (lb P 1 : Nat), .int .u64 (lb P 2 : Nat), .int .u64 (lb P 3 : Nat)] 57)).heap.size = w.heap.size + 1 by simp] at this)
  qb := by
    have h1 := heap_alloc_new ((w.alloc (.cells #[.int .u64 (lb P 0 : Nat), .int .u64 (lb P 1 : Nat), .int .u64 (lb P 2 : Nat), .int .u64 (lb P 3 : Nat)] 57)).alloc (.cells #[.int .u64 0, .int .u64 0, .int .u64 0, .int .u64 0] 57)) (.cells #[.int .u64 0, .int .u64 0, .int .u64 0, .int .u64 0] 57)
    rw [show ((w.alloc (.cells #[.int .u64 (lb P 0 : Nat), .int .u64 (lb P 1 : Nat), .int .u64 (lb P 2 : Nat), .int .u64 (lb P 3 : Nat)] 57)).alloc (.cells #[.int .u64 0, .int .u64 0, .int .u64 0, .int .u64 0] 57)).heap.size = w.heap.size + 1 + 1 by simp] at h1
    have e : ∀ j, lb 0 j = 0 := fun j => by simp [lb]
    simp only [e]
    exact h1
theorem or_fact (Q a c : Nat) (hc : c < 32) : bits .or .u64 ((lb Q a : Nat) : Int) (IntKind.u64.wrap (2 ^ c)) = ((lb Q a ||| 2 ^ c : Nat) : Int) := by
  have h1 : 2 ^ c ≤ 2 ^ 31 := Nat.pow_le_pow_right (by decide) (by omega)
  have h2 : ∀ m : Nat, m ≤ 2 ^ 31 → IntKind.u64.wrap (m : Int) = (m : Int) := fun m h => by rw [IntKind.wrap_u64]; omega
  have e : ((2 : Int) ^ c) = ((2 ^ c : Nat) : Int) := by push_cast; rfl
  have hl := lb_lt Q a
  rw [e, h2 _ h1]
  exact bits_or_u64_nat _ _ (by omega) (Nat.lt_of_le_of_lt h1 (by decide))
theorem div10_any (P : Nat) (hP : P < 2 ^ 128) (w : World) :
    Calls Tryd.prog 32 #[.agg #[.int .u64 (lb P 0 : Nat), .int .u64 (lb P 1 : Nat), .int .u64 (lb P 2 : Nat), .int .u64 (lb P 3 : Nat)], .int .u64 10] w fun e w' => e = .returned (.tuple #[.agg #[.int .u64 (lb (P / 10) 0 : Nat), .int .u64 (lb (P / 10) 1 : Nat), .int .u64 (lb (P / 10) 2 : Nat), .int .u64 (lb (P / 10) 3 : Nat)], .int .u64 (P % 10 : Nat)]) ∧ Ext w w' := by
  go_enter Tryd.func32, Tryd.ntmps32
  go_wp2
  go_loopw [7, 8] (fun rs i wr => ∃ (k r Q : Nat) (z : Int), k ≤ 128 ∧ z = (k : Int) - 1 ∧ i = .int .i64 z ∧ rs = .int .u64 r ∧ Dv P k r Q ∧ DI w w.heap.size P Q wr) (fun _ i _ => ((intOf i) + 1).toNat)
  case atStart => exact ⟨128, 0, 0, 127, by omega, by omega, rfl, rfl, Dv.start hP, di_new w P⟩
  case round =>
    obtain ⟨k, r, Q, z, hk, hz, rfl, rfl, hD, hI⟩ := hrel
    rcases k with _ | i
    · obtain rfl : z = -1 := by omega
      obtain ⟨s1, s2⟩ := hD.stop
      subst s1 s2
      have p0 := (hI.q (j := 0) (by omega)).1
      have p1 := (hI.q (j := 1) (by omega)).1
      have p2 := (hI.q (j := 2) (by omega)).1
      have p3 := (hI.q (j := 3) (by omega)).1
      have t0 : wr.cell? ⟨w.heap.size + 1, 0, none⟩ = some (.int .u64 0) := Lib.cell_of_heap hI.rb 0
      have t1 : wr.cell? ⟨w.heap.size + 1, 1, none⟩ = some (.int .u64 0) := Lib.cell_of_heap hI.rb 1
      have t2 : wr.cell? ⟨w.heap.size + 1, 2, none⟩ = some (.int .u64 0) := Lib.cell_of_heap hI.rb 2
      have t3 : wr.cell? ⟨w.heap.size + 1, 3, none⟩ = some (.int .u64 0) := Lib.cell_of_heap hI.rb 3
      have fz : ∀ j, wr.frozen? ⟨w.heap.size + 1, j, none⟩ = false := fun j => by have := hI.rb; simp [World.frozen?, this]
      have f0 := fz 0
      have f1 := fz 1
      have f2 := fz 2
      have f3 := fz 3
      have hE := hI.ext
      have HI := Lib.hid hI
      clear fz hI hD hz
      go_wp2
      refine bodyPost_ret (v := .tuple #[.agg #[.int .u64 (lb (P / 10) 0 : Nat), .int .u64 (lb (P / 10) 1 : Nat), .int .u64 (lb (P / 10) 2 : Nat), .int .u64 (lb (P / 10) 3 : Nat)], .int .u64 (P % 10 : Nat)]) (by simp [results, Tryd.results32, go_sem, *]) rfl ?_
      exact ⟨rfl, by repeat (first | exact hE | refine Ext.setCell ?_ (by first | exact Nat.le_refl _ | (simp; done) | (simp; omega)) _)⟩
    · obtain rfl : z = (i : Int) := by omega
      obtain ⟨a, ha⟩ : ∃ a, i / 32 = a := ⟨_, rfl⟩
      obtain ⟨c, hc⟩ : ∃ c, i % 32 = c := ⟨_, rfl⟩
      have ha4 : a < 4 := by omega
      have hc32 : c < 32 := by omega
      have hr10 : r < 10 := by rw [hD.r]; exact Nat.mod_lt _ (by decide)
      have e1 : (i : Int).tdiv 32 = (a : Int) := by rw [Int.tdiv_eq_ediv_of_nonneg (by omega)]; omega
      have e1' : (i : Int) / 32 = (a : Int) := by omega
      have e2 : (i : Int).tmod 32 = (c : Int) := by rw [Int.tmod_eq_emod_of_nonneg (by omega)]; omega
      have e2' : (i : Int) % 32 = (c : Int) := by omega
      have cp := hI.p ha4
      obtain ⟨cq, fq⟩ := hI.q ha4
      have HI := Lib.hid hI
      have HD := Lib.hid hD
      have hr63 : (r : Int) / 9223372036854775808 = 0 := by omega
      have hi0 : (0 : Int) ≤ (i : Int) := by omega
      have hbf := bit_fact P r i hr10 _ rfl
      have HST := Lib.hid (show (2 * r + P / 2 ^ i % 2 < 10 → Dv P i (2 * r + P / 2 ^ i % 2) Q) ∧ (10 ≤ 2 * r + P / 2 ^ i % 2 → Dv P i (2 * r + P / 2 ^ i % 2 - 10) (Q ||| 2 ^ i)) from ⟨fun h => hD.no rfl h, fun h => hD.yes rfl h⟩)
      have hT19 : 2 * r + P / 2 ^ i % 2 < 20 := by omega
      have HSET := Lib.hid (hI.set (show i < 128 by omega))
      rw [ha, hc] at hbf HSET
      obtain ⟨t, ht⟩ : ∃ t, 2 * r + P / 2 ^ i % 2 = t := ⟨_, rfl⟩
      rw [ht] at hbf hT19 HST
      clear hI hD hz ha hc ht
      by_cases hge : 10 ≤ t
      · have hge' : (10 : Int) ≤ (t : Nat) := by omega
        have hsub : ((t : Nat) : Int) - 10 = ((t - 10 : Nat) : Int) := by omega
        have HD2 := Lib.hid (HST.out.2 hge)
        clear HST
        have hor := or_fact Q a c hc32
        go_wp2
        go_region
        all_goals
          go_wp2
          go_roundw
          case rel => exact ⟨i, t - 10, Q ||| 2 ^ i, (i : Int) - 1, by omega, rfl, rfl, rfl, HD2.out, HSET.out.grow (Ext.refl _).drew⟩
          case measure => first | (simp [intOf]; done) | (simp [intOf]; omega)
      · have hge' : ¬ (10 : Int) ≤ (t : Nat) := by omega
        have HD2 := Lib.hid (HST.out.1 (by omega))
        clear HST
        go_wp2
        go_roundw
        case rel => exact ⟨i, t, Q, (i : Int) - 1, by omega, rfl, rfl, rfl, HD2.out, HI.out⟩
        case measure => first | (simp [intOf]; done) | (simp [intOf]; omega)

end Go.Proofs.YthckbfkhbegmgaaDoor

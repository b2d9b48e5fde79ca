/-
  The tables of Linear are valid; awake of layer 37's statements returns true.
-/
import Derived.Test.YtoemcpndmfimiaaResF
namespace Go.Proofs.Ytoemcpndmfimiaa
open Go.RowKit
set_option linter.unusedSimpArgs false

theorem lin_shape {o k p : Nat} (h1 : 1 ≤ o) (h2 : o ≤ 90) (h3 : 1 ≤ k) (h4 : k ≤ 10) (hp : p * (o * k) = 10000) : shapeV (o + 1) (fun _ => k) (linZ (lq o k) k) = 0 :=
  shape_ok (by omega) (by omega) (fun _ _ => rfl) (fun i hi j hj => by have := lin_bd (u := i) (j := j) h1 h2 h3 h4 hp (by omega) (by omega); omega)
theorem lin_check {o k p : Nat} (h1 : 1 ≤ o) (h2 : o ≤ 90) (h3 : 1 ≤ k) (h4 : k ≤ 10) (hp : p * (o * k) = 10000) : checkV (o + 1) (fun _ => k) (linZ (lq o k) k) = 0 := by
  have hs := lin_shape h1 h2 h3 h4 hp
  have hpi : (p : Int) * ((o : Int) * (k : Int)) = 10000 := by
    have := congrArg (fun x : Nat => (x : Int)) hp
    simpa using this
  have hq := lq_eq h1 h3 hp
  have hq0 : 0 ≤ lq o k := by omega
  have he : endsV (o + 1) (fun _ => k) (linZ (lq o k) k) = 0 := by
    refine ends_ok (fun j _ => by simp [linZ]) ?_
    show linZ (lq o k) k (o + 1 - 1) 0 = 10000
    rw [hq]; unfold linZ
    simpa using hpi
  refine check_ok ((rends_ends hs).trans he) (fun u _ w hw => ord_mk ?_ ?_) (fun u h _ w _ => ?_)
  · rcases Nat.eq_zero_or_pos u with h | h
    · exact .inl h
    · refine .inr (Int.mul_le_mul_of_nonneg_left ?_ hq0)
      exact Int.mul_le_mul_of_nonneg_right (by omega) (by omega)
  · rcases Nat.lt_or_ge (w + 1) k with h | h
    · refine .inr (Int.mul_le_mul_of_nonneg_left ?_ hq0)
      exact Int.mul_le_mul_of_nonneg_left (by omega) (by omega)
    · exact .inl h
  · obtain ⟨v, rfl⟩ : ∃ v, u = v + 2 := ⟨u - 2, by omega⟩
    have e1 : v + 2 - 1 = v + 1 := rfl
    have e2 : v + 2 - 2 = v := rfl
    unfold ConAt
    rw [e1, e2]
    unfold linZ
    have m1 : ((v + 2 : Nat) : Int) * ((k : Int) - (w : Int)) = (v : Int) * ((k : Int) - (w : Int)) + 2 * ((k : Int) - (w : Int)) := by
      rw [show ((v + 2 : Nat) : Int) = (v : Int) + 2 by omega, Int.add_mul]
    have m2 : ((v + 1 : Nat) : Int) * ((k : Int) - (w : Int)) = (v : Int) * ((k : Int) - (w : Int)) + ((k : Int) - (w : Int)) := by
      rw [show ((v + 1 : Nat) : Int) = (v : Int) + 1 by omega, Int.add_mul, Int.one_mul]
    rw [m1, m2, Int.mul_add, Int.mul_add, show 2 * ((k : Int) - (w : Int)) = ((k : Int) - (w : Int)) + ((k : Int) - (w : Int)) by omega, Int.mul_add (lq o k) ((k : Int) - (w : Int))]
    omega
theorem at45 : atV 5 (fun _ => 5) (linZ (lq 4 5) 5) 6 9 0 = 22500 ∧ atE 5 (fun _ => 5) (linZ (lq 4 5) 5) 6 9 0 = 0 := by
  have hc : checkV 5 (fun _ => 5) (linZ (lq 4 5) 5) = 0 := lin_check (o := 4) (k := 5) (p := 500) (by omega) (by omega) (by omega) (by omega) (by omega)
  obtain ⟨e1, e2⟩ := at_some hc (per := 6) (balls := 9) (wk := 0) (by unfold AtR; simp) (by simp)
  rw [e1, e2]
  exact ⟨by decide +kernel, rfl⟩
/-- Three rows of one number. -/
def z3 (x0 x1 x2 : Int) (i _j : Nat) : Int := match i with | 0 => x0 | 1 => x1 | _ => x2
def w3 (w : World) (x0 x1 x2 : Int) : World :=
  (((w.alloc (.cells #[.int .i64 x0] 2)).alloc (.cells #[.int .i64 x1] 2)).alloc (.cells #[.int .i64 x2] 2)).alloc
    (.cells #[.slice (some ⟨w.heap.size, 0, none⟩) 1 1, .slice (some ⟨w.heap.size + 1, 0, none⟩) 1 1, .slice (some ⟨w.heap.size + 1 + 1, 0, none⟩) 1 1] 27)
theorem w3_heap (w : World) (x0 x1 x2 : Int) : (w3 w x0 x1 x2).heap[w.heap.size]? = some (.cells #[.int .i64 x0] 2) ∧ (w3 w x0 x1 x2).heap[w.heap.size + 1]? = some (.cells #[.int .i64 x1] 2) ∧ (w3 w x0 x1 x2).heap[w.heap.size + 2]? = some (.cells #[.int .i64 x2] 2) ∧
    (w3 w x0 x1 x2).heap[w.heap.size + 3]? = some (.cells #[.slice (some ⟨w.heap.size, 0, none⟩) 1 1, .slice (some ⟨w.heap.size + 1, 0, none⟩) 1 1, .slice (some ⟨w.heap.size + 1 + 1, 0, none⟩) 1 1] 27) := by
  unfold w3
  have s (x : World) (o : Obj) : (x.alloc o).heap.size = x.heap.size + 1 := by simp
  have n1 := heap_alloc_new w (.cells #[.int .i64 x0] 2)
  have n2 := heap_alloc_new (w.alloc (.cells #[.int .i64 x0] 2)) (.cells #[.int .i64 x1] 2)
  have n3 := heap_alloc_new ((w.alloc (.cells #[.int .i64 x0] 2)).alloc (.cells #[.int .i64 x1] 2)) (.cells #[.int .i64 x2] 2)
  have n4 := heap_alloc_new (((w.alloc (.cells #[.int .i64 x0] 2)).alloc (.cells #[.int .i64 x1] 2)).alloc (.cells #[.int .i64 x2] 2)) (.cells #[.slice (some ⟨w.heap.size, 0, none⟩) 1 1, .slice (some ⟨w.heap.size + 1, 0, none⟩) 1 1, .slice (some ⟨w.heap.size + 1 + 1, 0, none⟩) 1 1] 27)
  simp only [s] at n2 n3 n4
  refine ⟨?_, ?_, ?_, n4⟩
  · rw [Below.heap_alloc _ _ _ (by simp only [s]; omega), Below.heap_alloc _ _ _ (by simp only [s]; omega), Below.heap_alloc _ _ _ (by simp only [s]; omega)]; exact n1
  · rw [Below.heap_alloc _ _ _ (by simp only [s]; omega), Below.heap_alloc _ _ _ (by simp only [s]; omega)]; exact n2
  · rw [Below.heap_alloc _ _ _ (by simp only [s]; omega)]; exact n3
theorem tab3 (w : World) (x0 x1 x2 : Int) (h0 : 0 ≤ x0 ∧ x0 ≤ 10000) (h1 : 0 ≤ x1 ∧ x1 ≤ 10000) (h2 : 0 ≤ x2 ∧ x2 ≤ 10000) :
    TabAt (w3 w x0 x1 x2) (some ⟨w.heap.size + 1 + 1 + 1, 0, none⟩) 3 (fun i => some ⟨w.heap.size + i, 0, none⟩) (fun _ => 1) (fun _ => 1) (z3 x0 x1 x2) (w.heap.size + 1 + 1 + 1) 0 (fun i => w.heap.size + i) (fun _ => 0) := by
  obtain ⟨e0, e1, e2, e3⟩ := w3_heap w x0 x1 x2
  have hs : (w3 w x0 x1 x2).heap.size = w.heap.size + 4 := by simp [w3]
  refine ⟨by omega, fun _ _ => by omega, fun _ => ⟨rfl, by omega⟩, fun i hi => ?_, fun i hi _ => ⟨rfl, by omega⟩, fun i j hi hj => ?_, fun i j hi _ => ?_⟩
  · have : i = 0 ∨ i = 1 ∨ i = 2 := by omega
    rcases this with rfl | rfl | rfl <;> simp [World.cell?, e3]
  · obtain rfl : j = 0 := by omega
    have : i = 0 ∨ i = 1 ∨ i = 2 := by omega
    rcases this with rfl | rfl | rfl <;> simp [World.cell?, e0, e1, e2, z3]
  · have : i = 0 ∨ i = 1 ∨ i = 2 := by omega
    rcases this with rfl | rfl | rfl <;> simp only [z3] <;> omega
theorem z3_rends (x1 : Int) (h : 0 ≤ x1 ∧ x1 ≤ 10000) : rendsV 3 (fun _ => 1) (z3 0 x1 10000) = 0 := by
  have hs : shapeV 3 (fun _ => 1) (z3 0 x1 10000) = 0 := by
    refine shape_ok (by omega) (by omega) (fun _ _ => rfl) (fun i hi j hj => ?_)
    have : i = 0 ∨ i = 1 ∨ i = 2 := by omega
    rcases this with rfl | rfl | rfl <;> simp only [z3] <;> omega
  exact (rends_ends hs).trans (ends_ok (fun j _ => rfl) rfl)
theorem z3_ord (x1 : Int) (h : 0 ≤ x1 ∧ x1 ≤ 10000) : OrdTo (fun _ => 1) (z3 0 x1 10000) 3 := fun u hu w hw => by
  refine ord_mk ?_ (.inl (by omega))
  have : u = 0 ∨ u = 1 ∨ u = 2 := by omega
  rcases this with rfl | rfl | rfl
  · exact .inl rfl
  · exact .inr h.1
  · exact .inr h.2
theorem z3_ok : checkV 3 (fun _ => 1) (z3 0 6000 10000) = 0 := by
  refine check_ok (z3_rends _ (by omega)) (z3_ord _ (by omega)) (fun u h2 hu w hw => ?_)
  obtain rfl : u = 2 := by omega
  show (10000 : Int) - 6000 ≤ 6000 - 0
  omega
theorem z3_no : checkV 3 (fun _ => 1) (z3 0 4000 10000) = 13 := by
  refine check_con (z3_rends _ (by omega)) (z3_ord _ (by omega)) (u := 2) (w := 0) (by omega) (by omega) (by omega) ?_
  show ¬ ((10000 : Int) - 4000 ≤ 4000 - 0)
  omega

end Go.Proofs.Ytoemcpndmfimiaa

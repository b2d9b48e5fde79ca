/-
  Bounds, players, and whether an innings has begun.
-/
import Derived.Test.YtpeabgfolpgfjaaRvB
import Derived.Test.YtpeabgfolpgfjaaNotP
import Derived.Deep.DeepCutAuto
import Derived.LoopN
import Derived.BigFrame
namespace Go.Proofs.Ytpeabgfolpgfjaa
open Go.RowKit Go.Lib
set_option linter.unusedSimpArgs false

theorem at_list {P : Program} {ops : Array Oper} {Q : Exit → Act → World → Prop} {l : List Oper} {a : Act} {w : World} (h : wpList P ops Q l a w) : wpList P ops Q l a w := h
/-- The rules of the law, with so many reviews. -/
def rvC (n : Int) : Array Value := #[.string ⟨#[82]⟩, .int .i64 3, .int .i64 1, .int .i64 0, .int .i64 8, .int .i64 0, .int .i64 1, .int .i64 1, .bool false, .int .i64 0, .int .i64 0, .int .i64 n, .int .i64 3, .slice none 0 0]
/-- The fair ball of the law. -/
def dlC : Array Value := #[.int .u8 1, .int .u8 0, .int .i64 0, .int .i64 0, .int .i64 0, .bool false, .int .u8 0, .int .i64 0, .int .i64 0, .int .i64 0, .bool false, .int .i64 0]
def BoxI (w : World) (b : Nat) (I : In) (h0 h1 h2 h3 h4 : Value) : Prop := w.heap[b]? = some (.cells (inC I h0 h1 h2 h3 h4) 34 (0, 0))
def BoxR (w : World) (b : Nat) (n : Int) : Prop := w.heap[b]? = some (.cells (rvC n) 25 (0, 0))
def BoxL (w : World) (b : Nat) : Prop := w.heap[b]? = some (.cells dlC 53 (0, 0))

theorem boxI_new (w : World) (I : In) (h0 h1 h2 h3 h4 : Value) : BoxI (w.alloc (.cells (inC I h0 h1 h2 h3 h4) 34)) w.heap.size I h0 h1 h2 h3 h4 := heap_alloc_new w _
theorem BoxI.lt {w : World} {b : Nat} {I : In} {h0 h1 h2 h3 h4 : Value} (h : BoxI w b I h0 h1 h2 h3 h4) : b < w.heap.size := (Array.getElem?_eq_some_iff.1 h).1
theorem BoxI.ext {w w' : World} {b : Nat} {I : In} {h0 h1 h2 h3 h4 : Value} (h : BoxI w b I h0 h1 h2 h3 h4) (x : Ext w w') : BoxI w' b I h0 h1 h2 h3 h4 := (x.block b h.lt).trans h
theorem BoxI.step {w : World} {b : Nat} {I : In} {h0 h1 h2 h3 h4 : Value} (h : BoxI w b I h0 h1 h2 h3 h4) {ops : Array Oper} {rest : List Oper} {op : Oper} {a : Act} {Q : Exit → Act → World → Prop} {x : Operand} (hw : Region.wanted op (yielded ops a.tmps) = true) (ho : op.op = .load 34 x)
    (hx : a.eval x = .pointer (some ⟨b, 0, none⟩)) (k : wpList Try.prog ops Q rest (a.put op.dst (.agg (inC I h0 h1 h2 h3 h4))) w) : wpList Try.prog ops Q (op :: rest) a w :=
  BigFrame.wpList_want hw fun _ hK => wp_load_mid 34 x ho b 0 hx [.int .i64 1, .int .i64 0, .int .i64 0, .int .i64 0, .int .i64 0, .int .i64 0, .int .i64 0, .int .i64 0, .int .i64 0, .int .i64 0, .int .i64 I.c, .int .i64 I.k, .int .i64 I.s, .int .i64 I.o, h0, .int .i64 I.bw, h1, h2, .bool I.fr, h3, .bool false, .int .i64 I.age, .int .i64 I.kp, .int .i64 0, h4, .int .i64 I.ra, .int .i64 I.rb, .int .u8 0] _ (in_range h) Try.underlying34 rfl (by kernel_rfl) (hK _ _ k)
theorem BoxI.c0 {w : World} {b : Nat} {I : In} {h0 h1 h2 h3 h4 : Value} (h : BoxI w b I h0 h1 h2 h3 h4) : w.cell? ⟨b, 0, none⟩ = some (.int .i64 1) := Lib.cell_of_heap h 0
theorem BoxI.c1 {w : World} {b : Nat} {I : In} {h0 h1 h2 h3 h4 : Value} (h : BoxI w b I h0 h1 h2 h3 h4) : w.cell? ⟨b, 1, none⟩ = some (.int .i64 0) := Lib.cell_of_heap h 1
theorem BoxI.c2 {w : World} {b : Nat} {I : In} {h0 h1 h2 h3 h4 : Value} (h : BoxI w b I h0 h1 h2 h3 h4) : w.cell? ⟨b, 2, none⟩ = some (.int .i64 0) := Lib.cell_of_heap h 2
theorem BoxI.c3 {w : World} {b : Nat} {I : In} {h0 h1 h2 h3 h4 : Value} (h : BoxI w b I h0 h1 h2 h3 h4) : w.cell? ⟨b, 3, none⟩ = some (.int .i64 0) := Lib.cell_of_heap h 3
theorem BoxI.c4 {w : World} {b : Nat} {I : In} {h0 h1 h2 h3 h4 : Value} (h : BoxI w b I h0 h1 h2 h3 h4) : w.cell? ⟨b, 4, none⟩ = some (.int .i64 0) := Lib.cell_of_heap h 4
theorem BoxI.c5 {w : World} {b : Nat} {I : In} {h0 h1 h2 h3 h4 : Value} (h : BoxI w b I h0 h1 h2 h3 h4) : w.cell? ⟨b, 5, none⟩ = some (.int .i64 0) := Lib.cell_of_heap h 5
theorem BoxI.c6 {w : World} {b : Nat} {I : In} {h0 h1 h2 h3 h4 : Value} (h : BoxI w b I h0 h1 h2 h3 h4) : w.cell? ⟨b, 6, none⟩ = some (.int .i64 0) := Lib.cell_of_heap h 6
theorem BoxI.c7 {w : World} {b : Nat} {I : In} {h0 h1 h2 h3 h4 : Value} (h : BoxI w b I h0 h1 h2 h3 h4) : w.cell? ⟨b, 7, none⟩ = some (.int .i64 0) := Lib.cell_of_heap h 7
theorem BoxI.c8 {w : World} {b : Nat} {I : In} {h0 h1 h2 h3 h4 : Value} (h : BoxI w b I h0 h1 h2 h3 h4) : w.cell? ⟨b, 8, none⟩ = some (.int .i64 0) := Lib.cell_of_heap h 8
theorem BoxI.c9 {w : World} {b : Nat} {I : In} {h0 h1 h2 h3 h4 : Value} (h : BoxI w b I h0 h1 h2 h3 h4) : w.cell? ⟨b, 9, none⟩ = some (.int .i64 0) := Lib.cell_of_heap h 9
theorem BoxI.c10 {w : World} {b : Nat} {I : In} {h0 h1 h2 h3 h4 : Value} (h : BoxI w b I h0 h1 h2 h3 h4) : w.cell? ⟨b, 10, none⟩ = some (.int .i64 I.c) := Lib.cell_of_heap h 10
theorem BoxI.c11 {w : World} {b : Nat} {I : In} {h0 h1 h2 h3 h4 : Value} (h : BoxI w b I h0 h1 h2 h3 h4) : w.cell? ⟨b, 11, none⟩ = some (.int .i64 I.k) := Lib.cell_of_heap h 11
theorem BoxI.c12 {w : World} {b : Nat} {I : In} {h0 h1 h2 h3 h4 : Value} (h : BoxI w b I h0 h1 h2 h3 h4) : w.cell? ⟨b, 12, none⟩ = some (.int .i64 I.s) := Lib.cell_of_heap h 12
theorem BoxI.c13 {w : World} {b : Nat} {I : In} {h0 h1 h2 h3 h4 : Value} (h : BoxI w b I h0 h1 h2 h3 h4) : w.cell? ⟨b, 13, none⟩ = some (.int .i64 I.o) := Lib.cell_of_heap h 13
theorem BoxI.c14 {w : World} {b : Nat} {I : In} {h0 h1 h2 h3 h4 : Value} (h : BoxI w b I h0 h1 h2 h3 h4) : w.cell? ⟨b, 14, none⟩ = some (h0) := Lib.cell_of_heap h 14
theorem BoxI.c15 {w : World} {b : Nat} {I : In} {h0 h1 h2 h3 h4 : Value} (h : BoxI w b I h0 h1 h2 h3 h4) : w.cell? ⟨b, 15, none⟩ = some (.int .i64 I.bw) := Lib.cell_of_heap h 15
theorem BoxI.c16 {w : World} {b : Nat} {I : In} {h0 h1 h2 h3 h4 : Value} (h : BoxI w b I h0 h1 h2 h3 h4) : w.cell? ⟨b, 16, none⟩ = some (h1) := Lib.cell_of_heap h 16
theorem BoxI.c17 {w : World} {b : Nat} {I : In} {h0 h1 h2 h3 h4 : Value} (h : BoxI w b I h0 h1 h2 h3 h4) : w.cell? ⟨b, 17, none⟩ = some (h2) := Lib.cell_of_heap h 17
theorem BoxI.c18 {w : World} {b : Nat} {I : In} {h0 h1 h2 h3 h4 : Value} (h : BoxI w b I h0 h1 h2 h3 h4) : w.cell? ⟨b, 18, none⟩ = some (.bool I.fr) := Lib.cell_of_heap h 18
theorem BoxI.c19 {w : World} {b : Nat} {I : In} {h0 h1 h2 h3 h4 : Value} (h : BoxI w b I h0 h1 h2 h3 h4) : w.cell? ⟨b, 19, none⟩ = some (h3) := Lib.cell_of_heap h 19
theorem BoxI.c20 {w : World} {b : Nat} {I : In} {h0 h1 h2 h3 h4 : Value} (h : BoxI w b I h0 h1 h2 h3 h4) : w.cell? ⟨b, 20, none⟩ = some (.bool false) := Lib.cell_of_heap h 20
theorem BoxI.c21 {w : World} {b : Nat} {I : In} {h0 h1 h2 h3 h4 : Value} (h : BoxI w b I h0 h1 h2 h3 h4) : w.cell? ⟨b, 21, none⟩ = some (.int .i64 I.age) := Lib.cell_of_heap h 21
theorem BoxI.c22 {w : World} {b : Nat} {I : In} {h0 h1 h2 h3 h4 : Value} (h : BoxI w b I h0 h1 h2 h3 h4) : w.cell? ⟨b, 22, none⟩ = some (.int .i64 I.kp) := Lib.cell_of_heap h 22
theorem BoxI.c23 {w : World} {b : Nat} {I : In} {h0 h1 h2 h3 h4 : Value} (h : BoxI w b I h0 h1 h2 h3 h4) : w.cell? ⟨b, 23, none⟩ = some (.int .i64 0) := Lib.cell_of_heap h 23
theorem BoxI.c24 {w : World} {b : Nat} {I : In} {h0 h1 h2 h3 h4 : Value} (h : BoxI w b I h0 h1 h2 h3 h4) : w.cell? ⟨b, 24, none⟩ = some (h4) := Lib.cell_of_heap h 24
theorem BoxI.c25 {w : World} {b : Nat} {I : In} {h0 h1 h2 h3 h4 : Value} (h : BoxI w b I h0 h1 h2 h3 h4) : w.cell? ⟨b, 25, none⟩ = some (.int .i64 I.ra) := Lib.cell_of_heap h 25
theorem BoxI.c26 {w : World} {b : Nat} {I : In} {h0 h1 h2 h3 h4 : Value} (h : BoxI w b I h0 h1 h2 h3 h4) : w.cell? ⟨b, 26, none⟩ = some (.int .i64 I.rb) := Lib.cell_of_heap h 26
theorem BoxI.c27 {w : World} {b : Nat} {I : In} {h0 h1 h2 h3 h4 : Value} (h : BoxI w b I h0 h1 h2 h3 h4) : w.cell? ⟨b, 27, none⟩ = some (.int .u8 0) := Lib.cell_of_heap h 27

theorem boxR_new (w : World) (n : Int) : BoxR (w.alloc (.cells (rvC n) 25)) w.heap.size n := heap_alloc_new w _
theorem BoxR.lt {w : World} {b : Nat} {n : Int} (h : BoxR w b n) : b < w.heap.size := (Array.getElem?_eq_some_iff.1 h).1
theorem BoxR.ext {w w' : World} {b : Nat} {n : Int} (h : BoxR w b n) (x : Ext w w') : BoxR w' b n := (x.block b h.lt).trans h
theorem BoxR.step {w : World} {b : Nat} {n : Int} (h : BoxR w b n) {ops : Array Oper} {rest : List Oper} {op : Oper} {a : Act} {Q : Exit → Act → World → Prop} {x : Operand} (hw : Region.wanted op (yielded ops a.tmps) = true) (ho : op.op = .load 25 x)
    (hx : a.eval x = .pointer (some ⟨b, 0, none⟩)) (k : wpList Try.prog ops Q rest (a.put op.dst (.agg (rvC n))) w) : wpList Try.prog ops Q (op :: rest) a w :=
  BigFrame.wpList_want hw fun _ hK => wp_load_mid 25 x ho b 0 hx [.string ⟨#[82]⟩, .int .i64 3, .int .i64 1, .int .i64 0, .int .i64 8, .int .i64 0, .int .i64 1, .int .i64 1, .bool false, .int .i64 0, .int .i64 0, .int .i64 n, .int .i64 3, .slice none 0 0] _ (in_range h) Try.underlying25 rfl (by kernel_rfl) (hK _ _ k)
theorem BoxR.c0 {w : World} {b : Nat} {n : Int} (h : BoxR w b n) : w.cell? ⟨b, 0, none⟩ = some (.string ⟨#[82]⟩) := Lib.cell_of_heap h 0
theorem BoxR.c1 {w : World} {b : Nat} {n : Int} (h : BoxR w b n) : w.cell? ⟨b, 1, none⟩ = some (.int .i64 3) := Lib.cell_of_heap h 1
theorem BoxR.c2 {w : World} {b : Nat} {n : Int} (h : BoxR w b n) : w.cell? ⟨b, 2, none⟩ = some (.int .i64 1) := Lib.cell_of_heap h 2
theorem BoxR.c3 {w : World} {b : Nat} {n : Int} (h : BoxR w b n) : w.cell? ⟨b, 3, none⟩ = some (.int .i64 0) := Lib.cell_of_heap h 3
theorem BoxR.c4 {w : World} {b : Nat} {n : Int} (h : BoxR w b n) : w.cell? ⟨b, 4, none⟩ = some (.int .i64 8) := Lib.cell_of_heap h 4
theorem BoxR.c5 {w : World} {b : Nat} {n : Int} (h : BoxR w b n) : w.cell? ⟨b, 5, none⟩ = some (.int .i64 0) := Lib.cell_of_heap h 5
theorem BoxR.c6 {w : World} {b : Nat} {n : Int} (h : BoxR w b n) : w.cell? ⟨b, 6, none⟩ = some (.int .i64 1) := Lib.cell_of_heap h 6
theorem BoxR.c7 {w : World} {b : Nat} {n : Int} (h : BoxR w b n) : w.cell? ⟨b, 7, none⟩ = some (.int .i64 1) := Lib.cell_of_heap h 7
theorem BoxR.c8 {w : World} {b : Nat} {n : Int} (h : BoxR w b n) : w.cell? ⟨b, 8, none⟩ = some (.bool false) := Lib.cell_of_heap h 8
theorem BoxR.c9 {w : World} {b : Nat} {n : Int} (h : BoxR w b n) : w.cell? ⟨b, 9, none⟩ = some (.int .i64 0) := Lib.cell_of_heap h 9
theorem BoxR.c10 {w : World} {b : Nat} {n : Int} (h : BoxR w b n) : w.cell? ⟨b, 10, none⟩ = some (.int .i64 0) := Lib.cell_of_heap h 10
theorem BoxR.c11 {w : World} {b : Nat} {n : Int} (h : BoxR w b n) : w.cell? ⟨b, 11, none⟩ = some (.int .i64 n) := Lib.cell_of_heap h 11
theorem BoxR.c12 {w : World} {b : Nat} {n : Int} (h : BoxR w b n) : w.cell? ⟨b, 12, none⟩ = some (.int .i64 3) := Lib.cell_of_heap h 12
theorem BoxR.c13 {w : World} {b : Nat} {n : Int} (h : BoxR w b n) : w.cell? ⟨b, 13, none⟩ = some (.slice none 0 0) := Lib.cell_of_heap h 13

theorem boxL_new (w : World)  : BoxL (w.alloc (.cells dlC 53)) w.heap.size  := heap_alloc_new w _
theorem BoxL.lt {w : World} {b : Nat}  (h : BoxL w b ) : b < w.heap.size := (Array.getElem?_eq_some_iff.1 h).1
theorem BoxL.ext {w w' : World} {b : Nat}  (h : BoxL w b ) (x : Ext w w') : BoxL w' b  := (x.block b h.lt).trans h
theorem BoxL.step {w : World} {b : Nat}  (h : BoxL w b ) {ops : Array Oper} {rest : List Oper} {op : Oper} {a : Act} {Q : Exit → Act → World → Prop} {x : Operand} (hw : Region.wanted op (yielded ops a.tmps) = true) (ho : op.op = .load 53 x)
    (hx : a.eval x = .pointer (some ⟨b, 0, none⟩)) (k : wpList Try.prog ops Q rest (a.put op.dst (.agg dlC)) w) : wpList Try.prog ops Q (op :: rest) a w :=
  BigFrame.wpList_want hw fun _ hK => wp_load_mid 53 x ho b 0 hx [.int .u8 1, .int .u8 0, .int .i64 0, .int .i64 0, .int .i64 0, .bool false, .int .u8 0, .int .i64 0, .int .i64 0, .int .i64 0, .bool false, .int .i64 0] _ (in_range h) Try.underlying53 rfl (by kernel_rfl) (hK _ _ k)
theorem BoxL.c0 {w : World} {b : Nat}  (h : BoxL w b ) : w.cell? ⟨b, 0, none⟩ = some (.int .u8 1) := Lib.cell_of_heap h 0
theorem BoxL.c1 {w : World} {b : Nat}  (h : BoxL w b ) : w.cell? ⟨b, 1, none⟩ = some (.int .u8 0) := Lib.cell_of_heap h 1
theorem BoxL.c2 {w : World} {b : Nat}  (h : BoxL w b ) : w.cell? ⟨b, 2, none⟩ = some (.int .i64 0) := Lib.cell_of_heap h 2
theorem BoxL.c3 {w : World} {b : Nat}  (h : BoxL w b ) : w.cell? ⟨b, 3, none⟩ = some (.int .i64 0) := Lib.cell_of_heap h 3
theorem BoxL.c4 {w : World} {b : Nat}  (h : BoxL w b ) : w.cell? ⟨b, 4, none⟩ = some (.int .i64 0) := Lib.cell_of_heap h 4
theorem BoxL.c5 {w : World} {b : Nat}  (h : BoxL w b ) : w.cell? ⟨b, 5, none⟩ = some (.bool false) := Lib.cell_of_heap h 5
theorem BoxL.c6 {w : World} {b : Nat}  (h : BoxL w b ) : w.cell? ⟨b, 6, none⟩ = some (.int .u8 0) := Lib.cell_of_heap h 6
theorem BoxL.c7 {w : World} {b : Nat}  (h : BoxL w b ) : w.cell? ⟨b, 7, none⟩ = some (.int .i64 0) := Lib.cell_of_heap h 7
theorem BoxL.c8 {w : World} {b : Nat}  (h : BoxL w b ) : w.cell? ⟨b, 8, none⟩ = some (.int .i64 0) := Lib.cell_of_heap h 8
theorem BoxL.c9 {w : World} {b : Nat}  (h : BoxL w b ) : w.cell? ⟨b, 9, none⟩ = some (.int .i64 0) := Lib.cell_of_heap h 9
theorem BoxL.c10 {w : World} {b : Nat}  (h : BoxL w b ) : w.cell? ⟨b, 10, none⟩ = some (.bool false) := Lib.cell_of_heap h 10
theorem BoxL.c11 {w : World} {b : Nat}  (h : BoxL w b ) : w.cell? ⟨b, 11, none⟩ = some (.int .i64 0) := Lib.cell_of_heap h 11

theorem ibet_any (n lo hi : Int) (w : World) : Calls Try.prog 22 #[.int .i64 n, .int .i64 lo, .int .i64 hi] w fun e w' => e = .returned (.bool (rng n lo hi)) ∧ w' = w := by
  obtain ⟨V, hV⟩ : ∃ V, rng n lo hi = V := ⟨_, rfl⟩
  have HV := Lib.hid hV
  rw [hV]
  clear hV
  go_enter Try.func22, Try.ntmps22
  go_wp2
  all_goals
    refine bodyPost_ret (v := .bool V) ?_ rfl ⟨rfl, rfl⟩
    rw [← HV.out]
    simp [results, Try.results22, go_sem, rng, *]
    try omega
theorem ibet_yes (n lo hi : Int) (w : World) (h : lo ≤ n ∧ n ≤ hi) : Calls Try.prog 22 #[.int .i64 n, .int .i64 lo, .int .i64 hi] w fun e w' => e = .returned (.bool true) ∧ w' = w := by
  have := ibet_any n lo hi w
  rwa [show rng n lo hi = true by simp [rng, h]] at this
theorem ibet_no (n lo hi : Int) (w : World) (h : n < lo ∨ hi < n) : Calls Try.prog 22 #[.int .i64 n, .int .i64 lo, .int .i64 hi] w fun e w' => e = .returned (.bool false) ∧ w' = w := by
  have := ibet_any n lo hi w
  rwa [show rng n lo hi = false by simp [rng]; omega] at this

theorem ebet_any (n lo hi : Int) (w : World) : Calls Try.prog 27 #[.int .i64 n, .int .i64 lo, .int .i64 hi] w fun e w' => e = .returned (.bool (rng n lo hi)) ∧ w' = w := by
  obtain ⟨V, hV⟩ : ∃ V, rng n lo hi = V := ⟨_, rfl⟩
  have HV := Lib.hid hV
  rw [hV]
  clear hV
  go_enter Try.func27, Try.ntmps27
  go_wp2
  all_goals
    refine bodyPost_ret (v := .bool V) ?_ rfl ⟨rfl, rfl⟩
    rw [← HV.out]
    simp [results, Try.results27, go_sem, rng, *]
    try omega
theorem ebet_yes (n lo hi : Int) (w : World) (h : lo ≤ n ∧ n ≤ hi) : Calls Try.prog 27 #[.int .i64 n, .int .i64 lo, .int .i64 hi] w fun e w' => e = .returned (.bool true) ∧ w' = w := by
  have := ebet_any n lo hi w
  rwa [show rng n lo hi = true by simp [rng, h]] at this
theorem ebet_no (n lo hi : Int) (w : World) (h : n < lo ∨ hi < n) : Calls Try.prog 27 #[.int .i64 n, .int .i64 lo, .int .i64 hi] w fun e w' => e = .returned (.bool false) ∧ w' = w := by
  have := ebet_any n lo hi w
  rwa [show rng n lo hi = false by simp [rng]; omega] at this

theorem cknown_yes (w : World) (I : In) (h0 h1 h2 h3 h4 : Value) (hA : InAt w I h0 h1 h2 h3 h4) (hl : I.bat.length = 3) (p : Int) (hp : 1 ≤ p ∧ p ≤ 3) :
    Calls Try.prog 63 #[.agg (inC I h0 h1 h2 h3 h4), .int .i64 p] w fun e w' => e = .returned (.bool true) ∧ Ext w w' := by
  obtain ⟨l0, l1, l2, l3, l4, _⟩ := hA
  obtain ⟨a, d, rfl⟩ := list_sl l0
  clear l0 l1 l2 l3 l4
  obtain ⟨hp1, hp2⟩ := hp
  rw [hl]
  simp only [inC]
  go_enter Try.func63, Try.ntmps63
  go_wp2
  go_ret
  exact ⟨rfl, (by repeat (first | exact Ext.refl _ | refine Ext.drew ?_ | refine Ext.drewN ?_ _ | refine Ext.alloc ?_ _))⟩

theorem fknown_yes (w : World) (I : In) (h0 h1 h2 h3 h4 : Value) (hA : InAt w I h0 h1 h2 h3 h4) (hl : I.sb.length = 3) (p : Int) (hp : 1 ≤ p ∧ p ≤ 3) :
    Calls Try.prog 75 #[.agg (inC I h0 h1 h2 h3 h4), .int .i64 p] w fun e w' => e = .returned (.bool true) ∧ Ext w w' := by
  obtain ⟨l0, l1, l2, l3, l4, _⟩ := hA
  obtain ⟨a, d, rfl⟩ := list_sl l4
  clear l0 l1 l2 l3 l4
  obtain ⟨hp1, hp2⟩ := hp
  rw [hl]
  simp only [inC]
  go_enter Try.func75, Try.ntmps75
  go_wp2
  go_ret
  exact ⟨rfl, (by repeat (first | exact Ext.refl _ | refine Ext.drew ?_ | refine Ext.drewN ?_ _ | refine Ext.alloc ?_ _))⟩

theorem sknown_yes (w : World) (I : In) (h0 h1 h2 h3 h4 : Value) (hA : InAt w I h0 h1 h2 h3 h4) (hl : I.bd.length = 3) (p : Int) (hp : 1 ≤ p ∧ p ≤ 3) :
    Calls Try.prog 84 #[.agg (inC I h0 h1 h2 h3 h4), .int .i64 p] w fun e w' => e = .returned (.bool true) ∧ Ext w w' := by
  obtain ⟨l0, l1, l2, l3, l4, _⟩ := hA
  obtain ⟨a, d, rfl⟩ := list_sl l3
  clear l0 l1 l2 l3 l4
  obtain ⟨hp1, hp2⟩ := hp
  rw [hl]
  simp only [inC]
  go_enter Try.func84, Try.ntmps84
  go_wp2
  go_ret
  exact ⟨rfl, (by repeat (first | exact Ext.refl _ | refine Ext.drew ?_ | refine Ext.drewN ?_ _ | refine Ext.alloc ?_ _))⟩

theorem replaced_no (w : World) (I : In) (h0 h1 h2 h3 h4 : Value) (hA : InAt w I h0 h1 h2 h3 h4) (hl : I.sb = [.bool false, .bool false, .bool false]) (p : Int) (hp : p = 1 ∨ p = 3) :
    Calls Try.prog 76 #[.agg (inC I h0 h1 h2 h3 h4), .int .i64 p] w fun e w' => e = .returned (.bool false) ∧ Ext w w' := by
  have L := Lib.hid hA
  have HK : Hid (∀ W, Ext w W → Calls Try.prog 75 #[.agg (inC I h0 h1 h2 h3 h4), .int .i64 p] W fun e w' => e = .returned (.bool true) ∧ Ext W w') := fun W h => fknown_yes W I h0 h1 h2 h3 h4 (L.out.ext h) (by rw [hl]; rfl) p (by omega)
  have l4 := hA.l4
  obtain ⟨g, o, d, hh, hg, hc⟩ := list_form l4 (by rw [hl]; decide)
  have hn : I.sb.length = 3 := by rw [hl]; rfl
  rw [hn] at hh
  have HH := Lib.hid hh
  clear hh
  have b0 := hc 0 (.bool false) (by rw [hl]; rfl)
  have b2 := hc 2 (.bool false) (by rw [hl]; rfl)
  rw [Nat.add_zero] at b0
  clear hc l4 L hA hl
  rcases hp with rfl | rfl
  all_goals
    go_enter Try.func76, Try.ntmps76
    go_upto_region 1 with fail
    obtain ⟨w0, hw0⟩ : ∃ W, W = (w.alloc (.cells (inC I h0 h1 h2 h3 h4) 34)) := ⟨_, rfl⟩
    have HX := Lib.hid (show Ext w w0 by rw [hw0]; exact (by repeat (first | exact Ext.refl _ | refine Ext.drew ?_ | refine Ext.drewN ?_ _ | refine Ext.alloc ?_ _)))
    have HB0 := Lib.hid (show BoxI w0 (w.heap.size) I h0 h1 h2 h3 h4 by rw [hw0]; exact (BoxI.ext (show BoxI _ (w.heap.size) I h0 h1 h2 h3 h4 from (by have := boxI_new w I h0 h1 h2 h3 h4; simpa using this)) (by repeat (first | exact Ext.refl _ | refine Ext.drew ?_ | refine Ext.drewN ?_ _ | refine Ext.alloc ?_ _))))
    have lw0 : w.heap.size < w0.heap.size := HB0.out.lt
    have c0_24 := HB0.out.c24
    rw [HH.out] at c0_24
    rw [← hw0]
    clear hw0
    have a0 := HX.out.keep b0
    have a2 := HX.out.keep b2
    clear b0 b2
    go_wp2_with (first | (with_reducible refine at_list ?_; first | go_skip | refine HB0.out.step (by first | rfl | kernel_rfl) rfl rfl ?_) | ((fail_if_success (have hzz := hk1)); go_at_call 75; refine (HK.out _ (by repeat (first | exact HX.out | refine Ext.drew ?_ | refine Ext.drewN ?_ _ | refine Ext.alloc ?_ _))).mono ?_; rintro e w1 ⟨rfl, hb⟩; (have hx : Ext w0 w1 := Ext.trans (by repeat (first | exact Ext.refl _ | refine Ext.drew ?_ | refine Ext.drewN ?_ _ | refine Ext.alloc ?_ _)) hb); (replace HX := Lib.hid (HX.out.trans hx)); (replace HB0 := Lib.hid (HB0.out.ext hx)); (have lw0 : w.heap.size < w1.heap.size := HB0.out.lt); (replace c0_24 := HB0.out.c24); (rw [HH.out] at c0_24); (replace a0 := hx.keep a0); (replace a2 := hx.keep a2); (have hk1 : True := trivial); (clear hx hb)))
    go_ret
    exact ⟨rfl, (HX.out.trans (by repeat (first | exact Ext.refl _ | refine Ext.drew ?_ | refine Ext.drewN ?_ _ | refine Ext.alloc ?_ _)))⟩

theorem cb1_any (x : Int) (V : Bool) (h : (x != 0) = V) (w : World) : Calls Try.prog 83 #[.int .u8 x] w fun e w' => e = .returned (.bool V) ∧ w' = w := by
  rw [← h]
  go_enter Try.func83, Try.ntmps83
  go_wp2
  all_goals
    refine bodyPost_ret (v := .bool (x != 0)) ?_ rfl ⟨rfl, rfl⟩
    simp [results, Try.results83, go_sem, *]
theorem cix_no (w : World) (v : Value) (h : ListAt w v [.int .u8 0, .int .u8 0, .int .u8 0]) : Calls Try.prog 60 #[v, .func (.func 83) #[] #[]] w fun e w' => e = .returned (.int .i64 (-1)) ∧ w' = w := by
  obtain ⟨g, o, d, rfl, hg, hc⟩ := list_form h (by decide)
  have b0 := hc 0 (.int .u8 0) rfl
  have b1 := hc 1 (.int .u8 0) rfl
  have b2 := hc 2 (.int .u8 0) rfl
  rw [Nat.add_zero] at b0
  clear hc h
  simp only [List.length_cons, List.length_nil, Nat.zero_add, Nat.reduceAdd]
  go_enter Try.func60, Try.ntmps60
  go_wp2
  refine wp_loop_rounds 4 ?_
  iterate 4
    rw [rounds_succ]
    go_wp2_with (go_at_call 83; refine (cb1_any _ false (by rfl) _).mono ?_; rintro e w' ⟨rfl, rfl⟩)
  go_ret
  exact ⟨rfl, rfl⟩
theorem cix_yes (w : World) (v : Value) (h : ListAt w v [.int .u8 1, .int .u8 1, .int .u8 0]) : Calls Try.prog 60 #[v, .func (.func 83) #[] #[]] w fun e w' => e = .returned (.int .i64 0) ∧ w' = w := by
  obtain ⟨g, o, d, rfl, hg, hc⟩ := list_form h (by decide)
  have b0 := hc 0 (.int .u8 1) rfl
  rw [Nat.add_zero] at b0
  clear hc h
  simp only [List.length_cons, List.length_nil, Nat.zero_add, Nat.reduceAdd]
  go_enter Try.func60, Try.ntmps60
  go_wp2
  refine wp_loop_rounds 1 ?_
  rw [rounds_succ]
  go_wp2_with (go_at_call 83; refine (cb1_any _ true (by rfl) _).mono ?_; rintro e w' ⟨rfl, rfl⟩)
  go_ret
  exact ⟨rfl, rfl⟩

theorem cco_no (w : World) (v : Value) (h : ListAt w v [.int .u8 0, .int .u8 0, .int .u8 0]) : Calls Try.prog 33 #[v, .func (.func 83) #[] #[]] w fun e w' => e = .returned (.bool false) ∧ w' = w := by
  have L := Lib.hid h
  clear h
  go_enter Try.func33, Try.ntmps33
  go_wp2_with (go_at_call 60; refine (cix_no _ _ L.out).mono ?_; rintro e w' ⟨rfl, rfl⟩)
  go_ret
  exact ⟨rfl, rfl⟩
theorem cbegun_no (w : World) (I : In) (h0 h1 h2 h3 h4 : Value) (hA : InAt w I h0 h1 h2 h3 h4) (hl : I.bat = [.int .u8 0, .int .u8 0, .int .u8 0]) :
    Calls Try.prog 62 #[.agg (inC I h0 h1 h2 h3 h4)] w fun e w' => e = .returned (.bool false) ∧ Ext w w' := by
  have l0 := hA.l0
  rw [hl] at l0
  have L := Lib.hid l0
  clear l0 hA hl
  go_enter Try.func62, Try.ntmps62
  go_upto_region 1 with fail
  obtain ⟨w0, hw0⟩ : ∃ W, W = (w.alloc (.cells (inC I h0 h1 h2 h3 h4) 34)) := ⟨_, rfl⟩
  have HX := Lib.hid (show Ext w w0 by rw [hw0]; exact (by repeat (first | exact Ext.refl _ | refine Ext.drew ?_ | refine Ext.drewN ?_ _ | refine Ext.alloc ?_ _)))
  have HB0 := Lib.hid (show BoxI w0 (w.heap.size) I h0 h1 h2 h3 h4 by rw [hw0]; exact (BoxI.ext (show BoxI _ (w.heap.size) I h0 h1 h2 h3 h4 from (by have := boxI_new w I h0 h1 h2 h3 h4; simpa using this)) (by repeat (first | exact Ext.refl _ | refine Ext.drew ?_ | refine Ext.drewN ?_ _ | refine Ext.alloc ?_ _))))
  have lw0 : w.heap.size < w0.heap.size := HB0.out.lt
  have c0_14 := HB0.out.c14
  rw [← hw0]
  clear hw0
  go_wp2_with (go_at_call 33; refine (cco_no _ _ (L.out.ext (by repeat (first | exact HX.out | refine Ext.drew ?_ | refine Ext.drewN ?_ _ | refine Ext.alloc ?_ _)))).mono ?_; rintro e w' ⟨rfl, rfl⟩)
  go_ret
  exact ⟨rfl, HX.out.trans (by repeat (first | exact Ext.refl _ | refine Ext.drew ?_ | refine Ext.drewN ?_ _ | refine Ext.alloc ?_ _))⟩

theorem cco_yes (w : World) (v : Value) (h : ListAt w v [.int .u8 1, .int .u8 1, .int .u8 0]) : Calls Try.prog 33 #[v, .func (.func 83) #[] #[]] w fun e w' => e = .returned (.bool true) ∧ w' = w := by
  have L := Lib.hid h
  clear h
  go_enter Try.func33, Try.ntmps33
  go_wp2_with (go_at_call 60; refine (cix_yes _ _ L.out).mono ?_; rintro e w' ⟨rfl, rfl⟩)
  go_ret
  exact ⟨rfl, rfl⟩
theorem cbegun_yes (w : World) (I : In) (h0 h1 h2 h3 h4 : Value) (hA : InAt w I h0 h1 h2 h3 h4) (hl : I.bat = [.int .u8 1, .int .u8 1, .int .u8 0]) :
    Calls Try.prog 62 #[.agg (inC I h0 h1 h2 h3 h4)] w fun e w' => e = .returned (.bool true) ∧ Ext w w' := by
  have l0 := hA.l0
  rw [hl] at l0
  have L := Lib.hid l0
  clear l0 hA hl
  go_enter Try.func62, Try.ntmps62
  go_upto_region 1 with fail
  obtain ⟨w0, hw0⟩ : ∃ W, W = (w.alloc (.cells (inC I h0 h1 h2 h3 h4) 34)) := ⟨_, rfl⟩
  have HX := Lib.hid (show Ext w w0 by rw [hw0]; exact (by repeat (first | exact Ext.refl _ | refine Ext.drew ?_ | refine Ext.drewN ?_ _ | refine Ext.alloc ?_ _)))
  have HB0 := Lib.hid (show BoxI w0 (w.heap.size) I h0 h1 h2 h3 h4 by rw [hw0]; exact (BoxI.ext (show BoxI _ (w.heap.size) I h0 h1 h2 h3 h4 from (by have := boxI_new w I h0 h1 h2 h3 h4; simpa using this)) (by repeat (first | exact Ext.refl _ | refine Ext.drew ?_ | refine Ext.drewN ?_ _ | refine Ext.alloc ?_ _))))
  have lw0 : w.heap.size < w0.heap.size := HB0.out.lt
  have c0_14 := HB0.out.c14
  rw [← hw0]
  clear hw0
  go_wp2_with (go_at_call 33; refine (cco_yes _ _ (L.out.ext (by repeat (first | exact HX.out | refine Ext.drew ?_ | refine Ext.drewN ?_ _ | refine Ext.alloc ?_ _)))).mono ?_; rintro e w' ⟨rfl, rfl⟩)
  go_ret
  exact ⟨rfl, HX.out.trans (by repeat (first | exact Ext.refl _ | refine Ext.drew ?_ | refine Ext.drewN ?_ _ | refine Ext.alloc ?_ _))⟩

theorem ib1_any (x : Int) (V : Bool) (h : (x != 0) = V) (w : World) : Calls Try.prog 34 #[.int .u8 x] w fun e w' => e = .returned (.bool V) ∧ w' = w := by
  rw [← h]
  go_enter Try.func34, Try.ntmps34
  go_wp2
  all_goals
    refine bodyPost_ret (v := .bool (x != 0)) ?_ rfl ⟨rfl, rfl⟩
    simp [results, Try.results34, go_sem, *]
theorem iix_no (w : World) (v : Value) (h : ListAt w v [.int .u8 0, .int .u8 0, .int .u8 0]) : Calls Try.prog 60 #[v, .func (.func 34) #[] #[]] w fun e w' => e = .returned (.int .i64 (-1)) ∧ w' = w := by
  obtain ⟨g, o, d, rfl, hg, hc⟩ := list_form h (by decide)
  have b0 := hc 0 (.int .u8 0) rfl
  have b1 := hc 1 (.int .u8 0) rfl
  have b2 := hc 2 (.int .u8 0) rfl
  rw [Nat.add_zero] at b0
  clear hc h
  simp only [List.length_cons, List.length_nil, Nat.zero_add, Nat.reduceAdd]
  go_enter Try.func60, Try.ntmps60
  go_wp2
  refine wp_loop_rounds 4 ?_
  iterate 4
    rw [rounds_succ]
    go_wp2_with (go_at_call 34; refine (ib1_any _ false (by rfl) _).mono ?_; rintro e w' ⟨rfl, rfl⟩)
  go_ret
  exact ⟨rfl, rfl⟩
theorem iix_yes (w : World) (v : Value) (h : ListAt w v [.int .u8 1, .int .u8 1, .int .u8 0]) : Calls Try.prog 60 #[v, .func (.func 34) #[] #[]] w fun e w' => e = .returned (.int .i64 0) ∧ w' = w := by
  obtain ⟨g, o, d, rfl, hg, hc⟩ := list_form h (by decide)
  have b0 := hc 0 (.int .u8 1) rfl
  rw [Nat.add_zero] at b0
  clear hc h
  simp only [List.length_cons, List.length_nil, Nat.zero_add, Nat.reduceAdd]
  go_enter Try.func60, Try.ntmps60
  go_wp2
  refine wp_loop_rounds 1 ?_
  rw [rounds_succ]
  go_wp2_with (go_at_call 34; refine (ib1_any _ true (by rfl) _).mono ?_; rintro e w' ⟨rfl, rfl⟩)
  go_ret
  exact ⟨rfl, rfl⟩

theorem ico_no (w : World) (v : Value) (h : ListAt w v [.int .u8 0, .int .u8 0, .int .u8 0]) : Calls Try.prog 33 #[v, .func (.func 34) #[] #[]] w fun e w' => e = .returned (.bool false) ∧ w' = w := by
  have L := Lib.hid h
  clear h
  go_enter Try.func33, Try.ntmps33
  go_wp2_with (go_at_call 60; refine (iix_no _ _ L.out).mono ?_; rintro e w' ⟨rfl, rfl⟩)
  go_ret
  exact ⟨rfl, rfl⟩
theorem ibegun_no (w : World) (I : In) (h0 h1 h2 h3 h4 : Value) (hA : InAt w I h0 h1 h2 h3 h4) (hl : I.bat = [.int .u8 0, .int .u8 0, .int .u8 0]) :
    Calls Try.prog 18 #[.agg (inC I h0 h1 h2 h3 h4)] w fun e w' => e = .returned (.bool false) ∧ Ext w w' := by
  have l0 := hA.l0
  rw [hl] at l0
  have L := Lib.hid l0
  clear l0 hA hl
  go_enter Try.func18, Try.ntmps18
  go_upto_region 1 with fail
  obtain ⟨w0, hw0⟩ : ∃ W, W = (w.alloc (.cells (inC I h0 h1 h2 h3 h4) 34)) := ⟨_, rfl⟩
  have HX := Lib.hid (show Ext w w0 by rw [hw0]; exact (by repeat (first | exact Ext.refl _ | refine Ext.drew ?_ | refine Ext.drewN ?_ _ | refine Ext.alloc ?_ _)))
  have HB0 := Lib.hid (show BoxI w0 (w.heap.size) I h0 h1 h2 h3 h4 by rw [hw0]; exact (BoxI.ext (show BoxI _ (w.heap.size) I h0 h1 h2 h3 h4 from (by have := boxI_new w I h0 h1 h2 h3 h4; simpa using this)) (by repeat (first | exact Ext.refl _ | refine Ext.drew ?_ | refine Ext.drewN ?_ _ | refine Ext.alloc ?_ _))))
  have lw0 : w.heap.size < w0.heap.size := HB0.out.lt
  have c0_14 := HB0.out.c14
  rw [← hw0]
  clear hw0
  go_wp2_with (go_at_call 33; refine (ico_no _ _ (L.out.ext (by repeat (first | exact HX.out | refine Ext.drew ?_ | refine Ext.drewN ?_ _ | refine Ext.alloc ?_ _)))).mono ?_; rintro e w' ⟨rfl, rfl⟩)
  go_ret
  exact ⟨rfl, HX.out.trans (by repeat (first | exact Ext.refl _ | refine Ext.drew ?_ | refine Ext.drewN ?_ _ | refine Ext.alloc ?_ _))⟩

theorem ico_yes (w : World) (v : Value) (h : ListAt w v [.int .u8 1, .int .u8 1, .int .u8 0]) : Calls Try.prog 33 #[v, .func (.func 34) #[] #[]] w fun e w' => e = .returned (.bool true) ∧ w' = w := by
  have L := Lib.hid h
  clear h
  go_enter Try.func33, Try.ntmps33
  go_wp2_with (go_at_call 60; refine (iix_yes _ _ L.out).mono ?_; rintro e w' ⟨rfl, rfl⟩)
  go_ret
  exact ⟨rfl, rfl⟩
theorem ibegun_yes (w : World) (I : In) (h0 h1 h2 h3 h4 : Value) (hA : InAt w I h0 h1 h2 h3 h4) (hl : I.bat = [.int .u8 1, .int .u8 1, .int .u8 0]) :
    Calls Try.prog 18 #[.agg (inC I h0 h1 h2 h3 h4)] w fun e w' => e = .returned (.bool true) ∧ Ext w w' := by
  have l0 := hA.l0
  rw [hl] at l0
  have L := Lib.hid l0
  clear l0 hA hl
  go_enter Try.func18, Try.ntmps18
  go_upto_region 1 with fail
  obtain ⟨w0, hw0⟩ : ∃ W, W = (w.alloc (.cells (inC I h0 h1 h2 h3 h4) 34)) := ⟨_, rfl⟩
  have HX := Lib.hid (show Ext w w0 by rw [hw0]; exact (by repeat (first | exact Ext.refl _ | refine Ext.drew ?_ | refine Ext.drewN ?_ _ | refine Ext.alloc ?_ _)))
  have HB0 := Lib.hid (show BoxI w0 (w.heap.size) I h0 h1 h2 h3 h4 by rw [hw0]; exact (BoxI.ext (show BoxI _ (w.heap.size) I h0 h1 h2 h3 h4 from (by have := boxI_new w I h0 h1 h2 h3 h4; simpa using this)) (by repeat (first | exact Ext.refl _ | refine Ext.drew ?_ | refine Ext.drewN ?_ _ | refine Ext.alloc ?_ _))))
  have lw0 : w.heap.size < w0.heap.size := HB0.out.lt
  have c0_14 := HB0.out.c14
  rw [← hw0]
  clear hw0
  go_wp2_with (go_at_call 33; refine (ico_yes _ _ (L.out.ext (by repeat (first | exact HX.out | refine Ext.drew ?_ | refine Ext.drewN ?_ _ | refine Ext.alloc ?_ _)))).mono ?_; rintro e w' ⟨rfl, rfl⟩)
  go_ret
  exact ⟨rfl, HX.out.trans (by repeat (first | exact Ext.refl _ | refine Ext.drew ?_ | refine Ext.drewN ?_ _ | refine Ext.alloc ?_ _))⟩

set_option maxHeartbeats 4000000 in
theorem vacant_no (w : World) (I : In) (h0 h1 h2 h3 h4 : Value) (hA : InAt w I h0 h1 h2 h3 h4) (hl : I.bat = [.int .u8 0, .int .u8 0, .int .u8 0]) :
    Calls Try.prog 49 #[.agg (inC I h0 h1 h2 h3 h4)] w fun e w' => e = .returned (.bool false) ∧ Ext w w' := by
  have L := Lib.hid hA
  have HL := Lib.hid hl
  clear hA hl
  go_enter Try.func49, Try.ntmps49
  go_upto_region 1 with fail
  obtain ⟨w0, hw0⟩ : ∃ W, W = (w.alloc (.cells (inC I h0 h1 h2 h3 h4) 34)) := ⟨_, rfl⟩
  have HX := Lib.hid (show Ext w w0 by rw [hw0]; exact (by repeat (first | exact Ext.refl _ | refine Ext.drew ?_ | refine Ext.drewN ?_ _ | refine Ext.alloc ?_ _)))
  have HB0 := Lib.hid (show BoxI w0 (w.heap.size) I h0 h1 h2 h3 h4 by rw [hw0]; exact (BoxI.ext (show BoxI _ (w.heap.size) I h0 h1 h2 h3 h4 from (by have := boxI_new w I h0 h1 h2 h3 h4; simpa using this)) (by repeat (first | exact Ext.refl _ | refine Ext.drew ?_ | refine Ext.drewN ?_ _ | refine Ext.alloc ?_ _))))
  have lw0 : w.heap.size < w0.heap.size := HB0.out.lt
  rw [← hw0]
  clear hw0
  go_wp2_with (first | (with_reducible refine at_list ?_; first | go_skip | refine HB0.out.step (by first | rfl | kernel_rfl) rfl rfl ?_) | ((fail_if_success (have hzz := hk1)); go_at_call 62; refine (cbegun_no _ I h0 h1 h2 h3 h4 (L.out.ext (by repeat (first | exact HX.out | refine Ext.drew ?_ | refine Ext.drewN ?_ _ | refine Ext.alloc ?_ _))) HL.out).mono ?_; rintro e w1 ⟨rfl, hb⟩; (have hx : Ext w0 w1 := Ext.trans (by repeat (first | exact Ext.refl _ | refine Ext.drew ?_ | refine Ext.drewN ?_ _ | refine Ext.alloc ?_ _)) hb); (replace HX := Lib.hid (HX.out.trans hx)); (replace HB0 := Lib.hid (HB0.out.ext hx)); (have lw0 : w.heap.size < w1.heap.size := HB0.out.lt); (have hk1 : True := trivial); (clear hx hb)))
  go_ret
  exact ⟨rfl, (HX.out.trans (by repeat (first | exact Ext.refl _ | refine Ext.drew ?_ | refine Ext.drewN ?_ _ | refine Ext.alloc ?_ _)))⟩

set_option maxHeartbeats 4000000 in
theorem vacant_yes (w : World) (I : In) (h0 h1 h2 h3 h4 : Value) (hA : InAt w I h0 h1 h2 h3 h4) (hl : I.bat = [.int .u8 1, .int .u8 1, .int .u8 0]) (hs : (I.s == 0) = false) (ho : (I.o == 0) = false) :
    Calls Try.prog 49 #[.agg (inC I h0 h1 h2 h3 h4)] w fun e w' => e = .returned (.bool false) ∧ Ext w w' := by
  have L := Lib.hid hA
  have HL := Lib.hid hl
  clear hA hl
  go_enter Try.func49, Try.ntmps49
  go_upto_region 1 with fail
  obtain ⟨w0, hw0⟩ : ∃ W, W = (w.alloc (.cells (inC I h0 h1 h2 h3 h4) 34)) := ⟨_, rfl⟩
  have HX := Lib.hid (show Ext w w0 by rw [hw0]; exact (by repeat (first | exact Ext.refl _ | refine Ext.drew ?_ | refine Ext.drewN ?_ _ | refine Ext.alloc ?_ _)))
  have HB0 := Lib.hid (show BoxI w0 (w.heap.size) I h0 h1 h2 h3 h4 by rw [hw0]; exact (BoxI.ext (show BoxI _ (w.heap.size) I h0 h1 h2 h3 h4 from (by have := boxI_new w I h0 h1 h2 h3 h4; simpa using this)) (by repeat (first | exact Ext.refl _ | refine Ext.drew ?_ | refine Ext.drewN ?_ _ | refine Ext.alloc ?_ _))))
  have lw0 : w.heap.size < w0.heap.size := HB0.out.lt
  have c0_12 := HB0.out.c12
  have c0_13 := HB0.out.c13
  rw [← hw0]
  clear hw0
  go_wp2_with (first | (with_reducible refine at_list ?_; first | go_skip | refine HB0.out.step (by first | rfl | kernel_rfl) rfl rfl ?_) | ((fail_if_success (have hzz := hk1)); go_at_call 62; refine (cbegun_yes _ I h0 h1 h2 h3 h4 (L.out.ext (by repeat (first | exact HX.out | refine Ext.drew ?_ | refine Ext.drewN ?_ _ | refine Ext.alloc ?_ _))) HL.out).mono ?_; rintro e w1 ⟨rfl, hb⟩; (have hx : Ext w0 w1 := Ext.trans (by repeat (first | exact Ext.refl _ | refine Ext.drew ?_ | refine Ext.drewN ?_ _ | refine Ext.alloc ?_ _)) hb); (replace HX := Lib.hid (HX.out.trans hx)); (replace HB0 := Lib.hid (HB0.out.ext hx)); (have lw0 : w.heap.size < w1.heap.size := HB0.out.lt); (replace c0_12 := HB0.out.c12); (replace c0_13 := HB0.out.c13); (have hk1 : True := trivial); (clear hx hb)))
  go_ret
  exact ⟨rfl, (HX.out.trans (by repeat (first | exact Ext.refl _ | refine Ext.drew ?_ | refine Ext.drewN ?_ _ | refine Ext.alloc ?_ _)))⟩

end Go.Proofs.Ytpeabgfolpgfjaa

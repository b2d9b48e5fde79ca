/-
  An over begins: the first ball.
-/
import Derived.Test.YtpeabgfolpgfjaaRvS
namespace Go.Proofs.Ytpeabgfolpgfjaa
open Go.RowKit Go.Lib
set_option linter.unusedSimpArgs false

def BoxZR (w : World) (r : Nat) : Prop := ∃ c : Array Value, c.size = 14 ∧ w.heap[r]? = some (.cells c 25 (0, 0))
theorem boxZR_new (w : World) : BoxZR (w.alloc (.cells #[.string ⟨#[]⟩, .int .i64 0, .int .i64 0, .int .i64 0, .int .i64 0, .int .i64 0, .int .i64 0, .int .i64 0, .bool false, .int .i64 0, .int .i64 0, .int .i64 0, .int .i64 0, .slice none 0 0] 25)) w.heap.size := ⟨_, rfl, heap_alloc_new w _⟩
theorem BoxZR.lt {w : World} {r : Nat} (h : BoxZR w r) : r < w.heap.size := by obtain ⟨c, _, h⟩ := h; exact (Array.getElem?_eq_some_iff.1 h).1
theorem BoxZR.ext {w w' : World} {r : Nat} (h : BoxZR w r) (x : Ext w w') : BoxZR w' r := by obtain ⟨c, h1, h2⟩ := h; exact ⟨c, h1, (x.block r (Array.getElem?_eq_some_iff.1 h2).1).trans h2⟩
theorem BoxZR.grown {w w' : World} {r p : Nat} (h : BoxZR w r) (g : w.grownBy w' (some p)) (hne : r ≠ p) : BoxZR w' r := by obtain ⟨c, h1, h2⟩ := h; exact ⟨c, h1, (g.block r (Array.getElem?_eq_some_iff.1 h2).1 (ne_some hne)).trans h2⟩
theorem rvC_one (n : Int) : (rvC n).all (·.oneCell') = true := by simp [rvC, Value.oneCell']
theorem evC_one (k sd p o : Int) (y : Bool) (ty : Int) : (evC k sd p o y ty).all (·.oneCell') = true := by simp [evC, Value.oneCell']
theorem st_newR {w1 : World} {Z : Array Value} (hZ : Z.size = 14) (n : Int) {ops : Array Oper} {Q : Exit → Act → World → Prop} {rest : List Oper} {op : Oper} {a : Act} {x y : Operand} (hgd : op.guard = none) (ho : op.op = .store 25 x y)
    (hx : a.eval x = .pointer (some ⟨w1.heap.size, 0, none⟩)) (hy : a.eval y = .agg (rvC n)) (k : ∀ w', BoxR w' w1.heap.size n → Ext w1 w' → wpList Try.prog ops Q rest (a.put op.dst undef) w') : wpList Try.prog ops Q (op :: rest) a (w1.alloc (.cells Z 25)) := by
  have hc := heap_alloc_new w1 (.cells Z 25)
  refine wpList_store_mid hgd 25 x y ho w1.heap.size 0 (rvC n) hx hy (in_there hc (by rw [hZ]; rfl)) (by kernel_rfl) (rvC_one n) ?_
  exact k _ (setCells_whole hc (by rw [hZ]; rfl)) (ext_grown ((Ext.refl w1).alloc _) (grown_setCells _ _ 0 _) (fun k hk => by injection hk with hk; omega))
theorem st_newE {w1 : World} {Z : Array Value} (hZ : Z.size = 19) (k sd p o : Int) (b : Bool) (ty : Int) {ops : Array Oper} {Q : Exit → Act → World → Prop} {rest : List Oper} {op : Oper} {a : Act} {x y : Operand} (hgd : op.guard = none) (ho : op.op = .store 55 x y)
    (hx : a.eval x = .pointer (some ⟨w1.heap.size, 0, none⟩)) (hy : a.eval y = .agg (evC k sd p o b ty)) (q : ∀ w', BoxE w' w1.heap.size k sd p o b ty → Ext w1 w' → wpList Try.prog ops Q rest (a.put op.dst undef) w') : wpList Try.prog ops Q (op :: rest) a (w1.alloc (.cells Z 55)) := by
  have hc := heap_alloc_new w1 (.cells Z 55)
  refine wpList_store_mid hgd 55 x y ho w1.heap.size 0 (evC k sd p o b ty) hx hy (in_there hc (by rw [hZ]; rfl)) (by kernel_rfl) (evC_one k sd p o b ty) ?_
  exact q _ (setCells_whole hc (by rw [hZ]; rfl)) (ext_grown ((Ext.refl w1).alloc _) (grown_setCells _ _ 0 _) (fun k hk => by injection hk with hk; omega))
def ev4 : Array Value := #[.int .u8 2, .int .i64 0, .int .i64 1, .int .i64 2, .bool false, .int .i64 0, .int .i64 0, .int .u8 0, .int .u8 0, .int .i64 0, .int .i64 0, .int .i64 0, .bool false, .int .u8 0, .int .i64 0, .int .i64 0, .int .i64 0, .bool false, .int .i64 0, .int .u8 8, .int .i64 0, .int .i64 3, .int .i64 0, .bool false, .int .i64 0, .int .i64 0, .int .u8 0, .int .u8 0, .int .i64 0, .int .i64 0, .int .i64 0, .bool false, .int .u8 0, .int .i64 0, .int .i64 0, .int .i64 0, .bool false, .int .i64 0, .int .u8 3, .int .i64 0, .int .i64 1, .int .i64 0, .bool false, .int .i64 0, .int .i64 0, .int .u8 0, .int .u8 0, .int .i64 0, .int .i64 0, .int .i64 0, .bool false, .int .u8 0, .int .i64 0, .int .i64 0, .int .i64 0, .bool false, .int .i64 0, .int .u8 4, .int .i64 0, .int .i64 0, .int .i64 0, .bool false, .int .i64 0, .int .i64 0, .int .u8 1, .int .u8 0, .int .i64 0, .int .i64 0, .int .i64 0, .bool false, .int .u8 0, .int .i64 0, .int .i64 0, .int .i64 0, .bool false, .int .i64 0]
def EvsAt (w : World) (b : Nat) : Prop := w.heap[b]? = some (.cells ev4 55 (0, 0))
theorem EvsAt.lt {w : World} {b : Nat} (h : EvsAt w b) : b < w.heap.size := (Array.getElem?_eq_some_iff.1 h).1
theorem EvsAt.ext {w w' : World} {b : Nat} (h : EvsAt w b) (x : Ext w w') : EvsAt w' b := (x.block b h.lt).trans h
theorem EvsAt.grown {w w' : World} {b q : Nat} (h : EvsAt w b) (g : w.grownBy w' (some q)) (hne : b ≠ q) : EvsAt w' b := (g.block b h.lt (ne_some hne)).trans h
theorem EvsAt.step0 {w : World} {b : Nat} (h : EvsAt w b) {ops : Array Oper} {rest : List Oper} {op : Oper} {a : Act} {Q : Exit → Act → World → Prop} {x : Operand} (hw : Region.wanted op (yielded ops a.tmps) = true) (ho : op.op = .load 55 x)
    (hx : a.eval x = .pointer (some ⟨b, 0, none⟩)) (q : wpList Try.prog ops Q rest (a.put op.dst (.agg (evC 2 0 1 2 false 0))) w) : wpList Try.prog ops Q (op :: rest) a w :=
  BigFrame.wpList_want hw fun _ hK => wp_load_mid 55 x ho b 0 hx [.int .u8 2, .int .i64 0, .int .i64 1, .int .i64 2, .bool false, .int .i64 0, .int .i64 0, .int .u8 0, .int .u8 0, .int .i64 0, .int .i64 0, .int .i64 0, .bool false, .int .u8 0, .int .i64 0, .int .i64 0, .int .i64 0, .bool false, .int .i64 0] _ (fun j v hv => by
    match j, hv with
    | 0, hv => exact (Lib.cell_of_heap h 0).trans hv
    | 1, hv => exact (Lib.cell_of_heap h 1).trans hv
    | 2, hv => exact (Lib.cell_of_heap h 2).trans hv
    | 3, hv => exact (Lib.cell_of_heap h 3).trans hv
    | 4, hv => exact (Lib.cell_of_heap h 4).trans hv
    | 5, hv => exact (Lib.cell_of_heap h 5).trans hv
    | 6, hv => exact (Lib.cell_of_heap h 6).trans hv
    | 7, hv => exact (Lib.cell_of_heap h 7).trans hv
    | 8, hv => exact (Lib.cell_of_heap h 8).trans hv
    | 9, hv => exact (Lib.cell_of_heap h 9).trans hv
    | 10, hv => exact (Lib.cell_of_heap h 10).trans hv
    | 11, hv => exact (Lib.cell_of_heap h 11).trans hv
    | 12, hv => exact (Lib.cell_of_heap h 12).trans hv
    | 13, hv => exact (Lib.cell_of_heap h 13).trans hv
    | 14, hv => exact (Lib.cell_of_heap h 14).trans hv
    | 15, hv => exact (Lib.cell_of_heap h 15).trans hv
    | 16, hv => exact (Lib.cell_of_heap h 16).trans hv
    | 17, hv => exact (Lib.cell_of_heap h 17).trans hv
    | 18, hv => exact (Lib.cell_of_heap h 18).trans hv
    | (j + 19), hv => simp at hv) Try.underlying55 rfl (by kernel_rfl) (hK _ _ q)
theorem EvsAt.step1 {w : World} {b : Nat} (h : EvsAt w b) {ops : Array Oper} {rest : List Oper} {op : Oper} {a : Act} {Q : Exit → Act → World → Prop} {x : Operand} (hw : Region.wanted op (yielded ops a.tmps) = true) (ho : op.op = .load 55 x)
    (hx : a.eval x = .pointer (some ⟨b, 19, none⟩)) (q : wpList Try.prog ops Q rest (a.put op.dst (.agg (evC 8 0 3 0 false 0))) w) : wpList Try.prog ops Q (op :: rest) a w :=
  BigFrame.wpList_want hw fun _ hK => wp_load_mid 55 x ho b 19 hx [.int .u8 8, .int .i64 0, .int .i64 3, .int .i64 0, .bool false, .int .i64 0, .int .i64 0, .int .u8 0, .int .u8 0, .int .i64 0, .int .i64 0, .int .i64 0, .bool false, .int .u8 0, .int .i64 0, .int .i64 0, .int .i64 0, .bool false, .int .i64 0] _ (fun j v hv => by
    match j, hv with
    | 0, hv => exact (Lib.cell_of_heap h 19).trans hv
    | 1, hv => exact (Lib.cell_of_heap h 20).trans hv
    | 2, hv => exact (Lib.cell_of_heap h 21).trans hv
    | 3, hv => exact (Lib.cell_of_heap h 22).trans hv
    | 4, hv => exact (Lib.cell_of_heap h 23).trans hv
    | 5, hv => exact (Lib.cell_of_heap h 24).trans hv
    | 6, hv => exact (Lib.cell_of_heap h 25).trans hv
    | 7, hv => exact (Lib.cell_of_heap h 26).trans hv
    | 8, hv => exact (Lib.cell_of_heap h 27).trans hv
    | 9, hv => exact (Lib.cell_of_heap h 28).trans hv
    | 10, hv => exact (Lib.cell_of_heap h 29).trans hv
    | 11, hv => exact (Lib.cell_of_heap h 30).trans hv
    | 12, hv => exact (Lib.cell_of_heap h 31).trans hv
    | 13, hv => exact (Lib.cell_of_heap h 32).trans hv
    | 14, hv => exact (Lib.cell_of_heap h 33).trans hv
    | 15, hv => exact (Lib.cell_of_heap h 34).trans hv
    | 16, hv => exact (Lib.cell_of_heap h 35).trans hv
    | 17, hv => exact (Lib.cell_of_heap h 36).trans hv
    | 18, hv => exact (Lib.cell_of_heap h 37).trans hv
    | (j + 19), hv => simp at hv) Try.underlying55 rfl (by kernel_rfl) (hK _ _ q)
theorem EvsAt.step2 {w : World} {b : Nat} (h : EvsAt w b) {ops : Array Oper} {rest : List Oper} {op : Oper} {a : Act} {Q : Exit → Act → World → Prop} {x : Operand} (hw : Region.wanted op (yielded ops a.tmps) = true) (ho : op.op = .load 55 x)
    (hx : a.eval x = .pointer (some ⟨b, 38, none⟩)) (q : wpList Try.prog ops Q rest (a.put op.dst (.agg (evC 3 0 1 0 false 0))) w) : wpList Try.prog ops Q (op :: rest) a w :=
  BigFrame.wpList_want hw fun _ hK => wp_load_mid 55 x ho b 38 hx [.int .u8 3, .int .i64 0, .int .i64 1, .int .i64 0, .bool false, .int .i64 0, .int .i64 0, .int .u8 0, .int .u8 0, .int .i64 0, .int .i64 0, .int .i64 0, .bool false, .int .u8 0, .int .i64 0, .int .i64 0, .int .i64 0, .bool false, .int .i64 0] _ (fun j v hv => by
    match j, hv with
    | 0, hv => exact (Lib.cell_of_heap h 38).trans hv
    | 1, hv => exact (Lib.cell_of_heap h 39).trans hv
    | 2, hv => exact (Lib.cell_of_heap h 40).trans hv
    | 3, hv => exact (Lib.cell_of_heap h 41).trans hv
    | 4, hv => exact (Lib.cell_of_heap h 42).trans hv
    | 5, hv => exact (Lib.cell_of_heap h 43).trans hv
    | 6, hv => exact (Lib.cell_of_heap h 44).trans hv
    | 7, hv => exact (Lib.cell_of_heap h 45).trans hv
    | 8, hv => exact (Lib.cell_of_heap h 46).trans hv
    | 9, hv => exact (Lib.cell_of_heap h 47).trans hv
    | 10, hv => exact (Lib.cell_of_heap h 48).trans hv
    | 11, hv => exact (Lib.cell_of_heap h 49).trans hv
    | 12, hv => exact (Lib.cell_of_heap h 50).trans hv
    | 13, hv => exact (Lib.cell_of_heap h 51).trans hv
    | 14, hv => exact (Lib.cell_of_heap h 52).trans hv
    | 15, hv => exact (Lib.cell_of_heap h 53).trans hv
    | 16, hv => exact (Lib.cell_of_heap h 54).trans hv
    | 17, hv => exact (Lib.cell_of_heap h 55).trans hv
    | 18, hv => exact (Lib.cell_of_heap h 56).trans hv
    | (j + 19), hv => simp at hv) Try.underlying55 rfl (by kernel_rfl) (hK _ _ q)
theorem EvsAt.step3 {w : World} {b : Nat} (h : EvsAt w b) {ops : Array Oper} {rest : List Oper} {op : Oper} {a : Act} {Q : Exit → Act → World → Prop} {x : Operand} (hw : Region.wanted op (yielded ops a.tmps) = true) (ho : op.op = .load 55 x)
    (hx : a.eval x = .pointer (some ⟨b, 57, none⟩)) (q : wpList Try.prog ops Q rest (a.put op.dst (.agg (evC 4 0 0 0 false 1))) w) : wpList Try.prog ops Q (op :: rest) a w :=
  BigFrame.wpList_want hw fun _ hK => wp_load_mid 55 x ho b 57 hx [.int .u8 4, .int .i64 0, .int .i64 0, .int .i64 0, .bool false, .int .i64 0, .int .i64 0, .int .u8 1, .int .u8 0, .int .i64 0, .int .i64 0, .int .i64 0, .bool false, .int .u8 0, .int .i64 0, .int .i64 0, .int .i64 0, .bool false, .int .i64 0] _ (fun j v hv => by
    match j, hv with
    | 0, hv => exact (Lib.cell_of_heap h 57).trans hv
    | 1, hv => exact (Lib.cell_of_heap h 58).trans hv
    | 2, hv => exact (Lib.cell_of_heap h 59).trans hv
    | 3, hv => exact (Lib.cell_of_heap h 60).trans hv
    | 4, hv => exact (Lib.cell_of_heap h 61).trans hv
    | 5, hv => exact (Lib.cell_of_heap h 62).trans hv
    | 6, hv => exact (Lib.cell_of_heap h 63).trans hv
    | 7, hv => exact (Lib.cell_of_heap h 64).trans hv
    | 8, hv => exact (Lib.cell_of_heap h 65).trans hv
    | 9, hv => exact (Lib.cell_of_heap h 66).trans hv
    | 10, hv => exact (Lib.cell_of_heap h 67).trans hv
    | 11, hv => exact (Lib.cell_of_heap h 68).trans hv
    | 12, hv => exact (Lib.cell_of_heap h 69).trans hv
    | 13, hv => exact (Lib.cell_of_heap h 70).trans hv
    | 14, hv => exact (Lib.cell_of_heap h 71).trans hv
    | 15, hv => exact (Lib.cell_of_heap h 72).trans hv
    | 16, hv => exact (Lib.cell_of_heap h 73).trans hv
    | 17, hv => exact (Lib.cell_of_heap h 74).trans hv
    | 18, hv => exact (Lib.cell_of_heap h 75).trans hv
    | (j + 19), hv => simp at hv) Try.underlying55 rfl (by kernel_rfl) (hK _ _ q)

theorem results_cct {P : Program} {fn : Func} {p q s : Tmp} {ty ty' : TypeId} (h : fn.results = #[.cell p ty, .cell q ty', .tmp s]) (tmps : Array Value) (w : World) (g g' : Nat) (t t' : TypeId) (cs cs' : Array Value) (fr fr' : Nat × Nat) (d d' : TypeDesc)
    (hp : tmps.getD p undef = .pointer (some ⟨g, 0, none⟩)) (hg : w.heap[g]? = some (.cells cs t fr)) (hu : P.underlying ty = some d) (hd : (match d with | .struct _ | .array _ _ => true | _ => false) = true) (hi : (P.info? ty).map (·.size) = some cs.size)
    (hp' : tmps.getD q undef = .pointer (some ⟨g', 0, none⟩)) (hg' : w.heap[g']? = some (.cells cs' t' fr')) (hu' : P.underlying ty' = some d') (hd' : (match d' with | .struct _ | .array _ _ => true | _ => false) = true) (hi' : (P.info? ty').map (·.size) = some cs'.size) :
    (results fn tmps).run P w = .ok (.tuple #[.agg cs, .agg cs', tmps.getD s undef]) w := by
  have e1 : tmps[p]?.getD undef = .pointer (some ⟨g, 0, none⟩) := by simpa using hp
  have e2 : tmps[q]?.getD undef = .pointer (some ⟨g', 0, none⟩) := by simpa using hp'
  simp [results, h, e1, e2, asAddr, run_loadVar_row w g t ty cs fr d hg hu hd hi, run_loadVar_row w g' t' ty' cs' fr' d' hg' hu' hd' hi']

theorem wp_oldR {w : World} {p : Nat} (hz : BoxZR w p) (n : Int) {K : Act → World → Prop} {Q : Exit → Act → World → Prop} {op : Oper} {a : Act} {x y : Operand} (ho : op.op = .store 25 x y)
    (hx : a.eval x = .pointer (some ⟨p, 0, none⟩)) (hy : a.eval y = .agg (rvC n)) (k : ∀ w', BoxR w' p n → w.grownBy w' (some p) → K (a.put op.dst undef) w') : op.wp Try.prog a w K Q := by
  obtain ⟨c, hs, hc⟩ := hz
  exact wp_store_mid 25 x y ho p 0 (rvC n) hx hy (in_there hc (by rw [hs]; rfl)) (by kernel_rfl) (rvC_one n) (k _ (setCells_whole hc (by rw [hs]; rfl)) (grown_setCells p _ 0 w))
theorem wp_oldI {w : World} {p : Nat} (hz : BoxZ w p) {W : World} {I : In} {h0 h1 h2 h3 h4 : Value} (hA : InAt W I h0 h1 h2 h3 h4) {K : Act → World → Prop} {Q : Exit → Act → World → Prop} {op : Oper} {a : Act} {x y : Operand} (ho : op.op = .store 34 x y)
    (hx : a.eval x = .pointer (some ⟨p, 0, none⟩)) (hy : a.eval y = .agg (inC I h0 h1 h2 h3 h4)) (k : ∀ w', BoxI w' p I h0 h1 h2 h3 h4 → w.grownBy w' (some p) → K (a.put op.dst undef) w') : op.wp Try.prog a w K Q := by
  obtain ⟨c, hs, hc⟩ := hz
  exact wp_store_mid 34 x y ho p 0 (inC I h0 h1 h2 h3 h4) hx hy (in_there hc (by rw [hs]; rfl)) (by kernel_rfl) (inC_one hA) (k _ (setCells_whole hc (by rw [hs]; rfl)) (grown_setCells p _ 0 w))
theorem own_keptR {base p : Nat} {w w' : World} {I : In} {h0 h1 h2 h3 h4 : Value} (h : InOwn base w I h0 h1 h2 h3 h4) (hp : BoxZR w p) (g : w.grownBy w' (some p)) : InOwn base w' I h0 h1 h2 h3 h4 := by
  obtain ⟨c, _, hc⟩ := hp
  exact ⟨h.l0.kept g (own_ne_blk h.l0 hc (by decide)), h.l1.kept g (own_ne_blk h.l1 hc (by decide)), h.l2.kept g (own_ne_blk h.l2 hc (by decide)), h.l3.kept g (own_ne_blk h.l3 hc (by decide)), h.l4.kept g (own_ne_blk h.l4 hc (by decide)), h.n1, h.d1, h.d2⟩

set_option maxRecDepth 20000 in
set_option maxHeartbeats 16000000 in
theorem oneBall_any (w : World) (n : Int) (hn : 0 ≤ n ∧ n ≤ 9) : Calls Try.prog 4 #[.int .i64 n] w fun e w' => ∃ k0 k1 k2 k3 k4, e = .returned (.tuple #[.agg (rvC n), .agg (inC (stN 1 0 0 true) k0 k1 k2 k3 k4), .bool true]) ∧ InOwn w.heap.size w' (stN 1 0 0 true) k0 k1 k2 k3 k4 ∧ Ext w w' := by
  have HN := Lib.hid hn
  clear hn
  go_enter Try.func4, Try.ntmps4
  go_upto_region 1 with fail
  obtain ⟨w0, hw0⟩ : ∃ W, W = (w.alloc (.cells #[.string ⟨#[]⟩, .int .i64 0, .int .i64 0, .int .i64 0, .int .i64 0, .int .i64 0, .int .i64 0, .int .i64 0, .bool false, .int .i64 0, .int .i64 0, .int .i64 0, .int .i64 0, .slice none 0 0] 25)).alloc (.cells #[.int .i64 0, .int .i64 0, .int .i64 0, .int .i64 0, .int .i64 0, .int .i64 0, .int .i64 0, .int .i64 0, .int .i64 0, .int .i64 0, .int .i64 0, .int .i64 0, .int .i64 0, .int .i64 0, .slice none 0 0, .int .i64 0, .slice none 0 0, .slice none 0 0, .bool false, .slice none 0 0, .bool false, .int .i64 0, .int .i64 0, .int .i64 0, .slice none 0 0, .int .i64 0, .int .i64 0, .int .u8 0] 34) := ⟨_, rfl⟩
  have HX := Lib.hid (show Ext w w0 by rw [hw0]; exact (by repeat (first | exact Ext.refl _ | refine Ext.drew ?_ | refine Ext.drewN ?_ _ | refine Ext.alloc ?_ _)))
  have HZR := Lib.hid (show BoxZR w0 w.heap.size by rw [hw0]; exact (boxZR_new w).ext (by repeat (first | exact Ext.refl _ | refine Ext.drew ?_ | refine Ext.drewN ?_ _ | refine Ext.alloc ?_ _)))
  have HZ := Lib.hid (show BoxZ w0 (w.heap.size + 1) by rw [hw0]; have := boxZ_new (w.alloc (.cells #[.string ⟨#[]⟩, .int .i64 0, .int .i64 0, .int .i64 0, .int .i64 0, .int .i64 0, .int .i64 0, .int .i64 0, .bool false, .int .i64 0, .int .i64 0, .int .i64 0, .int .i64 0, .slice none 0 0] 25)); simpa using this)
  have lz : w.heap.size + 1 < w0.heap.size := HZ.out.lt
  rw [← hw0]
  clear hw0
  go_upto_region 2 with (with_reducible refine at_list ?_; refine st_newR rfl n rfl rfl rfl rfl ?_; intro w1 hbox hx; (replace HX := Lib.hid (HX.out.trans hx)); (replace HZR := Lib.hid (HZR.out.ext hx)); (replace HZ := Lib.hid (HZ.out.ext hx)); have HR := Lib.hid hbox; clear hbox hx)
  obtain ⟨r, hr⟩ : ∃ q, q = w0.heap.size := ⟨_, rfl⟩
  rw [← hr] at HR ⊢
  have lr : r < w1.heap.size := HR.out.lt
  have nzr : w.heap.size + 1 < r := by omega
  clear hr lz
  go_upto_region 3 with (first | (with_reducible refine at_list ?_; first | go_skip | (refine HR.out.step (by first | rfl | kernel_rfl) rfl rfl ?_; (try simp only [List.getElem_toArray, List.getElem_cons_succ, List.getElem_cons_zero, Act.put, List.setIfInBounds_toArray, List.set_cons_zero, List.set_cons_succ]))) | (go_at_call 11; refine (begin_any _ n HN.out).mono ?_; rintro e w2 ⟨k0, k1, k2, k3, k4, rfl, hown, hb⟩; have hx : Ext w1 w2 := Ext.trans (by repeat (first | exact Ext.refl _ | refine Ext.drew ?_ | refine Ext.drewN ?_ _ | refine Ext.alloc ?_ _)) hb; (replace HX := Lib.hid (HX.out.trans hx)); (replace HZR := Lib.hid (HZR.out.ext hx)); (replace HZ := Lib.hid (HZ.out.ext hx)); (replace HR := Lib.hid (HR.out.ext hx)); (have hup : w.heap.size ≤ w1.heap.size := by omega); have HO := Lib.hid (hown.up hup); have lr2 : r < w2.heap.size := HR.out.lt; clear hx hb hown hup) | (with_reducible refine at_list ?_; refine st_new rfl HO.out.at rfl rfl rfl rfl ?_; intro w3 hbox hx; (replace HX := Lib.hid (HX.out.trans hx)); (replace HZR := Lib.hid (HZR.out.ext hx)); (replace HZ := Lib.hid (HZ.out.ext hx)); (replace HR := Lib.hid (HR.out.ext hx)); (replace HO := Lib.hid (HO.out.ext hx)); have HQ := Lib.hid hbox; clear hbox hx))
  obtain ⟨q, hq⟩ : ∃ x, x = w2.heap.size := ⟨_, rfl⟩
  rw [← hq] at HQ ⊢
  have lq : q < w3.heap.size := HQ.out.lt
  have nrq : r < q := by rw [hq]; exact lr2
  have neHR : r ≠ q := by omega
  have neHZ : w.heap.size + 1 ≠ q := by omega
  have neHZR : w.heap.size ≠ q := by omega
  clear hq lr2
  go_wp2_with fail
  obtain ⟨w4, hw4⟩ : ∃ W, W = w3.alloc (.cells ev4 55) := ⟨_, rfl⟩
  have HEV := Lib.hid (show EvsAt w4 w3.heap.size by rw [hw4]; exact heap_alloc_new w3 _)
  have hx : Ext w3 w4 := by rw [hw4]; exact (Ext.refl w3).alloc _
  unfold ev4 at hw4
  rw [← hw4]
  replace HX := Lib.hid (HX.out.trans hx)
  replace HZR := Lib.hid (HZR.out.ext hx)
  replace HZ := Lib.hid (HZ.out.ext hx)
  replace HR := Lib.hid (HR.out.ext hx)
  replace HQ := Lib.hid (HQ.out.ext hx)
  replace HO := Lib.hid (HO.out.ext hx)
  clear hx hw4
  obtain ⟨b, hb⟩ : ∃ x, x = w3.heap.size := ⟨_, rfl⟩
  rw [← hb] at HEV ⊢
  have neHEV : b ≠ q := by omega
  have lb : b < w4.heap.size := HEV.out.lt
  clear hb
  refine wp_loop_rounds 5 ?_
  rw [rounds_succ]
  go_upto_region 6 with (first | (with_reducible refine at_list ?_; refine HEV.out.step0 (by first | rfl | kernel_rfl) rfl rfl ?_; (try simp only [List.getElem_toArray, List.getElem_cons_succ, List.getElem_cons_zero, Act.put, List.setIfInBounds_toArray, List.set_cons_zero, List.set_cons_succ])) | (with_reducible refine at_list ?_; refine st_newE rfl 2 0 1 2 false 0 rfl rfl rfl rfl ?_; intro w5 hbox hx; (replace HX := Lib.hid (HX.out.trans hx)); (replace HZR := Lib.hid (HZR.out.ext hx)); (replace HZ := Lib.hid (HZ.out.ext hx)); (replace HR := Lib.hid (HR.out.ext hx)); (replace HQ := Lib.hid (HQ.out.ext hx)); (replace HEV := Lib.hid (HEV.out.ext hx)); (replace HO := Lib.hid (HO.out.ext hx)); have HE := Lib.hid hbox; clear hbox hx))
  obtain ⟨e0, he⟩ : ∃ x, x = w4.heap.size := ⟨_, rfl⟩
  rw [← he] at HE ⊢
  have lq0 : q < w5.heap.size := HQ.out.lt
  clear he
  go_upto_region 9 with (first | (with_reducible refine at_list ?_; first | go_skip | (refine HR.out.step (by first | rfl | kernel_rfl) rfl rfl ?_; (try simp only [List.getElem_toArray, List.getElem_cons_succ, List.getElem_cons_zero, Act.put, List.setIfInBounds_toArray, List.set_cons_zero, List.set_cons_succ])) | (refine HQ.out.step (by first | rfl | kernel_rfl) rfl rfl ?_; (try simp only [List.getElem_toArray, List.getElem_cons_succ, List.getElem_cons_zero, Act.put, List.setIfInBounds_toArray, List.set_cons_zero, List.set_cons_succ])) | (refine HE.out.step (by first | rfl | kernel_rfl) rfl rfl ?_; (try simp only [List.getElem_toArray, List.getElem_cons_succ, List.getElem_cons_zero, Act.put, List.setIfInBounds_toArray, List.set_cons_zero, List.set_cons_succ]))) | (go_at_call 7; refine (st_open _ n HN.out k0 k1 k2 k3 k4 (HO.out.at.ext (by repeat (first | exact Ext.refl _ | refine Ext.drew ?_ | refine Ext.drewN ?_ _ | refine Ext.alloc ?_ _)))).mono ?_; rintro e w6 ⟨k00, k01, k02, k03, k04, rfl, hown, hb⟩; have hx : Ext w5 w6 := Ext.trans (by repeat (first | exact Ext.refl _ | refine Ext.drew ?_ | refine Ext.drewN ?_ _ | refine Ext.alloc ?_ _)) hb; (have hup : w.heap.size ≤ w5.heap.size := by omega); (replace HX := Lib.hid (HX.out.trans hx)); (replace HZR := Lib.hid (HZR.out.ext hx)); (replace HZ := Lib.hid (HZ.out.ext hx)); (replace HR := Lib.hid (HR.out.ext hx)); (replace HQ := Lib.hid (HQ.out.ext hx)); (replace HEV := Lib.hid (HEV.out.ext hx)); (replace HE := Lib.hid (HE.out.ext hx)); (replace HO := Lib.hid (HO.out.ext hx)); replace HO := Lib.hid (hown.up hup); have lqq0 : q < w6.heap.size := HQ.out.lt; clear hx hb hown hup) | (with_reducible refine at_list ?_; refine st_new rfl HO.out.at rfl rfl rfl rfl ?_; intro w7 hbox hx; (replace HX := Lib.hid (HX.out.trans hx)); (replace HZR := Lib.hid (HZR.out.ext hx)); (replace HZ := Lib.hid (HZ.out.ext hx)); (replace HR := Lib.hid (HR.out.ext hx)); (replace HQ := Lib.hid (HQ.out.ext hx)); (replace HEV := Lib.hid (HEV.out.ext hx)); (replace HE := Lib.hid (HE.out.ext hx)); (replace HO := Lib.hid (HO.out.ext hx)); have HT := Lib.hid hbox; clear hbox hx))
  obtain ⟨t0, ht⟩ : ∃ x, x = w6.heap.size := ⟨_, rfl⟩
  rw [← ht] at HT ⊢
  have neHT : t0 ≠ q := by omega
  clear ht HE lqq0 lq0
  go_upto_region 10 with (first | (with_reducible refine at_list ?_; first | go_skip | (refine HT.out.step (by first | rfl | kernel_rfl) rfl rfl ?_; (try simp only [List.getElem_toArray, List.getElem_cons_succ, List.getElem_cons_zero, Act.put, List.setIfInBounds_toArray, List.set_cons_zero, List.set_cons_succ]))) | (with_reducible refine at_list ?_; refine st_old HQ.out.z HO.out.at rfl rfl rfl rfl ?_; intro w8 hbox hg; replace HO := Lib.hid (HO.out.kept HQ.out.z hg); (replace HX := Lib.hid (ext_grown HX.out hg (fun k hk => by injection hk with hk; omega))); (replace HZR := Lib.hid (HZR.out.grown hg neHZR)); (replace HZ := Lib.hid (HZ.out.grown hg neHZ)); (replace HR := Lib.hid (HR.out.grown hg neHR)); (replace HEV := Lib.hid (HEV.out.grown hg neHEV)); (replace HT := Lib.hid (HT.out.grown hg neHT)); replace HQ := Lib.hid hbox; clear hbox hg))
  clear HT neHT
  go_wp2_with fail
  rw [rounds_succ]
  go_upto_region 6 with (first | (with_reducible refine at_list ?_; refine HEV.out.step1 (by first | rfl | kernel_rfl) rfl rfl ?_; (try simp only [List.getElem_toArray, List.getElem_cons_succ, List.getElem_cons_zero, Act.put, List.setIfInBounds_toArray, List.set_cons_zero, List.set_cons_succ])) | (with_reducible refine at_list ?_; refine st_newE rfl 8 0 3 0 false 0 rfl rfl rfl rfl ?_; intro w9 hbox hx; (replace HX := Lib.hid (HX.out.trans hx)); (replace HZR := Lib.hid (HZR.out.ext hx)); (replace HZ := Lib.hid (HZ.out.ext hx)); (replace HR := Lib.hid (HR.out.ext hx)); (replace HQ := Lib.hid (HQ.out.ext hx)); (replace HEV := Lib.hid (HEV.out.ext hx)); (replace HO := Lib.hid (HO.out.ext hx)); have HE := Lib.hid hbox; clear hbox hx))
  obtain ⟨e1, he⟩ : ∃ x, x = w8.heap.size := ⟨_, rfl⟩
  rw [← he] at HE ⊢
  have lq1 : q < w9.heap.size := HQ.out.lt
  clear he
  go_upto_region 9 with (first | (with_reducible refine at_list ?_; first | go_skip | (refine HR.out.step (by first | rfl | kernel_rfl) rfl rfl ?_; (try simp only [List.getElem_toArray, List.getElem_cons_succ, List.getElem_cons_zero, Act.put, List.setIfInBounds_toArray, List.set_cons_zero, List.set_cons_succ])) | (refine HQ.out.step (by first | rfl | kernel_rfl) rfl rfl ?_; (try simp only [List.getElem_toArray, List.getElem_cons_succ, List.getElem_cons_zero, Act.put, List.setIfInBounds_toArray, List.set_cons_zero, List.set_cons_succ])) | (refine HE.out.step (by first | rfl | kernel_rfl) rfl rfl ?_; (try simp only [List.getElem_toArray, List.getElem_cons_succ, List.getElem_cons_zero, Act.put, List.setIfInBounds_toArray, List.set_cons_zero, List.set_cons_succ]))) | (go_at_call 7; refine (st_keep _ n HN.out k00 k01 k02 k03 k04 (HO.out.at.ext (by repeat (first | exact Ext.refl _ | refine Ext.drew ?_ | refine Ext.drewN ?_ _ | refine Ext.alloc ?_ _)))).mono ?_; rintro e w10 ⟨k10, k11, k12, k13, k14, rfl, hown, hb⟩; have hx : Ext w9 w10 := Ext.trans (by repeat (first | exact Ext.refl _ | refine Ext.drew ?_ | refine Ext.drewN ?_ _ | refine Ext.alloc ?_ _)) hb; (have hup : w.heap.size ≤ w9.heap.size := by omega); (replace HX := Lib.hid (HX.out.trans hx)); (replace HZR := Lib.hid (HZR.out.ext hx)); (replace HZ := Lib.hid (HZ.out.ext hx)); (replace HR := Lib.hid (HR.out.ext hx)); (replace HQ := Lib.hid (HQ.out.ext hx)); (replace HEV := Lib.hid (HEV.out.ext hx)); (replace HE := Lib.hid (HE.out.ext hx)); (replace HO := Lib.hid (HO.out.ext hx)); replace HO := Lib.hid (hown.up hup); have lqq1 : q < w10.heap.size := HQ.out.lt; clear hx hb hown hup) | (with_reducible refine at_list ?_; refine st_new rfl HO.out.at rfl rfl rfl rfl ?_; intro w11 hbox hx; (replace HX := Lib.hid (HX.out.trans hx)); (replace HZR := Lib.hid (HZR.out.ext hx)); (replace HZ := Lib.hid (HZ.out.ext hx)); (replace HR := Lib.hid (HR.out.ext hx)); (replace HQ := Lib.hid (HQ.out.ext hx)); (replace HEV := Lib.hid (HEV.out.ext hx)); (replace HE := Lib.hid (HE.out.ext hx)); (replace HO := Lib.hid (HO.out.ext hx)); have HT := Lib.hid hbox; clear hbox hx))
  obtain ⟨t1, ht⟩ : ∃ x, x = w10.heap.size := ⟨_, rfl⟩
  rw [← ht] at HT ⊢
  have neHT : t1 ≠ q := by omega
  clear ht HE lqq1 lq1
  go_upto_region 10 with (first | (with_reducible refine at_list ?_; first | go_skip | (refine HT.out.step (by first | rfl | kernel_rfl) rfl rfl ?_; (try simp only [List.getElem_toArray, List.getElem_cons_succ, List.getElem_cons_zero, Act.put, List.setIfInBounds_toArray, List.set_cons_zero, List.set_cons_succ]))) | (with_reducible refine at_list ?_; refine st_old HQ.out.z HO.out.at rfl rfl rfl rfl ?_; intro w12 hbox hg; replace HO := Lib.hid (HO.out.kept HQ.out.z hg); (replace HX := Lib.hid (ext_grown HX.out hg (fun k hk => by injection hk with hk; omega))); (replace HZR := Lib.hid (HZR.out.grown hg neHZR)); (replace HZ := Lib.hid (HZ.out.grown hg neHZ)); (replace HR := Lib.hid (HR.out.grown hg neHR)); (replace HEV := Lib.hid (HEV.out.grown hg neHEV)); (replace HT := Lib.hid (HT.out.grown hg neHT)); replace HQ := Lib.hid hbox; clear hbox hg))
  clear HT neHT
  go_wp2_with fail
  rw [rounds_succ]
  go_upto_region 6 with (first | (with_reducible refine at_list ?_; refine HEV.out.step2 (by first | rfl | kernel_rfl) rfl rfl ?_; (try simp only [List.getElem_toArray, List.getElem_cons_succ, List.getElem_cons_zero, Act.put, List.setIfInBounds_toArray, List.set_cons_zero, List.set_cons_succ])) | (with_reducible refine at_list ?_; refine st_newE rfl 3 0 1 0 false 0 rfl rfl rfl rfl ?_; intro w13 hbox hx; (replace HX := Lib.hid (HX.out.trans hx)); (replace HZR := Lib.hid (HZR.out.ext hx)); (replace HZ := Lib.hid (HZ.out.ext hx)); (replace HR := Lib.hid (HR.out.ext hx)); (replace HQ := Lib.hid (HQ.out.ext hx)); (replace HEV := Lib.hid (HEV.out.ext hx)); (replace HO := Lib.hid (HO.out.ext hx)); have HE := Lib.hid hbox; clear hbox hx))
  obtain ⟨e2, he⟩ : ∃ x, x = w12.heap.size := ⟨_, rfl⟩
  rw [← he] at HE ⊢
  have lq2 : q < w13.heap.size := HQ.out.lt
  clear he
  go_upto_region 9 with (first | (with_reducible refine at_list ?_; first | go_skip | (refine HR.out.step (by first | rfl | kernel_rfl) rfl rfl ?_; (try simp only [List.getElem_toArray, List.getElem_cons_succ, List.getElem_cons_zero, Act.put, List.setIfInBounds_toArray, List.set_cons_zero, List.set_cons_succ])) | (refine HQ.out.step (by first | rfl | kernel_rfl) rfl rfl ?_; (try simp only [List.getElem_toArray, List.getElem_cons_succ, List.getElem_cons_zero, Act.put, List.setIfInBounds_toArray, List.set_cons_zero, List.set_cons_succ])) | (refine HE.out.step (by first | rfl | kernel_rfl) rfl rfl ?_; (try simp only [List.getElem_toArray, List.getElem_cons_succ, List.getElem_cons_zero, Act.put, List.setIfInBounds_toArray, List.set_cons_zero, List.set_cons_succ]))) | (go_at_call 7; refine (st_bowl _ n HN.out k10 k11 k12 k13 k14 (HO.out.at.ext (by repeat (first | exact Ext.refl _ | refine Ext.drew ?_ | refine Ext.drewN ?_ _ | refine Ext.alloc ?_ _)))).mono ?_; rintro e w14 ⟨k20, k21, k22, k23, k24, rfl, hown, hb⟩; have hx : Ext w13 w14 := Ext.trans (by repeat (first | exact Ext.refl _ | refine Ext.drew ?_ | refine Ext.drewN ?_ _ | refine Ext.alloc ?_ _)) hb; (have hup : w.heap.size ≤ w13.heap.size := by omega); (replace HX := Lib.hid (HX.out.trans hx)); (replace HZR := Lib.hid (HZR.out.ext hx)); (replace HZ := Lib.hid (HZ.out.ext hx)); (replace HR := Lib.hid (HR.out.ext hx)); (replace HQ := Lib.hid (HQ.out.ext hx)); (replace HEV := Lib.hid (HEV.out.ext hx)); (replace HE := Lib.hid (HE.out.ext hx)); (replace HO := Lib.hid (HO.out.ext hx)); replace HO := Lib.hid (hown.up hup); have lqq2 : q < w14.heap.size := HQ.out.lt; clear hx hb hown hup) | (with_reducible refine at_list ?_; refine st_new rfl HO.out.at rfl rfl rfl rfl ?_; intro w15 hbox hx; (replace HX := Lib.hid (HX.out.trans hx)); (replace HZR := Lib.hid (HZR.out.ext hx)); (replace HZ := Lib.hid (HZ.out.ext hx)); (replace HR := Lib.hid (HR.out.ext hx)); (replace HQ := Lib.hid (HQ.out.ext hx)); (replace HEV := Lib.hid (HEV.out.ext hx)); (replace HE := Lib.hid (HE.out.ext hx)); (replace HO := Lib.hid (HO.out.ext hx)); have HT := Lib.hid hbox; clear hbox hx))
  obtain ⟨t2, ht⟩ : ∃ x, x = w14.heap.size := ⟨_, rfl⟩
  rw [← ht] at HT ⊢
  have neHT : t2 ≠ q := by omega
  clear ht HE lqq2 lq2
  go_upto_region 10 with (first | (with_reducible refine at_list ?_; first | go_skip | (refine HT.out.step (by first | rfl | kernel_rfl) rfl rfl ?_; (try simp only [List.getElem_toArray, List.getElem_cons_succ, List.getElem_cons_zero, Act.put, List.setIfInBounds_toArray, List.set_cons_zero, List.set_cons_succ]))) | (with_reducible refine at_list ?_; refine st_old HQ.out.z HO.out.at rfl rfl rfl rfl ?_; intro w16 hbox hg; replace HO := Lib.hid (HO.out.kept HQ.out.z hg); (replace HX := Lib.hid (ext_grown HX.out hg (fun k hk => by injection hk with hk; omega))); (replace HZR := Lib.hid (HZR.out.grown hg neHZR)); (replace HZ := Lib.hid (HZ.out.grown hg neHZ)); (replace HR := Lib.hid (HR.out.grown hg neHR)); (replace HEV := Lib.hid (HEV.out.grown hg neHEV)); (replace HT := Lib.hid (HT.out.grown hg neHT)); replace HQ := Lib.hid hbox; clear hbox hg))
  clear HT neHT
  go_wp2_with fail
  rw [rounds_succ]
  go_upto_region 6 with (first | (with_reducible refine at_list ?_; refine HEV.out.step3 (by first | rfl | kernel_rfl) rfl rfl ?_; (try simp only [List.getElem_toArray, List.getElem_cons_succ, List.getElem_cons_zero, Act.put, List.setIfInBounds_toArray, List.set_cons_zero, List.set_cons_succ])) | (with_reducible refine at_list ?_; refine st_newE rfl 4 0 0 0 false 1 rfl rfl rfl rfl ?_; intro w17 hbox hx; (replace HX := Lib.hid (HX.out.trans hx)); (replace HZR := Lib.hid (HZR.out.ext hx)); (replace HZ := Lib.hid (HZ.out.ext hx)); (replace HR := Lib.hid (HR.out.ext hx)); (replace HQ := Lib.hid (HQ.out.ext hx)); (replace HEV := Lib.hid (HEV.out.ext hx)); (replace HO := Lib.hid (HO.out.ext hx)); have HE := Lib.hid hbox; clear hbox hx))
  obtain ⟨e3, he⟩ : ∃ x, x = w16.heap.size := ⟨_, rfl⟩
  rw [← he] at HE ⊢
  have lq3 : q < w17.heap.size := HQ.out.lt
  clear he
  go_upto_region 9 with (first | (with_reducible refine at_list ?_; first | go_skip | (refine HR.out.step (by first | rfl | kernel_rfl) rfl rfl ?_; (try simp only [List.getElem_toArray, List.getElem_cons_succ, List.getElem_cons_zero, Act.put, List.setIfInBounds_toArray, List.set_cons_zero, List.set_cons_succ])) | (refine HQ.out.step (by first | rfl | kernel_rfl) rfl rfl ?_; (try simp only [List.getElem_toArray, List.getElem_cons_succ, List.getElem_cons_zero, Act.put, List.setIfInBounds_toArray, List.set_cons_zero, List.set_cons_succ])) | (refine HE.out.step (by first | rfl | kernel_rfl) rfl rfl ?_; (try simp only [List.getElem_toArray, List.getElem_cons_succ, List.getElem_cons_zero, Act.put, List.setIfInBounds_toArray, List.set_cons_zero, List.set_cons_succ]))) | (go_at_call 7; refine (st_ball _ n HN.out k20 k21 k22 k23 k24 (HO.out.at.ext (by repeat (first | exact Ext.refl _ | refine Ext.drew ?_ | refine Ext.drewN ?_ _ | refine Ext.alloc ?_ _)))).mono ?_; rintro e w18 ⟨k30, k31, k32, k33, k34, rfl, hown, hb⟩; have hx : Ext w17 w18 := Ext.trans (by repeat (first | exact Ext.refl _ | refine Ext.drew ?_ | refine Ext.drewN ?_ _ | refine Ext.alloc ?_ _)) hb; (have hup : w.heap.size ≤ w17.heap.size := by omega); (replace HX := Lib.hid (HX.out.trans hx)); (replace HZR := Lib.hid (HZR.out.ext hx)); (replace HZ := Lib.hid (HZ.out.ext hx)); (replace HR := Lib.hid (HR.out.ext hx)); (replace HQ := Lib.hid (HQ.out.ext hx)); (replace HEV := Lib.hid (HEV.out.ext hx)); (replace HE := Lib.hid (HE.out.ext hx)); (replace HO := Lib.hid (HO.out.ext hx)); replace HO := Lib.hid (hown.up hup); have lqq3 : q < w18.heap.size := HQ.out.lt; clear hx hb hown hup) | (with_reducible refine at_list ?_; refine st_new rfl HO.out.at rfl rfl rfl rfl ?_; intro w19 hbox hx; (replace HX := Lib.hid (HX.out.trans hx)); (replace HZR := Lib.hid (HZR.out.ext hx)); (replace HZ := Lib.hid (HZ.out.ext hx)); (replace HR := Lib.hid (HR.out.ext hx)); (replace HQ := Lib.hid (HQ.out.ext hx)); (replace HEV := Lib.hid (HEV.out.ext hx)); (replace HE := Lib.hid (HE.out.ext hx)); (replace HO := Lib.hid (HO.out.ext hx)); have HT := Lib.hid hbox; clear hbox hx))
  obtain ⟨t3, ht⟩ : ∃ x, x = w18.heap.size := ⟨_, rfl⟩
  rw [← ht] at HT ⊢
  have neHT : t3 ≠ q := by omega
  clear ht HE lqq3 lq3
  go_upto_region 10 with (first | (with_reducible refine at_list ?_; first | go_skip | (refine HT.out.step (by first | rfl | kernel_rfl) rfl rfl ?_; (try simp only [List.getElem_toArray, List.getElem_cons_succ, List.getElem_cons_zero, Act.put, List.setIfInBounds_toArray, List.set_cons_zero, List.set_cons_succ]))) | (with_reducible refine at_list ?_; refine st_old HQ.out.z HO.out.at rfl rfl rfl rfl ?_; intro w20 hbox hg; replace HO := Lib.hid (HO.out.kept HQ.out.z hg); (replace HX := Lib.hid (ext_grown HX.out hg (fun k hk => by injection hk with hk; omega))); (replace HZR := Lib.hid (HZR.out.grown hg neHZR)); (replace HZ := Lib.hid (HZ.out.grown hg neHZ)); (replace HR := Lib.hid (HR.out.grown hg neHR)); (replace HEV := Lib.hid (HEV.out.grown hg neHEV)); (replace HT := Lib.hid (HT.out.grown hg neHT)); replace HQ := Lib.hid hbox; clear hbox hg))
  clear HT neHT
  go_wp2_with fail
  rw [rounds_succ]
  go_upto_region 11 with fail
  refine wp_region_held_drew (S := (fun w' => BoxR w' r n ∧ BoxI w' q (stN 1 0 0 true) k30 k31 k32 k33 k34)) (by kernel_rfl) (by exact ⟨HR.out, HQ.out⟩) (fun hHeld => ?_)
  refine wpAnyH_take (i := 0) (v := .agg (rvC n)) rfl (by kernel_rfl) (by kernel_rfl) (by kernel_rfl) (fun _ _ _ h => h) (BoxR.yields (fun _ h => h.1) (by rfl) rfl rfl) (by assumption) ?_
  (try simp only [List.getElem_toArray, List.getElem_cons_succ, List.getElem_cons_zero, Act.put, List.setIfInBounds_toArray, List.set_cons_zero, List.set_cons_succ])
  refine wpAnyH_take (i := 1) (v := .agg (inC (stN 1 0 0 true) k30 k31 k32 k33 k34)) rfl (by kernel_rfl) (by kernel_rfl) (by kernel_rfl) (fun _ _ _ h => h) (BoxI.yields (fun _ h => h.2) (by rfl) rfl rfl) (by assumption) ?_
  (try simp only [List.getElem_toArray, List.getElem_cons_succ, List.getElem_cons_zero, Act.put, List.setIfInBounds_toArray, List.set_cons_zero, List.set_cons_succ])
  refine wpAnyH_take (i := 2) (v := ?v3) rfl (by kernel_rfl) (by kernel_rfl) (by kernel_rfl) (fun _ _ _ h => h) (Or.inl ⟨by rfl, ?y3⟩) (by assumption) ?r3
  case y3 => ((intro w hSw; (try dsimp only at hSw); go_simp; (first | done | with_reducible rfl)))
  (try simp only [List.getElem_toArray, List.getElem_cons_succ, List.getElem_cons_zero, Act.put, List.setIfInBounds_toArray, List.set_cons_zero, List.set_cons_succ])
  refine wpAnyH_take (i := 3) (v := ?v4) rfl (by kernel_rfl) (by kernel_rfl) (by kernel_rfl) (fun _ _ _ h => h) (Or.inl ⟨by rfl, ?y4⟩) (by assumption) ?r4
  case y4 => ((intro w hSw; (try dsimp only at hSw); go_simp; (first | done | with_reducible rfl)))
  (try simp only [List.getElem_toArray, List.getElem_cons_succ, List.getElem_cons_zero, Act.put, List.setIfInBounds_toArray, List.set_cons_zero, List.set_cons_succ])
  refine wpAnyH_ready (rs := [4]) (by kernel_rfl) (by simp) ?_
  refine AllReadyH.cons rfl (fun K hK => ?_) AllReadyH.nil
  rw [if_pos (show Region.wanted _ _ = true from rfl)]
  refine wp_oldR (by first | exact HZR.out | exact HZR.out.ext (Ext.refl _).drew) n rfl rfl rfl ?_
  intro wr hbox hg'
  have hg : w20.grownBy wr (some w.heap.size) := ⟨hg'.os, hg'.tape, hg'.output, hg'.size, hg'.block⟩
  have HRR := Lib.hid hbox
  have HR2 := Lib.hid (HR.out.grown hg (by omega))
  have HQ2 := Lib.hid (HQ.out.grown hg (Ne.symm neHZR))
  have HZ2 := Lib.hid (HZ.out.grown hg (by omega))
  have HO2 : Hid (InOwn w.heap.size wr (stN 1 0 0 true) k30 k31 k32 k33 k34) := Lib.hid (own_keptR HO.out HZR.out hg)
  replace HX := Lib.hid (ext_grown HX.out hg (fun k hk => by injection hk with hk; omega))
  clear hbox hg hg'
  refine hK.out _ _ (by exact ⟨HR2.out, HQ2.out⟩) (fun hHeld => ?_)
  clear hK K
  (try simp only [List.getElem_toArray, List.getElem_cons_succ, List.getElem_cons_zero, Act.put, List.setIfInBounds_toArray, List.set_cons_zero, List.set_cons_succ])
  refine wpAnyH_ready (rs := [5]) (by kernel_rfl) (by simp) ?_
  refine AllReadyH.cons rfl (fun K hK => ?_) AllReadyH.nil
  rw [if_pos (show Region.wanted _ _ = true from rfl)]
  refine wp_oldI (by first | exact HZ2.out | exact HZ2.out.ext (Ext.refl _).drew) HO2.out.at rfl rfl rfl ?_
  intro wi hbox hg'
  have hg : wr.grownBy wi (some (w.heap.size + 1)) := ⟨hg'.os, hg'.tape, hg'.output, hg'.size, hg'.block⟩
  have HII := Lib.hid hbox
  have HRR2 := Lib.hid (HRR.out.grown hg (by omega))
  have HR3 := Lib.hid (HR2.out.grown hg (by omega))
  have HQ3 := Lib.hid (HQ2.out.grown hg (Ne.symm neHZ))
  have HO3 : Hid (InOwn w.heap.size wi (stN 1 0 0 true) k30 k31 k32 k33 k34) := Lib.hid (HO2.out.kept HZ2.out hg)
  replace HX := Lib.hid (ext_grown HX.out hg (fun k hk => by injection hk with hk; omega))
  clear hbox hg hg'
  refine hK.out _ _ (by exact ⟨HR3.out, HQ3.out⟩) (fun hHeld => ?_)
  clear hK K
  (try simp only [List.getElem_toArray, List.getElem_cons_succ, List.getElem_cons_zero, Act.put, List.setIfInBounds_toArray, List.set_cons_zero, List.set_cons_succ])
  refine wpAnyH_take (i := 6) (v := ?v7) rfl (by kernel_rfl) (by kernel_rfl) (by kernel_rfl) (fun _ _ _ h => h) (Or.inl ⟨by rfl, ?y7⟩) (by assumption) ?r7
  case y7 => ((intro w hSw; (try dsimp only at hSw); go_simp; (first | done | with_reducible rfl)))
  (try simp only [List.getElem_toArray, List.getElem_cons_succ, List.getElem_cons_zero, Act.put, List.setIfInBounds_toArray, List.set_cons_zero, List.set_cons_succ])
  refine wpAnyH_done (by kernel_rfl) ?_ _
  (try simp only [Exit.inBlock, Exit.then])
  go_wp2_with fail
  refine bodyPost_ret (results_cct rfl _ _ w.heap.size (w.heap.size + 1) _ _ _ _ _ _ _ _ rfl HRR2.out Try.underlying25 rfl (by kernel_rfl) rfl HII.out Try.underlying34 rfl (by kernel_rfl)) rfl ?_
  exact ⟨_, _, _, _, _, rfl, HO3.out, HX.out.trans (by repeat (first | exact Ext.refl _ | refine Ext.drew ?_ | refine Ext.drewN ?_ _ | refine Ext.alloc ?_ _))⟩

end Go.Proofs.Ytpeabgfolpgfjaa

/-
  Stores of states of an innings.
-/
import Derived.Test.YtpeabgfolpgfjaaRvD
import Derived.Test.YtpeabgfolpgfjaaRvI
import Derived.Test.YtpeabgfolpgfjaaRevA
import Derived.Maps.AppendAt
import Derived.OwnWalk
import Derived.Laws.OwnMore
namespace Go.Proofs.Ytpeabgfolpgfjaa
open Go.RowKit Go.Lib
set_option linter.unusedSimpArgs false

theorem list_one {w : World} {v : Value} {xs : List Value} (h : ListAt w v xs) : v.oneCell' = true := by
  obtain ⟨a, d, rfl⟩ := list_sl h
  rfl
theorem inC_one {w : World} {I : In} {h0 h1 h2 h3 h4 : Value} (hA : InAt w I h0 h1 h2 h3 h4) : (inC I h0 h1 h2 h3 h4).all (·.oneCell') = true := by
  have e0 := list_one hA.l0
  have e1 := list_one hA.l1
  have e2 := list_one hA.l2
  have e3 := list_one hA.l3
  have e4 := list_one hA.l4
  simp [inC, e0, e1, e2, e3, e4]
  simp [Value.oneCell']
theorem grown_setCells (b : Nat) : ∀ (vs : List Value) (o : Nat) (w : World), w.grownBy (w.setCells b o vs) (some b)
  | [], _, w => World.grownBy.refl w _
  | v :: r, o, w => (grown_setCell w b o v).trans (grown_setCells b r (o + 1) _)
def BoxZ (w : World) (r : Nat) : Prop := ∃ c : Array Value, c.size = 28 ∧ w.heap[r]? = some (.cells c 34 (0, 0))
theorem boxZ_new (w : World) : BoxZ (w.alloc (.cells #[.int .i64 0, .int .i64 0, .int .i64 0, .int .i64 0, .int .i64 0, .int .i64 0, .int .i64 0, .int .i64 0, .int .i64 0, .int .i64 0, .int .i64 0, .int .i64 0, .int .i64 0, .int .i64 0, .slice none 0 0, .int .i64 0, .slice none 0 0, .slice none 0 0, .bool false, .slice none 0 0, .bool false, .int .i64 0, .int .i64 0, .int .i64 0, .slice none 0 0, .int .i64 0, .int .i64 0, .int .u8 0] 34)) w.heap.size := ⟨_, rfl, heap_alloc_new w _⟩
theorem BoxZ.lt {w : World} {r : Nat} (h : BoxZ w r) : r < w.heap.size := by obtain ⟨c, _, h⟩ := h; exact (Array.getElem?_eq_some_iff.1 h).1
theorem BoxZ.ext {w w' : World} {r : Nat} (h : BoxZ w r) (x : Ext w w') : BoxZ w' r := by obtain ⟨c, h1, h2⟩ := h; exact ⟨c, h1, (x.block r (Array.getElem?_eq_some_iff.1 h2).1).trans h2⟩
theorem BoxI.z {w : World} {b : Nat} {I : In} {h0 h1 h2 h3 h4 : Value} (h : BoxI w b I h0 h1 h2 h3 h4) : BoxZ w b := ⟨_, rfl, h⟩
theorem ne_some {p q : Nat} (h : q ≠ p) : some q ≠ some p := fun e => h (by injection e)
theorem BoxZ.grown {w w' : World} {r p : Nat} (h : BoxZ w r) (g : w.grownBy w' (some p)) (hne : r ≠ p) : BoxZ w' r := by obtain ⟨c, h1, h2⟩ := h; exact ⟨c, h1, (g.block r (Array.getElem?_eq_some_iff.1 h2).1 (ne_some hne)).trans h2⟩
theorem BoxI.grown {w w' : World} {b q : Nat} {I : In} {h0 h1 h2 h3 h4 : Value} (h : BoxI w b I h0 h1 h2 h3 h4) (g : w.grownBy w' (some q)) (hne : b ≠ q) : BoxI w' b I h0 h1 h2 h3 h4 := (g.block b h.lt (ne_some hne)).trans h
theorem BoxR.grown {w w' : World} {b q : Nat} {n : Int} (h : BoxR w b n) (g : w.grownBy w' (some q)) (hne : b ≠ q) : BoxR w' b n := (g.block b h.lt (ne_some hne)).trans h
theorem BoxL.grown {w w' : World} {b q : Nat}  (h : BoxL w b ) (g : w.grownBy w' (some q)) (hne : b ≠ q) : BoxL w' b  := (g.block b h.lt (ne_some hne)).trans h
theorem BoxE.grown {w w' : World} {b q : Nat} {k sd p o : Int} {y : Bool} {ty : Int} (h : BoxE w b k sd p o y ty) (g : w.grownBy w' (some q)) (hne : b ≠ q) : BoxE w' b k sd p o y ty := (g.block b h.lt (ne_some hne)).trans h

theorem own_kept {w w' : World} {base p : Nat} {e : TypeId} {v : Value} {n : Nat} {xs : List Value} (h : w.ownsRow base e 1 v n xs) (hp : BoxZ w p) (hne : e ≠ 34) (g : w.grownBy w' (some p)) : w'.ownsRow base e 1 v n xs := by
  obtain ⟨c, _, hc⟩ := hp
  exact h.kept g (own_ne_blk h hc hne)
theorem InOwn.kept {base p : Nat} {w w' : World} {I : In} {h0 h1 h2 h3 h4 : Value} (h : InOwn base w I h0 h1 h2 h3 h4) (hp : BoxZ w p) (g : w.grownBy w' (some p)) : InOwn base w' I h0 h1 h2 h3 h4 :=
  ⟨own_kept h.l0 hp (by decide) g, own_kept h.l1 hp (by decide) g, own_kept h.l2 hp (by decide) g, own_kept h.l3 hp (by decide) g, own_kept h.l4 hp (by decide) g, h.n1, h.d1, h.d2⟩
theorem InOwn.up {base b' : Nat} {w : World} {I : In} {h0 h1 h2 h3 h4 : Value} (h : InOwn base w I h0 h1 h2 h3 h4) (hb : b' ≤ base) : InOwn b' w I h0 h1 h2 h3 h4 := ⟨own_up h.l0 hb, own_up h.l1 hb, own_up h.l2 hb, own_up h.l3 hb, own_up h.l4 hb, h.n1, h.d1, h.d2⟩
theorem st_old {w : World} {p : Nat} (hz : BoxZ w p) {W : World} {I : In} {h0 h1 h2 h3 h4 : Value} (hA : InAt W I h0 h1 h2 h3 h4) {ops : Array Oper} {Q : Exit → Act → World → Prop} {rest : List Oper} {op : Oper} {a : Act} {x y : Operand} (hgd : op.guard = none) (ho : op.op = .store 34 x y)
    (hx : a.eval x = .pointer (some ⟨p, 0, none⟩)) (hy : a.eval y = .agg (inC I h0 h1 h2 h3 h4)) (k : ∀ w', BoxI w' p I h0 h1 h2 h3 h4 → w.grownBy w' (some p) → wpList Try.prog ops Q rest (a.put op.dst undef) w') : wpList Try.prog ops Q (op :: rest) a w := by
  obtain ⟨c, hs, hc⟩ := hz
  refine wpList_store_mid hgd 34 x y ho p 0 (inC I h0 h1 h2 h3 h4) hx hy (in_there hc (by rw [hs]; rfl)) (by kernel_rfl) (inC_one hA) ?_
  exact k _ (setCells_whole hc (by rw [hs]; rfl)) (grown_setCells p _ 0 w)
theorem st_new {w1 : World} {Z : Array Value} (hZ : Z.size = 28) {W : World} {I : In} {h0 h1 h2 h3 h4 : Value} (hA : InAt W I h0 h1 h2 h3 h4) {ops : Array Oper} {Q : Exit → Act → World → Prop} {rest : List Oper} {op : Oper} {a : Act} {x y : Operand} (hgd : op.guard = none) (ho : op.op = .store 34 x y)
    (hx : a.eval x = .pointer (some ⟨w1.heap.size, 0, none⟩)) (hy : a.eval y = .agg (inC I h0 h1 h2 h3 h4)) (k : ∀ w', BoxI w' w1.heap.size I h0 h1 h2 h3 h4 → Ext w1 w' → wpList Try.prog ops Q rest (a.put op.dst undef) w') : wpList Try.prog ops Q (op :: rest) a (w1.alloc (.cells Z 34)) :=
  st_old ⟨Z, hZ, heap_alloc_new w1 _⟩ hA hgd ho hx hy (fun w' hb g => k w' hb (ext_grown ((Ext.refl w1).alloc _) g (fun k hk => by injection hk with hk; omega)))
theorem results_cell_tmp {P : Program} {fn : Func} {p s : Tmp} {ty : TypeId} (h : fn.results = #[.cell p ty, .tmp s]) (tmps : Array Value) (w : World) (g : Nat) (t : TypeId) (cs : Array Value) (fr : Nat × Nat) (d : TypeDesc)
    (hp : tmps.getD p undef = .pointer (some ⟨g, 0, none⟩)) (hg : w.heap[g]? = some (.cells cs t fr))
    (hu : P.underlying ty = some d) (hd : (match d with | .struct _ | .array _ _ => true | _ => false) = true) (hi : (P.info? ty).map (·.size) = some cs.size) :
    (results fn tmps).run P w = .ok (.tuple #[.agg cs, tmps.getD s undef]) w := by
  have hp' : tmps[p]?.getD undef = .pointer (some ⟨g, 0, none⟩) := by simpa using hp
  simp [results, h, hp', asAddr, run_loadVar_row w g t ty cs fr d hg hu hd hi]
theorem BoxI.ret {fn : Func} {r s : Tmp} (h : fn.results = #[.cell r 34, .tmp s]) {w : World} {b : Nat} {I : In} {h0 h1 h2 h3 h4 : Value} (hb : BoxI w b I h0 h1 h2 h3 h4) {R : Ending → World → Prop} {a : Act} (hp : a.tmps.getD r undef = .pointer (some ⟨b, 0, none⟩)) (hd : a.defers = []) (k : R (.returned (.tuple #[.agg (inC I h0 h1 h2 h3 h4), a.tmps.getD s undef])) w) : bodyPost Try.prog fn R .ret a w :=
  bodyPost_ret (results_cell_tmp h _ _ b _ _ _ _ hp hb Try.underlying34 rfl (by kernel_rfl)) hd k
theorem BoxI.ret1 {fn : Func} {r : Tmp} (h : fn.results = #[.cell r 34]) {w : World} {b : Nat} {I : In} {h0 h1 h2 h3 h4 : Value} (hb : BoxI w b I h0 h1 h2 h3 h4) {R : Ending → World → Prop} {a : Act} (hp : a.tmps.getD r undef = .pointer (some ⟨b, 0, none⟩)) (hd : a.defers = []) (k : R (.returned (.agg (inC I h0 h1 h2 h3 h4))) w) : bodyPost Try.prog fn R .ret a w :=
  bodyPost_ret (results_cell_row h _ _ b _ _ _ _ hp hb Try.underlying34 rfl (by kernel_rfl)) hd k
theorem BoxE.step {w : World} {b : Nat} {k sd p o : Int} {y : Bool} {ty : Int} (h : BoxE w b k sd p o y ty) {ops : Array Oper} {rest : List Oper} {op : Oper} {a : Act} {Q : Exit → Act → World → Prop} {x : Operand} (hw : Region.wanted op (yielded ops a.tmps) = true) (ho : op.op = .load 55 x)
    (hx : a.eval x = .pointer (some ⟨b, 0, none⟩)) (q : wpList Try.prog ops Q rest (a.put op.dst (.agg (evC k sd p o y ty))) w) : wpList Try.prog ops Q (op :: rest) a w :=
  BigFrame.wpList_want hw fun _ hK => wp_load_mid 55 x ho b 0 hx [.int .u8 k, .int .i64 sd, .int .i64 p, .int .i64 o, .bool y, .int .i64 0, .int .i64 0, .int .u8 ty, .int .u8 0, .int .i64 0, .int .i64 0, .int .i64 0, .bool false, .int .u8 0, .int .i64 0, .int .i64 0, .int .i64 0, .bool false, .int .i64 0] _ (in_range h) Try.underlying55 rfl (by kernel_rfl) (hK _ _ q)
theorem BoxI.yields {S : World → Prop} {b : Nat} {I : In} {h0 h1 h2 h3 h4 : Value} {ops : Array Oper} {op : Oper} {a : Act} {x : Operand} (hS : ∀ w, S w → BoxI w b I h0 h1 h2 h3 h4) (hw : Region.wanted op (yielded ops a.tmps) = true) (ho : op.op = .load 34 x) (hx : a.eval x = .pointer (some ⟨b, 0, none⟩)) : YieldsIf Try.prog ops S op (.agg (inC I h0 h1 h2 h3 h4)) a :=
  yieldsIf_load_mid hw 34 x ho b 0 hx [.int .i64 1, .int .i64 0, .int .i64 0, .int .i64 0, .int .i64 0, .int .i64 0, .int .i64 0, .int .i64 0, .int .i64 0, .int .i64 0, .int .i64 I.c, .int .i64 I.k, .int .i64 I.s, .int .i64 I.o, h0, .int .i64 I.bw, h1, h2, .bool I.fr, h3, .bool false, .int .i64 I.age, .int .i64 I.kp, .int .i64 0, h4, .int .i64 I.ra, .int .i64 I.rb, .int .u8 0] _ (fun w h => in_range (hS w h)) Try.underlying34 rfl (by kernel_rfl)
theorem BoxL.yields {S : World → Prop} {b : Nat} {ops : Array Oper} {op : Oper} {a : Act} {x : Operand} (hS : ∀ w, S w → BoxL w b) (hw : Region.wanted op (yielded ops a.tmps) = true) (ho : op.op = .load 53 x) (hx : a.eval x = .pointer (some ⟨b, 0, none⟩)) : YieldsIf Try.prog ops S op (.agg dlC) a :=
  yieldsIf_load_mid hw 53 x ho b 0 hx [.int .u8 1, .int .u8 0, .int .i64 0, .int .i64 0, .int .i64 0, .bool false, .int .u8 0, .int .i64 0, .int .i64 0, .int .i64 0, .bool false, .int .i64 0] _ (fun w h => in_range (hS w h)) Try.underlying53 rfl (by kernel_rfl)
theorem BoxI.set3 {w : World} {b : Nat} {I : In} {h0 h1 h2 h3 h4 : Value} (h : BoxI w b I h0 h1 h2 h3 h4) : BoxI (w.setCell ⟨b, 3, none⟩ (.int .i64 0)) b I h0 h1 h2 h3 h4 := cell_put h 3 _
theorem BoxI.set5 {w : World} {b : Nat} {I : In} {h0 h1 h2 h3 h4 : Value} (h : BoxI w b I h0 h1 h2 h3 h4) : BoxI (w.setCell ⟨b, 5, none⟩ (.int .i64 0)) b I h0 h1 h2 h3 h4 := cell_put h 5 _
theorem BoxI.set6 {w : World} {b : Nat} {I : In} {h0 h1 h2 h3 h4 : Value} (h : BoxI w b I h0 h1 h2 h3 h4) : BoxI (w.setCell ⟨b, 6, none⟩ (.int .i64 0)) b I h0 h1 h2 h3 h4 := cell_put h 6 _
theorem BoxI.set7 {w : World} {b : Nat} {I : In} {h0 h1 h2 h3 h4 : Value} (h : BoxI w b I h0 h1 h2 h3 h4) : BoxI (w.setCell ⟨b, 7, none⟩ (.int .i64 0)) b I h0 h1 h2 h3 h4 := cell_put h 7 _
theorem BoxI.set8 {w : World} {b : Nat} {I : In} {h0 h1 h2 h3 h4 : Value} (h : BoxI w b I h0 h1 h2 h3 h4) : BoxI (w.setCell ⟨b, 8, none⟩ (.int .i64 0)) b I h0 h1 h2 h3 h4 := cell_put h 8 _
theorem BoxI.set10 {w : World} {b : Nat} {I : In} {h0 h1 h2 h3 h4 : Value} (h : BoxI w b I h0 h1 h2 h3 h4) (x : Int) : BoxI (w.setCell ⟨b, 10, none⟩ (.int .i64 x)) b { I with c := x } h0 h1 h2 h3 h4 := cell_put h 10 _
theorem BoxI.set11 {w : World} {b : Nat} {I : In} {h0 h1 h2 h3 h4 : Value} (h : BoxI w b I h0 h1 h2 h3 h4) (x : Int) : BoxI (w.setCell ⟨b, 11, none⟩ (.int .i64 x)) b { I with k := x } h0 h1 h2 h3 h4 := cell_put h 11 _
theorem BoxI.set12 {w : World} {b : Nat} {I : In} {h0 h1 h2 h3 h4 : Value} (h : BoxI w b I h0 h1 h2 h3 h4) (x : Int) : BoxI (w.setCell ⟨b, 12, none⟩ (.int .i64 x)) b { I with s := x } h0 h1 h2 h3 h4 := cell_put h 12 _
theorem BoxI.set13 {w : World} {b : Nat} {I : In} {h0 h1 h2 h3 h4 : Value} (h : BoxI w b I h0 h1 h2 h3 h4) (x : Int) : BoxI (w.setCell ⟨b, 13, none⟩ (.int .i64 x)) b { I with o := x } h0 h1 h2 h3 h4 := cell_put h 13 _
theorem BoxI.set15 {w : World} {b : Nat} {I : In} {h0 h1 h2 h3 h4 : Value} (h : BoxI w b I h0 h1 h2 h3 h4) (x : Int) : BoxI (w.setCell ⟨b, 15, none⟩ (.int .i64 x)) b { I with bw := x } h0 h1 h2 h3 h4 := cell_put h 15 _
theorem BoxI.set18 {w : World} {b : Nat} {I : In} {h0 h1 h2 h3 h4 : Value} (h : BoxI w b I h0 h1 h2 h3 h4) (x : Bool) : BoxI (w.setCell ⟨b, 18, none⟩ (.bool x)) b { I with fr := x } h0 h1 h2 h3 h4 := cell_put h 18 _
theorem BoxI.set20 {w : World} {b : Nat} {I : In} {h0 h1 h2 h3 h4 : Value} (h : BoxI w b I h0 h1 h2 h3 h4) : BoxI (w.setCell ⟨b, 20, none⟩ (.bool false)) b I h0 h1 h2 h3 h4 := cell_put h 20 _
theorem BoxI.set21 {w : World} {b : Nat} {I : In} {h0 h1 h2 h3 h4 : Value} (h : BoxI w b I h0 h1 h2 h3 h4) (x : Int) : BoxI (w.setCell ⟨b, 21, none⟩ (.int .i64 x)) b { I with age := x } h0 h1 h2 h3 h4 := cell_put h 21 _
theorem BoxI.set22 {w : World} {b : Nat} {I : In} {h0 h1 h2 h3 h4 : Value} (h : BoxI w b I h0 h1 h2 h3 h4) (x : Int) : BoxI (w.setCell ⟨b, 22, none⟩ (.int .i64 x)) b { I with kp := x } h0 h1 h2 h3 h4 := cell_put h 22 _
theorem BoxI.set25 {w : World} {b : Nat} {I : In} {h0 h1 h2 h3 h4 : Value} (h : BoxI w b I h0 h1 h2 h3 h4) (x : Int) : BoxI (w.setCell ⟨b, 25, none⟩ (.int .i64 x)) b { I with ra := x } h0 h1 h2 h3 h4 := cell_put h 25 _
theorem BoxI.set26 {w : World} {b : Nat} {I : In} {h0 h1 h2 h3 h4 : Value} (h : BoxI w b I h0 h1 h2 h3 h4) (x : Int) : BoxI (w.setCell ⟨b, 26, none⟩ (.int .i64 x)) b { I with rb := x } h0 h1 h2 h3 h4 := cell_put h 26 _
theorem BoxI.set27 {w : World} {b : Nat} {I : In} {h0 h1 h2 h3 h4 : Value} (h : BoxI w b I h0 h1 h2 h3 h4) : BoxI (w.setCell ⟨b, 27, none⟩ (.int .u8 0)) b I h0 h1 h2 h3 h4 := cell_put h 27 _
theorem BoxI.set16 {w : World} {b : Nat} {I : In} {h0 h1 h2 h3 h4 : Value} (h : BoxI w b I h0 h1 h2 h3 h4) (v : Value) (l : List Value) : BoxI (w.setCell ⟨b, 16, none⟩ v) b { I with bl := l } h0 v h2 h3 h4 := cell_put h 16 _
theorem BoxI.set17 {w : World} {b : Nat} {I : In} {h0 h1 h2 h3 h4 : Value} (h : BoxI w b I h0 h1 h2 h3 h4) (v : Value) (l : List Value) : BoxI (w.setCell ⟨b, 17, none⟩ v) b { I with bf := l } h0 h1 v h3 h4 := cell_put h 17 _
theorem BoxI.as_bat {w : World} {b : Nat} {I : In} {h0 h1 h2 h3 h4 : Value} (h : BoxI w b I h0 h1 h2 h3 h4) (l : List Value) : BoxI w b { I with bat := l } h0 h1 h2 h3 h4 := h
theorem BoxI.as_bl {w : World} {b : Nat} {I : In} {h0 h1 h2 h3 h4 : Value} (h : BoxI w b I h0 h1 h2 h3 h4) (l : List Value) : BoxI w b { I with bl := l } h0 h1 h2 h3 h4 := h
theorem BoxI.as_bf {w : World} {b : Nat} {I : In} {h0 h1 h2 h3 h4 : Value} (h : BoxI w b I h0 h1 h2 h3 h4) (l : List Value) : BoxI w b { I with bf := l } h0 h1 h2 h3 h4 := h
theorem BoxI.as_bd {w : World} {b : Nat} {I : In} {h0 h1 h2 h3 h4 : Value} (h : BoxI w b I h0 h1 h2 h3 h4) (l : List Value) : BoxI w b { I with bd := l } h0 h1 h2 h3 h4 := h
theorem BoxI.as_sb {w : World} {b : Nat} {I : In} {h0 h1 h2 h3 h4 : Value} (h : BoxI w b I h0 h1 h2 h3 h4) (l : List Value) : BoxI w b { I with sb := l } h0 h1 h2 h3 h4 := h
theorem BoxI.fz {w : World} {b : Nat} {I : In} {h0 h1 h2 h3 h4 : Value} (h : BoxI w b I h0 h1 h2 h3 h4) (j : Nat) : w.frozen? ⟨b, j, none⟩ = false := Lib.frozen_of_heap h j

end Go.Proofs.Ytpeabgfolpgfjaa

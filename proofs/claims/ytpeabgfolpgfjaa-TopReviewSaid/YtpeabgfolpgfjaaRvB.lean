/-
  The state of an innings: a value of 28 cells with five lists; its copies.
-/
import Derived.Test.YtpeabgfolpgfjaaRvA
import Derived.Deep.MidRow
namespace Go.Proofs.Ytpeabgfolpgfjaa
open Go.RowKit Go.Lib
set_option linter.unusedSimpArgs false

/-- What differs among the states that the law reaches. -/
structure In where
  c : Int
  k : Int
  s : Int
  o : Int
  bw : Int
  fr : Bool
  age : Int
  kp : Int
  ra : Int
  rb : Int
  bat : List Value
  bl : List Value
  bf : List Value
  bd : List Value
  sb : List Value
def inC (I : In) (h0 h1 h2 h3 h4 : Value) : Array Value := #[.int .i64 1, .int .i64 0, .int .i64 0, .int .i64 0, .int .i64 0, .int .i64 0, .int .i64 0, .int .i64 0, .int .i64 0, .int .i64 0, .int .i64 I.c, .int .i64 I.k, .int .i64 I.s, .int .i64 I.o, h0, .int .i64 I.bw, h1, h2, .bool I.fr, h3, .bool false, .int .i64 I.age, .int .i64 I.kp, .int .i64 0, h4, .int .i64 I.ra, .int .i64 I.rb, .int .u8 0]
/-- The lists are short and of one-cell values. -/
structure In.good (I : In) : Prop where
  n0 : I.bat.length ≤ 1000
  n1 : I.bl.length ≤ 1000
  n2 : I.bf.length ≤ 1000
  n3 : I.bd.length ≤ 1000
  n4 : I.sb.length ≤ 1000
  o0 : ∀ u ∈ I.bat, u.oneCell' = true
  o1 : ∀ u ∈ I.bl, u.oneCell' = true
  o2 : ∀ u ∈ I.bf, u.oneCell' = true
  o3 : ∀ u ∈ I.bd, u.oneCell' = true
  o4 : ∀ u ∈ I.sb, u.oneCell' = true
/-- A state as a value in memory: its lists are there. -/
structure InAt (w : World) (I : In) (h0 h1 h2 h3 h4 : Value) : Prop where
  l0 : ListAt w h0 I.bat
  l1 : ListAt w h1 I.bl
  l2 : ListAt w h2 I.bf
  l3 : ListAt w h3 I.bd
  l4 : ListAt w h4 I.sb
  n1 : I.bl = [] → h1 = .slice none 0 0
theorem InAt.ext {w w' : World} {I : In} {h0 h1 h2 h3 h4 : Value} (h : InAt w I h0 h1 h2 h3 h4) (x : Ext w w') : InAt w' I h0 h1 h2 h3 h4 := ⟨h.l0.ext x, h.l1.ext x, h.l2.ext x, h.l3.ext x, h.l4.ext x, h.n1⟩
/-- The same with lists that are one's own, made behind a height. -/
structure InOwn (base : Nat) (w : World) (I : In) (h0 h1 h2 h3 h4 : Value) : Prop where
  l0 : w.ownsRow base 92 1 h0 I.bat.length I.bat
  l1 : w.ownsRow base 3 1 h1 I.bl.length I.bl
  l2 : w.ownsRow base 3 1 h2 I.bf.length I.bf
  l3 : w.ownsRow base 3 1 h3 I.bd.length I.bd
  l4 : w.ownsRow base 4 1 h4 I.sb.length I.sb
  n1 : I.bl = [] → h1 = .slice none 0 0
  d1 : h1.ownBlock = none ∨ h1.ownBlock ≠ h3.ownBlock
  d2 : h2.ownBlock = none ∨ h2.ownBlock ≠ h3.ownBlock
theorem InOwn.ext {base : Nat} {w w' : World} {I : In} {h0 h1 h2 h3 h4 : Value} (h : InOwn base w I h0 h1 h2 h3 h4) (x : Ext w w') : InOwn base w' I h0 h1 h2 h3 h4 := ⟨own_ext h.l0 x, own_ext h.l1 x, own_ext h.l2 x, own_ext h.l3 x, own_ext h.l4 x, h.n1, h.d1, h.d2⟩
theorem InOwn.at {base : Nat} {w : World} {I : In} {h0 h1 h2 h3 h4 : Value} (h : InOwn base w I h0 h1 h2 h3 h4) : InAt w I h0 h1 h2 h3 h4 := ⟨own_list h.l0, own_list h.l1, own_list h.l2, own_list h.l3, own_list h.l4, h.n1⟩
theorem own_up {base b' : Nat} {w : World} {e : TypeId} {v : Value} {n : Nat} {xs : List Value} (h : w.ownsRow base e 1 v n xs) (hb : b' ≤ base) : w.ownsRow b' e 1 v n xs := by
  refine ⟨h.1, ?_⟩
  rcases h.2 with h | ⟨g, cap, cur, h1, h2, h3⟩
  · exact .inl h
  · exact .inr ⟨g, cap, cur, h1, Nat.le_trans hb h2, h3⟩
theorem own_apart {w w' : World} {base base' : Nat} {e e' : TypeId} {v v' : Value} {n n' : Nat} {xs xs' : List Value} (h : w.ownsRow base e 1 v n xs) (h' : w'.ownsRow base' e' 1 v' n' xs') (hb : w.heap.size ≤ base') : v.ownBlock = none ∨ v.ownBlock ≠ v'.ownBlock := by
  rcases hv : v.ownBlock with _ | k
  · exact .inl rfl
  · refine .inr fun he => ?_
    have h1 := (h.lt k hv).2
    have h2 := (h'.lt k he.symm).1
    omega
/-- A block's cells stored one behind another. -/
theorem setCells_heap (b : Nat) (t : TypeId) (fr : Nat × Nat) : ∀ (vs : List Value) (o : Nat) (w : World) (c : Array Value), w.heap[b]? = some (.cells c t fr) → o + vs.length ≤ c.size →
    ∃ c' : Array Value, (w.setCells b o vs).heap[b]? = some (.cells c' t fr) ∧ c'.size = c.size ∧ (∀ j, j < o → c'[j]? = c[j]?) ∧ ∀ j, j < vs.length → c'[o + j]? = vs[j]?
  | [], _, _, c, h, _ => ⟨c, h, rfl, fun _ _ => rfl, fun _ hj => absurd hj (by simp)⟩
  | v :: r, o, w, c, h, hs => by
    have h1 : (w.setCell ⟨b, o, none⟩ v).heap[b]? = some (.cells (c.setIfInBounds o v) t fr) := by simp [World.setCell, Array.getElem?_modify, h]
    obtain ⟨c', g1, g2, g3, g4⟩ := setCells_heap b t fr r (o + 1) _ _ h1 (by simp at hs ⊢; omega)
    refine ⟨c', g1, by simpa using g2, fun j hj => ?_, fun j hj => ?_⟩
    · rw [g3 j (by omega)]
      simp [show ¬ o = j by omega]
    · rcases j with _ | j
      · have ho : o < c.size := by simp at hs; omega
        rw [Nat.add_zero, g3 o (by omega)]
        simp [ho]
      · have := g4 j (by simpa using hj)
        rw [show o + (j + 1) = o + 1 + j by omega, this]
        simp
theorem cell_put {p : Nat} {cs : Array Value} {T : TypeId} {w : World} (h : w.heap[p]? = some (.cells cs T (0, 0))) (j : Nat) (u : Value) : (w.setCell ⟨p, j, none⟩ u).heap[p]? = some (.cells (cs.setIfInBounds j u) T (0, 0)) := by simp [World.setCell, Array.getElem?_modify, h]
theorem own_put {base p : Nat} {cs : Array Value} {e T : TypeId} {w : World} {v : Value} {n : Nat} {xs : List Value} (h : w.ownsRow base e 1 v n xs) (hb : w.heap[p]? = some (.cells cs T (0, 0))) (hne : e ≠ T) (j : Nat) (u : Value) : (w.setCell ⟨p, j, none⟩ u).ownsRow base e 1 v n xs :=
  h.kept (grown_setCell w p j u) (own_ne_blk h hb hne)
theorem setCells_whole {w : World} {b : Nat} {t : TypeId} {fr : Nat × Nat} {c c' : Array Value} (h : w.heap[b]? = some (.cells c t fr)) (hs : c.size = c'.size) : (w.setCells b 0 c'.toList).heap[b]? = some (.cells c' t fr) := by
  obtain ⟨d, g1, g2, _, g4⟩ := setCells_heap b t fr c'.toList 0 w c h (by simp [hs])
  have : d = c' := by
    apply Array.ext_getElem?
    intro j
    by_cases hj : j < c'.size
    · have := g4 j (by simpa using hj)
      simpa using this
    · rw [Array.getElem?_eq_none (by omega), Array.getElem?_eq_none (by omega)]
  rw [this] at g1
  exact g1
theorem in_range {w : World} {b : Nat} {c : List Value} {t : TypeId} {fr : Nat × Nat} (h : w.heap[b]? = some (.cells c.toArray t fr)) : w.rangeAt b 0 c := fun j v hv => by
  rw [Nat.zero_add, Lib.cell_of_heap h j]
  simpa using hv
theorem in_there {w : World} {b n : Nat} {c : Array Value} {t : TypeId} (h : w.heap[b]? = some (.cells c t (0, 0))) (hn : c.size = n) : w.there b 0 n := fun j hj => by
  rw [Nat.zero_add]
  exact ⟨by rw [Lib.cell_of_heap h j, Array.getElem?_eq_getElem (by omega)]; rfl, Lib.frozen_of_heap h j⟩
theorem own_setCells {base b : Nat} {e T : TypeId} {v : Value} {n : Nat} {xs : List Value} {w : World} {c : Array Value} (h : w.ownsRow base e 1 v n xs) (hne : e ≠ T) (vs : List Value) (o : Nat) (hb : w.heap[b]? = some (.cells c T (0, 0))) : (w.setCells b o vs).ownsRow base e 1 v n xs := by
  induction vs generalizing w c o with
  | nil => exact h
  | cons u r ih => exact ih (own_put h hb hne o u) (o + 1) (cell_put hb o u)
theorem setCells_ext {w0 : World} (b : Nat) (hb : w0.heap.size ≤ b) : ∀ (vs : List Value) (o : Nat) (w : World), Ext w0 w → Ext w0 (w.setCells b o vs)
  | [], _, _, h => h
  | v :: r, o, _, h => setCells_ext b hb r (o + 1) _ (h.setCell (p := ⟨b, o, none⟩) hb v)

end Go.Proofs.Ytpeabgfolpgfjaa

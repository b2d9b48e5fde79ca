/-
  Rounds of layer 49: the fixtures of a round robin, in plain lists and in memory.
-/
import Derived.Test.YtdaidanpcehnnaaKit
import Derived.Test.YtdaidanpcehnnaaMem
namespace Go.Proofs.Ytdaidanpcehnnaa
open Go.RowKit
set_option linter.unusedSimpArgs false

abbrev Fx := Nat × Nat × Nat
def addL (n : Nat) (l : List Fx) (r h a : Nat) : List Fx := if h < n ∧ a < n then l ++ [(r, h, a)] else l
/-- Behind k matches of round r beside the first one. -/
def inL (n m r : Nat) (l : List Fx) : Nat → List Fx
  | 0 => l
  | k + 1 => if (k + 1) % 2 = 1 then addL n (inL n m r l k) r ((r + (k + 1)) % (m - 1)) ((r + m - 1 - (k + 1)) % (m - 1)) else addL n (inL n m r l k) r ((r + m - 1 - (k + 1)) % (m - 1)) ((r + (k + 1)) % (m - 1))
def firstL (n m r : Nat) (l : List Fx) : List Fx := if r % 2 = 1 then addL n l r (m - 1) r else addL n l r r (m - 1)
def outL (n m : Nat) : Nat → List Fx
  | 0 => []
  | r + 1 => inL n m r (firstL n m r (outL n m r)) (m / 2 - 1)
def backL (m : Nat) (l : List Fx) : List Fx := l.map fun x => (x.1 + m - 1, x.2.2, x.2.1)
def roundsL (n : Nat) (d : Bool) : List Fx := let m := n + n % 2; let l := outL n m (m - 1); if d then l ++ backL m l else l
theorem add_len (n : Nat) (l : List Fx) (r h a : Nat) : (addL n l r h a).length ≤ l.length + 1 := by unfold addL; split <;> simp
theorem in_len (n m r : Nat) (l : List Fx) : ∀ k, (inL n m r l k).length ≤ l.length + k
  | 0 => Nat.le_refl _
  | k + 1 => by
    have h := in_len n m r l k
    unfold inL
    split
    · have := add_len n (inL n m r l k) r ((r + (k + 1)) % (m - 1)) ((r + m - 1 - (k + 1)) % (m - 1)); omega
    · have := add_len n (inL n m r l k) r ((r + m - 1 - (k + 1)) % (m - 1)) ((r + (k + 1)) % (m - 1)); omega
theorem first_len (n m r : Nat) (l : List Fx) : (firstL n m r l).length ≤ l.length + 1 := by unfold firstL; split <;> exact add_len _ _ _ _ _
theorem out_len (n m : Nat) (hm : m ≤ 8) : ∀ r, (outL n m r).length ≤ r * 4
  | 0 => Nat.le_refl _
  | r + 1 => by
    have h := out_len n m hm r
    have h1 := first_len n m r (outL n m r)
    have h2 := in_len n m r (firstL n m r (outL n m r)) (m / 2 - 1)
    unfold outL
    omega
def fixV (l : List Fx) : List Value := l.flatMap fun x => [.int .i64 x.1, .int .i64 x.2.1, .int .i64 x.2.2]
theorem fixV_at : ∀ (l : List Fx) (i : Nat) (x : Fx), l[i]? = some x → (fixV l)[i * 3]? = some (.int .i64 x.1) ∧ (fixV l)[i * 3 + 1]? = some (.int .i64 x.2.1) ∧ (fixV l)[i * 3 + 2]? = some (.int .i64 x.2.2)
  | [], _, _, h => by simp at h
  | y :: r, 0, x, h => by
    simp at h; subst h
    exact ⟨rfl, rfl, rfl⟩
  | y :: r, i + 1, x, h => by
    have h' : r[i]? = some x := by simpa using h
    have := fixV_at r i x h'
    have e : (i + 1) * 3 = i * 3 + 3 := by omega
    rw [e]
    exact this
theorem fixV_add (l : List Fx) (r h a : Nat) : fixV l ++ [.int .i64 (r : Int), .int .i64 (h : Int), .int .i64 (a : Int)] = fixV (l ++ [(r, h, a)]) := by simp [fixV]
theorem fixV_len (l : List Fx) : (fixV l).length = l.length * 3 := by
  induction l with
  | nil => rfl
  | cons x r ih => simp [fixV] at ih ⊢; omega
theorem infoFx : (Try.prog.info? 39).map (fun i => (i.zero, i.size, i.bytes)) = some (some (.agg #[.int .i64 0, .int .i64 0, .int .i64 0]), 3, 24) := by kernel_rfl

/-- Rounds at work: the box of n, the box of the list so far. -/
structure RInv (w wr : World) (nb ob n : Nat) (l : List Fx) : Prop where
  ext : Ext w wr
  nnew : w.heap.size ≤ nb
  onew : w.heap.size ≤ ob
  ne : nb ≠ ob
  nbox : wr.heap[nb]? = some (.cells #[.int .i64 n] 3 (0, 0))
  row : ∃ v, wr.heap[ob]? = some (.cells #[v] 28 (0, 0)) ∧ wr.ownsRow w.heap.size 39 3 v l.length (fixV l)
theorem RInv.grow {w wr w1 : World} {nb ob n : Nat} {l : List Fx} (h : RInv w wr nb ob n l) (x : Ext wr w1) : RInv w w1 nb ob n l := by
  obtain ⟨v, h1, h2⟩ := h.row
  exact ⟨h.ext.trans x, h.nnew, h.onew, h.ne, (x.block nb (Array.getElem?_eq_some_iff.1 h.nbox).1).trans h.nbox, v, (x.block ob (Array.getElem?_eq_some_iff.1 h1).1).trans h1, own_ext h2 x⟩
theorem RInv.ncell {w wr : World} {nb ob n : Nat} {l : List Fx} (h : RInv w wr nb ob n l) : wr.cell? ⟨nb, 0, none⟩ = some (.int .i64 n) := by simp [World.cell?, h.nbox]
/-- One more fixture: behind the append, and the store into the box. -/
theorem RInv.done {w wr w1 : World} {nb ob n : Nat} {l l' : List Fx} {v v' : Value} (h : RInv w wr nb ob n l) (hv : wr.heap[ob]? = some (.cells #[v] 28 (0, 0))) (hr : wr.ownsRow w.heap.size 39 3 v l.length (fixV l))
    (hg : wr.grownBy w1 v.ownBlock) (hown : w1.ownsRow w.heap.size 39 3 v' l'.length (fixV l')) : RInv w (w1.setCell ⟨ob, 0, none⟩ v') nb ob n l' := by
  have hs := grown_setCell w1 ob 0 v'
  have hn : some nb ≠ v.ownBlock := by
    rcases own_ne_blk hr h.nbox (by decide) with e | e
    · rw [e]; exact fun h => by cases h
    · exact fun h => e h.symm
  have ho : some ob ≠ v.ownBlock := by
    rcases own_ne_blk hr hv (by decide) with e | e
    · rw [e]; exact fun h => by cases h
    · exact fun h => e h.symm
  have ho1 : w1.heap[ob]? = some (.cells #[v] 28 (0, 0)) := (hg.block ob (Array.getElem?_eq_some_iff.1 hv).1 ho).trans hv
  refine ⟨(ext_grown h.ext hg (own_row_ge hr)).setCell h.onew _, h.nnew, h.onew, h.ne, ?_, v', ?_, hown.kept hs (own_ne_blk hown ho1 (by decide))⟩
  · rw [Below.heap_setCell _ _ _ _ h.ne]; exact (hg.block nb (Array.getElem?_eq_some_iff.1 h.nbox).1 hn).trans h.nbox
  · simp [World.setCell, Array.getElem?_modify, ho1]

set_option maxHeartbeats 4000000 in
theorem add_any (w wr : World) {nb ob n : Nat} {l : List Fx} (I : RInv w wr nb ob n l) (hl : l.length ≤ 1000) (r h a : Nat) :
    Calls Try.prog 11 #[.int .i64 r, .int .i64 h, .int .i64 a, .pointer (some ⟨nb, 0, none⟩), .pointer (some ⟨ob, 0, none⟩)] wr fun e w' => e = .returned (.tuple #[]) ∧ RInv w w' nb ob n (addL n l r h a) := by
  have hc := I.ncell
  have HI := Lib.hid I
  obtain ⟨v, hv, hrow⟩ := I.row
  have hvc : wr.cell? ⟨ob, 0, none⟩ = some v := by simp [World.cell?, hv]
  have hvf : wr.frozen? ⟨ob, 0, none⟩ = false := by simp [World.frozen?, hv]
  have hlob := cell_lt hvc
  obtain ⟨i0, hi, hz0, hz1, hz2⟩ := info_parts infoFx
  have hsz := I.ext.size
  clear I
  by_cases h1 : h < n
  · by_cases h2 : a < n
    · have HV : Hid (addL n l r h a = l ++ [(r, h, a)]) := by unfold Hid addL; rw [if_pos ⟨h1, h2⟩]
      go_enter Try.func11, Try.ntmps11
      go_wp2_with (at_builtin; refine wpList_append_own _ rfl _ _ 28 rfl w.heap.size 39 i0 (.agg #[.int .i64 0, .int .i64 0, .int .i64 0]) 3 24 Try.underlying28 hi hz0 hz1 hz2 rfl (by decide) _ _ _ rfl (hrow.alloc _) ⟨wr.heap.size, 0, none⟩ 1 1 [.int .i64 (r : Int), .int .i64 (h : Int), .int .i64 (a : Int)] rfl rfl ?c1 ?c2 ?c3 ?c4 ?c5 ?_)
      case c1 =>
        intro j u hu
        rcases j with _ | _ | _ | j
        · simp at hu; subst hu; simp [go_sem, Addr.add]
        · simp at hu; subst hu; simp [go_sem, Addr.add]
        · simp at hu; subst hu; simp [go_sem, Addr.add]
        · simp at hu
      case c2 => intro u hu; simp at hu; rcases hu with rfl | rfl | rfl <;> rfl
      case c3 => unfold maxLen; omega
      case c4 => omega
      case c5 => simp; omega
      intro v' w1 hown hgrow _
      rw [fixV_add] at hown
      obtain ⟨g1, cc1, rfl, _, _⟩ := own_form hown (by omega)
      have hx : Ext wr (wr.alloc (.cells #[.int .i64 (r : Int), .int .i64 (h : Int), .int .i64 (a : Int)] 39)) := (Ext.refl _).alloc _
      have hv1 := (hx.block ob (Array.getElem?_eq_some_iff.1 hv).1).trans hv
      have hD := (HI.out.grow hx).done hv1 (own_ext hrow hx) hgrow (l' := l ++ [(r, h, a)]) (by simpa using hown)
      have q1 : w1.cell? ⟨ob, 0, none⟩ = some v := by
        have ho : some ob ≠ v.ownBlock := by
          rcases own_ne_blk (own_ext hrow hx) hv1 (by decide) with e | e
          · rw [e]; exact fun h => by cases h
          · exact fun h => e h.symm
        have := (hgrow.block ob (Array.getElem?_eq_some_iff.1 hv1).1 ho).trans hv1
        simp [World.cell?, this]
      have q2 : w1.frozen? ⟨ob, 0, none⟩ = false := by
        have ho : some ob ≠ v.ownBlock := by
          rcases own_ne_blk (own_ext hrow hx) hv1 (by decide) with e | e
          · rw [e]; exact fun h => by cases h
          · exact fun h => e h.symm
        have := (hgrow.block ob (Array.getElem?_eq_some_iff.1 hv1).1 ho).trans hv1
        simp [World.frozen?, this]
      have HD := Lib.hid hD
      clear hD hown hgrow hrow hv hv1 hvc hvf
      go_wp2
      go_end0
      exact ⟨rfl, by rw [HV.out]; exact HD.out⟩
    · have HV : Hid (addL n l r h a = l) := by unfold Hid addL; rw [if_neg (fun k => h2 k.2)]
      go_enter Try.func11, Try.ntmps11
      go_wp2
      all_goals
        go_end0
        exact ⟨rfl, by rw [HV.out]; exact HI.out⟩
  · have HV : Hid (addL n l r h a = l) := by unfold Hid addL; rw [if_neg (fun k => h1 k.1)]
    go_enter Try.func11, Try.ntmps11
    go_wp2
    all_goals
      go_end0
      exact ⟨rfl, by rw [HV.out]; exact HI.out⟩

theorem add_at (w wr : World) {nb ob n : Nat} {l : List Fx} (I : RInv w wr nb ob n l) (hl : l.length ≤ 1000) (r h a : Nat) {ri hi ai : Int} (h1 : ri = (r : Int)) (h2 : hi = (h : Int)) (h3 : ai = (a : Int)) :
    Calls Try.prog 11 #[.int .i64 ri, .int .i64 hi, .int .i64 ai, .pointer (some ⟨nb, 0, none⟩), .pointer (some ⟨ob, 0, none⟩)] wr fun e w' => e = .returned (.tuple #[]) ∧ RInv w w' nb ob n (addL n l r h a) := by
  subst h1; subst h2; subst h3
  exact add_any w wr I hl r h a

end Go.Proofs.Ytdaidanpcehnnaa

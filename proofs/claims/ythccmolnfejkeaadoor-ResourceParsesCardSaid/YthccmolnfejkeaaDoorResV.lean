/-
  Texts of tables read back: what is read so far, and the rest (plain laws); SplitAfter, Split, TrimSuffix, Cut at any text.
-/
import Derived.Test.YthccmolnfejkeaaDoorResS
import Derived.Test.YthccmolnfejkeaaDoorResQ
import Derived.Test.YthccmolnfejkeaaDoorLibQ
import Derived.Test.YthccmolnfejkeaaDoorSplit
namespace Go.Proofs.YthccmolnfejkeaaDoor
open Go.RowKit
set_option linter.unusedSimpArgs false

/-- The valid tables with a text. -/
def IsR (s : List UInt8) (n : Nat) (L : Nat → Nat) (Z : Nat → Nat → Int) : Prop := shapeV n L Z = 0 ∧ hdrT (ovV n) (wkV n L) ++ tabTo L Z n = s
def BadR (s : List UInt8) : Prop := ∀ n L Z, IsR s n L Z → False
def Agr (u : Nat) (L' : Nat → Nat) (Z' : Nat → Nat → Int) (L : Nat → Nat) (Z : Nat → Nat → Int) : Prop := ∀ i, i < u → L' i = L i ∧ ∀ j, j < L i → Z' i j = Z i j
theorem IsR.body {s : List UInt8} {n : Nat} {L : Nat → Nat} {Z : Nat → Nat → Int} (h : IsR s n L Z) : cut2 10 s = lnF L Z n 0 := by
  have hb : ∀ c ∈ ([82, 69, 83, 79, 85, 82, 67, 69, 32] ++ (Lib.itoa (ovV n) ++ (32 :: Lib.itoa (wkV n L))) : List UInt8), c ≠ 10 := by
    intro c hc
    simp only [List.mem_append, List.mem_cons] at hc
    rcases hc with hc | hc | rfl | hc
    · rcases hc with rfl | rfl | rfl | rfl | rfl | rfl | rfl | rfl | rfl | hc <;> first | decide | cases hc
    · rcases itoa_bytes _ c hc with rfl | h1
      · decide
      · rintro rfl; exact absurd h1 (by decide)
    · decide
    · rcases itoa_bytes _ c hc with rfl | h1
      · decide
      · rintro rfl; exact absurd h1 (by decide)
  have e : s = ([82, 69, 83, 79, 85, 82, 67, 69, 32] ++ (Lib.itoa (ovV n) ++ (32 :: Lib.itoa (wkV n L)))) ++ 10 :: lnF L Z n 0 := by
    rw [← h.2, tabTo_all, hdrT]
    simp only [List.append_assoc, List.cons_append, List.nil_append]
  unfold cut2
  rw [e, cut_at _ _ _ hb]
theorem IsR.facts {s : List UInt8} {n : Nat} {L : Nat → Nat} {Z : Nat → Nat → Int} (h : IsR s n L Z) : 2 ≤ n ∧ n ≤ 91 ∧ 1 ≤ L 0 ∧ L 0 ≤ 10 ∧ (∀ i, i < n → L i = L 0) ∧ ∀ i j, i < n → j < L i → 0 ≤ Z i j ∧ Z i j ≤ 10000 := by
  obtain ⟨h1, h2, h3, h4, h5, h6⟩ := shape_zero h.1
  exact ⟨h1, h2, h3, h4, h5, fun i j hi hj => h6 i hi j hj⟩
theorem shape_congr {n : Nat} {L L' : Nat → Nat} {Z Z' : Nat → Nat → Int} (h : Agr n L' Z' L Z) (hs : shapeV n L Z = 0) : shapeV n L' Z' = 0 := by
  obtain ⟨h1, h2, h3, h4, h5, h6⟩ := shape_zero hs
  have e0 := (h 0 (by omega)).1
  refine shape_ok (by omega) (by omega) (fun i hi => ?_) (fun i hi j hj => ?_)
  · rw [(h i hi).1, e0]; exact h5 i hi
  · rw [(h i hi).1] at hj
    rw [(h i hi).2 j hj]
    exact h6 i hi j hj
theorem IsR.congr {s : List UInt8} {n : Nat} {L L' : Nat → Nat} {Z Z' : Nat → Nat → Int} (h : IsR s n L Z) (ha : Agr n L' Z' L Z) : IsR s n L' Z' := by
  have hf := h.facts
  refine ⟨shape_congr ha h.1, ?_⟩
  have e1 : wkV n L' = wkV n L := by rw [wkV_pos (by omega), wkV_pos (by omega), (ha 0 (by omega)).1]
  rw [e1, tabTo_congr n (fun i hi => (ha i hi).1) (fun i j hi hj => (ha i hi).2 j (by rw [← (ha i hi).1]; exact hj))]
  exact h.2
/-- The pieces of a text behind its line ends. -/
def pcs (B : List UInt8) (j : Nat) : List UInt8 := ((Lib.splitB ⟨#[10]⟩ 1 (Lib.countB ⟨B.toArray⟩ ⟨#[10]⟩) ⟨B.toArray⟩).getD j default).data.toList
def pcN (B : List UInt8) : Nat := Lib.countB ⟨B.toArray⟩ ⟨#[10]⟩ + 1
theorem pcs_good (L : Nat → Nat) (Z : Nat → Nat → Int) (n : Nat) : pcN (lnF L Z n 0) = n + 1 ∧ (∀ i, i < n → pcs (lnF L Z n 0) i = lineTo (Z i) (L i) ++ [10]) ∧ pcs (lnF L Z n 0) n = [] := by
  unfold pcN pcs
  rw [lnF_count, lnF_split]
  refine ⟨rfl, fun i hi => ?_, ?_⟩
  · rw [List.getD_eq_getElem?_getD, List.getElem?_append_left (by simpa using hi), List.getElem?_map, List.getElem?_range hi]
    simp
  · rw [List.getD_eq_getElem?_getD, List.getElem?_append_right (by simp)]
    simp
def wds (y : List UInt8) (j : Nat) : List UInt8 := ((Lib.splitB ⟨#[32]⟩ 0 (Lib.countB ⟨y.toArray⟩ ⟨#[32]⟩) ⟨y.toArray⟩).getD j default).data.toList
def wdN (y : List UInt8) : Nat := Lib.countB ⟨y.toArray⟩ ⟨#[32]⟩ + 1
theorem wds_good (g : Nat → Int) {k : Nat} (hk : 0 < k) : wdN (lineTo g k) = k ∧ ∀ j, j < k → wds (lineTo g k) j = Lib.itoa (g j) := by
  obtain ⟨m, rfl⟩ : ∃ m, k = m + 1 := ⟨k - 1, by omega⟩
  unfold wdN wds
  rw [line_wFrom g hk, wFrom_count, wFrom_words]
  refine ⟨rfl, fun j hj => ?_⟩
  rw [List.getD_eq_getElem?_getD, List.getElem?_map, List.getElem?_range hj]
  simp
theorem getD_data {xs : List ByteArray} {j : Nat} (h : j < xs.length) : xs[j]? = some ⟨((xs.getD j default).data.toList).toArray⟩ := by
  rw [List.getD_eq_getElem?_getD, List.getElem?_eq_getElem h]
  rfl
theorem splitAfter_heap (L : List UInt8) (hL : L.length ≤ 1000000) (m : Int) (w : World) (hm : w.cell? ⟨1, 0, none⟩ = some (.int .i64 m)) :
    Calls Tryd.prog 28 #[.string ⟨L.toArray⟩, .string ⟨#[10]⟩] w fun e w' => e = .returned (.slice (some ⟨w.heap.size, 0, none⟩) (pcN L) (pcN L)) ∧ Ext w w' ∧
      w'.heap[w.heap.size]? = some (.cells (Lib.cellsOf (Lib.splitB ⟨#[10]⟩ 1 (Lib.countB ⟨L.toArray⟩ ⟨#[10]⟩) ⟨L.toArray⟩) (pcN L)) 9 (0, 0)) := by
  have hsz : (⟨L.toArray⟩ : ByteArray).size = L.length := by simp [ByteArray.size]
  have hc : Lib.countB ⟨L.toArray⟩ ⟨#[10]⟩ ≤ (⟨L.toArray⟩ : ByteArray).size := Lib.countB_le ⟨#[10]⟩ (by decide) _ _ (Nat.le_refl _)
  have hl := Lib.splitB_all ⟨#[10]⟩ (by decide) 1 _ ⟨L.toArray⟩ rfl
  have HG := Tryd.strings_genSplit ⟨L.toArray⟩ ⟨#[10]⟩ 1 (-1) (Lib.countB ⟨L.toArray⟩ ⟨#[10]⟩ + 1) m w (by rw [hsz]; omega) hm (by decide) (by decide) (by decide) (by decide) (by rw [if_pos (by decide)]; omega)
  rw [Nat.add_sub_cancel, hl] at HG
  have HG2 := Lib.hid HG
  clear HG hc hl hsz
  go_enter Tryd.func28, Tryd.ntmps28
  go_wp2_with (go_at_call 40; refine HG2.out.mono ?_; rintro e w1 ⟨rfl, rfl⟩)
  go_ret
  exact ⟨rfl, Ext.alloc (Ext.refl w) _, heap_alloc_new w _⟩
theorem splitAfter_fn (B : List UInt8) (hB : B.length ≤ 100000) (w : World) (h : DX w) : Calls Tryd.prog 28 #[.string ⟨B.toArray⟩, .string ⟨#[10]⟩] w fun e w' =>
    e = .returned (.slice (some ⟨w.heap.size, 0, none⟩) (pcN B) (pcN B)) ∧ Ext w w' ∧ ∃ cs, w'.heap[w.heap.size]? = some (.cells cs 9 (0, 0)) ∧ ∀ j, j < pcN B → (pcs B j).length ≤ 100000 ∧ cs[j]? = some (.string ⟨(pcs B j).toArray⟩) := by
  obtain ⟨m, hm⟩ := h.mx
  refine (splitAfter_heap B (by omega) m w hm).mono ?_
  rintro e w' ⟨rfl, hb, hc⟩
  refine ⟨rfl, hb, _, hc, fun j hj => ?_⟩
  have hl := Lib.splitB_all ⟨#[10]⟩ (by decide) 1 _ ⟨B.toArray⟩ rfl
  have hj' : j < (Lib.splitB ⟨#[10]⟩ 1 (Lib.countB ⟨B.toArray⟩ ⟨#[10]⟩) ⟨B.toArray⟩).length := by rw [hl]; exact hj
  have hs := spl_sz _ _ _ _ _ (List.getElem_mem hj')
  refine ⟨?_, cellsOf_at (getD_data hj')⟩
  unfold pcs
  rw [List.getD_eq_getElem?_getD, List.getElem?_eq_getElem hj', Option.getD_some, Array.length_toList]
  have hsz : (⟨B.toArray⟩ : ByteArray).size = B.length := by simp [ByteArray.size]
  rw [hsz] at hs
  exact Nat.le_trans hs hB
theorem split_fn (y : List UInt8) (hy : y.length ≤ 100000) (w : World) (h : DX w) : Calls Tryd.prog 29 #[.string ⟨y.toArray⟩, .string ⟨#[32]⟩] w fun e w' =>
    e = .returned (.slice (some ⟨w.heap.size, 0, none⟩) (wdN y) (wdN y)) ∧ Ext w w' ∧ wdN y ≤ 100001 ∧ ∀ j, j < wdN y → (wds y j).length ≤ 100000 ∧ w'.cell? ⟨w.heap.size, j, none⟩ = some (.string ⟨(wds y j).toArray⟩) := by
  obtain ⟨m, hm⟩ := h.mx
  have hsz : (⟨y.toArray⟩ : ByteArray).size = y.length := by simp [ByteArray.size]
  have hl := Lib.splitB_all ⟨#[32]⟩ (by decide) 0 _ ⟨y.toArray⟩ rfl
  have hcn : Lib.countB ⟨y.toArray⟩ ⟨#[32]⟩ ≤ (⟨y.toArray⟩ : ByteArray).size := Lib.countB_le ⟨#[32]⟩ (by decide) _ _ (Nat.le_refl _)
  refine (Tryd.strings_Split ⟨y.toArray⟩ ⟨#[32]⟩ m w (by rw [hsz]; omega) hm (by decide)).mono ?_
  rintro e w' ⟨rfl, rfl⟩
  refine ⟨rfl, Ext.alloc (Ext.refl w) _, by unfold wdN; omega, fun j hj => ?_⟩
  have hj' : j < (Lib.splitB ⟨#[32]⟩ 0 (Lib.countB ⟨y.toArray⟩ ⟨#[32]⟩) ⟨y.toArray⟩).length := by rw [hl]; exact hj
  have hs := spl_sz _ _ _ _ _ (List.getElem_mem hj')
  refine ⟨?_, (Lib.cell_of_heap (heap_alloc_new w _) j).trans ?_⟩
  · unfold wds
    rw [List.getD_eq_getElem?_getD, List.getElem?_eq_getElem hj', Option.getD_some, Array.length_toList]
    rw [hsz] at hs
    exact Nat.le_trans hs hy
  · rw [List.getElem?_toArray, List.getElem?_map, getD_data hj']
    rfl
theorem trim_fn (x : List UInt8) (hx : x.length ≤ 100000) (w : World) : Calls Tryd.prog 30 #[.string ⟨x.toArray⟩, .string ⟨#[10]⟩] w fun e w' => e = .returned (.string ⟨(Lib.trimSuffix x [10]).toArray⟩) ∧ w = w' := by
  have hs : (⟨x.toArray⟩ : ByteArray).size ≤ 9223372036854775807 := by
    have h1 : (⟨x.toArray⟩ : ByteArray).size = x.length := by simp [ByteArray.size]
    rw [h1]; omega
  have HT := Tryd.strings_TrimSuffix ⟨x.toArray⟩ ⟨#[10]⟩ w hs
  refine HT.mono ?_
  intro e w' he
  obtain ⟨h1, h2⟩ := he
  exact ⟨h1, h2.symm⟩
theorem cutl_any (L : List UInt8) (hL : L.length ≤ 1000000) (w : World) (h : DX w) : Calls Tryd.prog 27 #[.string ⟨L.toArray⟩, .string ⟨#[10]⟩] w fun e w' =>
    e = .returned (.tuple #[.string ⟨(cut1 10 L).toArray⟩, .string ⟨(cut2 10 L).toArray⟩, .bool (cut3 10 L)]) ∧ Ext w w' := by
  obtain ⟨m, hm⟩ := h.mx
  refine (Tryd.strings_Cut ⟨L.toArray⟩ ⟨#[10]⟩ m w (by simp [ByteArray.size]; omega) hm).mono ?_
  rintro e w' ⟨rfl, n, rfl⟩
  exact ⟨by simp [cut1, cut2, cut3], (Ext.refl _).drewN n⟩
/-- The lengths of the rows that are made. -/
def Lr (rs : List (Nat × Nat × Nat)) (i : Nat) : Nat := (rs.getD i (0, 0, 0)).2.1
theorem Lr_old {rs : List (Nat × Nat × Nat)} {x : Nat × Nat × Nat} {i : Nat} (h : i < rs.length) : Lr (rs ++ [x]) i = Lr rs i := by
  unfold Lr
  rw [List.getD_eq_getElem?_getD, List.getD_eq_getElem?_getD, List.getElem?_append_left h]
theorem Lr_new {rs : List (Nat × Nat × Nat)} {x : Nat × Nat × Nat} {i : Nat} (h : i = rs.length) : Lr (rs ++ [x]) i = x.2.1 := by
  subst h
  unfold Lr
  rw [List.getD_eq_getElem?_getD, List.getElem?_append_right (Nat.le_refl _)]
  simp
def setZ (f : Nat → Nat → Int) (u : Nat) (h : Nat → Int) : Nat → Nat → Int := fun i => if i = u then h else f i
theorem setZ_old {f : Nat → Nat → Int} {u : Nat} {h : Nat → Int} {i : Nat} (hi : i < u) : setZ f u h i = f i := by unfold setZ; rw [if_neg (by omega)]
theorem setZ_new {f : Nat → Nat → Int} {u : Nat} {h : Nat → Int} : setZ f u h u = h := by unfold setZ; rw [if_pos rfl]
theorem Agr.snoc {u : Nat} {rs : List (Nat × Nat × Nat)} {f : Nat → Nat → Int} {L : Nat → Nat} {Z : Nat → Nat → Int} (h : Agr u (Lr rs) f L Z) (hl : rs.length = u) {g M c : Nat} {q : Nat → Int} (hM : M = L u) (hq : ∀ j, j < L u → q j = Z u j) : Agr (u + 1) (Lr (rs ++ [(g, M, c)])) (setZ f u q) L Z := fun i hi => by
  rcases Nat.lt_or_ge i u with h1 | h1
  · rw [Lr_old (by omega), setZ_old h1]
    exact h i h1
  · obtain rfl : i = u := by omega
    rw [Lr_new hl.symm, setZ_new]
    exact ⟨hM, hq⟩
/-- The rows that are made are well formed. -/
def RWf (u : Nat) (rs : List (Nat × Nat × Nat)) (f : Nat → Nat → Int) : Prop := ∀ i, i < u → Lr rs i ≤ 100 ∧ 1 ≤ Lr rs i ∧ ∀ j, j < Lr rs i → -9223372036854775808 ≤ f i j ∧ f i j ≤ 9223372036854775807
theorem RWf.snoc {u : Nat} {rs : List (Nat × Nat × Nat)} {f : Nat → Nat → Int} (h : RWf u rs f) (hl : rs.length = u) {g M c : Nat} {q : Nat → Int} (h1 : 1 ≤ M) (hM : M ≤ 100) (hq : ∀ j, j < M → -9223372036854775808 ≤ q j ∧ q j ≤ 9223372036854775807) : RWf (u + 1) (rs ++ [(g, M, c)]) (setZ f u q) := fun i hi => by
  rcases Nat.lt_or_ge i u with h2 | h2
  · rw [Lr_old (by omega), setZ_old h2]
    exact h i h2
  · obtain rfl : i = u := by omega
    rw [Lr_new hl.symm, setZ_new]
    exact ⟨hM, h1, hq⟩
def setQ (q : Nat → Int) (j : Nat) (v : Int) : Nat → Int := fun i => if i = j then v else q i
theorem rowV_set (q : Nat → Int) (j : Nat) (v : Int) : rowV j q ++ [.int .i64 v] = rowV (j + 1) (setQ q j v) := by
  unfold rowV
  rw [List.range_succ, List.map_append]
  refine congr (congrArg HAppend.hAppend (List.map_congr_left fun i hi => ?_)) (by simp [setQ])
  have : i ≠ j := by simp at hi; omega
  simp [setQ, this]
theorem own_len_form {w : World} {base : Nat} {e : TypeId} {size : Nat} {v : Value} {n : Nat} {xs : List Value} (h : w.ownsRow base e size v n xs) : ∃ A C, v = .slice A n C := by
  rcases h.2 with ⟨rfl, rfl⟩ | ⟨g, cap, cur, rfl, _⟩
  · exact ⟨_, _, rfl⟩
  · exact ⟨_, _, rfl⟩
/-- What Parse returns at s. -/
def ParOK (s : List UInt8) (w : World) (e : Ending) (w' : World) : Prop :=
  Ext w w' ∧ ((e = .returned (.tuple #[.agg #[.slice none 0 0], .int .i64 4]) ∧ BadR s) ∨
    ∃ (A0 : Option Addr) (u c : Nat) (A : Nat → Option Addr) (L C : Nat → Nat) (Z : Nat → Nat → Int) (b off : Nat) (G O : Nat → Nat),
      e = .returned (.tuple #[.agg #[.slice A0 u c], .int .i64 0]) ∧ TabAt w' A0 u A L C Z b off G O ∧ IsR s u L Z ∧ ∀ n L1 Z1, IsR s n L1 Z1 → u = n ∧ Agr n L Z L1 Z1)
/-- The program's Parse at piece k, u rows done. -/
def TrP (s : List UInt8) (k u : Nat) (L' : Nat → Nat) (Z' : Nat → Nat → Int) : Prop := ∀ n L Z, IsR s n L Z → k ≤ n + 1 ∧ u = min k n ∧ Agr u L' Z' L Z
/-- A row of the program's Parse, j words done. -/
def TrQ (s : List UInt8) (k j : Nat) (q : Nat → Int) : Prop := ∀ n L Z, IsR s n L Z → k < n ∧ wdN (Lib.trimSuffix (pcs (cut2 10 s) k) [10]) = L k ∧ (∀ i, i < L k → wds (Lib.trimSuffix (pcs (cut2 10 s) k) [10]) i = Lib.itoa (Z k i)) ∧ ∀ i, i < j → i < L k → q i = Z k i
theorem TrP.start (s : List UInt8) (L' : Nat → Nat) (Z' : Nat → Nat → Int) : TrP s 0 0 L' Z' := fun n L Z _ => ⟨by omega, by omega, fun i hi => absurd hi (by omega)⟩
theorem TrP.empty {s : List UInt8} {k u : Nat} {L' : Nat → Nat} {Z' : Nat → Nat → Int} (h : TrP s k u L' Z') (hk : k < pcN (cut2 10 s)) (he : pcs (cut2 10 s) k = []) : TrP s (k + 1) u L' Z' := fun n L Z hT => by
  obtain ⟨h1, h2, h3⟩ := h n L Z hT
  rw [hT.body] at hk he
  obtain ⟨p1, p2, p3⟩ := pcs_good L Z n
  have hkn : k = n := by
    rcases Nat.lt_or_ge k n with h4 | h4
    · rw [p2 k h4] at he; simp at he
    · omega
  exact ⟨by omega, by omega, h3⟩
theorem TrP.row {s : List UInt8} {k u : Nat} {L' : Nat → Nat} {Z' : Nat → Nat → Int} (h : TrP s k u L' Z') (hk : k < pcN (cut2 10 s)) (he : pcs (cut2 10 s) k ≠ []) (q : Nat → Int) : TrQ s k 0 q := fun n L Z hT => by
  obtain ⟨h1, h2, h3⟩ := h n L Z hT
  have hf := hT.facts
  rw [hT.body] at hk he ⊢
  obtain ⟨p1, p2, p3⟩ := pcs_good L Z n
  have hkn : k < n := by
    rcases Nat.lt_or_ge k n with h4 | h4
    · exact h4
    · rw [show k = n by omega] at he
      exact absurd p3 he
  rw [p2 k hkn, trim_line]
  have hL := hf.2.2.2.2.1 k hkn
  obtain ⟨w1, w2⟩ := wds_good (Z k) (k := L k) (by omega)
  exact ⟨hkn, w1, w2, fun i hi => absurd hi (by omega)⟩
theorem TrQ.step {s : List UInt8} {k j : Nat} {q : Nat → Int} {v : Int} (h : TrQ s k j q) (hv : Lib.parseIntB 64 (wds (Lib.trimSuffix (pcs (cut2 10 s) k) [10]) j) = .ok v) : TrQ s k (j + 1) (setQ q j v) := fun n L Z hT => by
  obtain ⟨h1, h2, h3, h4⟩ := h n L Z hT
  have hf := hT.facts
  refine ⟨h1, h2, h3, fun i hi hiL => ?_⟩
  unfold setQ
  split
  · rename_i he
    subst he
    rw [h3 i hiL] at hv
    have hz := hf.2.2.2.2.2 k i h1 hiL
    have := parseI_itoa (Z k i) (by omega) (by omega)
    rw [this] at hv
    exact (Lib.NumEnd.ok.inj hv).symm
  · exact h4 i (by omega) hiL
theorem TrQ.bad_num {s : List UInt8} {k j : Nat} {q : Nat → Int} (h : TrQ s k j q) (hj : j < wdN (Lib.trimSuffix (pcs (cut2 10 s) k) [10])) (hv : numOk (wds (Lib.trimSuffix (pcs (cut2 10 s) k) [10]) j) = false) : BadR s := fun n L Z hT => by
  obtain ⟨h1, h2, h3, h4⟩ := h n L Z hT
  rw [h2] at hj
  have hz := hT.facts.2.2.2.2.2 k j h1 hj
  rw [h3 j hj, (num_itoa (n := Z k j) (by omega) (by omega)).2] at hv
  cases hv
theorem TrQ.bad_len {s : List UInt8} {k j : Nat} {q : Nat → Int} (h : TrQ s k j q) (hj : j < wdN (Lib.trimSuffix (pcs (cut2 10 s) k) [10])) (h10 : 10 < j) : BadR s := fun n L Z hT => by
  obtain ⟨h1, h2, h3, h4⟩ := h n L Z hT
  have hf := hT.facts
  have := hf.2.2.2.2.1 k h1
  omega
theorem TrP.done {s : List UInt8} {k u : Nat} {rs : List (Nat × Nat × Nat)} {f : Nat → Nat → Int} (h : TrP s k u (Lr rs) f) (hl : rs.length = u) {M g c : Nat} {q : Nat → Int} (hq : TrQ s k M q) (hM : M = wdN (Lib.trimSuffix (pcs (cut2 10 s) k) [10])) : TrP s (k + 1) (u + 1) (Lr (rs ++ [(g, M, c)])) (setZ f u q) := fun n L Z hT => by
  obtain ⟨h1, h2, h3⟩ := h n L Z hT
  obtain ⟨q1, q2, q3, q4⟩ := hq n L Z hT
  have hku : u = k := by omega
  subst hku
  refine ⟨by omega, by omega, h3.snoc hl (by omega) (fun j hj => q4 j (by omega) hj)⟩
theorem TrP.bad_many {s : List UInt8} {k u : Nat} {L' : Nat → Nat} {Z' : Nat → Nat → Int} (h : TrP s k u L' Z') (hu : 91 < u) : BadR s := fun n L Z hT => by
  obtain ⟨h1, h2, h3⟩ := h n L Z hT
  have hf := hT.facts
  omega
theorem TrP.all {s : List UInt8} {k u : Nat} {L' : Nat → Nat} {Z' : Nat → Nat → Int} (h : TrP s k u L' Z') (hk : k = pcN (cut2 10 s)) : ∀ n L Z, IsR s n L Z → u = n ∧ Agr n L' Z' L Z := fun n L Z hT => by
  obtain ⟨h1, h2, h3⟩ := h n L Z hT
  rw [hT.body, (pcs_good L Z n).1] at hk
  obtain rfl : u = n := by omega
  exact ⟨rfl, h3⟩

end Go.Proofs.YthccmolnfejkeaaDoor

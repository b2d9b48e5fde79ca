/-
  What the law TopRobin keeps in memory: the map of the grounds taken, the map of the meetings, the days of each team.
-/
import Derived.Test.YtdaidanpcehnnaaRobN
namespace Go.Proofs.Ytdaidanpcehnnaa
open Go.RowKit
open Go.Maps (Keyed IsMap atKey_put_same atKey_put_other)
open Go.WideMaps (KeyLaw)
set_option linter.unusedSimpArgs false

abbrev PLT : TypeId := 43
abbrev PRT : TypeId := 44
def BusyAt (w : World) (bm k : Nat) (l : List Fx) (ds gr : Nat → Int) : Prop :=
  ∃ D : DataW Unit, w.ownsMap Try.prog PLT (plainElem Try.prog 4) bm k D ∧ ∀ g d kl, keyOf Try.prog PLT (.agg #[.int .i64 g, .int .i64 d]) = some kl → (∀ j, j < k → ¬ Takes l ds gr g d j) → D.atKey kl (.lit (.bool false)) = .lit (.bool false)
def MetAt (w : World) (bm k : Nat) (l : List Fx) : Prop :=
  ∃ D : DataW Unit, w.ownsMap Try.prog PRT (plainElem Try.prog 3) bm k D ∧ ∀ i j : Nat, ∀ kl, keyOf Try.prog PRT (.agg #[.int .i64 i, .int .i64 j]) = some kl → D.atKey kl (.lit (.int .i64 0)) = .lit (.int .i64 (countTo (isPair l i j) k))
theorem wf64 {n : Int} (h0 : -1000000 ≤ n) (h1 : n ≤ 1000000) : (Lit.int .i64 n).wf = true := by
  have a : IntKind.i64.min = -9223372036854775808 := by decide
  have b : IntKind.i64.max = 9223372036854775807 := by decide
  simp only [Lit.wf, a, b, Bool.and_eq_true, decide_eq_true_eq]; omega
section
variable {w w' : World} {bm k : Nat} {l : List Fx} {ds gr : Nat → Int}
theorem busy_made (w : World) : BusyAt (w.alloc (.map #[] 0)) w.heap.size 0 l ds gr := ⟨.map [], World.ownsMap_made w _ _ _, fun _ _ _ _ _ => rfl⟩
theorem met_made (w : World) : MetAt (w.alloc (.map #[] 0)) w.heap.size 0 l := ⟨.map [], World.ownsMap_made w _ _ _, fun _ _ _ _ => rfl⟩
theorem BusyAt.lt (h : BusyAt w bm k l ds gr) : bm < w.heap.size := by obtain ⟨D, h1, _⟩ := h; exact h1.lt
theorem MetAt.lt (h : MetAt w bm k l) : bm < w.heap.size := by obtain ⟨D, h1, _⟩ := h; exact h1.lt
theorem BusyAt.of_block (h : BusyAt w bm k l ds gr) (hb : w'.heap[bm]? = w.heap[bm]?) : BusyAt w' bm k l ds gr := by
  obtain ⟨D, h1, h2⟩ := h
  exact ⟨D, owns_same h1 hb, h2⟩
theorem MetAt.of_block (h : MetAt w bm k l) (hb : w'.heap[bm]? = w.heap[bm]?) : MetAt w' bm k l := by
  obtain ⟨D, h1, h2⟩ := h
  exact ⟨D, owns_same h1 hb, h2⟩
theorem BusyAt.ext (h : BusyAt w bm k l ds gr) (x : Ext w w') : BusyAt w' bm k l ds gr := h.of_block (x.block _ h.lt)
theorem MetAt.ext (h : MetAt w bm k l) (x : Ext w w') : MetAt w' bm k l := h.of_block (x.block _ h.lt)
theorem busy_look (h : BusyAt w bm k l ds gr) {g d : Int} (hg : (Lit.int .i64 g).wf = true) (hd : (Lit.int .i64 d).wf = true) (hn : ∀ j, j < k → ¬ Takes l ds gr g d j) :
    (Instr.lookup 35 (.map (some bm)) (.agg #[.int .i64 g, .int .i64 d]) false).run Try.prog w = .ok (.bool false) w := by
  obtain ⟨D, h1, h2⟩ := h
  obtain ⟨kl, hk⟩ := keyPlace hg hd
  obtain ⟨v, ps, hr, hv⟩ := h1.lookup (Keyed.of_law lawPlace) Try.underlying35 (zeroB w) (plainElem_bool Try.underlying4 false) hk
  rw [h2 g d kl hk hn] at hv
  have : v = .bool false := by
    unfold plainElem at hv
    rw [Try.underlying4] at hv
    cases v <;> simp at hv
    rename_i x
    obtain ⟨hx, _⟩ := hv
    rw [hx]
  rw [hr, this]
theorem met_look (h : MetAt w bm k l) (i j : Nat) (hi : i ≤ 100) (hj : j ≤ 100) :
    (Instr.lookup 36 (.map (some bm)) (.agg #[.int .i64 i, .int .i64 j]) false).run Try.prog w = .ok (.int .i64 (countTo (isPair l i j) k)) w := by
  obtain ⟨D, h1, h2⟩ := h
  obtain ⟨kl, hk⟩ := keyPair (i := i) (j := j) (wf64 (by omega) (by omega)) (wf64 (by omega) (by omega))
  obtain ⟨c, hr, hat, _⟩ := h1.lookup_int (Keyed.of_law lawPair) Try.underlying36 Try.underlying3 (zeroI w) hk
  rw [h2 i j kl hk] at hat
  injection hat with e1
  injection e1 with _ e2
  rw [hr, e2]
/-- One more place is taken. -/
theorem busy_put {D : DataW Unit} {g d : Int} {kl : Lit} (hD : ∀ g d kl, keyOf Try.prog PLT (.agg #[.int .i64 g, .int .i64 d]) = some kl → (∀ j, j < k → ¬ Takes l ds gr g d j) → D.atKey kl (.lit (.bool false)) = .lit (.bool false))
    (hk : keyOf Try.prog PLT (.agg #[.int .i64 g, .int .i64 d]) = some kl) (hg : gr (homeOf l k) = g) (hd : ds k = d) (hown : w'.ownsMap Try.prog PLT (plainElem Try.prog 4) bm (k + 1) (D.put kl (.lit (.bool true)))) : BusyAt w' bm (k + 1) l ds gr := by
  refine ⟨_, hown, fun g' d' kl' hk' hn => ?_⟩
  have hne : kl' ≠ kl := fun e => by
    rw [e] at hk'
    have := (Keyed.of_law lawPlace).inj hk' hk
    injection this with h1
    have a1 := congrArg (fun a : Array Value => a[0]?) h1
    have a2 := congrArg (fun a : Array Value => a[1]?) h1
    simp at a1 a2
    exact hn k (Nat.lt_succ_self _) ⟨hg.trans a1.symm, hd.trans a2.symm⟩
  rw [atKey_put_other hne]
  exact hD g' d' kl' hk' fun j hj => hn j (by omega)
/-- One more meeting. -/
theorem met_step (h : MetAt w bm k l) (hk : k < 1000) (i j : Nat) (hi : i ≤ 100) (hj : j ≤ 100) (hp : ∀ a b : Nat, isPair l a b k = true ↔ a = i ∧ b = j) :
    ∃ (st : Nat) (w1 : World), (Instr.mapEntry 36 (.map (some bm)) (.agg #[.int .i64 i, .int .i64 j])).run Try.prog w = .ok (.tuple #[.int .i64 (countTo (isPair l i j) k), goInt st]) w1 ∧
      (Instr.lookup 36 (.map (some bm)) (.agg #[.int .i64 i, .int .i64 j]) false).run Try.prog w = .ok (.int .i64 (countTo (isPair l i j) k)) w ∧
      (Instr.lookup 36 (.map (some bm)) (.agg #[.int .i64 i, .int .i64 j]) false).run Try.prog w1 = .ok (.int .i64 (countTo (isPair l i j) k)) w1 ∧ w.grownBy w1 (some bm) ∧
      ∃ w2, (Instr.entryStore 36 (.map (some bm)) (goInt st) (.int .i64 ((countTo (isPair l i j) k : Int) + 1))).run Try.prog w1 = .ok () w2 ∧ MetAt w2 bm (k + 1) l ∧ w.grownBy w2 (some bm) := by
  obtain ⟨D, h1, h2⟩ := h
  obtain ⟨kl, hkl⟩ := keyPair (i := i) (j := j) (wf64 (by omega) (by omega)) (wf64 (by omega) (by omega))
  obtain ⟨c, st, w1, hE, hL, hL1, hat, hwc, hg, hS⟩ := entry_law lawPair Try.underlying36 Try.underlying3 zeroI h1 (by unfold maxLen; omega) hkl
  rw [h2 i j kl hkl] at hat
  injection hat with e1
  injection e1 with _ e2
  subst e2
  have hc := count_le (isPair l i j) k
  obtain ⟨w2, hS1, hS2, hS3⟩ := hS ((countTo (isPair l i j) k : Int) + 1) (wf64 (by omega) (by omega))
  refine ⟨st, w1, hE, hL, hL1, hg, w2, hS1, ⟨_, hS2, fun a b kl' hk' => ?_⟩, hS3⟩
  by_cases e : a = i ∧ b = j
  · obtain ⟨rfl, rfl⟩ := e
    rw [hkl] at hk'
    injection hk' with hk'
    subst hk'
    rw [atKey_put_same (owns_isMap h1) ((Keyed.of_law lawPair).key hkl)]
    have : isPair l a b k = true := (hp a b).2 ⟨rfl, rfl⟩
    simp [countTo, this]
  · have hne : kl' ≠ kl := fun e' => by
      rw [e'] at hk'
      have := (Keyed.of_law lawPair).inj hk' hkl
      injection this with h3
      have a1 := congrArg (fun a : Array Value => a[0]?) h3
      have a2 := congrArg (fun a : Array Value => a[1]?) h3
      simp at a1 a2
      exact e ⟨by omega, by omega⟩
    rw [atKey_put_other hne, h2 a b kl' hk']
    have : isPair l a b k = false := by
      cases hh : isPair l a b k
      · rfl
      · exact absurd ((hp a b).1 hh) e
    simp [countTo, this]
end
/-- The days of a team among the first k. -/
def dayL (l : List Fx) (ds : Nat → Int) (t : Nat) : Nat → List Int
  | 0 => []
  | k + 1 => dayL l ds t k ++ (if hasTeam l t k then [ds k] else [])
theorem dayL_len (l : List Fx) (ds : Nat → Int) (t : Nat) : ∀ k, (dayL l ds t k).length = countTo (hasTeam l t) k
  | 0 => rfl
  | k + 1 => by simp [dayL, countTo, dayL_len l ds t k]; split <;> rfl
theorem dayL_mem {l : List Fx} {ds : Nat → Int} {t : Nat} {a : Int} : ∀ {k : Nat}, a ∈ dayL l ds t k → ∃ j, j < k ∧ hasTeam l t j = true ∧ a = ds j
  | 0, h => by cases h
  | k + 1, h => by
    rw [dayL, List.mem_append] at h
    rcases h with h | h
    · obtain ⟨j, h1, h2, h3⟩ := dayL_mem h
      exact ⟨j, by omega, h2, h3⟩
    · split at h
      · rename_i hc
        simp at h
        exact ⟨k, Nat.lt_succ_self _, hc, h⟩
      · cases h
theorem shares_of {l : List Fx} {t i j : Nat} (h : hasTeam l t j = true) (h' : hasTeam l t i = true) : Shares l j i := by
  simp [hasTeam] at h h'
  unfold Shares
  omega
theorem dayL_gap {l : List Fx} {ds gr : Nat → Int} {F R : Int} {t n : Nat} (hP : PlaceOk l ds gr F R n) : ∀ {k : Nat}, k ≤ n → (dayL l ds t k).Pairwise (fun a b => a + R + 1 ≤ b)
  | 0, _ => List.Pairwise.nil
  | k + 1, hk => by
    rw [dayL]
    refine List.pairwise_append.2 ⟨dayL_gap hP (by omega), ?_, fun a ha b hb => ?_⟩
    · split <;> simp
    · split at hb
      · rename_i hc
        simp at hb
        obtain ⟨j, h1, h2, rfl⟩ := dayL_mem ha
        rw [hb]
        exact (hP k (by omega)).2.2.1 j h1 (shares_of h2 hc)
      · cases hb
theorem dayL_bd {l : List Fx} {ds gr : Nat → Int} {F R : Int} {t n : Nat} (hP : PlaceOk l ds gr F R n) (hF0 : 0 ≤ F) (hF1 : F < 100000) (hR0 : 0 ≤ R) (hR1 : R ≤ 9) (hn : n ≤ 30) {k : Nat} (hk : k ≤ n) {a : Int} (h : a ∈ dayL l ds t k) : 0 ≤ a ∧ a ≤ 109572 := by
  obtain ⟨j, h1, _, rfl⟩ := dayL_mem h
  obtain ⟨a1, a2, _⟩ := hP j (by omega)
  have := mul_bd (x := (j : Int)) (y := R + 1) (p := 30) (q := 10) (by omega) (by omega) (by omega) (by omega)
  omega

end Go.Proofs.Ytdaidanpcehnnaa

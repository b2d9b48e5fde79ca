/-
  Lists of observations that the calls make; Behind of layer 31 (program and reference).
-/
import Derived.Test.YtaeblcgblmipaaaDoorCamB
import Derived.Test.YtaeblcgblmipaaaDoorMem
import Derived.Laws.AppendOwnNone
namespace Go.Proofs.YtaeblcgblmipaaaDoor
open Go.RowKit
set_option linter.unusedSimpArgs false

theorem infoS : (Tryd.prog.info? 33).map (fun i => (i.zero, i.size, i.bytes)) = some (some (.agg #[.int .i64 0, .int .i64 0, .int .i64 0, .int .i64 0, .int .i64 0]), 5, 40) := by kernel_rfl
/-- append to a list of observations that the call owns. -/
theorem append_seen {ops : Array Oper} {rest : List Oper} {o : Oper} {a : Act} {Q : Exit → Act → World → Prop} (w : World) (hgd : o.guard = none) (s x : Operand)
    (ho : o.op = .call { callee := .builtin .append, args := #[s, x], argTypes := #[22, 22] }) (base : Nat)
    (v : Value) (n : Nat) (xs : List Value) (hs : a.eval s = v) (hown : w.ownsRow base 33 5 v n xs)
    (ad : Addr) (m c : Nat) (news : List Value) (hx : a.eval x = .slice (some ad) m c) (hl : news.length = m * 5) (hnews : ∀ j u, news[j]? = some u → w.cell? (ad.add j) = some u) (h1 : ∀ u ∈ news, u.oneCell' = true)
    (h63 : n + m ≤ maxLen) (hbytes : (n + m) * 40 ≤ 140737488355328) (hbase : base ≤ w.heap.size)
    (h : ∀ v' w', w'.ownsRow base 33 5 v' (n + m) (xs ++ news) → w.grownBy w' v.ownBlock → (v' = .slice none 0 0 ↔ v = .slice none 0 0 ∧ m = 0) → wpList Tryd.prog ops Q rest (a.put o.dst v') w') : wpList Tryd.prog ops Q (o :: rest) a w := by
  obtain ⟨i0, hi, hz0, hz1, hz2⟩ := info_parts infoS
  exact wpList_append_own w hgd s x 22 ho base 33 i0 _ 5 40 Tryd.underlying22 hi hz0 hz1 hz2 rfl (by decide) v n xs hs hown ad m c news hx hl hnews h1 h63 hbytes hbase h
theorem append_seen_none {w : World} {ops : Array Oper} {rest : List Oper} {o : Oper} {a : Act} {Q : Exit → Act → World → Prop} (hgd : o.guard = none) (s x : Operand)
    (ho : o.op = .call { callee := .builtin .append, args := #[s, x], argTypes := #[22, 22] }) (base : Nat)
    (v : Value) (n : Nat) (xs : List Value) (hs : a.eval s = v) (hown : w.ownsRow base 33 5 v n xs) (hx : a.eval x = .slice none 0 0)
    (h : wpList Tryd.prog ops Q rest (a.put o.dst v) w) : wpList Tryd.prog ops Q (o :: rest) a w := by
  obtain ⟨i0, hi, hz0, hz1, hz2⟩ := info_parts infoS
  exact wpList_append_own_none hgd s x 22 ho base 33 i0 5 Tryd.underlying22 hi v n xs hs hown hx h
/-- The cells of n observations. -/
def seenL (n : Nat) (f : Nat → Nat → Int) : List Value := (List.range (n * 5)).map fun q => .int .i64 (f (q / 5) (q % 5))
theorem seenL_len (n : Nat) (f : Nat → Nat → Int) : (seenL n f).length = n * 5 := by simp [seenL]
theorem seenL_at (f : Nat → Nat → Int) {n q : Nat} (h : q < n * 5) : (seenL n f)[q]? = some (.int .i64 (f (q / 5) (q % 5))) := by
  simp [seenL, List.getElem?_range, h]
theorem seenL_ij (f : Nat → Nat → Int) {n i j : Nat} (h : i < n) (hj : j < 5) : (seenL n f)[i * 5 + j]? = some (.int .i64 (f i j)) := by
  rw [seenL_at f (by omega), show (i * 5 + j) / 5 = i by omega, show (i * 5 + j) % 5 = j by omega]
theorem seenL_one (n : Nat) (f : Nat → Nat → Int) : ∀ u ∈ seenL n f, u.oneCell' = true := by
  intro u hu
  simp only [seenL, List.mem_map] at hu
  obtain ⟨_, _, rfl⟩ := hu
  rfl
theorem seenL_congr {n : Nat} {f g : Nat → Nat → Int} (h : ∀ i j, i < n → j < 5 → f i j = g i j) : seenL n f = seenL n g := by
  refine List.map_congr_left fun q hq => ?_
  rw [List.mem_range] at hq
  rw [h (q / 5) (q % 5) (by omega) (by omega)]
theorem seenL_snoc (n : Nat) (f : Nat → Nat → Int) : seenL n f ++ [.int .i64 (f n 0), .int .i64 (f n 1), .int .i64 (f n 2), .int .i64 (f n 3), .int .i64 (f n 4)] = seenL (n + 1) f := by
  unfold seenL
  rw [show (n + 1) * 5 = n * 5 + 1 + 1 + 1 + 1 + 1 by omega]
  simp only [List.range_succ, List.map_append, List.map_cons, List.map_nil, List.append_assoc, List.cons_append, List.nil_append]
  rw [show n * 5 / 5 = n by omega, show n * 5 % 5 = 0 by omega, show (n * 5 + 1) / 5 = n by omega, show (n * 5 + 1) % 5 = 1 by omega,
    show (n * 5 + 1 + 1) / 5 = n by omega, show (n * 5 + 1 + 1) % 5 = 2 by omega, show (n * 5 + 1 + 1 + 1) / 5 = n by omega, show (n * 5 + 1 + 1 + 1) % 5 = 3 by omega,
    show (n * 5 + 1 + 1 + 1 + 1) / 5 = n by omega, show (n * 5 + 1 + 1 + 1 + 1) % 5 = 4 by omega]
def updS (f : Nat → Nat → Int) (i j : Nat) (u : Int) : Nat → Nat → Int := fun p q => if p = i ∧ q = j then u else f p q
theorem seenL_set (f : Nat → Nat → Int) {n i j : Nat} (u : Int) (h : i < n) (hj : j < 5) : (seenL n f).set (i * 5 + j) (.int .i64 u) = seenL n (updS f i j u) := by
  apply List.ext_getElem?
  intro q
  rw [List.getElem?_set]
  by_cases hq : q < n * 5
  · rw [seenL_at _ hq, seenL_at _ hq]
    by_cases he : i * 5 + j = q
    · subst he
      rw [if_pos rfl, if_pos (by rw [seenL_len]; omega), show (i * 5 + j) / 5 = i by omega, show (i * 5 + j) % 5 = j by omega]
      simp [updS]
    · rw [if_neg he]
      have : ¬ (q / 5 = i ∧ q % 5 = j) := by omega
      simp [updS, this]
  · have h1 : (seenL n f)[q]? = none := by rw [List.getElem?_eq_none_iff, seenL_len]; omega
    have h2 : (seenL n (updS f i j u))[q]? = none := by rw [List.getElem?_eq_none_iff, seenL_len]; omega
    rw [h1, h2, if_neg (by omega)]
/-- A slice value that reads as n observations. -/
structure SeenV (w : World) (v : Value) (n : Nat) (f : Nat → Nat → Int) (b off : Nat) : Prop where
  ex : ∃ A0 C, v = .slice A0 n C ∧ SeenAt w A0 n f b off ∧ n ≤ C ∧ (A0 = none → C = 0)
def SWf (n : Nat) (f : Nat → Nat → Int) : Prop := ∀ i j, i < n → j < 5 → -9223372036854775808 ≤ f i j ∧ f i j ≤ 9223372036854775807
theorem add_off (b o k : Nat) : (⟨b, o, none⟩ : Addr).add k = ⟨b, o + k, none⟩ := by unfold Addr.add; split <;> simp_all
theorem seenAt_own {w : World} {base g n C : Nat} {f : Nat → Nat → Int} (h : w.ownsRow base 33 5 (.slice (some ⟨g, 0, none⟩) n C) n (seenL n f)) (hn : n ≤ 9223372036854775807) (hw : SWf n f) (hg : g < w.heap.size) : SeenAt w (some ⟨g, 0, none⟩) n f g 0 where
  nle := hn
  top := fun _ => ⟨rfl, hg⟩
  cell := fun i j hi hj => by rw [show (0 + i * 5 + j) = i * 5 + j by omega, h.cellAt _ (by omega), seenL_ij f hi hj]
  wf := hw
theorem seenAt_nil (w : World) (A0 : Option Addr) (f : Nat → Nat → Int) (b off : Nat) : SeenAt w A0 0 f b off where
  nle := by omega
  top := fun h => absurd h (by omega)
  cell := fun i j hi hj => absurd hi (by omega)
  wf := fun i j hi hj => absurd hi (by omega)
theorem seenV_own {w : World} {base n : Nat} {v : Value} {f : Nat → Nat → Int} (h : w.ownsRow base 33 5 v n (seenL n f)) (hn : n ≤ 9223372036854775807) (hw : SWf n f) : ∃ g, SeenV w v n f g 0 := by
  rcases h.2 with ⟨rfl, rfl⟩ | ⟨g, cap, cur, rfl, hb, hg, hc, _⟩
  · exact ⟨0, ⟨none, 0, rfl, seenAt_nil _ _ _ _ _, Nat.le_refl _, fun _ => rfl⟩⟩
  · exact ⟨g, ⟨some ⟨g, 0, none⟩, cap, rfl, seenAt_own h hn hw (Array.getElem?_eq_some_iff.1 hg).1, hc, fun h => by cases h⟩⟩
theorem SeenV.ext {w w' : World} {v : Value} {n : Nat} {f : Nat → Nat → Int} {b off : Nat} (h : SeenV w v n f b off) (x : Ext w w') : SeenV w' v n f b off := by
  obtain ⟨A0, C, h1, h2, h3⟩ := h.ex
  exact ⟨A0, C, h1, h2.ext x, h3⟩
theorem SeenV.nil (w : World) (f : Nat → Nat → Int) : SeenV w (.slice none 0 0) 0 f 0 0 := ⟨none, 0, rfl, seenAt_nil _ _ _ _ _, Nat.le_refl _, fun _ => rfl⟩
/-- The cells from the k-th on. -/
theorem SeenAt.from {w : World} {A0 : Option Addr} {n : Nat} {f : Nat → Nat → Int} {b off : Nat} (T : SeenAt w A0 n f b off) {k : Nat} (hk : k ≤ n) :
    ∀ q u, (seenL (n - k) (fun i j => f (i + k) j))[q]? = some u → w.cell? ((⟨b, off + k * 5, none⟩ : Addr).add q) = some u := by
  intro q u hq
  have hl : q < (n - k) * 5 := by
    rcases Nat.lt_or_ge q ((n - k) * 5) with h | h
    · exact h
    · rw [List.getElem?_eq_none_iff.2 (by rw [seenL_len]; omega)] at hq; cases hq
  rw [seenL_at _ hl] at hq
  cases hq
  rw [add_off, show off + k * 5 + q = off + (q / 5 + k) * 5 + q % 5 by omega]
  exact T.cell _ _ (by omega) (by omega)
def bhK (n : Nat) (f : Nat → Nat → Int) : Nat := if bnOk n f then lowTo f n else 0
def bhN (n : Nat) (f : Nat → Nat → Int) : Nat := if ckE n f == 0 then n - bhK n f else 0
def bhF (n : Nat) (f : Nat → Nat → Int) : Nat → Nat → Int := fun i j => f (i + bhK n f) j
theorem bh_no {n : Nat} {f : Nat → Nat → Int} (h : (ckE n f == 0) = false) : bhN n f = 0 := by simp [bhN, h]
theorem bh_yes {n : Nat} {f : Nat → Nat → Int} (h : (ckE n f == 0) = true) : bhN n f = n - bhK n f := by simp [bhN, h]
theorem bhK_int (n : Nat) (f : Nat → Nat → Int) : bnK n f = (bhK n f : Int) := by unfold bnK bhK; split <;> rfl
theorem bhK_lt {n : Nat} {f : Nat → Nat → Int} (h : 0 < n) : bhK n f < n := by
  unfold bhK
  split
  · exact lowTo_lt f n h
  · exact h
theorem ck_le {n : Nat} {f : Nat → Nat → Int} (h : ckE n f = 0) : n ≤ 64 := by
  rcases Nat.lt_or_ge 64 n with h' | h'
  · rw [(ck_big h').2] at h; omega
  · exact h'
def BehOK (w : World) (n : Nat) (f : Nat → Nat → Int) (e : Ending) (w' : World) : Prop := ∃ v g, e = .returned v ∧ Ext w w' ∧ SeenV w' v (bhN n f) (bhF n f) g 0
theorem swf_from {n : Nat} {f : Nat → Nat → Int} (h : SWf n f) (k : Nat) : SWf (n - k) (fun i j => f (i + k) j) := fun i j hi hj => h _ _ (by omega) hj

set_option maxHeartbeats 16000000 in
theorem behind_any (A0 : Option Addr) (n C : Nat) (f : Nat → Nat → Int) (b off : Nat) (w : World) (T : SeenAt w A0 n f b off) (hC : n ≤ C) (hA0 : A0 = none → C = 0) :
    Calls Tryd.prog 16 #[.slice A0 n C] w (BehOK w n f) := by
  have hn := T.nle
  have HWF : Hid (SWf n f) := T.wf
  have HC := Lib.hid hC
  have HA0 := Lib.hid hA0
  clear hC hA0
  rcases and1 (ckE n f == 0) with he | he
  · have HB := Lib.hid (bh_no he)
    obtain ⟨E, hEq⟩ : ∃ E : Int, ckE n f = E := ⟨_, rfl⟩
    rw [hEq] at he
    have HE := Lib.hid hEq
    have HKI := Lib.hid (bhK_int n f)
    clear hEq
    go_enter Tryd.func16, Tryd.ntmps16
    go_wp2_with (first | (go_at_call 11; refine (check_any _ _ _ _ _ _ _ T).mono ?_; rintro e w1 ⟨rfl, hb1⟩; rw [HE.out]) | (go_at_call 13; refine (bounce_any _ _ _ _ _ _ _ (T.ext hb1)).mono ?_; rintro e w2 ⟨rfl, hb2'⟩; have hb2 := hb1.trans hb2'; rw [HKI.out]))
    go_ret
    exact ⟨_, 0, rfl, hb1, by rw [HB.out]; exact SeenV.nil _ _⟩
  · have he0 : ckE n f = 0 := by simpa using he
    have hle := ck_le he0
    have HE := Lib.hid he0
    have HB := Lib.hid (bh_yes he)
    obtain ⟨q, hq⟩ : ∃ q : Nat, bhK n f = q := ⟨_, rfl⟩
    have HQ := Lib.hid hq
    have HKI : Hid (bnK n f = (q : Int)) := by rw [Hid, bhK_int, hq]
    have hF : Hid (bhF n f = fun i j => f (i + q) j) := by rw [Hid]; funext i j; rw [bhF, hq]
    clear he he0
    by_cases h0 : n = 0
    · have hq0 : q = 0 := by rw [← hq]; unfold bhK; split <;> simp [h0, lowTo]
      subst h0
      subst hq0
      clear hq
      cases A0 with
      | none =>
        obtain rfl := HA0.out rfl
        go_enter Tryd.func16, Tryd.ntmps16
        go_wp2_with (first | (go_at_call 11; refine (check_any _ _ _ _ _ _ _ T).mono ?_; rintro e w1 ⟨rfl, hb1⟩; rw [HE.out]) | (go_at_call 13; refine (bounce_any _ _ _ _ _ _ _ (T.ext hb1)).mono ?_; rintro e w2 ⟨rfl, hb2'⟩; have hb2 := hb1.trans hb2'; rw [HKI.out]) | (at_builtin; refine append_seen_none rfl _ _ rfl w.heap.size _ 0 [] rfl (World.ownsRow_nil _ _ _ _) rfl ?_))
        go_ret
        exact ⟨_, 0, rfl, hb2, by rw [HB.out, HQ.out]; exact SeenV.nil _ _⟩
      | some a =>
        go_enter Tryd.func16, Tryd.ntmps16
        go_wp2_with (first | (go_at_call 11; refine (check_any _ _ _ _ _ _ _ T).mono ?_; rintro e w1 ⟨rfl, hb1⟩; rw [HE.out]) | (go_at_call 13; refine (bounce_any _ _ _ _ _ _ _ (T.ext hb1)).mono ?_; rintro e w2 ⟨rfl, hb2'⟩; have hb2 := hb1.trans hb2'; rw [HKI.out]) | (at_builtin; refine append_seen _ rfl _ _ rfl w.heap.size _ _ _ rfl (World.ownsRow_nil _ _ _ _) _ 0 _ (seenL 0 f) rfl (seenL_len _ _) ?c1 ?c2 ?c3 ?c4 ?c5 ?_))
        case c1 => intro j u hj; simp [seenL] at hj
        case c2 => exact seenL_one _ _
        case c3 => unfold maxLen; omega
        case c4 => omega
        case c5 => have := hb2.size; simp; omega
        intro v' w3 hown hgrow _
        go_wp2
        go_ret
        obtain ⟨g, hg⟩ := seenV_own (n := 0) (f := bhF 0 f) hown (by omega) (fun i j hi hj => absurd hi (by omega))
        exact ⟨_, g, rfl, ext_grown hb2 hgrow (fun k hk => by cases hk), by rw [HB.out, HQ.out]; exact hg⟩
    · have hqn : q < n := by rw [← hq]; exact bhK_lt (by omega)
      obtain ⟨hA, hb⟩ := T.top (by omega)
      subst hA
      have hcap : ¬ (C = q) := by have := HC.out; omega
      have hql : (q : Int) ≤ (n : Int) := by omega
      clear hq
      go_enter Tryd.func16, Tryd.ntmps16
      go_wp2_with (first | (go_at_call 11; refine (check_any _ _ _ _ _ _ _ T).mono ?_; rintro e w1 ⟨rfl, hb1⟩; rw [HE.out]) | (go_at_call 13; refine (bounce_any _ _ _ _ _ _ _ (T.ext hb1)).mono ?_; rintro e w2 ⟨rfl, hb2'⟩; have hb2 := hb1.trans hb2'; rw [HKI.out]) | (at_builtin; refine append_seen _ rfl _ _ rfl w.heap.size _ _ _ rfl (World.ownsRow_nil _ _ _ _) ⟨b, off + q * 5, none⟩ (n - q) _ (seenL (n - q) (fun i j => f (i + q) j)) rfl (seenL_len _ _) ?c1 ?c2 ?c3 ?c4 ?c5 ?_))
      case c1 => intro j u hj; have := (T.ext hb2).from (Nat.le_of_lt hqn) j u hj; simpa using this
      case c2 => exact seenL_one _ _
      case c3 => unfold maxLen; omega
      case c4 => omega
      case c5 => have := hb2.size; simp; omega
      intro v' w3 hown hgrow _
      go_wp2
      go_ret
      try simp only [List.nil_append, Nat.zero_add] at hown
      obtain ⟨g, hg⟩ := seenV_own hown (by omega) (swf_from HWF.out q)
      exact ⟨_, g, rfl, ext_grown hb2 hgrow (fun k hk => by cases hk), by rw [HB.out, HQ.out, hF.out]; exact hg⟩

set_option maxHeartbeats 16000000 in
theorem rbehind_any (A0 : Option Addr) (n C : Nat) (f : Nat → Nat → Int) (b off : Nat) (w : World) (T : SeenAt w A0 n f b off) (hC : n ≤ C) (hA0 : A0 = none → C = 0) :
    Calls Tryd.prog 17 #[.slice A0 n C] w (BehOK w n f) := by
  have hn := T.nle
  have HWF : Hid (SWf n f) := T.wf
  have HC := Lib.hid hC
  have HA0 := Lib.hid hA0
  clear hC hA0
  rcases and1 (ckE n f == 0) with he | he
  · have HB := Lib.hid (bh_no he)
    obtain ⟨E, hEq⟩ : ∃ E : Int, ckE n f = E := ⟨_, rfl⟩
    rw [hEq] at he
    have HE := Lib.hid hEq
    have HKI := Lib.hid (bhK_int n f)
    clear hEq
    go_enter Tryd.func17, Tryd.ntmps17
    go_wp2_with (first | (go_at_call 12; refine (rcheck_any _ _ _ _ _ _ _ T).mono ?_; rintro e w1 ⟨rfl, hb1⟩; rw [HE.out]) | (go_at_call 14; refine (rbounce_any _ _ _ _ _ _ _ (T.ext hb1)).mono ?_; rintro e w2 ⟨rfl, hb2'⟩; have hb2 := hb1.trans hb2'; rw [HKI.out]))
    go_ret
    exact ⟨_, 0, rfl, hb1, by rw [HB.out]; exact SeenV.nil _ _⟩
  · have he0 : ckE n f = 0 := by simpa using he
    have hle := ck_le he0
    have HE := Lib.hid he0
    have HB := Lib.hid (bh_yes he)
    obtain ⟨q, hq⟩ : ∃ q : Nat, bhK n f = q := ⟨_, rfl⟩
    have HQ := Lib.hid hq
    have HKI : Hid (bnK n f = (q : Int)) := by rw [Hid, bhK_int, hq]
    have hF : Hid (bhF n f = fun i j => f (i + q) j) := by rw [Hid]; funext i j; rw [bhF, hq]
    clear he he0
    by_cases h0 : n = 0
    · have hq0 : q = 0 := by rw [← hq]; unfold bhK; split <;> simp [h0, lowTo]
      subst h0
      subst hq0
      clear hq
      cases A0 with
      | none =>
        obtain rfl := HA0.out rfl
        go_enter Tryd.func17, Tryd.ntmps17
        go_wp2_with (first | (go_at_call 12; refine (rcheck_any _ _ _ _ _ _ _ T).mono ?_; rintro e w1 ⟨rfl, hb1⟩; rw [HE.out]) | (go_at_call 14; refine (rbounce_any _ _ _ _ _ _ _ (T.ext hb1)).mono ?_; rintro e w2 ⟨rfl, hb2'⟩; have hb2 := hb1.trans hb2'; rw [HKI.out]) | (at_builtin; refine append_seen_none rfl _ _ rfl w.heap.size _ 0 [] rfl (World.ownsRow_lit w2 #[] 0 hb2.size (by decide) rfl) rfl ?_))
        go_ret
        exact ⟨_, w2.heap.size, rfl, (hb2.alloc (.cells #[] 33)), by rw [HB.out, HQ.out]; exact ⟨_, _, rfl, seenAt_nil _ _ _ _ _, Nat.le_refl _, fun h => by cases h⟩⟩
      | some a =>
        go_enter Tryd.func17, Tryd.ntmps17
        go_wp2_with (first | (go_at_call 12; refine (rcheck_any _ _ _ _ _ _ _ T).mono ?_; rintro e w1 ⟨rfl, hb1⟩; rw [HE.out]) | (go_at_call 14; refine (rbounce_any _ _ _ _ _ _ _ (T.ext hb1)).mono ?_; rintro e w2 ⟨rfl, hb2'⟩; have hb2 := hb1.trans hb2'; rw [HKI.out]) | (at_builtin; refine append_seen _ rfl _ _ rfl w.heap.size _ _ _ rfl (World.ownsRow_lit w2 #[] 0 hb2.size (by decide) rfl) _ 0 _ (seenL 0 f) rfl (seenL_len _ _) ?c1 ?c2 ?c3 ?c4 ?c5 ?_))
        case c1 => intro j u hj; simp [seenL] at hj
        case c2 => exact seenL_one _ _
        case c3 => unfold maxLen; omega
        case c4 => omega
        case c5 => have := hb2.size; simp; omega
        intro v' w3 hown hgrow _
        go_wp2
        go_ret
        obtain ⟨g, hg⟩ := seenV_own (n := 0) (f := bhF 0 f) hown (by omega) (fun i j hi hj => absurd hi (by omega))
        exact ⟨_, g, rfl, ext_grown (hb2.alloc (.cells #[] 33)) hgrow (fun k hk => by cases hk; exact hb2.size), by rw [HB.out, HQ.out]; exact hg⟩
    · have hqn : q < n := by rw [← hq]; exact bhK_lt (by omega)
      obtain ⟨hA, hb⟩ := T.top (by omega)
      subst hA
      have hcap : ¬ (C = q) := by have := HC.out; omega
      have hql : (q : Int) ≤ (n : Int) := by omega
      clear hq
      go_enter Tryd.func17, Tryd.ntmps17
      go_wp2_with (first | (go_at_call 12; refine (rcheck_any _ _ _ _ _ _ _ T).mono ?_; rintro e w1 ⟨rfl, hb1⟩; rw [HE.out]) | (go_at_call 14; refine (rbounce_any _ _ _ _ _ _ _ (T.ext hb1)).mono ?_; rintro e w2 ⟨rfl, hb2'⟩; have hb2 := hb1.trans hb2'; rw [HKI.out]) | (at_builtin; refine append_seen _ rfl _ _ rfl w.heap.size _ _ _ rfl (World.ownsRow_lit w2 #[] 0 hb2.size (by decide) rfl) ⟨b, off + q * 5, none⟩ (n - q) _ (seenL (n - q) (fun i j => f (i + q) j)) rfl (seenL_len _ _) ?c1 ?c2 ?c3 ?c4 ?c5 ?_))
      case c1 => intro j u hj; have := (T.ext (hb2.alloc (.cells #[] 33))).from (Nat.le_of_lt hqn) j u hj; simpa using this
      case c2 => exact seenL_one _ _
      case c3 => unfold maxLen; omega
      case c4 => omega
      case c5 => have := hb2.size; simp; omega
      intro v' w3 hown hgrow _
      go_wp2
      go_ret
      try simp only [List.nil_append, Nat.zero_add] at hown
      obtain ⟨g, hg⟩ := seenV_own hown (by omega) (swf_from HWF.out q)
      exact ⟨_, g, rfl, ext_grown (hb2.alloc (.cells #[] 33)) hgrow (fun k hk => by cases hk; exact hb2.size), by rw [HB.out, HQ.out, hF.out]; exact hg⟩

end Go.Proofs.YtaeblcgblmipaaaDoor

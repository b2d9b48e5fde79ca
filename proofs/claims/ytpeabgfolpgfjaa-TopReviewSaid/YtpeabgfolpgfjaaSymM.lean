/-
  The ways that are possible on a type of delivery (layer 10).
-/
import Derived.Test.YtpeabgfolpgfjaaSymK
import Derived.Test.YtpeabgfolpgfjaaMem
import Derived.OwnWalk
import Derived.Maps.AppendAt
namespace Go.Proofs.Ytpeabgfolpgfjaa
open Go.RowKit
set_option linter.unusedSimpArgs false

theorem infoHow : (Try.prog.info? 51).map (fun i => (i.zero, i.size, i.bytes)) = some (some (.int .u8 0), 1, 1) := by kernel_rfl
/-- append to a list of ways that the call owns. -/
theorem append_how {ops : Array Oper} {rest : List Oper} {o : Oper} {a : Act} {Q : Exit → Act → World → Prop} (w : World) (hgd : o.guard = none) (s x : Operand)
    (ho : o.op = .call { callee := .builtin .append, args := #[s, x], argTypes := #[145, 145] }) (base : Nat)
    (v : Value) (n : Nat) (xs : List Value) (hs : a.eval s = v) (hown : w.ownsRow base 51 1 v n xs)
    (ad : Addr) (m c : Nat) (news : List Value) (hx : a.eval x = .slice (some ad) m c) (hl : news.length = m * 1) (hnews : ∀ j u, news[j]? = some u → w.cell? (ad.add j) = some u) (h1 : ∀ u ∈ news, u.oneCell' = true)
    (h63 : n + m ≤ maxLen) (hbytes : (n + m) * 1 ≤ 140737488355328) (hbase : base ≤ w.heap.size)
    (h : ∀ v' w', w'.ownsRow base 51 1 v' (n + m) (xs ++ news) → w.grownBy w' v.ownBlock → (v' = .slice none 0 0 ↔ v = .slice none 0 0 ∧ m = 0) → wpList Try.prog ops Q rest (a.put o.dst v') w') : wpList Try.prog ops Q (o :: rest) a w := by
  obtain ⟨i0, hi, hz0, hz1, hz2⟩ := info_parts infoHow
  exact wpList_append_own w hgd s x 145 ho base 51 i0 _ 1 1 Try.underlying145 hi hz0 hz1 hz2 rfl (by decide) v n xs hs hown ad m c news hx hl hnews h1 h63 hbytes hbase h
def hwN (t : Int) (k : Nat) : List Nat := (List.range k).filter (fun j => onB j t)
def hwL (t : Int) (k : Nat) : List Value := (hwN t k).map fun j => .int .u8 (j : Nat)
theorem hwN_yes {t : Int} {k : Nat} (h : onB k t = true) : hwN t (k + 1) = hwN t k ++ [k] := by simp [hwN, List.range_succ, h]
theorem hwN_no {t : Int} {k : Nat} (h : onB k t = false) : hwN t (k + 1) = hwN t k := by simp [hwN, List.range_succ, h]
theorem hwL_yes {t : Int} {k : Nat} (h : onB k t = true) : hwL t k ++ [.int .u8 (k : Nat)] = hwL t (k + 1) := by simp [hwL, hwN_yes h]
theorem hwL_no {t : Int} {k : Nat} (h : onB k t = false) : hwL t (k + 1) = hwL t k := by simp [hwL, hwN_no h]
theorem hwN_len (t : Int) (k : Nat) : (hwN t k).length ≤ k := by
  have := List.length_filter_le (fun j => onB j t) (List.range k)
  simpa [hwN] using this
theorem hwN_mem {t : Int} {h : Nat} (hh : h < 11) : h ∈ hwN t 11 ↔ onB h t = true := by simp [hwN, hh]
def HwPost (t : Int) (w : World) (e : Ending) (w' : World) : Prop :=
  ∃ v : Value, e = .returned v ∧ ((hwN t 11).length = 0 → v = .slice none 0 0) ∧ w'.ownsRow w.heap.size 51 1 v (hwN t 11).length (hwL t 11) ∧ Ext w w'
set_option maxRecDepth 20000 in
set_option maxHeartbeats 8000000 in
theorem ways_any (t : Int) (w : World) : Calls Try.prog 96 #[.int .u8 t, .bool false] w (HwPost t w) := by
  go_enter Try.func96, Try.ntmps96
  go_wp2_with (go_at_call 98; refine (table_any _).mono ?_; rintro e w1 ⟨rfl, hTb, hb1⟩)
  go_loopw [5, 10] (fun v i wr => ∃ k : Nat, k ≤ 11 ∧ i = .int .i64 k ∧ wr.ownsRow w1.heap.size 51 1 v (hwN t k).length (hwL t k) ∧ ((hwN t k).length = 0 → v = .slice none 0 0) ∧ Ext w1 wr) (fun _ i _ => 11 - (intOf i).toNat)
  case atStart => exact ⟨0, by omega, rfl, World.ownsRow_nil _ _ _ _, fun _ => rfl, Ext.refl _⟩
  case round =>
    obtain ⟨k, hk, rfl, hown, hvn, hE⟩ := hrel
    have HO := Lib.hid hown
    have HVN := Lib.hid hvn
    clear hown hvn
    by_cases hlt : k < 11
    · obtain ⟨c0, c1, c2, c3, c4, c5, c6⟩ := (hTb.ext hE) k hlt
      have hk11 : (k : Int) < 11 := by omega
      have hln := hwN_len t k
      obtain ⟨B, hB⟩ : ∃ B, onB k t = B := ⟨_, rfl⟩
      have HON : Hid (∀ W, Calls Try.prog 100 #[.agg #[.int .u8 (k : Nat), .string (nmT k), .bool (frT k), .bool (wdT k), .bool (noT k), .bool (flT k), .bool (eiT k)], .int .u8 t] W fun e w' => e = .returned (.bool B) ∧ Ext W w') := fun W => by
        have := on_any (k : Nat) (nmT k) (frT k) (wdT k) (noT k) (flT k) (eiT k) t W
        rw [← hB]; exact this
      cases B
      · have HN := Lib.hid (hwN_no hB)
        have HL := Lib.hid (hwL_no hB)
        clear hB
        go_wp2_with ((fail_if_success (have hzz := hb2)); go_at_call 100; refine (HON.out _).mono ?_; rintro e w2 ⟨rfl, hb2⟩; (have q2 : w2.cell? ⟨wr.heap.size, 0, none⟩ = some (.int .u8 (k : Nat)) := hb2.keep (by simp [go_sem])); (have HO1 := Lib.hid (own_ext HO.out (((Ext.refl wr).alloc _).trans hb2))))
        go_roundw
        case rel => exact ⟨k + 1, by omega, by go_num, by rw [HN.out, HL.out]; exact HO1.out, by rw [HN.out]; exact HVN.out, (hE.alloc _).trans hb2⟩
        case measure => simp [intOf]; omega
      · have HN := Lib.hid (hwN_yes hB)
        have HL := Lib.hid (hwL_yes hB)
        clear hB
        go_wp2_with (first | ((fail_if_success (have hzz := hb2)); go_at_call 100; refine (HON.out _).mono ?_; rintro e w2 ⟨rfl, hb2⟩; (have q2 : w2.cell? ⟨wr.heap.size, 0, none⟩ = some (.int .u8 (k : Nat)) := hb2.keep (by simp [go_sem])); (have HO1 := Lib.hid (own_ext HO.out (((Ext.refl wr).alloc _).trans hb2)))) | (at_builtin; refine append_how _ rfl _ _ rfl w1.heap.size _ _ _ rfl (HO1.out.alloc _) ⟨w2.heap.size, 0, none⟩ 1 1 [.int .u8 (k : Nat)] rfl rfl ?c1 ?c2 ?c3 ?c4 ?c5 ?_))
        case c1 => exact cell_one_new _ _ _
        case c2 => intro x hx; simp at hx; subst hx; rfl
        case c3 => unfold maxLen; omega
        case c4 => omega
        case c5 => have := ((hE.alloc _).trans hb2).size; simp; omega
        intro v' w3 hown' hgrow _
        rw [HL.out] at hown'
        have HO2 := Lib.hid hown'
        have hE2 : Ext w1 w3 := ext_grown (((hE.alloc _).trans hb2).alloc _) hgrow (own_row_ge HO1.out)
        clear hown' hgrow
        go_wp2
        go_roundw
        case rel => exact ⟨k + 1, by omega, by go_num, by rw [HN.out, List.length_append]; exact HO2.out, fun h => by rw [HN.out, List.length_append] at h; simp at h, hE2⟩
        case measure => simp [intOf]; omega
    · obtain rfl : k = 11 := by omega
      go_wp2
      go_ret
      exact ⟨_, rfl, HVN.out, own_base HO.out hb1.size, hb1.trans hE⟩

/-- A list of small numbers in memory, as a slice. -/
def HwAt (w : World) (v : Value) (l : List Nat) : Prop := (l = [] ∧ v = .slice none 0 0) ∨ (∃ g cap, v = .slice (some ⟨g, 0, none⟩) l.length cap ∧ g < w.heap.size ∧ ∀ j, j < l.length → w.cell? ⟨g, j, none⟩ = some (.int .u8 (l.getD j 0 : Nat)))
theorem hwAt_of {t : Int} {b : Nat} {w : World} {v : Value} (h0 : (hwN t 11).length = 0 → v = .slice none 0 0) (h : w.ownsRow b 51 1 v (hwN t 11).length (hwL t 11)) : HwAt w v (hwN t 11) := by
  by_cases hz : (hwN t 11).length = 0
  · exact Or.inl ⟨List.length_eq_zero_iff.1 hz, h0 hz⟩
  · obtain ⟨g, cap, rfl, _, hg⟩ := own_form h (by omega)
    refine Or.inr ⟨g, cap, rfl, hg, fun j hj => own_cell h ?_⟩
    simp [hwL, List.getD, hj]
set_option maxHeartbeats 4000000 in
theorem index_any (v : Value) (l : List Nat) (h : Nat) (w : World) (hl : l.length ≤ 1000) (T : HwAt w v l) : Calls Try.prog 99 #[v, .int .u8 (h : Nat)] w fun e w' => ∃ i : Int, e = .returned (.int .i64 i) ∧ ((0 ≤ i) ↔ h ∈ l) ∧ w = w' := by
  rcases T with ⟨rfl, rfl⟩ | ⟨g, cap, rfl, hg, hc⟩
  · go_enter Try.func99, Try.ntmps99
    go_wp2
    go_loop [8] (fun i => i = .int .i64 0) (fun _ => 0)
    case atStart => rfl
    case round =>
      obtain rfl := hrel
      go_wp2
      go_ret
      exact ⟨-1, rfl, by simp, rfl⟩
  · go_enter Try.func99, Try.ntmps99
    go_wp2
    go_loop [8] (fun i => ∃ k : Nat, k ≤ l.length ∧ i = .int .i64 k ∧ ∀ j, j < k → l.getD j 0 ≠ h) (fun i => l.length - (intOf i).toNat)
    case atStart => exact ⟨0, by omega, rfl, fun j hj => absurd hj (by omega)⟩
    case round =>
      obtain ⟨k, hk, rfl, hn⟩ := hrel
      by_cases hlt : k < l.length
      · have ck := hc k hlt
        have HM : Hid (l.getD k 0 ∈ l) := by simp [Hid, List.getD, hlt]
        have HN := Lib.hid hn
        clear hn
        obtain ⟨x, hx⟩ : ∃ x, l.getD k 0 = x := ⟨_, rfl⟩
        have HX := Lib.hid hx
        rw [hx] at ck HM
        clear hx
        have HC := Lib.hid hc
        clear hc
        by_cases hxh : x = h
        · subst hxh
          go_wp2
          go_ret
          exact ⟨k, rfl, by simp [HM.out], rfl⟩
        · have hne : ¬ ((h : Int) = (x : Int)) := by omega
          have hne' : ¬ ((x : Int) = (h : Int)) := by omega
          have HN2 : Hid (∀ j, j < k + 1 → l.getD j 0 ≠ h) := fun j hj => by
            rcases Nat.lt_or_ge j k with hh | hh
            · exact HN.out j hh
            · obtain rfl : j = k := by omega
              rw [HX.out]; exact hxh
          clear hxh
          go_wp2
          go_round
          case rel => exact ⟨k + 1, by omega, by go_num, HN2.out⟩
          case measure => simp [intOf]; omega
      · obtain rfl : k = l.length := by omega
        have HM : Hid (¬ h ∈ l) := fun hm => by
          obtain ⟨j, hj, he⟩ := List.getElem_of_mem hm
          exact hn j hj (by simp [List.getD, hj, he])
        clear hc hn
        go_wp2
        go_ret
        exact ⟨-1, rfl, by simp [HM.out], rfl⟩
theorem contains_any (v : Value) (l : List Nat) (h : Nat) (w : World) (hl : l.length ≤ 1000) (T : HwAt w v l) : Calls Try.prog 95 #[v, .int .u8 (h : Nat)] w fun e w' => e = .returned (.bool (decide (h ∈ l))) ∧ w = w' := by
  have HIX := Lib.hid (index_any v l h w hl T)
  obtain ⟨V, hV⟩ : ∃ V, decide (h ∈ l) = V := ⟨_, rfl⟩
  have HV := Lib.hid hV
  rw [hV]
  clear hV hl T
  go_enter Try.func95, Try.ntmps95
  go_wp2_with (go_at_call 99; refine HIX.out.mono ?_; rintro e w' ⟨i, rfl, hi, rfl⟩; replace hi := Lib.hid hi)
  all_goals
    refine bodyPost_ret (v := .bool V) ?_ rfl ⟨rfl, rfl⟩
    rw [← HV.out]
    have hi := hi.out
    simp [results, Try.results95, go_sem, *]

end Go.Proofs.Ytpeabgfolpgfjaa

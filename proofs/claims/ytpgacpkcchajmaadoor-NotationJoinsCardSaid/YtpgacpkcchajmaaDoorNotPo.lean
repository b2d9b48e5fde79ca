/-
  ParseOver of layer 7 (program and reference).
-/
import Derived.Test.YtpgacpkcchajmaaDoorNotFd
import Derived.Test.YtpgacpkcchajmaaDoorNotQ2
namespace Go.Proofs.YtpgacpkcchajmaaDoor
open Go.RowKit
set_option linter.unusedSimpArgs false

theorem infoD : (Tryd.prog.info? 26).map (fun i => (i.zero, i.size, i.bytes)) = some (some (.agg #[.int .u8 0, .int .u8 0, .int .i64 0, .int .i64 0, .int .i64 0, .bool false, .int .u8 0, .int .i64 0, .int .i64 0, .int .i64 0, .bool false, .int .i64 0]), 12, 80) := by kernel_rfl
/-- append to a list of deliveries that the call owns. -/
theorem append_dl {ops : Array Oper} {rest : List Oper} {o : Oper} {a : Act} {Q : Exit → Act → World → Prop} (w : World) (hgd : o.guard = none) (s x : Operand)
    (ho : o.op = .call { callee := .builtin .append, args := #[s, x], argTypes := #[38, 38] }) (base : Nat)
    (v : Value) (n : Nat) (xs : List Value) (hs : a.eval s = v) (hown : w.ownsRow base 26 12 v n xs)
    (ad : Addr) (m c : Nat) (news : List Value) (hx : a.eval x = .slice (some ad) m c) (hl : news.length = m * 12) (hnews : ∀ j u, news[j]? = some u → w.cell? (ad.add j) = some u) (h1 : ∀ u ∈ news, u.oneCell' = true)
    (h63 : n + m ≤ maxLen) (hbytes : (n + m) * 80 ≤ 140737488355328) (hbase : base ≤ w.heap.size)
    (h : ∀ v' w', w'.ownsRow base 26 12 v' (n + m) (xs ++ news) → w.grownBy w' v.ownBlock → (v' = .slice none 0 0 ↔ v = .slice none 0 0 ∧ m = 0) → wpList Tryd.prog ops Q rest (a.put o.dst v') w') : wpList Tryd.prog ops Q (o :: rest) a w := by
  obtain ⟨i0, hi, hz0, hz1, hz2⟩ := info_parts infoD
  exact wpList_append_own w hgd s x 38 ho base 26 i0 _ 12 80 Tryd.underlying38 hi hz0 hz1 hz2 rfl (by decide) v n xs hs hown ad m c news hx hl hnews h1 h63 hbytes hbase h
theorem cells_new12 (w : World) (e : TypeId) (g : Nat) (hg : w.heap.size = g) (v0 v1 v2 v3 v4 v5 v6 v7 v8 v9 v10 v11 : Value) : ∀ j u, [v0, v1, v2, v3, v4, v5, v6, v7, v8, v9, v10, v11][j]? = some u → (w.alloc (.cells #[v0, v1, v2, v3, v4, v5, v6, v7, v8, v9, v10, v11] e)).cell? ((⟨g, 0, none⟩ : Addr).add j) = some u := by
  intro j u h
  subst hg
  have := (World.ownsRow_lit (base := 0) (size := 12) (e := e) w #[v0, v1, v2, v3, v4, v5, v6, v7, v8, v9, v10, v11] 1 (Nat.zero_le _) (by decide) rfl).cells (g := w.heap.size) rfl j u h
  exact this
/-- The cells of the first k deliveries. -/
def dlL (F : Nat → Dl) : Nat → List Value
  | 0 => []
  | k + 1 => dlL F k ++ (F k).arr.toList
theorem dlL_snoc (F : Nat → Dl) (k : Nat) : dlL F k ++ (F k).arr.toList = dlL F (k + 1) := rfl
theorem dlL_len (F : Nat → Dl) : ∀ k, (dlL F k).length = k * 12
  | 0 => rfl
  | k + 1 => by rw [dlL, List.length_append, dlL_len F k]; simp [Dl.arr]; omega
theorem dlL_at (F : Nat → Dl) {j q : Nat} (hq : q < 12) : ∀ {k : Nat}, j < k → (dlL F k)[j * 12 + q]? = (F j).arr.toList[q]?
  | k + 1, h => by
    rw [dlL]
    rcases Nat.lt_or_ge j k with h1 | h1
    · rw [List.getElem?_append_left (by rw [dlL_len]; omega)]
      exact dlL_at F hq h1
    · obtain rfl : j = k := by omega
      rw [List.getElem?_append_right (by rw [dlL_len]; omega), dlL_len]
      congr 1; omega
theorem dls_nil (w : World) (f : Nat → Dl) : DlsAt w none 0 f 0 0 := ⟨by omega, fun h => by omega, fun i h => by omega, fun i h => by omega⟩
theorem own_cell12 {w : World} {base : Nat} {e : TypeId} {g n cap : Nat} {xs : List Value} (h : w.ownsRow base e 12 (.slice (some ⟨g, 0, none⟩) n cap) n xs) {j : Nat} {u : Value} (hu : xs[j]? = some u) : w.cell? ⟨g, j, none⟩ = some u := by
  have := h.cells (g := g) rfl j u hu
  rwa [show (⟨g, 0, none⟩ : Addr).add j = ⟨g, j, none⟩ by unfold Addr.add; split <;> simp_all] at this
theorem dls_own {w : World} {base : Nat} {g n cap : Nat} {F : Nat → Dl} (h : w.ownsRow base 26 12 (.slice (some ⟨g, 0, none⟩) n cap) n (dlL F n)) (hg : g < w.heap.size) (hn : n ≤ 9223372036854775807) (hw : ∀ i, i < n → (F i).Wf) : DlsAt w (some ⟨g, 0, none⟩) n F g 0 where
  nle := hn
  top := fun _ => ⟨rfl, hg⟩
  cell := fun i hi => by
    have hc := fun q (hq : q < 12) u (hu : (F i).arr.toList[q]? = some u) => own_cell12 h ((dlL_at F hq hi).trans hu)
    rw [Nat.zero_add]
    exact ⟨hc 0 (by omega) _ rfl, hc 1 (by omega) _ rfl, hc 2 (by omega) _ rfl, hc 3 (by omega) _ rfl, hc 4 (by omega) _ rfl, hc 5 (by omega) _ rfl, hc 6 (by omega) _ rfl, hc 7 (by omega) _ rfl, hc 8 (by omega) _ rfl, hc 9 (by omega) _ rfl, hc 10 (by omega) _ rfl, hc 11 (by omega) _ rfl⟩
  wf := hw
theorem own_dls {w : World} {base : Nat} {v : Value} {n : Nat} {F : Nat → Dl} (h : w.ownsRow base 26 12 v n (dlL F n)) (hv : n = 0 → v = .slice none 0 0) (hn : n ≤ 9223372036854775807) (hw : ∀ i, i < n → (F i).Wf) : ∃ A0 c b, v = .slice A0 n c ∧ DlsAt w A0 n F b 0 := by
  rcases Nat.eq_zero_or_pos n with rfl | h0
  · exact ⟨none, 0, 0, hv rfl, dls_nil _ _⟩
  · obtain ⟨g, cap, rfl, _, hgs⟩ := own_form h h0
    exact ⟨some ⟨g, 0, none⟩, cap, g, rfl, dls_own h hgs hn hw⟩
/-- What gives the deliveries of n words. -/
def PoRet (n : Nat) (g : Nat → List UInt8) (w : World) (e : Ending) (w' : World) : Prop := Ext w w' ∧ (((∃ j, j < n ∧ paE (g j) ≠ 0) ∧ e = .returned (.tuple #[.slice none 0 0, .int .i64 4])) ∨ ((∀ j, j < n → paE (g j) = 0) ∧ ∃ A0 c b, e = .returned (.tuple #[.slice A0 n c, .int .i64 0]) ∧ DlsAt w' A0 n (fun j => paD (g j)) b 0))
def SX (w : World) : Prop := TX w ∧ ∃ m, w.cell? ⟨0, 0, none⟩ = some (.int .i64 m)
theorem SX.ext {w w' : World} (h : SX w) (e : Ext w w') : SX w' := ⟨h.1.ext e, by obtain ⟨m, hm⟩ := h.2; exact ⟨m, e.keep hm⟩⟩
theorem split_any (s : List UInt8) (hl : s.length ≤ 2000) (w : World) (m : Int) (hm : w.cell? ⟨0, 0, none⟩ = some (.int .i64 m)) : Calls Tryd.prog 37 #[.string ⟨s.toArray⟩, .string ⟨#[32]⟩] w (WsRet s w) := by
  obtain ⟨h1, h2⟩ := wd_split s.length s (Nat.le_refl _)
  refine (Tryd.strings_Split ⟨s.toArray⟩ ⟨#[32]⟩ m w (by simp [ByteArray.size]; omega) hm (by decide)).mono ?_
  rintro e w' ⟨rfl, hw'⟩
  obtain rfl := hw'.symm
  rw [h2]
  refine ⟨w.heap.size, (wd s).length, rfl, (Ext.refl w).alloc _, fun j l hj => ?_⟩
  refine (Lib.cell_of_heap (heap_alloc_new w _) j).trans ?_
  rw [h1]
  simp [hj]
theorem pover_nil (w : World) : Calls Tryd.prog 19 #[.string ⟨#[]⟩] w fun e w' => e = .returned (.tuple #[.slice none 0 0, .int .i64 0]) ∧ w' = w := by
  go_enter Tryd.func19, Tryd.ntmps19
  go_wp2
  go_ret2
  exact ⟨rfl, rfl⟩

set_option maxRecDepth 20000 in
set_option maxHeartbeats 16000000 in
theorem pover_any (s : List UInt8) (hs : s ≠ []) (hl : s.length ≤ 2000) (w : World) (hX : SX w) : Calls Tryd.prog 19 #[.string ⟨s.toArray⟩] w (PoRet (wd s).length (fun j => (wd s).getD j []) w) := by
  have HX := Lib.hid hX
  obtain ⟨m, hm⟩ := hX.2
  have hgc : ∀ j, j < (wd s).length → (wd s)[j]? = some ((wd s).getD j []) := fun j h => by rw [List.getD_eq_getElem?_getD, List.getElem?_eq_getElem h]; rfl
  have HSPL : Hid (∀ W, W.cell? ⟨0, 0, none⟩ = some (.int .i64 m) → Calls Tryd.prog 37 #[.string ⟨s.toArray⟩, .string ⟨#[32]⟩] W fun e w' => ∃ b c, e = .returned (.slice (some ⟨b, 0, none⟩) (wd s).length c) ∧ Ext W w' ∧ ∀ j, j < (wd s).length → w'.cell? ⟨b, j, none⟩ = some (.string ⟨((wd s).getD j []).toArray⟩)) := fun W hW => (split_any s (by omega) W m hW).mono fun e w' ⟨b, c, h1, h2, h3⟩ => ⟨b, c, h1, h2, fun j hj => h3 j _ (hgc j hj)⟩
  have HM := Lib.hid hm
  have hie : s.isEmpty = false := by cases s with
    | nil => exact absurd rfl hs
    | cons x t => rfl
  have hsz := fun j (h : j < (wd s).length) => wd_sz s ((wd s).getD j []) (by rw [List.getD_eq_getElem?_getD, List.getElem?_eq_getElem h]; exact List.getElem_mem h)
  have hcn := wd_cnt s
  obtain ⟨g, hg⟩ : ∃ g : Nat → List UInt8, ∀ j, (wd s).getD j [] = g j := ⟨_, fun _ => rfl⟩
  rw [show (fun j => (wd s).getD j []) = g from funext hg]
  simp only [hg] at HSPL hsz
  obtain ⟨n, hn⟩ : ∃ n, (wd s).length = n := ⟨_, rfl⟩
  rw [hn] at HSPL hsz hcn ⊢
  obtain ⟨F, hF⟩ : ∃ F : Nat → Dl, ∀ j, paD (g j) = F j := ⟨_, fun _ => rfl⟩
  unfold PoRet
  rw [show (fun j => paD (g j)) = F from funext hF]
  have HF := Lib.hid hF
  clear hg hn hF hs hgc hX hm
  go_enter Tryd.func19, Tryd.ntmps19
  go_wp2_with (go_at_call 37; refine (HSPL.out _ HM.out).mono ?_; rintro e w1 ⟨bw, cw, rfl, hE1, hc1⟩; have HC1 := Lib.hid hc1; clear hc1)
  go_loopw [4, 14] (fun v i wr => ∃ k : Nat, k ≤ n ∧ i = .int .i64 k ∧ wr.ownsRow w1.heap.size 26 12 v k (dlL F k) ∧ (∀ j, j < k → paE (g j) = 0) ∧ (k = 0 → v = .slice none 0 0) ∧ Ext w1 wr) (fun _ i _ => n - (intOf i).toNat)
  case atStart => exact ⟨0, by omega, rfl, World.ownsRow_nil _ _ _ _, fun j hj => absurd hj (by omega), fun _ => rfl, Ext.refl _⟩
  case round =>
    obtain ⟨k, hk, rfl, hown, hok, hvn, hE⟩ := hrel
    have HO := Lib.hid hown
    have HOK := Lib.hid hok
    clear hok
    by_cases hlt : k < n
    · have cwk := hE.keep (HC1.out k hlt)
      have hsk := hsz k hlt
      have HPA0 : (∀ W, TX W → Calls Tryd.prog 14 #[.string ⟨(g k).toArray⟩] W fun e w' => e = .returned (.tuple #[(paD (g k)).v, .int .i64 (paE (g k))]) ∧ Ext W w') := fun W hW => by
          have := parse_any (g k) (by omega) W hW
          exact this
      have HF1 : Hid (F k = paD (g k)) := (HF.out k).symm
      have HE1 : Hid (paE (g k) = 0 → ∀ j, j < k + 1 → paE (g j) = 0) := fun h0 j hj => by
        rcases Nat.lt_or_ge j k with h | h
        · exact HOK.out j h
        · obtain rfl : j = k := by omega
          exact h0
      obtain ⟨l, hll⟩ : ∃ l, g k = l := ⟨_, rfl⟩
      have HL := Lib.hid hll
      rw [hll] at cwk hsk HPA0 HF1 HE1
      obtain ⟨D, hD⟩ : ∃ D, paD l = D := ⟨_, rfl⟩
      rw [hD] at HPA0 HF1
      by_cases hE0 : paE l = 0
      · rw [hE0] at HPA0
        have HOK2 := Lib.hid (HE1.out hE0)
        have HPA := Lib.hid HPA0
        unfold Dl.v at HPA
        clear HPA0 HE1 hE0 hD hll hsk hvn hown
        go_wp2_with (first | (go_at_call 14; refine (HPA.out _ (HX.out.1.ext (hE1.trans hE))).mono ?_; rintro e w2 ⟨rfl, hb2⟩; have HO2 := Lib.hid (own_ext HO.out hb2)) | (at_builtin; refine append_dl _ rfl _ _ rfl w1.heap.size _ _ _ rfl ((HO2.out.alloc _).alloc _) ⟨w2.heap.size + 1, 0, none⟩ 1 1 [.int .u8 D.ty, .int .u8 D.so, .int .i64 D.ru, .int .i64 D.sh, .int .i64 D.bo, .bool D.cr, .int .u8 D.ho, .int .i64 D.vi, .int .i64 D.fi, .int .i64 D.se, .bool D.su, .int .i64 D.sc] rfl rfl ?c1 ?c2 ?c3 ?c4 ?c5 ?_))
        case c1 => exact cells_new12 _ _ _ (by simp) _ _ _ _ _ _ _ _ _ _ _ _
        case c2 => intro u hu; simp at hu; rcases hu with rfl | rfl | rfl | rfl | rfl | rfl | rfl | rfl | rfl | rfl | rfl | rfl <;> rfl
        case c3 => unfold maxLen; omega
        case c4 => omega
        case c5 => have := (hE.trans hb2).size; simp; omega
        intro v' w4 hown' hgrow _
        have hE4 : Ext w1 w4 := ext_grown (((hE.trans hb2).alloc _).alloc _) hgrow (own_row_ge HO2.out)
        rw [show [.int .u8 D.ty, .int .u8 D.so, .int .i64 D.ru, .int .i64 D.sh, .int .i64 D.bo, .bool D.cr, .int .u8 D.ho, .int .i64 D.vi, .int .i64 D.fi, .int .i64 D.se, .bool D.su, .int .i64 D.sc] = D.arr.toList from rfl, ← HF1.out, dlL_snoc] at hown'
        have HO4 := Lib.hid hown'
        clear hown' hgrow
        go_wp2
        go_roundw
        case rel => exact ⟨k + 1, by omega, by go_num, HO4.out, HOK2.out, fun h => absurd h (by omega), hE4⟩
        case measure => simp [intOf]; omega
      · have h4 : paE l = 4 := by
          unfold paE at hE0 ⊢
          split
          · rename_i h; rw [if_pos h] at hE0; exact absurd rfl hE0
          · rfl
        rw [h4] at HPA0
        have HBAD : Hid (∃ j, j < n ∧ paE (g j) ≠ 0) := ⟨k, hlt, by rw [hll]; exact hE0⟩
        have HPA := Lib.hid HPA0
        unfold Dl.v at HPA
        clear HPA0 HE1 hE0 hD hll hsk hvn hown h4
        go_wp2_with (first | (go_at_call 14; refine (HPA.out _ (HX.out.1.ext (hE1.trans hE))).mono ?_; rintro e w2 ⟨rfl, hb2⟩))
        go_ret2
        exact ⟨(by repeat (first | exact Ext.refl _ | refine Ext.setCell ?_ (by first | exact Nat.le_refl _ | (simp; done) | (simp; omega)) _ | refine Ext.drew ?_ | refine Ext.drewN ?_ _ | refine Ext.alloc ?_ _ | refine Ext.trans ?_ hb2 | refine Ext.trans ?_ hE | refine Ext.trans ?_ hE1)), Or.inl ⟨HBAD.out, rfl⟩⟩
    · obtain rfl : k = n := by omega
      obtain ⟨A0, c, bb, rfl, hT⟩ := own_dls hown hvn (by omega) (fun i hi => by rw [← HF.out i]; exact (pa_ok (HOK.out i hi)).2.2)
      have HT := Lib.hid hT
      clear hown hvn hT
      go_wp2
      go_ret2
      exact ⟨(by repeat (first | exact Ext.refl _ | refine Ext.setCell ?_ (by first | exact Nat.le_refl _ | (simp; done) | (simp; omega)) _ | refine Ext.drew ?_ | refine Ext.drewN ?_ _ | refine Ext.alloc ?_ _ | refine Ext.trans ?_ hE | refine Ext.trans ?_ hE1)), Or.inr ⟨HOK.out, A0, c, bb, rfl, HT.out⟩⟩

end Go.Proofs.YtpgacpkcchajmaaDoor

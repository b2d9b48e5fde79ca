/-
  Over of layer 7 (program): lists of deliveries in memory.
-/
import Derived.Test.YtpgacpkcchajmaaDoorNotC
import Derived.Test.YtpgacpkcchajmaaDoorJoin
import Derived.Test.YtpgacpkcchajmaaDoorMem
namespace Go.Proofs.YtpgacpkcchajmaaDoor
open Go.RowKit
set_option linter.unusedSimpArgs false

theorem infoStr : (Tryd.prog.info? 9).map (fun i => (i.zero, i.size, i.bytes)) = some (some (.string ⟨#[]⟩), 1, 16) := by kernel_rfl
/-- append to a list of words that the call owns. -/
theorem append_str {ops : Array Oper} {rest : List Oper} {o : Oper} {a : Act} {Q : Exit → Act → World → Prop} (w : World) (hgd : o.guard = none) (s x : Operand)
    (ho : o.op = .call { callee := .builtin .append, args := #[s, x], argTypes := #[47, 47] }) (base : Nat)
    (v : Value) (n : Nat) (xs : List Value) (hs : a.eval s = v) (hown : w.ownsRow base 9 1 v n xs)
    (ad : Addr) (m c : Nat) (news : List Value) (hx : a.eval x = .slice (some ad) m c) (hl : news.length = m * 1) (hnews : ∀ j u, news[j]? = some u → w.cell? (ad.add j) = some u) (h1 : ∀ u ∈ news, u.oneCell' = true)
    (h63 : n + m ≤ maxLen) (hbytes : (n + m) * 16 ≤ 140737488355328) (hbase : base ≤ w.heap.size)
    (h : ∀ v' w', w'.ownsRow base 9 1 v' (n + m) (xs ++ news) → w.grownBy w' v.ownBlock → (v' = .slice none 0 0 ↔ v = .slice none 0 0 ∧ m = 0) → wpList Tryd.prog ops Q rest (a.put o.dst v') w') : wpList Tryd.prog ops Q (o :: rest) a w := by
  obtain ⟨i0, hi, hz0, hz1, hz2⟩ := info_parts infoStr
  exact wpList_append_own w hgd s x 47 ho base 9 i0 _ 1 16 Tryd.underlying47 hi hz0 hz1 hz2 rfl (by decide) v n xs hs hown ad m c news hx hl hnews h1 h63 hbytes hbase h
def strL (g : Nat → List UInt8) (n : Nat) : List Value := (List.range n).map fun j => .string ⟨(g j).toArray⟩
theorem strL_snoc (g : Nat → List UInt8) (n : Nat) : strL g n ++ [.string ⟨(g n).toArray⟩] = strL g (n + 1) := by simp [strL, List.range_succ]
theorem strL_at (g : Nat → List UInt8) {n j : Nat} (h : j < n) : (strL g n)[j]? = some (.string ⟨(g j).toArray⟩) := by simp [strL, List.getElem?_range, h]

/-- A delivery at a place of a block. -/
def BoxO (d : Dl) (b o : Nat) (w : World) : Prop := w.cell? ⟨b, o, none⟩ = some (.int .u8 d.ty) ∧ w.cell? ⟨b, o + 1, none⟩ = some (.int .u8 d.so) ∧ w.cell? ⟨b, o + 2, none⟩ = some (.int .i64 d.ru) ∧ w.cell? ⟨b, o + 3, none⟩ = some (.int .i64 d.sh) ∧ w.cell? ⟨b, o + 4, none⟩ = some (.int .i64 d.bo) ∧ w.cell? ⟨b, o + 5, none⟩ = some (.bool d.cr) ∧ w.cell? ⟨b, o + 6, none⟩ = some (.int .u8 d.ho) ∧ w.cell? ⟨b, o + 7, none⟩ = some (.int .i64 d.vi) ∧ w.cell? ⟨b, o + 8, none⟩ = some (.int .i64 d.fi) ∧ w.cell? ⟨b, o + 9, none⟩ = some (.int .i64 d.se) ∧ w.cell? ⟨b, o + 10, none⟩ = some (.bool d.su) ∧ w.cell? ⟨b, o + 11, none⟩ = some (.int .i64 d.sc)
theorem BoxO.ext {d : Dl} {b o : Nat} {w w' : World} (h : BoxO d b o w) (e : Ext w w') : BoxO d b o w' := by
  obtain ⟨h0, h1, h2, h3, h4, h5, h6, h7, h8, h9, h10, h11⟩ := h
  exact ⟨e.keep h0, e.keep h1, e.keep h2, e.keep h3, e.keep h4, e.keep h5, e.keep h6, e.keep h7, e.keep h8, e.keep h9, e.keep h10, e.keep h11⟩
/-- A list of n deliveries in memory. -/
structure DlsAt (w : World) (A0 : Option Addr) (n : Nat) (f : Nat → Dl) (b off : Nat) : Prop where
  nle : n ≤ 9223372036854775807
  top : 0 < n → A0 = some ⟨b, off, none⟩ ∧ b < w.heap.size
  cell : ∀ i, i < n → BoxO (f i) b (off + i * 12) w
  wf : ∀ i, i < n → (f i).Wf
theorem DlsAt.ext {w w' : World} {A0 : Option Addr} {n : Nat} {f : Nat → Dl} {b off : Nat} (T : DlsAt w A0 n f b off) (h : Ext w w') : DlsAt w' A0 n f b off where
  nle := T.nle
  top := fun k => ⟨(T.top k).1, Nat.lt_of_lt_of_le (T.top k).2 h.size⟩
  cell := fun i hi => (T.cell i hi).ext h
  wf := T.wf
def ovE (f : Nat → Dl) : Nat → Nat → Int
  | 0, _ => 0
  | m + 1, k => if ckD (f k) = 0 then ovE f m (k + 1) else ckD (f k)
def ovG (f : Nat → Dl) (i : Nat) : List UInt8 := symD (f i)
def ovS (n : Nat) (f : Nat → Dl) : List UInt8 := if ovE f n 0 = 0 then jnL n (ovG f) else []
theorem ovE_step (f : Nat → Dl) {n k : Nat} (h : k < n) : ovE f (n - k) k = if ckD (f k) = 0 then ovE f (n - (k + 1)) (k + 1) else ckD (f k) := by
  rw [show n - k = (n - (k + 1)) + 1 by omega]; rfl
theorem sym_len {d : Dl} (h : d.Ok) : (symD d).length ≤ 100 := by
  have l1 := itoa_small h.fi
  have l2 := itoa_small h.se
  have a1 : (tyL d.ty).length ≤ 1 := by unfold tyL; repeat' split
                                        all_goals simp
  have a2 : (srL d.ty d.so).length ≤ 1 := by unfold srL; repeat' split
                                             all_goals simp
  have a3 : (ruL d).length ≤ 1 := by unfold ruL dgL; split <;> simp
  have a4 : (boL d.bo).length ≤ 1 := by unfold boL; repeat' split
                                        all_goals simp
  have a5 : (shL d.sh).length ≤ 2 := by unfold shL dgL; split <;> simp
  have a6 : (crL d.cr).length ≤ 1 := by unfold crL; split <;> simp
  have a7 : (wiL d).length ≤ 60 := by
    unfold wiL wiG dgL
    repeat' split
    all_goals simp <;> omega
  have a8 : (scL d.sc).length ≤ 2 := by unfold scL dgL; split <;> simp
  simp only [symD, List.length_append]
  omega

set_option maxHeartbeats 16000000 in
theorem over_any (A0 : Option Addr) (n C : Nat) (f : Nat → Dl) (b off : Nat) (w : World) (T : DlsAt w A0 n f b off) (hn : n ≤ 12) (hX : TX w) :
    Calls Tryd.prog 17 #[.slice A0 n C] w fun e w' => e = .returned (.tuple #[.string ⟨(ovS n f).toArray⟩, .int .i64 (ovE f n 0)]) ∧ Ext w w' := by
  have HX := Lib.hid hX
  clear hX
  go_enter Tryd.func17, Tryd.ntmps17
  go_wp2
  go_loopw [4, 11] (fun v i wr => ∃ k : Nat, k ≤ n ∧ i = .int .i64 k ∧ wr.ownsRow w.heap.size 9 1 v k (strL (ovG f) k) ∧ (∀ j, j < k → (ovG f j).length ≤ 100) ∧ ovE f n 0 = ovE f (n - k) k ∧ (k = 0 → v = .slice none 0 0) ∧ Ext w wr) (fun _ i _ => n - (intOf i).toNat)
  case atStart => exact ⟨0, by omega, rfl, World.ownsRow_nil _ _ _ _, fun j hj => absurd hj (by omega), rfl, fun _ => rfl, Ext.refl _⟩
  case round =>
    obtain ⟨k, hk, rfl, hown, hgl, hov, hvn, hE⟩ := hrel
    have HO := Lib.hid hown
    have HGL := Lib.hid hgl
    have HOV := Lib.hid hov
    clear hgl hov
    by_cases hlt : k < n
    · obtain ⟨rfl, hb⟩ := T.top (by omega)
      obtain ⟨c0, c1, c2, c3, c4, c5, c6, c7, c8, c9, c10, c11⟩ := (T.ext hE).cell k hlt
      have hst := ovE_step f hlt
      have hwf := T.wf k hlt
      by_cases hck : ckD (f k) = 0
      · have hok := ck_ok hck hwf
        have hsl := sym_len hok
        rw [if_pos hck] at hst
        have hps : prS (f k) = ovG f k := by unfold prS ovG; rw [if_pos hck]
        obtain ⟨S, hS⟩ : ∃ S, ovG f k = S := ⟨_, rfl⟩
        have HS := Lib.hid hS
        have HGL2 : Hid (∀ j, j < k + 1 → (ovG f j).length ≤ 100) := fun j hj => by
          rcases Nat.lt_or_ge j k with h | h
          · exact HGL.out j h
          · obtain rfl : j = k := by omega
            exact hsl
        have HOV2 : Hid (ovE f n 0 = ovE f (n - (k + 1)) (k + 1)) := HOV.out.trans hst
        have HPR : Hid (∀ W, TX W → Calls Tryd.prog 10 #[(f k).v] W fun e w' => e = .returned (.tuple #[.string ⟨S.toArray⟩, .int .i64 0]) ∧ Ext W w') := fun W h => by
          have := print_any (f k) hwf W h
          rwa [hps, hck, hS] at this
        unfold Dl.v at HPR
        clear hck hst hps hS hok hown hvn
        go_wp2_with (first | (go_at_call 10; refine (HPR.out _ (HX.out.ext (hE.alloc _))).mono ?_; rintro e w1 ⟨rfl, hb1⟩; have HO1 := Lib.hid (own_ext HO.out ((Ext.refl wr).alloc _ |>.trans hb1))) | (at_builtin; refine append_str _ rfl _ _ rfl w.heap.size _ _ _ rfl (HO1.out.alloc _) ⟨w1.heap.size, 0, none⟩ 1 1 [.string ⟨S.toArray⟩] rfl rfl ?c1 ?c2 ?c3 ?c4 ?c5 ?_))
        case c1 => exact cell_one_new _ _ _
        case c2 => intro x hx; simp at hx; subst hx; rfl
        case c3 => unfold maxLen; omega
        case c4 => omega
        case c5 => have := ((hE.alloc _).trans hb1).size; simp; omega
        intro v' w2 hown' hgrow _
        rw [← HS.out, strL_snoc] at hown'
        have HO2 := Lib.hid hown'
        have hE2 : Ext w w2 := ext_grown (((hE.alloc _).trans hb1).alloc _) hgrow (own_row_ge HO1.out)
        clear hown' hgrow
        go_wp2
        go_roundw
        case rel => exact ⟨k + 1, by omega, by go_num, HO2.out, HGL2.out, HOV2.out, fun h => absurd h (by omega), hE2⟩
        case measure => simp [intOf]; omega
      · rw [if_neg hck] at hst
        obtain ⟨E, hEq⟩ : ∃ E, ckD (f k) = E := ⟨_, rfl⟩
        have hps : prS (f k) = [] := by unfold prS; rw [if_neg hck]
        have HPR : Hid (∀ W, TX W → Calls Tryd.prog 10 #[(f k).v] W fun e w' => e = .returned (.tuple #[.string ⟨([] : List UInt8).toArray⟩, .int .i64 E]) ∧ Ext W w') := fun W h => by
          have := print_any (f k) hwf W h
          rwa [hps, hEq] at this
        rw [hEq] at hck hst
        have HV : Hid (ovE f n 0 = E ∧ ovS n f = []) := by
          have h1 := HOV.out.trans hst
          refine ⟨h1, ?_⟩
          unfold ovS
          rw [h1, if_neg hck]
        have he1 : (E != 0) = true := by simpa using hck
        unfold Dl.v at HPR
        clear hck hst hps hEq hown hvn
        go_wp2_with (first | (go_at_call 10; refine (HPR.out _ (HX.out.ext (hE.alloc _))).mono ?_; rintro e w1 ⟨rfl, hb1⟩))
        go_ret2
        exact ⟨by rw [HV.out.1, HV.out.2]; rfl, (hE.alloc _).trans hb1⟩
    · obtain rfl : k = n := by omega
      have hv0 : ovE f k 0 = 0 := by rw [HOV.out, Nat.sub_self]; rfl
      have HV : Hid (ovE f k 0 = 0 ∧ ovS k f = jnL k (ovG f)) := ⟨hv0, by unfold ovS; rw [hv0, if_pos rfl]⟩
      clear hv0
      rcases hown.2 with ⟨rfl, rfl⟩ | ⟨gg, cap, cur, rfl, hb1, hg1, hc1, _⟩
      · have HJ := Lib.hid (join_any 0 (by omega) none 0 0 (ovG f) wr (Nat.le_refl _) (fun h => absurd h (by omega)) (fun _ => rfl) HGL.out (fun j hj => absurd hj (by omega)))
        clear hown hvn
        go_wp2_with (go_at_call 36; refine HJ.out.mono ?_; rintro e w3 ⟨rfl, hb3⟩)
        go_ret2
        exact ⟨by rw [HV.out.1, HV.out.2]; rfl, hE.trans hb3⟩
      · have hk0 : k ≠ 0 := by
          rintro rfl
          have := hvn rfl
          cases this
        have HJ := Lib.hid (join_any k hn (some ⟨gg, 0, none⟩) gg cap (ovG f) wr hc1 (fun _ => rfl) (fun h => absurd h hk0) HGL.out (fun j hj => own_cell hown (strL_at _ hj)))
        clear hown hvn
        go_wp2_with (go_at_call 36; refine HJ.out.mono ?_; rintro e w3 ⟨rfl, hb3⟩)
        go_ret2
        exact ⟨by rw [HV.out.1, HV.out.2]; rfl, hE.trans hb3⟩

end Go.Proofs.YtpgacpkcchajmaaDoor

/-
  Text of layer 36's room (program).
-/
import Derived.Test.YtppoejhfemolfaaDoorRevC
namespace Go.Proofs.YtppoejhfemolfaaDoor
open Go.RowKit
set_option linter.unusedSimpArgs false

theorem infoStr : (Tryd.prog.info? 9).map (fun i => (i.zero, i.size, i.bytes)) = some (some (.string ⟨#[]⟩), 1, 16) := by kernel_rfl
/-- append to a list of words that the call owns. -/
theorem append_str {ops : Array Oper} {rest : List Oper} {o : Oper} {a : Act} {Q : Exit → Act → World → Prop} (w : World) (hgd : o.guard = none) (s x : Operand)
    (ho : o.op = .call { callee := .builtin .append, args := #[s, x], argTypes := #[70, 70] }) (base : Nat)
    (v : Value) (n : Nat) (xs : List Value) (hs : a.eval s = v) (hown : w.ownsRow base 9 1 v n xs)
    (ad : Addr) (m c : Nat) (news : List Value) (hx : a.eval x = .slice (some ad) m c) (hl : news.length = m * 1) (hnews : ∀ j u, news[j]? = some u → w.cell? (ad.add j) = some u) (h1 : ∀ u ∈ news, u.oneCell' = true)
    (h63 : n + m ≤ maxLen) (hbytes : (n + m) * 16 ≤ 140737488355328) (hbase : base ≤ w.heap.size)
    (h : ∀ v' w', w'.ownsRow base 9 1 v' (n + m) (xs ++ news) → w.grownBy w' v.ownBlock → (v' = .slice none 0 0 ↔ v = .slice none 0 0 ∧ m = 0) → wpList Tryd.prog ops Q rest (a.put o.dst v') w') : wpList Tryd.prog ops Q (o :: rest) a w := by
  obtain ⟨i0, hi, hz0, hz1, hz2⟩ := info_parts infoStr
  exact wpList_append_own w hgd s x 70 ho base 9 i0 _ 1 16 Tryd.underlying70 hi hz0 hz1 hz2 rfl (by decide) v n xs hs hown ad m c news hx hl hnews h1 h63 hbytes hbase h
def strL (g : Nat → List UInt8) (n : Nat) : List Value := (List.range n).map fun j => .string ⟨(g j).toArray⟩
theorem strL_snoc (g : Nat → List UInt8) (n : Nat) : strL g n ++ [.string ⟨(g n).toArray⟩] = strL g (n + 1) := by simp [strL, List.range_succ]
theorem strL_at (g : Nat → List UInt8) {n j : Nat} (h : j < n) : (strL g n)[j]? = some (.string ⟨(g j).toArray⟩) := by simp [strL, List.getElem?_range, h]
theorem cat_eq (a b : List UInt8) : (⟨a.toArray⟩ : ByteArray) ++ ⟨b.toArray⟩ = ⟨(a ++ b).toArray⟩ := by
  apply ByteArray.ext; simp
/-- The six numbers of a side's line. -/
def txV (R : Rm) (n : Int) : Nat → Int
  | 0 => n
  | 1 => lfN R n
  | 2 => asN R n
  | 3 => wnN R n
  | 4 => lsN R n
  | _ => opN R n
def txLn (R : Rm) (n : Int) : List UInt8 := jnTo (fun j => Lib.itoa (txV R n j)) 5 ++ [10]
def txTo (R : Rm) : Nat → List UInt8
  | 0 => []
  | k + 1 => txTo R k ++ txLn R ((k : Int) + 1)
def txVC (R : Rm) (n : Int) : Array Value := #[.int .i64 n, .int .i64 (lfN R n), .int .i64 (asN R n), .int .i64 (wnN R n), .int .i64 (lsN R n), .int .i64 (opN R n)]
theorem txV_at (R : Rm) (n : Int) : ∀ j, j < 6 → (txVC R n)[j]? = some (.int .i64 (txV R n j))
  | 0, _ => rfl
  | 1, _ => rfl
  | 2, _ => rfl
  | 3, _ => rfl
  | 4, _ => rfl
  | 5, _ => rfl
  | j + 6, h => by omega
theorem txV_bd {R : Rm} (hB : R.small) {n : Int} (hn : n = 1 ∨ n = 2) (j : Nat) : -9223372036854775808 ≤ txV R n j ∧ txV R n j ≤ 9223372036854775807 := by
  obtain ⟨b1, b2, b3, b4, b5, b6, b7, b8, b9⟩ := hB
  rcases hn with rfl | rfl
  all_goals
    unfold txV lfN asN wnN lsN opN sideB
    rcases b9 with h | h | h <;> rw [h] <;> split <;> simp <;> omega
theorem txG_len {R : Rm} (hB : R.small) {n : Int} (hn : n = 1 ∨ n = 2) (j : Nat) : (Lib.itoa (txV R n j)).length ≤ 100 := by
  have h := txV_bd hB hn j
  have := Lib.itoa_length_le _ h.1 h.2
  omega
theorem txLn_len {R : Rm} (hB : R.small) {n : Int} (hn : n = 1 ∨ n = 2) : (txLn R n).length ≤ 1000 := by
  have := jnTo_len (fun j => Lib.itoa (txV R n j)) 100 5 (fun j _ => txG_len hB hn j)
  simp only [txLn, List.length_append, List.length_cons, List.length_nil]
  omega
theorem txTo_len {R : Rm} (hB : R.small) : ∀ k, k ≤ 2 → (txTo R k).length ≤ k * 1000
  | 0, _ => by simp [txTo]
  | k + 1, hk => by
    have h1 := txTo_len hB k (by omega)
    have h2 := txLn_len hB (n := (k : Int) + 1) (by omega)
    simp only [txTo, List.length_append]
    omega

set_option maxHeartbeats 16000000 in
theorem text_any (p : Nat) (R : Rm) (w : World) (hR : RoomAt p R w) (hB : R.small) (hX : TX w) : Calls Tryd.prog 22 #[.pointer (some ⟨p, 0, none⟩)] w fun e w' => e = .returned (.string ⟨(txTo R 2).toArray⟩) ∧ Ext w w' := by
  have HR := Lib.hid hR
  have HB := Lib.hid hB
  have HX := Lib.hid hX
  have hcat : ∀ a b : List UInt8, (⟨a.toArray⟩ : ByteArray) ++ ⟨b.toArray⟩ = ⟨(a ++ b).toArray⟩ := cat_eq
  clear hR hB hX
  go_enter Tryd.func22, Tryd.ntmps22
  go_wp2
  go_loopw [3, 4] (fun s i wr => ∃ k : Nat, k ≤ 2 ∧ i = .int .i64 ((k : Int) + 1) ∧ s = .string ⟨(txTo R k).toArray⟩ ∧ Ext w wr) (fun _ i _ => 3 - (intOf i).toNat)
  case atStart => exact ⟨0, by omega, rfl, rfl, (by repeat (first | exact Ext.refl _ | refine Ext.setCell ?_ (by first | exact Nat.le_refl _ | (simp; done) | (simp; omega)) _ | refine Ext.drew ?_ | refine Ext.drewN ?_ _ | refine Ext.alloc ?_ _))⟩
  case round =>
    obtain ⟨k, hk, rfl, rfl, hE⟩ := hrel
    by_cases hlt : k < 2
    · obtain ⟨n, hn⟩ : ∃ n : Int, (k : Int) + 1 = n := ⟨_, rfl⟩
      have hn12 : n = 1 ∨ n = 2 := by omega
      have HN := Lib.hid hn
      have hn2 : n ≤ 2 := by omega
      have hn0 : 1 ≤ n := by omega
      rw [hn]
      have hl1 := txTo_len HB.out k (by omega)
      obtain ⟨P, hP⟩ : ∃ P : List UInt8, txTo R k = P := ⟨_, rfl⟩
      rw [hP] at hl1 ⊢
      have HP := Lib.hid hP
      have hl1' : P.length ≤ 2000 := by omega
      clear hn hP hl1
      go_wp2_with (first | ((fail_if_success (have hzz := hb1)); go_at_call 18; refine (count_any p R n _ (HR.out.ext hE) HB.out).mono ?_; rintro e w1 ⟨rfl, hb1⟩; dsimp only [cntV]) | ((fail_if_success (have hzz := hb2)); go_at_call 19; refine (left_any p R n _ (HR.out.ext (by repeat (first | exact hE | refine Ext.setCell ?_ (by first | exact Nat.le_refl _ | (simp; done) | (simp; omega)) _ | refine Ext.drew ?_ | refine Ext.drewN ?_ _ | refine Ext.alloc ?_ _ | refine Ext.trans ?_ hb1)))).mono ?_; rintro e w2 ⟨rfl, hb2⟩))
      go_loopw [9, 36] (fun v i wi => ∃ j : Nat, j ≤ 6 ∧ i = .int .i64 j ∧ Hid (wi.ownsRow w.heap.size 9 1 v j (strL (fun q => Lib.itoa (txV R n q)) j)) ∧ wi.heap[w2.heap.size]? = some (.cells (txVC R n) 3 (0, 0)) ∧ Ext w wi ∧ w2.heap.size < wi.heap.size) (fun _ i _ => 6 - (intOf i).toNat)
      case atStart => exact ⟨0, by omega, rfl, World.ownsRow_nil _ _ _ _, heap_alloc_new w2 _, (by repeat (first | exact hE | refine Ext.setCell ?_ (by first | exact Nat.le_refl _ | (simp; done) | (simp; omega)) _ | refine Ext.drew ?_ | refine Ext.drewN ?_ _ | refine Ext.alloc ?_ _ | refine Ext.trans ?_ hb2 | refine Ext.trans ?_ hb1)), by simp⟩
      case round =>
        obtain ⟨j, hj6, rfl, HO, hrow, hE2, hlt2⟩ := hrel
        by_cases hj : j < 6
        · have cj : wr.cell? ⟨w2.heap.size, j, none⟩ = some (.int .i64 (txV R n j)) := (Lib.cell_of_heap hrow j).trans (txV_at R n j hj)
          have hbd := txV_bd HB.out hn12 j
          have HROW := Lib.hid hrow
          clear hrow
          go_wp2_with (first | (go_at_call 29; refine (itoa_any _ hbd.1 hbd.2 _ (HX.out.ext hE2)).mono ?_; rintro e w3 ⟨rfl, hb3⟩) | (at_builtin; refine append_str _ rfl _ _ rfl w.heap.size _ _ _ rfl (own_ext HO.out (by repeat (first | exact hb3 | refine Ext.setCell ?_ (by first | exact Nat.le_refl _ | (simp; done) | (simp; omega)) _ | refine Ext.drew ?_ | refine Ext.drewN ?_ _ | refine Ext.alloc ?_ _))) ⟨w3.heap.size, 0, none⟩ 1 _ [.string ⟨(Lib.itoa (txV R n j)).toArray⟩] rfl rfl ?c1 ?c2 ?c3 ?c4 ?c5 ?_))
          case c1 => intro q u hq; have hq0 : q = 0 := (by rcases q with _ | q; rfl; simp at hq); subst hq0; simp at hq; subst hq; exact Lib.cell_of_heap (heap_alloc_new w3 _) 0
          case c2 => intro u hu; simp at hu; subst hu; rfl
          case c3 => unfold maxLen; omega
          case c4 => omega
          case c5 => have := hE2.size; have := hb3.size; simp; omega
          intro v' w4 hown' hgrow _
          rw [strL_snoc] at hown'
          go_wp2
          go_roundw
          case rel =>
            have hs4 := hgrow.size
            have hs3 := hb3.size
            simp only [World.alloc, Array.size_push] at hs4
            refine ⟨j + 1, by omega, by go_num, Lib.hid hown', ?_, ext_grown (hE2.trans (hb3.alloc _)) hgrow (own_row_ge HO.out), by omega⟩
            refine (hgrow.block w2.heap.size (by simp; omega) ?_).trans (((hb3.alloc _).block _ hlt2).trans HROW.out)
            intro he
            rcases own_ne_blk HO.out HROW.out (by decide) with h | h
            · rw [h] at he; cases he
            · exact h he.symm
          case measure => simp [intOf]; omega
        · obtain rfl : j = 6 := by omega
          rcases HO.out.2 with ⟨_, h⟩ | ⟨gg, cap, cur, rfl, hgb, hgg, hcap, _⟩
          · omega
          · clear hrow
            go_wp2_with (first | (go_at_call 30; refine (join6_any gg cap (fun q => Lib.itoa (txV R n q)) _ (fun j _ => txG_len HB.out hn12 j) hcap (fun j hj => own_cell HO.out (strL_at _ hj))).mono ?_; rintro e w5 ⟨rfl, hb5⟩; obtain ⟨J, hJ⟩ : ∃ J : List UInt8, jnTo (fun q => Lib.itoa (txV R n q)) 5 = J := ⟨_, rfl⟩; have hJl : J.length ≤ 1000 := (by have := txLn_len HB.out hn12; rw [txLn, hJ] at this; simp at this; omega); rw [hJ]; have HJ := Lib.hid hJ; clear hJ))
            go_roundw
            case rel => exact ⟨k + 1, by omega, by (first | (rw [← HN.out]; go_num) | (simp [← HN.out])), by rw [txTo, HP.out, HN.out, txLn, HJ.out], (by repeat (first | exact hE2 | refine Ext.setCell ?_ (by first | exact Nat.le_refl _ | (simp; done) | (simp; omega)) _ | refine Ext.drew ?_ | refine Ext.drewN ?_ _ | refine Ext.alloc ?_ _ | refine Ext.trans ?_ hb5 | exact hE2))⟩
            case measure => rw [← HN.out]; simp [intOf]; omega
    · obtain rfl : k = 2 := by omega
      go_wp2
      go_ret
      exact ⟨rfl, hE⟩

end Go.Proofs.YtppoejhfemolfaaDoor

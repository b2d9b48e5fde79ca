/-
  Text of layer 31 (program): a strings.Builder, observation by observation.
-/
import Derived.Test.YtaeblcgblmipaaaDoorCamC
import Derived.Test.YtaeblcgblmipaaaDoorBld
import Derived.Test.YtaeblcgblmipaaaDoorTabF
namespace Go.Proofs.YtaeblcgblmipaaaDoor
open Go.RowKit
set_option linter.unusedSimpArgs false

def lineTo (g : Nat → Int) : Nat → List UInt8
  | 0 => []
  | j + 1 => lineTo g j ++ ((if j = 0 then [] else [32]) ++ Lib.itoa (g j))
def textTo (f : Nat → Nat → Int) : Nat → List UInt8
  | 0 => []
  | k + 1 => textTo f k ++ (lineTo (f k) 5 ++ [10])
theorem lineTo_len (g : Nat → Int) (h : ∀ j, j < 5 → -9223372036854775808 ≤ g j ∧ g j ≤ 9223372036854775807) : ∀ j, j ≤ 5 → (lineTo g j).length ≤ j * 22
  | 0, _ => by simp [lineTo]
  | j + 1, hj => by
    have h1 := lineTo_len g h j (by omega)
    have h2 := Lib.itoa_length_le (g j) (h j (by omega)).1 (h j (by omega)).2
    have h3 : (if j = 0 then ([] : List UInt8) else [32]).length ≤ 1 := by split <;> simp
    simp only [lineTo, List.length_append]
    omega
theorem textTo_len (f : Nat → Nat → Int) {n : Nat} (h : SWf n f) : ∀ k, k ≤ n → (textTo f k).length ≤ k * 111
  | 0, _ => by simp [textTo]
  | k + 1, hk => by
    have h1 := textTo_len f h k (by omega)
    have h2 := lineTo_len (f k) (fun j hj => h k j (by omega) hj) 5 (by omega)
    simp only [textTo, List.length_append, List.length_cons, List.length_nil]
    omega
def txT (n : Nat) (f : Nat → Nat → Int) : List UInt8 := if ckE n f == 0 then textTo f n else []
theorem tx_no {n : Nat} {f : Nat → Nat → Int} (h : (ckE n f == 0) = false) : txT n f = [] := by simp [txT, h]
theorem tx_yes {n : Nat} {f : Nat → Nat → Int} (h : (ckE n f == 0) = true) : txT n f = textTo f n := by simp [txT, h]
/-- The builder in its block, and a row of numbers beside it. -/
structure TxI (w : World) (b : Nat) (l : List UInt8) (g : Nat) (cs : Array Value) (wi : World) : Prop where
  ext : Ext w wi
  bld : BldAt b l wi
  row : wi.heap[g]? = some (.cells cs 2 (0, 0))
  hb : w.heap.size ≤ b
  hg : b < g
theorem TxI.blt {w : World} {b : Nat} {l : List UInt8} {g : Nat} {cs : Array Value} {wi : World} (h : TxI w b l g cs wi) : b < wi.heap.size := Nat.lt_trans h.hg (Array.getElem?_eq_some_iff.1 h.row).1
theorem TxI.step {w : World} {b : Nat} {l l' : List UInt8} {g : Nat} {cs : Array Value} {wi w' : World} (h : TxI w b l g cs wi) (h1 : BldAt b l' w') (h2 : Below b wi w') (h3 : Others b wi w') : TxI w b l' g cs w' :=
  ⟨Below.trans h.ext (Below.mono h2 h.hb), h1, h3.cells h.row (by have := h.hg; omega) (by decide), h.hb, h.hg⟩
theorem wbyte_tx {w : World} {b : Nat} {l : List UInt8} {g : Nat} {cs : Array Value} {wi : World} (c : UInt8) (h : TxI w b l g cs wi) (hlen : l.length ≤ 140737488355327) :
    Calls Tryd.prog 29 #[.pointer (some ⟨b, 0, none⟩), .int .u8 c.toNat] wi fun e w' => e = .returned .nilIface ∧ TxI w b (l ++ [c]) g cs w' := by
  refine (wbyte_any b l c wi h.bld hlen h.blt).mono ?_
  rintro e w' ⟨rfl, h1, h2, h3⟩
  exact ⟨rfl, h.step h1 h2 h3⟩
theorem wstr_tx {w : World} {b : Nat} {l : List UInt8} {g : Nat} {cs : Array Value} {wi : World} (s : List UInt8) (h : TxI w b l g cs wi) (hlen : l.length + s.length ≤ 140737488355328) :
    Calls Tryd.prog 30 #[.pointer (some ⟨b, 0, none⟩), .string ⟨s.toArray⟩] wi fun e w' => e = .returned (.tuple #[.int .i64 s.length, .nilIface]) ∧ TxI w b (l ++ s) g cs w' := by
  refine (wstr_any b l s wi h.bld hlen h.blt).mono ?_
  rintro e w' ⟨rfl, h1, h2, h3⟩
  exact ⟨rfl, h.step h1 h2 h3⟩
theorem fmt_tx {w : World} {b : Nat} {l : List UInt8} {g : Nat} {cs : Array Value} {wi : World} (n : Int) (hn : -9223372036854775808 ≤ n ∧ n ≤ 9223372036854775807) (h : TxI w b l g cs wi) (hX : TX w) :
    Calls Tryd.prog 31 #[.int .i64 n, .int .i64 10] wi fun e w' => e = .returned (.string ⟨(Lib.itoa n).toArray⟩) ∧ TxI w b l g cs w' := by
  refine (fmt_any n hn.1 hn.2 wi (hX.ext h.ext)).mono ?_
  rintro e w' ⟨rfl, x⟩
  exact ⟨rfl, h.ext.trans x, h.bld.ext x, (x.block g (Array.getElem?_eq_some_iff.1 h.row).1).trans h.row, h.hb, h.hg⟩
def rowA (g : Nat → Int) : Array Value := #[.int .i64 (g 0), .int .i64 (g 1), .int .i64 (g 2), .int .i64 (g 3), .int .i64 (g 4)]
theorem rowA_at (g : Nat → Int) : ∀ j, j < 5 → (rowA g)[j]? = some (.int .i64 (g j))
  | 0, _ => rfl
  | 1, _ => rfl
  | 2, _ => rfl
  | 3, _ => rfl
  | 4, _ => rfl
  | j + 5, h => by omega
theorem TxI.cell {w : World} {b : Nat} {l : List UInt8} {g : Nat} {q : Nat → Int} {wi : World} (h : TxI w b l g (rowA q) wi) {j : Nat} (hj : j < 5) : wi.cell? ⟨g, j, none⟩ = some (.int .i64 (q j)) := by
  rw [Lib.cell_of_heap h.row, rowA_at q j hj]
theorem row_new (W : World) (o : Obj) (g : Nat) (h : W.heap.size = g) : (W.alloc o).heap[g]? = some o := by
  subst h; exact heap_alloc_new W o

set_option maxHeartbeats 16000000 in
theorem text_any (A0 : Option Addr) (n C : Nat) (f : Nat → Nat → Int) (b off : Nat) (w : World) (T : SeenAt w A0 n f b off) (hX : TX w) :
    Calls Tryd.prog 22 #[.slice A0 n C] w fun e w' => e = .returned (.tuple #[.string ⟨(txT n f).toArray⟩, .int .i64 (ckE n f)]) ∧ Ext w w' := by
  have hn := T.nle
  have HWF : Hid (SWf n f) := T.wf
  rcases and1 (ckE n f == 0) with he | he
  · have HB := Lib.hid (tx_no he)
    obtain ⟨E, hEq⟩ : ∃ E : Int, ckE n f = E := ⟨_, rfl⟩
    rw [hEq] at he
    have HE := Lib.hid hEq
    clear hEq
    go_enter Tryd.func22, Tryd.ntmps22
    go_wp2_with (first | (go_at_call 11; refine (check_any _ _ _ _ _ _ _ T).mono ?_; rintro e w1 ⟨rfl, hb1⟩; rw [HE.out]))
    go_ret2
    exact ⟨by rw [HB.out, HE.out]; rfl, hb1⟩
  · have he0 : ckE n f = 0 := by simpa using he
    have hle := ck_le he0
    have HE := Lib.hid he0
    have HB := Lib.hid (tx_yes he)
    have HX := Lib.hid hX
    clear he he0 hX
    go_enter Tryd.func22, Tryd.ntmps22
    go_wp2_with (first | (go_at_call 11; refine (check_any _ _ _ _ _ _ _ T).mono ?_; rintro e w1 ⟨rfl, hb1⟩; rw [HE.out]))
    go_loopw [21] (fun i wr => ∃ k : Nat, k ≤ n ∧ i = .int .i64 k ∧ Ext w wr ∧ BldAt w1.heap.size (textTo f k) wr ∧ w1.heap.size < wr.heap.size) (fun i _ => n - (intOf i).toNat)
    case atStart => exact ⟨0, by omega, rfl, hb1.alloc _, BldAt.new w1, by simp⟩
    case round =>
      obtain ⟨k, hk, rfl, hE, hBl, hlt1⟩ := hrel
      have HBl := Lib.hid hBl
      clear hBl
      by_cases hlt : k < n
      · have T2 := T.ext hE
        obtain ⟨hA, hb⟩ := T2.top (by omega)
        subst hA
        have c0 : wr.cell? ⟨b, off + k * 5, none⟩ = some (.int .i64 (f k 0)) := T2.cell k 0 hlt (by omega)
        have c1 := T2.cell k 1 hlt (by omega)
        have c2 := T2.cell k 2 hlt (by omega)
        have c3 := T2.cell k 3 hlt (by omega)
        have c4 := T2.cell k 4 hlt (by omega)
        have HLen := Lib.hid (textTo_len f HWF.out k hk)
        have HLin := Lib.hid (lineTo_len (f k) (fun j hj => HWF.out k j hlt hj))
        have HKW : Hid (∀ j, j < 5 → -9223372036854775808 ≤ f k j ∧ f k j ≤ 9223372036854775807) := fun j hj => HWF.out k j hlt hj
        clear T2
        go_wp2
        go_loopw [37] (fun i wi => ∃ j : Nat, j ≤ 5 ∧ i = .int .i64 j ∧ TxI w w1.heap.size (textTo f k ++ lineTo (f k) j) (wr.heap.size + 1) (rowA (f k)) wi) (fun i _ => 5 - (intOf i).toNat)
        case atStart =>
          refine ⟨0, by omega, rfl, ?_⟩
          exact ⟨hE.trans (by repeat (first | exact Ext.refl _ | refine Ext.setCell ?_ (by first | exact Nat.le_refl _ | (simp; done) | (simp; omega)) _ | refine Ext.drew ?_ | refine Ext.drewN ?_ _ | refine Ext.alloc ?_ _)), by rw [lineTo, List.append_nil]; exact HBl.out.ext (by repeat (first | exact Ext.refl _ | refine Ext.setCell ?_ (by first | exact Nat.le_refl _ | (simp; done) | (simp; omega)) _ | refine Ext.drew ?_ | refine Ext.drewN ?_ _ | refine Ext.alloc ?_ _)), row_new _ _ _ (by simp), hb1.size, by omega⟩
        case round =>
          obtain ⟨j, hj, rfl, hI⟩ := hrel
          have HI := Lib.hid hI
          clear hI
          by_cases hj5 : j < 5
          · have cj := HI.out.cell hj5
            have hl1 : Hid ((textTo f k ++ lineTo (f k) j).length ≤ 100000) := by
              have h1 := HLen.out; have h2 := HLin.out j hj
              rw [Hid, List.length_append]; omega
            have hl2 : Hid ((Lib.itoa (f k j)).length ≤ 21) := Lib.itoa_length_le _ (HKW.out j hj5).1 (HKW.out j hj5).2
            by_cases hj0 : j = 0
            · have HS : Hid (textTo f k ++ lineTo (f k) (j + 1) = (textTo f k ++ lineTo (f k) j) ++ Lib.itoa (f k j)) := by
                rw [Hid, lineTo, if_pos hj0, List.nil_append, List.append_assoc]
              have hj1 : ¬ ((0 : Int) < (j : Int)) := by omega
              clear hj0
              go_wp2_with (first | (go_at_call 31; refine (fmt_tx _ (HKW.out j hj5) HI.out HX.out).mono ?_; rintro e w2 ⟨rfl, hI2⟩; have HI2 := Lib.hid hI2; clear hI2) | (go_at_call 30; refine (wstr_tx _ HI2.out (by have h1 := hl1.out; have h2 := hl2.out; omega)).mono ?_; rintro e w3 ⟨rfl, hI3⟩; have HI3 := Lib.hid hI3; clear hI3))
              go_roundw
              case rel => exact ⟨j + 1, by omega, by go_num, by rw [HS.out]; exact HI3.out⟩
              case measure => simp [intOf]; omega
            · have HS : Hid (textTo f k ++ lineTo (f k) (j + 1) = ((textTo f k ++ lineTo (f k) j) ++ [32]) ++ Lib.itoa (f k j)) := by
                rw [Hid, lineTo, if_neg hj0, List.append_assoc, List.append_assoc]
              have hj1 : (0 : Int) < (j : Int) := by omega
              clear hj0
              go_wp2_with (first | (go_at_call 29; refine (wbyte_tx 32 HI.out (by have h1 := hl1.out; omega)).mono ?_; rintro e w2 ⟨rfl, hI2⟩; have HI2 := Lib.hid hI2; clear hI2) | (go_at_call 31; refine (fmt_tx _ (HKW.out j hj5) HI2.out HX.out).mono ?_; rintro e w3 ⟨rfl, hI3⟩; have HI3 := Lib.hid hI3; clear hI3) | (go_at_call 30; refine (wstr_tx _ HI3.out (by have h1 := hl1.out; have h2 := hl2.out; rw [List.length_append]; simp only [List.length_cons, List.length_nil]; omega)).mono ?_; rintro e w4 ⟨rfl, hI4⟩; have HI4 := Lib.hid hI4; clear hI4))
              go_roundw
              case rel => exact ⟨j + 1, by omega, by go_num, by rw [HS.out]; exact HI4.out⟩
              case measure => simp [intOf]; omega
          · obtain rfl : j = 5 := by omega
            have hl1 : Hid ((textTo f k ++ lineTo (f k) 5).length ≤ 100000) := by
              have h1 := HLen.out; have h2 := HLin.out 5 hj
              rw [Hid, List.length_append]; omega
            go_wp2_with (first | (go_at_call 29; refine (wbyte_tx 10 HI.out (by have h1 := hl1.out; omega)).mono ?_; rintro e w2 ⟨rfl, hI2⟩; have HI2 := Lib.hid hI2; clear hI2))
            go_roundw
            case rel => exact ⟨k + 1, by omega, by go_num, HI2.out.ext, by rw [textTo, ← List.append_assoc]; exact HI2.out.bld, HI2.out.blt⟩
            case measure => simp [intOf]; omega
      · obtain rfl : k = n := by omega
        go_wp2_with (first | (go_at_call 32; refine (Tryd.Builder_String_any w1.heap.size w1.heap.size _ _ HBl.out (Nat.le_of_lt hlt1)).mono ?_; rintro e w2 ⟨rfl, hb2⟩))
        go_ret2
        exact ⟨by rw [HB.out, HE.out]; rfl, Below.trans hE (Below.mono hb2 hb1.size)⟩

end Go.Proofs.YtaeblcgblmipaaaDoor

/-
  Above of package fit: its contract.
-/
import Derived.Test.YtoemcpndmfimiaaMonD
namespace Go.Proofs.Ytoemcpndmfimiaa
open Go.RowKit
set_option linter.unusedSimpArgs false

/-- What memory says of how far the rows are from the top. -/
def muW (n m : Nat) (G : Nat → Nat) (w : World) : Nat := mu n m fun i j => intOf ((w.cell? ⟨G i, j, none⟩).getD (.int .i64 0))
theorem AbInv.mu {w wr : World} {rb tb n m c : Nat} {G C : Nat → Nat} {Z : Nat → Nat → Int} (h : AbInv w wr rb tb n m c G C Z) : muW n m G wr = mu n m Z :=
  mu_congr fun i j hi hj => by rw [h.rows.cell i j hi hj]; rfl
def AboveNo (w : World) (x : Int) (e : Ending) (w' : World) : Prop := e = .returned (.tuple #[.agg #[.slice none 0 0], .int .i64 x]) ∧ Ext w w'
def AboveOk (w : World) (n m : Nat) (R : Nat → Nat → Int) (e : Ending) (w' : World) : Prop :=
  ∃ (tb c : Nat) (G C : Nat → Nat) (Z : Nat → Nat → Int), e = .returned (.tuple #[.agg #[.slice (some ⟨tb, 0, none⟩) n c], .int .i64 0]) ∧ Ext w w' ∧ RowsAt w' tb n m G C Z ∧ Good n m R Z ∧ Stable n m Z
def bitOf : Value → Nat
  | .bool true => 1
  | _ => 0
/-- The state between two rounds. -/
def Between (n m : Nat) (c : Bool) (Z : Nat → Nat → Int) : Prop := c = false → Stable n m Z
theorem between_of {n m : Nat} {Z Z' : Nat → Nat → Int} {b : Bool} (h : Pass n m Z (fun _ _ => True) b Z') : Between n m b Z' := fun hb => by
  rcases h with ⟨_, rfl, h⟩ | ⟨h, _⟩
  · exact fun u w hu hw => h u w hu hw trivial
  · rw [hb] at h; cases h
theorem less_of {n m : Nat} {Z Z' : Nat → Nat → Int} {S : Nat → Nat → Prop} {b : Bool} (h : Pass n m Z S b Z') : 2 * mu n m Z' + bitOf (.bool b) < 2 * mu n m Z + bitOf (.bool true) := by
  rcases h with ⟨rfl, rfl, _⟩ | ⟨rfl, h⟩
  · simp [bitOf]
  · simp [bitOf]; omega

set_option maxHeartbeats 4000000 in
theorem above_no (w : World) {A0 : Option Addr} {n : Nat} {A : Nat → Option Addr} {L C : Nat → Nat} {Z : Nat → Nat → Int} {b off : Nat} {G O : Nat → Nat} (c0 : Nat) (T : TabAt w A0 n A L C Z b off G O) (h : rendsV n L Z ≠ 0) :
    Calls Try.prog 5 #[.agg #[.slice A0 n c0]] w (AboveNo w (rendsV n L Z)) := by
  have hb : (rendsV n L Z != 0) = true := by simpa using h
  have TX : TabAt ((w.alloc (.cells #[.slice A0 n c0] 24)).alloc (.cells #[.slice none 0 0] 24)) A0 n A L C Z b off G O := T.ext (((Ext.refl _).alloc _).alloc _)
  clear h
  go_enter Try.func5, Try.ntmps5
  go_wp2_with (go_at_call 14; refine (raw_any _ c0 TX).mono ?_; rintro e w1 ⟨rfl, hE⟩; have p1 : w1.cell? ⟨w.heap.size + 1, 0, none⟩ = some (.slice none 0 0) := hE.keep (by simp [go_sem]); have p2 : w1.frozen? ⟨w.heap.size + 1, 0, none⟩ = false := (hE.cells.2 _ _ (by simp)).trans (by simp [go_sem]))
  refine bodyPost_ret (v := .tuple #[.agg #[.slice none 0 0], .int .i64 (rendsV n L Z)]) (by simp [results, Try.results5, go_sem, *]) rfl ?_
  exact ⟨rfl, by repeat (first | exact Ext.refl _ | refine Ext.setCell ?_ (by first | exact Nat.le_refl _ | (simp; done) | (simp; omega)) _ | refine Ext.drew ?_ | refine Ext.drewN ?_ _ | refine Ext.alloc ?_ _ | refine Ext.trans ?_ hE)⟩

set_option maxHeartbeats 8000000 in
theorem above_ok (w : World) {A0 : Option Addr} {n : Nat} {A : Nat → Option Addr} {L C : Nat → Nat} {R : Nat → Nat → Int} {b off : Nat} {G O : Nat → Nat} (c0 : Nat) (T : TabAt w A0 n A L C R b off G O) (h : rendsV n L R = 0) :
    Calls Try.prog 5 #[.agg #[.slice A0 n c0]] w (AboveOk w n (L 0) R) := by
  have HR := Lib.hid h
  obtain ⟨n1, n2, l1, l2, hL, hV⟩ := shape_zero (rends_zero h).1
  have hZ0 := (ends_zero (rends_zero h).2).1
  have hbd : ∀ i j, i < n → j < L 0 → 0 ≤ R i j ∧ R i j ≤ 10000 := fun i j hi hj => hV i hi j (by rw [hL i hi]; exact hj)
  have HG := Lib.hid (good_start hbd hZ0)
  have HB := Lib.hid hbd
  have HL := Lib.hid (show ∀ i, i < n → L i = L 0 from hL)
  have TX : TabAt ((w.alloc (.cells #[.slice A0 n c0] 24)).alloc (.cells #[.slice none 0 0] 24)) A0 n A L C R b off G O := T.ext (((Ext.refl _).alloc _).alloc _)
  clear h hV hZ0 hbd hL
  go_enter Try.func5, Try.ntmps5
  go_wp2_with (go_at_call 14; refine (raw_any _ c0 TX).mono ?_; rintro e w1 ⟨rfl, hE⟩; rw [HR.out]; have p1 : w1.cell? ⟨w.heap.size + 1, 0, none⟩ = some (.slice none 0 0) := hE.keep (by simp [go_sem]); have p2 : w1.frozen? ⟨w.heap.size + 1, 0, none⟩ = false := (hE.cells.2 _ _ (by simp)).trans (by simp [go_sem]); have p3 : w1.cell? ⟨w.heap.size, 0, none⟩ = some (.slice A0 n c0) := hE.keep (by simp [go_sem]); have TY := TX.ext hE; have hX1 : Ext w w1 := (((Ext.refl w).alloc _).alloc _).trans hE)
  refine (clone_any _ c0 TY HL.out HB.out (by omega) n2 l1 l2).mono ?_
  rintro e w2 ⟨tb, c, G1, C1, rfl, hE2, hRows, hnew, htb⟩
  obtain ⟨wb, hwb⟩ : ∃ wb, wb = w1 := ⟨_, rfl⟩
  have hnG : ∀ i, i < n → G1 i ≠ w2.heap.size := fun i hi e => by have := cell_lt (hRows.cell i 0 hi (by omega)); omega
  have hx3 : Ext w2 (w2.alloc (.cells #[.slice (some ⟨tb, 0, none⟩) n c] 22)) := (Ext.refl _).alloc _
  have hI0 : AbInv w1 (w2.alloc (.cells #[.slice (some ⟨tb, 0, none⟩) n c] 22)) w2.heap.size tb n (L 0) c G1 C1 R :=
    ⟨hE2.trans hx3, by simp [go_sem], hRows.ext hx3, hnew, hnG⟩
  have q1 := hE2.keep p1
  have q2 : w2.frozen? ⟨w.heap.size + 1, 0, none⟩ = false := (hE2.cells.2 _ _ (cell_lt p1)).trans p2
  have HI0 := Lib.hid hI0
  have hl1 := cell_lt p1
  clear hRows hnew hnG hx3 hI0 TX TY
  go_wp2
  go_loopw [7, 8, 9, 23] (fun ch _ _ _ wr => ∃ (cb : Bool) (Z : Nat → Nat → Int), ch = .bool cb ∧ AbInv w1 wr w2.heap.size tb n (L 0) c G1 C1 Z ∧ Good n (L 0) R Z ∧ Between n (L 0) cb Z) (fun ch _ _ _ wr => 2 * muW n (L 0) G1 wr + bitOf ch)
  case atStart => exact ⟨true, R, rfl, HI0.out, HG.out, fun h => by cases h⟩
  case round =>
    obtain ⟨cb, Z, rfl, hI, hG, hBt⟩ := hrel
    have HI := Lib.hid hI
    have HGZ := Lib.hid hG
    have HBt := Lib.hid hBt
    have hbox := hI.box
    clear hI hG hBt
    cases cb
    · have r1 := HI.out.ext.keep p1
      have r2 : wr.frozen? ⟨w.heap.size + 1, 0, none⟩ = false := (HI.out.ext.cells.2 _ _ hl1).trans p2
      go_wp2
      refine bodyPost_ret (v := .tuple #[.agg #[.slice (some ⟨tb, 0, none⟩) n c], .int .i64 0]) (by simp [results, Try.results5, go_sem, *]) rfl ?_
      have hg := grown_setCell wr (w.heap.size + 1) 0 (.slice (some ⟨tb, 0, none⟩) n c)
      have hne : ∀ i, i < n → G1 i ≠ w.heap.size + 1 := fun i hi e => by have := HI.out.new i hi; omega
      refine ⟨tb, c, G1, C1, Z, rfl, (hX1.trans HI.out.ext).setCell (Nat.le_succ _) _, ⟨fun i hi => ?_, fun i j hi hj => ?_, fun i j hi hj => ?_, HI.out.rows.inj, HI.out.rows.ne, HI.out.rows.bd⟩, HGZ.out, HBt.out rfl⟩
      · rw [World.cell?_setCell_other _ _ _ _ (fun e => by have := congrArg Addr.block e; simp at this; omega)]; exact HI.out.rows.head i hi
      · rw [World.cell?_setCell_other _ _ _ _ (fun e => hne i hi (congrArg Addr.block e).symm)]; exact HI.out.rows.cell i j hi hj
      · simpa using HI.out.rows.froz i j hi hj
    · go_wp2
      go_loopw [7, 8, 23] (fun ch _ i w3 => ∃ (k : Nat) (b1 : Bool) (Z1 : Nat → Nat → Int), k ≤ n ∧ i = .int .i64 k ∧ ch = .bool b1 ∧ AbInv w1 w3 w2.heap.size tb n (L 0) c G1 C1 Z1 ∧ Good n (L 0) R Z1 ∧ Pass n (L 0) Z (fun i' _ => i' < k) b1 Z1) (fun _ _ i _ => n - (intOf i).toNat)
      case atStart => exact ⟨0, false, Z, Nat.zero_le _, rfl, rfl, HI.out, HGZ.out, .inl ⟨rfl, rfl, fun _ _ _ _ h => absurd h (by omega)⟩⟩
      case round =>
        obtain ⟨k, b1, Z1, hk, rfl, rfl, hI1, hG1, hP1⟩ := hrel
        have HI1 := Lib.hid hI1
        have HG1 := Lib.hid hG1
        have HP1 := Lib.hid hP1
        have hbox1 := hI1.box
        clear hI1 hG1 hP1
        by_cases hlt : k < n
        · go_wp2_with fail
          refine (raise_any w1 _ k HI1.out HG1.out n2 l2 hlt).mono ?_
          rintro e w4 ⟨b2, Z2, rfl, hI2, hG2, hP2⟩
          have HI2 := Lib.hid hI2
          have HG2 := Lib.hid hG2
          have HP2 := Lib.hid (pass_trans (S'' := fun i' _ => i' < k + 1) HP1.out hP2 (fun i' j' _ _ h => by omega))
          clear hI2 hG2 hP2
          cases b2
          · go_wp2
            go_roundw
            case rel => exact ⟨k + 1, b1, Z2, by omega, by go_num, rfl, HI2.out, HG2.out, by simpa using HP2.out⟩
            case measure => simp [intOf]; omega
          · go_wp2
            go_roundw
            case rel => exact ⟨k + 1, true, Z2, by omega, by go_num, rfl, HI2.out, HG2.out, by simpa using HP2.out⟩
            case measure => simp [intOf]; omega
        · obtain rfl : k = n := by omega
          go_wp2
          go_loopw [7, 9] (fun ch i w3 => ∃ (j : Int) (b1 : Bool) (Z1 : Nat → Nat → Int), -1 ≤ j ∧ j < k ∧ i = .int .i64 j ∧ ch = .bool b1 ∧ AbInv w1 w3 w2.heap.size tb k (L 0) c G1 C1 Z1 ∧ Good k (L 0) R Z1 ∧ Pass k (L 0) Z (fun _ _ => True) b1 Z1) (fun _ i _ => (intOf i + 1).toNat)
          case atStart => exact ⟨(k : Int) - 1, b1, Z1, by omega, by omega, by go_num, rfl, HI1.out, HG1.out, by
            rcases HP1.out with ⟨h1, h2, h3⟩ | h
            · exact .inl ⟨h1, h2, fun i j hi hj _ => h3 i j hi hj hi⟩
            · exact .inr h⟩
          case round =>
            obtain ⟨j, b3, Z3, hj1, hj2, rfl, rfl, hI3, hG3, hP3⟩ := hrel
            have HI3 := Lib.hid hI3
            have HG3 := Lib.hid hG3
            have HP3 := Lib.hid hP3
            have hbox3 := hI3.box
            clear hI3 hG3 hP3
            by_cases hneg : j < 0
            · obtain rfl : j = -1 := by omega
              go_wp2
              go_roundw
              case rel => exact ⟨b3, Z3, rfl, HI3.out, HG3.out, between_of HP3.out⟩
              case measure => rw [HI.out.mu, HI3.out.mu]; exact less_of HP3.out
            · obtain ⟨v, rfl⟩ := Int.eq_ofNat_of_zero_le (show 0 ≤ j by omega)
              have hv : v < k := by omega
              go_wp2_with fail
              refine (raise_any w1 _ v HI3.out HG3.out n2 l2 hv).mono ?_
              rintro e w4 ⟨b2, Z2, rfl, hI2, hG2, hP2⟩
              have HI2 := Lib.hid hI2
              have HG2 := Lib.hid hG2
              have HP2 := Lib.hid (pass_trans (S'' := fun _ _ => True) HP3.out hP2 (fun i' j' _ _ h => .inl h))
              clear hI2 hG2 hP2
              cases b2
              · go_wp2
                go_roundw
                case rel => exact ⟨(v : Int) - 1, b3, Z2, by omega, by omega, by go_num, rfl, HI2.out, HG2.out, by simpa using HP2.out⟩
                case measure => simp [intOf]
              · go_wp2
                go_roundw
                case rel => exact ⟨(v : Int) - 1, true, Z2, by omega, by omega, by go_num, rfl, HI2.out, HG2.out, by simpa using HP2.out⟩
                case measure => simp [intOf]

end Go.Proofs.Ytoemcpndmfimiaa

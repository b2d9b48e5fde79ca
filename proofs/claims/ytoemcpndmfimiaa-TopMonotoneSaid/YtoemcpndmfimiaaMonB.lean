/-
  The closure of Above that raises a row (package fit): its contract.
-/
import Derived.Test.YtoemcpndmfimiaaMonA
namespace Go.Proofs.Ytoemcpndmfimiaa
open Go.RowKit
set_option linter.unusedSimpArgs false

/-- Above at work: rows of its own behind w, their slice in the box rb. -/
structure AbInv (w wr : World) (rb tb n m c : Nat) (G C : Nat → Nat) (Z : Nat → Nat → Int) : Prop where
  ext : Ext w wr
  box : wr.cell? ⟨rb, 0, none⟩ = some (.slice (some ⟨tb, 0, none⟩) n c)
  rows : RowsAt wr tb n m G C Z
  new : ∀ i, i < n → w.heap.size ≤ G i
  ne : ∀ i, i < n → G i ≠ rb
section
variable {w wr w' : World} {rb tb n m c : Nat} {G C : Nat → Nat} {Z : Nat → Nat → Int}
theorem AbInv.grow (h : AbInv w wr rb tb n m c G C Z) (x : Ext wr w') : AbInv w w' rb tb n m c G C Z :=
  ⟨h.ext.trans x, x.keep h.box, h.rows.ext x, h.new, h.ne⟩
theorem AbInv.store (h : AbInv w wr rb tb n m c G C Z) {u v : Nat} {x : Int} (hu : u < n) (hv : v < m) (hx : 0 ≤ x ∧ x ≤ 10000) : AbInv w (wr.setCell ⟨G u, v, none⟩ (.int .i64 x)) rb tb n m c G C (upd Z u v x) :=
  ⟨h.ext.setCell (h.new u hu) _, by rw [World.cell?_setCell_other _ _ _ _ (fun e => h.ne u hu (congrArg Addr.block e))]; exact h.box, h.rows.store hu hv hx, h.new, h.ne⟩
/-- What a pass leaves behind. -/
def RaiseP (w : World) (rb tb n m c : Nat) (G C : Nat → Nat) (R Z : Nat → Nat → Int) (S : Nat → Nat → Prop) (e : Ending) (w' : World) : Prop :=
  ∃ (b : Bool) (Z' : Nat → Nat → Int), e = .returned (.bool b) ∧ AbInv w w' rb tb n m c G C Z' ∧ Good n m R Z' ∧ Pass n m Z S b Z'
end

set_option maxHeartbeats 4000000 in
theorem raise_any (w wr : World) {rb tb n m c : Nat} {G C : Nat → Nat} {R Z : Nat → Nat → Int} (u : Nat) (I : AbInv w wr rb tb n m c G C Z) (hR : Good n m R Z) (hn : n ≤ 91) (hm : m ≤ 10) (hu : u < n) :
    Calls Try.prog 16 #[.int .i64 u, .pointer (some ⟨rb, 0, none⟩)] wr (RaiseP w rb tb n m c G C R Z (fun i _ => i = u)) := by
  have a1 := I.box
  have a2 := I.rows.head u hu
  have II := Lib.hid I
  have HG := Lib.hid hR
  clear I hR
  go_enter Try.func16, Try.ntmps16
  go_wp2
  go_loopw [4, 5, 6] (fun ch i _ w1 => ∃ (j : Int) (b : Bool) (Z' : Nat → Nat → Int), -1 ≤ j ∧ j < m ∧ i = .int .i64 j ∧ ch = .bool b ∧ AbInv w w1 rb tb n m c G C Z' ∧ Good n m R Z' ∧ Pass n m Z (fun i' j' => i' = u ∧ j < j') b Z') (fun _ i _ _ => (intOf i + 1).toNat)
  case atStart => exact ⟨(m : Int) - 1, false, Z, by omega, by omega, by go_num, rfl, II.out, HG.out, .inl ⟨rfl, rfl, fun _ _ _ _ h => by omega⟩⟩
  case round =>
    obtain ⟨j, b, Z', hj1, hj2, rfl, rfl, hI, hG, hP⟩ := hrel
    by_cases hneg : j < 0
    · obtain rfl : j = -1 := by omega
      have HI := Lib.hid hI
      have HP := Lib.hid hP
      have HG2 := Lib.hid hG
      clear hI hP hG
      go_wp2
      go_ret
      exact ⟨b, Z', rfl, HI.out, HG2.out, by
        rcases HP.out with ⟨h1, h2, h3⟩ | h
        · exact .inl ⟨h1, h2, fun i j hi hj e => h3 i j hi hj ⟨e, by omega⟩⟩
        · exact .inr h⟩
    · obtain ⟨v, rfl⟩ := Int.eq_ofNat_of_zero_le (show 0 ≤ j by omega)
      have hv : v < m := by omega
      have q0 := hI.box
      obtain ⟨X, hX⟩ : ∃ X, X = wantV n m Z' u v := ⟨_, rfl⟩
      have hX0 := want_bd hG hu hv
      rw [← hX] at hX0
      have x1 := hX0.1
      have x2 := hX0.2.1
      have hX1 := @want_ge n m Z' u v
      rw [← hX] at hX1
      clear hX0
      have hz := hI.rows.bd u v hu hv
      have z1 := hz.1
      have z2 := hz.2
      clear hz
      have HI := Lib.hid hI
      have HP := Lib.hid hP
      have HG2 := Lib.hid hG
      have HX := Lib.hid hX
      clear hI hP hG hX
      by_cases hq : Z' u v < X
      · go_wp2_with (go_at_call 17; refine (wanted_any _ c u v HI.out.rows hn hm hu hv).mono ?_; rintro e w2 ⟨rfl, hE⟩; rw [← HX.out]; have I2 := HI.out.grow hE; have p1 := I2.box; have p2 := I2.rows.head u hu; have p3 := I2.rows.cell u v hu hv; have p4 := I2.rows.froz u v hu hv; replace I2 := Lib.hid I2; clear hE)
        go_roundw
        case rel =>
          refine ⟨(v : Int) - 1, true, upd Z' u v X, by omega, by omega, by go_num, rfl, I2.out.store hu hv ⟨x1, x2⟩, ?_, ?_⟩
          · rw [HX.out]; exact good_step HG2.out hu hv
          · rw [HX.out]; exact pass_turn HG2.out HP.out hu hv (by rw [← HX.out]; exact hq)
        case measure => simp [intOf]
      · go_wp2_with (go_at_call 17; refine (wanted_any _ c u v HI.out.rows hn hm hu hv).mono ?_; rintro e w2 ⟨rfl, hE⟩; rw [← HX.out]; have I2 := HI.out.grow hE; have p1 := I2.box; have p2 := I2.rows.head u hu; have p3 := I2.rows.cell u v hu hv; replace I2 := Lib.hid I2; clear hE)
        go_roundw
        case rel =>
          refine ⟨(v : Int) - 1, b, Z', by omega, by omega, by go_num, rfl, I2.out, HG2.out, pass_keep HP.out (u := u) (w := v) (fun i' j' _ _ h => ?_) (by rw [← HX.out]; omega)⟩
          by_cases e : j' = v
          · exact .inr ⟨h.1, e⟩
          · exact .inl ⟨h.1, by omega⟩
        case measure => simp [intOf]

end Go.Proofs.Ytoemcpndmfimiaa

/-
  Contracts of Linear (program and reference), layer 37.
-/
import Derived.Test.YtoemcpndmfimiaaResE
import Derived.Test.YtoemcpndmfimiaaResD
namespace Go.Proofs.Ytoemcpndmfimiaa
open Go.RowKit
set_option linter.unusedSimpArgs false

theorem infoI : (Try.prog.info? 2).map (fun i => (i.zero, i.size, i.bytes)) = some (some (.int .i64 0), 1, 8) := by kernel_rfl
theorem infoR : (Try.prog.info? 27).map (fun i => (i.zero, i.size, i.bytes)) = some (some (.slice none 0 0), 1, 24) := by kernel_rfl
def linR (o k : Int) : Bool := rng o 1 90 && rng k 1 10
def linE (o k : Int) : Int := if linR o k then (if 10000 % (o * k) = 0 then 0 else 1) else 2
theorem linE_range {o k : Int} (h : linR o k = false) : linE o k = 2 := by simp [linE, h]
theorem linE_arg {o k : Int} (h : linR o k = true) (h' : 10000 % (o * k) ≠ 0) : linE o k = 1 := by simp [linE, h, h']
theorem linE_ok {o k : Int} (h : linR o k = true) (h' : 10000 % (o * k) = 0) : linE o k = 0 := by simp [linE, h, h']
/-- The numbers of the table: part for each over and wicket. -/
def linZ (q : Int) (k : Nat) (u j : Nat) : Int := q * ((u : Int) * ((k : Int) - (j : Int)))
def lq (o k : Nat) : Int := 10000 / ((o : Int) * (k : Int))
def LinOK (o k : Nat) (w : World) (e : Ending) (w' : World) : Prop :=
  ∃ (g c : Nat) (A : Nat → Option Addr) (C G O : Nat → Nat), e = .returned (.tuple #[.agg #[.slice (some ⟨g, 0, none⟩) (o + 1) c], .int .i64 0]) ∧ Ext w w' ∧
    TabAt w' (some ⟨g, 0, none⟩) (o + 1) A (fun _ => k) C (linZ (lq o k) k) g 0 G O
def LinNo (v : Int) (w : World) (e : Ending) (w' : World) : Prop := e = .returned (.tuple #[.agg #[.slice none 0 0], .int .i64 v]) ∧ Ext w w'
theorem lq_eq {o k p : Nat} (h1 : 1 ≤ o) (h3 : 1 ≤ k) (hp : p * (o * k) = 10000) : lq o k = (p : Int) := by
  have hok1 : 1 ≤ (o : Int) * (k : Int) := by
    have : 1 * 1 ≤ (o : Int) * (k : Int) := Int.mul_le_mul (by omega) (by omega) (by omega) (by omega)
    omega
  have hpi : (p : Int) * ((o : Int) * (k : Int)) = 10000 := by
    have := congrArg (fun x : Nat => (x : Int)) hp
    simpa using this
  unfold lq
  rw [← hpi]; exact Int.mul_ediv_cancel _ (by omega)
theorem lin_bd {o k p u j : Nat} (h0 : 1 ≤ o) (h1 : o ≤ 90) (h0' : 1 ≤ k) (h2 : k ≤ 10) (h : p * (o * k) = 10000) (hu : u ≤ o) (hj : j ≤ k) :
    0 ≤ (u : Int) * ((k : Int) - (j : Int)) ∧ (u : Int) * ((k : Int) - (j : Int)) ≤ 900 ∧ 0 ≤ linZ (lq o k) k u j ∧ linZ (lq o k) k u j ≤ 10000 := by
  rw [lq_eq h0 h0' h]
  have a1 : 0 ≤ (u : Int) * ((k : Int) - (j : Int)) := Int.mul_nonneg (by omega) (by omega)
  have a2 : (u : Int) * ((k : Int) - (j : Int)) ≤ (o : Int) * (k : Int) := Int.mul_le_mul (by omega) (by omega) (by omega) (by omega)
  have a3 : (o : Int) * (k : Int) ≤ 90 * 10 := Int.mul_le_mul (by omega) (by omega) (by omega) (by omega)
  have a4 : (p : Int) * ((u : Int) * ((k : Int) - (j : Int))) ≤ (p : Int) * ((o : Int) * (k : Int)) := Int.mul_le_mul_of_nonneg_left a2 (by omega)
  have a5 : (p : Int) * ((o : Int) * (k : Int)) = 10000 := by
    have := congrArg (fun x : Nat => (x : Int)) h
    simpa using this
  refine ⟨a1, by omega, Int.mul_nonneg (by omega) a1, ?_⟩
  unfold linZ
  omega
theorem rowV_succ (f : Nat → Int) (k : Nat) : rowV k f ++ [.int .i64 (f k)] = rowV (k + 1) f := by
  simp [rowV, List.range_succ]

/-- The same numbers, as the reference reckons them. -/
def rlinZ (o k : Nat) (u j : Nat) : Int := 10000 * (u : Int) * ((k : Int) - (j : Int)) / ((o : Int) * (k : Int))
theorem rlinZ_eq {o k p : Nat} (h1 : 1 ≤ o) (h3 : 1 ≤ k) (hp : p * (o * k) = 10000) : rlinZ o k = linZ (lq o k) k := by
  have hok1 : 1 ≤ (o : Int) * (k : Int) := by
    have : 1 * 1 ≤ (o : Int) * (k : Int) := Int.mul_le_mul (by omega) (by omega) (by omega) (by omega)
    omega
  have hpi : (p : Int) * ((o : Int) * (k : Int)) = 10000 := by
    have := congrArg (fun x : Nat => (x : Int)) hp
    simpa using this
  funext u j
  rw [lq_eq h1 h3 hp]
  unfold rlinZ linZ
  have e : 10000 * (u : Int) * ((k : Int) - (j : Int)) = (p : Int) * ((u : Int) * ((k : Int) - (j : Int))) * ((o : Int) * (k : Int)) := by
    rw [← hpi, Int.mul_assoc (p : Int), Int.mul_assoc (p : Int), Int.mul_assoc (p : Int), Int.mul_assoc ((o : Int) * (k : Int)), Int.mul_comm ((o : Int) * (k : Int))]
  rw [e]
  exact Int.mul_ediv_cancel _ (by omega)
theorem rlin_bd {k u j : Nat} (h2 : k ≤ 10) (hu : u ≤ 90) (hj : j ≤ k) : 0 ≤ 10000 * (u : Int) * ((k : Int) - (j : Int)) ∧ 10000 * (u : Int) * ((k : Int) - (j : Int)) ≤ 10000 * 90 * 10 := by
  exact ⟨Int.mul_nonneg (by omega) (by omega), Int.mul_le_mul (by omega) (by omega) (by omega) (by omega)⟩

set_option maxRecDepth 20000 in
set_option maxHeartbeats 4000000 in
theorem lin_ok (w : World) (o k p : Nat) (h1 : 1 ≤ o) (h2 : o ≤ 90) (h3 : 1 ≤ k) (h4 : k ≤ 10) (hp : p * (o * k) = 10000) :
    Calls Try.prog 13 #[.int .i64 (o : Int), .int .i64 (k : Int)] w (LinOK o k w) := by
  obtain ⟨i0, hi, hz0, hz1, hz2⟩ := info_parts infoI
  obtain ⟨i1, hi1, hy0, hy1, hy2⟩ := info_parts infoR
  have hok : (o : Int) * (k : Int) ≤ 90 * 10 := Int.mul_le_mul (by omega) (by omega) (by omega) (by omega)
  have hok1 : 1 ≤ (o : Int) * (k : Int) := by
    have : 1 * 1 ≤ (o : Int) * (k : Int) := Int.mul_le_mul (by omega) (by omega) (by omega) (by omega)
    omega
  have hpi : (p : Int) * ((o : Int) * (k : Int)) = 10000 := by
    have := congrArg (fun x : Nat => (x : Int)) hp
    simpa using this
  have hr : (10000 : Int) % ((o : Int) * (k : Int)) = 0 := by rw [← hpi]; exact Int.mul_emod_left _ _
  have HPI := Lib.hid hpi
  have HP := Lib.hid hp
  clear hpi hp
  go_enter Try.func13, Try.ntmps13
  go_wp2
  clear hr
  go_loopw [8, 9, 10, 38] (fun _ _ _ i wr => ∃ (u : Nat) (vt : Value) (rs : List (Nat × Nat)), u ≤ o + 1 ∧ i = .int .i64 u ∧ rs.length = u ∧ LinInv w wr (w.heap.size + 1) w.heap.size k u (.slice none 0 0) vt rs (linZ (lq o k) k)) (fun _ _ _ i _ => o + 1 - (intOf i).toNat)
  case atStart =>
    exact ⟨0, .slice none 0 0, [], Nat.zero_le _, rfl, rfl, ((Ext.refl _).alloc _).alloc _, by omega, by omega, by omega, (two_new w _ _).1, (two_new w _ _).2, World.ownsRow_nil _ _ _ _, by simp⟩
  case round =>
    obtain ⟨u, vt, rs, hu, rfl, hl, hI⟩ := hrel
    by_cases hlt : u < o + 1
    · have HI := Lib.hid hI
      have hEx := hI.ext
      have hd : decide ((u : Int) < (o : Int) + 1) = true := by simp; omega
      clear hI
      go_wp2
      obtain ⟨wo, rfl⟩ : ∃ wo : World, wo = wr := ⟨_, rfl⟩
      go_loopw [9, 10, 42] (fun v _ i wr => ∃ j : Nat, j ≤ k ∧ i = .int .i64 j ∧ wr.ownsRow wo.heap.size 2 1 v j (rowV j (linZ (lq o k) k u)) ∧ Ext wo wr) (fun _ _ i _ => k - (intOf i).toNat)
      case atStart => exact ⟨0, Nat.zero_le _, rfl, World.ownsRow_nil _ _ _ _, Ext.refl _⟩
      case round =>
        obtain ⟨j, hj, hi', hown, hX⟩ := hrel
        subst hi'
        by_cases hlt2 : j < k
        · obtain ⟨b1, b2, b3, b4⟩ := lin_bd (u := u) (j := j) h1 h2 h3 h4 HP.out (by omega) (by omega)
          unfold linZ lq at b3 b4
          go_wp2_with (at_builtin; refine wpList_append_own _ rfl _ _ 27 rfl wo.heap.size 2 i0 (.int .i64 0) 1 8 Try.underlying27 hi hz0 hz1 hz2 rfl (by decide) _ _ _ rfl (hown.alloc _) ⟨wr.heap.size, 0, none⟩ 1 1 [.int .i64 (linZ (lq o k) k u j)] rfl rfl ?c1 ?c2 ?c3 ?c4 ?c5 ?_)
          case c1 => exact cell_one_new _ _ _
          case c2 => intro x hx; simp at hx; subst hx; rfl
          case c3 => unfold maxLen; omega
          case c4 => omega
          case c5 => have := hX.size; simp; omega
          intro v' w1 hown' hgrow _
          have hX1 := ext_grown (hX.alloc _) hgrow (own_row_ge hown)
          rw [rowV_succ] at hown'
          clear hgrow hown hX
          go_wp2
          go_roundw
          case rel => exact ⟨j + 1, by omega, by go_num, hown', hX1⟩
          case measure => simp [intOf]; omega
        · obtain rfl : j = k := by omega
          obtain ⟨g, c, rfl, hg, hgl⟩ := own_form hown (by omega)
          have hJ := HI.out.grow hX
          have HJ := Lib.hid hJ
          obtain ⟨c1, c2⟩ := hJ.cell
          have hOwn := hJ.own
          clear hJ
          go_wp2_with (at_builtin; refine wpList_append_own _ rfl _ _ 22 rfl w.heap.size 27 i1 (.slice none 0 0) 1 24 Try.underlying22 hi1 hy0 hy1 hy2 rfl (by decide) _ _ _ rfl (hOwn.alloc _) ⟨wr.heap.size, 0, none⟩ 1 1 [.slice (some ⟨g, 0, none⟩) j c] rfl rfl ?d1 ?d2 ?d3 ?d4 ?d5 ?_)
          case d1 => exact cell_one_new _ _ _
          case d2 => intro x hx; simp at hx; subst hx; rfl
          case d3 => unfold maxLen; omega
          case d4 => omega
          case d5 => have := hEx.size; have := hX.size; simp; omega
          intro v' w1 hown' hgrow _
          have hK := HJ.out.grow ((Ext.refl wr).alloc (.cells #[.slice (some ⟨g, 0, none⟩) j c] 27))
          obtain ⟨hE1, ht1, hr1, _⟩ := hK.appended hgrow
          have q1 : w1.cell? ⟨w.heap.size + 1, 0, none⟩ = some vt := by simp [World.cell?, ht1]
          have q2 : w1.frozen? ⟨w.heap.size + 1, 0, none⟩ = false := by simp [World.frozen?, ht1]
          obtain ⟨g1, cc1, hv1, _, _⟩ := own_form hown' (by omega)
          rw [hv1] at hown' ⊢
          have hL := hK.done hgrow (own_ext (own_base hown (by have := hEx.size; omega)) ((Ext.refl _).alloc _)) hown' hl
          have HL := Lib.hid hL
          clear hL hK hgrow hown hX hv1 ht1 hr1
          go_wp2
          go_roundw
          case rel => exact ⟨u + 1, _, rs ++ [(g, c)], by omega, by go_num, by simp [hl], HL.out⟩
          case measure => simp [intOf]; omega
    · obtain rfl : u = o + 1 := by omega
      have hw : ∀ i j, i < o + 1 → j < k → -9223372036854775808 ≤ linZ (lq o k) k i j ∧ linZ (lq o k) k i j ≤ 9223372036854775807 := fun i j hi hj => by
        have := lin_bd (u := i) (j := j) h1 h2 h3 h4 HP.out (by omega) (by omega); omega
      obtain ⟨g, c, rfl, _⟩ := hI.tab hl (by omega) (by omega) (by omega) hw
      have HI := Lib.hid hI
      obtain ⟨c1, c2⟩ := hI.cell
      obtain ⟨c3, c4⟩ := hI.rcell
      clear hI
      go_wp2
      refine bodyPost_ret (v := .tuple #[.agg #[.slice (some ⟨g, 0, none⟩) (o + 1) c], .int .i64 0]) (by simp [results, Try.results13, go_sem, *]) rfl ?_
      have hJ := HI.out.rstore (.slice (some ⟨g, 0, none⟩) (o + 1) c)
      obtain ⟨g', c', e, hT⟩ := hJ.tab hl (by omega) (by omega) (by omega) hw
      cases e
      
      exact ⟨g, c, _, _, _, _, rfl, hJ.ext, hT⟩

set_option maxHeartbeats 1000000 in
theorem lin_no (w : World) (o k : Int) (h : linE o k ≠ 0) : Calls Try.prog 13 #[.int .i64 o, .int .i64 k] w (LinNo (linE o k) w) := by
  rcases and2 (rng o 1 90) (rng k 1 10) with h1 | ⟨h1, h2⟩ | ⟨h1, h2⟩
  · have HE := Lib.hid (@linE_range o k (by simp [linR, *]))
    have k1 := rng_no h1
    clear h
    go_enter Try.func13, Try.ntmps13
    go_wp2
    all_goals
      refine bodyPost_ret (v := .tuple #[.agg #[.slice none 0 0], .int .i64 2]) (by simp [results, Try.results13, go_sem, *]) rfl ?_
      exact ⟨by rw [HE.out], (by repeat (first | exact Ext.refl _ | refine Ext.setCell ?_ (Nat.le_refl _) _ | refine Ext.alloc ?_ _))⟩
  · have HE := Lib.hid (@linE_range o k (by simp [linR, *]))
    obtain ⟨k1, k2⟩ := rng_yes h1
    have k3 := rng_no h2
    clear h
    go_enter Try.func13, Try.ntmps13
    go_wp2
    all_goals
      refine bodyPost_ret (v := .tuple #[.agg #[.slice none 0 0], .int .i64 2]) (by simp [results, Try.results13, go_sem, *]) rfl ?_
      exact ⟨by rw [HE.out], (by repeat (first | exact Ext.refl _ | refine Ext.setCell ?_ (Nat.le_refl _) _ | refine Ext.alloc ?_ _))⟩
  · obtain ⟨k1, k2⟩ := rng_yes h1
    obtain ⟨k3, k4⟩ := rng_yes h2
    have hr : 10000 % (o * k) ≠ 0 := fun e => h (linE_ok (by simp [linR, *]) e)
    have HE := Lib.hid (@linE_arg o k (by simp [linR, *]) hr)
    have hrb : (10000 % (o * k) != 0) = true := by simp [hr]
    have hok : o * k ≤ 90 * 10 := Int.mul_le_mul (by omega) (by omega) (by omega) (by omega)
    have hok1 : 1 ≤ o * k := by
      have : 1 * 1 ≤ o * k := Int.mul_le_mul (by omega) (by omega) (by omega) (by omega)
      omega
    clear h hr
    go_enter Try.func13, Try.ntmps13
    go_wp2
    refine bodyPost_ret (v := .tuple #[.agg #[.slice none 0 0], .int .i64 1]) (by simp [results, Try.results13, go_sem, *]) rfl ?_
    exact ⟨by rw [HE.out], (by repeat (first | exact Ext.refl _ | refine Ext.setCell ?_ (Nat.le_refl _) _ | refine Ext.alloc ?_ _))⟩

end Go.Proofs.Ytoemcpndmfimiaa

/-
  Parse of the reference of layer 2 at any string.
-/
import Derived.Test.YthckbfkhbegmgaaDoorIntV4
import Derived.Test.YthckbfkhbegmgaaDoorIntW
namespace Go.Proofs.YthckbfkhbegmgaaDoor
open Go.RowKit
set_option linter.unusedSimpArgs false

/-- The result's box in block w.heap.size, the number's in the next. -/
structure PI (w wr : World) (v : Int) : Prop where
  ext : Ext w wr
  r0 : wr.cell? ⟨w.heap.size, 0, none⟩ = some (.int .i64 0)
  r1 : wr.cell? ⟨w.heap.size, 1, none⟩ = some (.int .u64 0)
  c0 : wr.cell? ⟨w.heap.size + 1, 0, none⟩ = some (.int .i64 (whi v))
  c1 : wr.cell? ⟨w.heap.size + 1, 1, none⟩ = some (.int .u64 (wlo v))
  z : ∀ b j, b < w.heap.size + 2 → w.heap.size ≤ b → wr.frozen? ⟨b, j, none⟩ = false
theorem PI.grow {w wr w' : World} {v : Int} (h : PI w wr v) (x : Ext wr w') : PI w w' v where
  ext := h.ext.trans x
  r0 := x.keep h.r0
  r1 := x.keep h.r1
  c0 := x.keep h.c0
  c1 := x.keep h.c1
  z := fun b j h1 h2 => (x.cells.2 b j (by have := cell_lt h.c0; omega)).trans (h.z b j h1 h2)
theorem PI.drew {w wr : World} {v : Int} (h : PI w wr v) : PI w wr.drew v := h.grow (Ext.refl wr).drew
theorem PI.set {w wr : World} {v : Int} (h : PI w wr v) (x : Int) : PI w ((wr.setCell ⟨w.heap.size + 1, 0, none⟩ (.int .i64 (whi x))).setCell ⟨w.heap.size + 1, 1, none⟩ (.int .u64 (wlo x))) x where
  ext := (h.ext.setCell (by simp) _).setCell (by simp) _
  r0 := by rw [World.cell?_setCell_other _ _ _ _ (by simp), World.cell?_setCell_other _ _ _ _ (by simp)]; exact h.r0
  r1 := by rw [World.cell?_setCell_other _ _ _ _ (by simp), World.cell?_setCell_other _ _ _ _ (by simp)]; exact h.r1
  c0 := by rw [World.cell?_setCell_other _ _ _ _ (by simp), World.cell?_setCell_same _ _ _ h.c0]
  c1 := by
    have : (wr.setCell ⟨w.heap.size + 1, 0, none⟩ (.int .i64 (whi x))).cell? ⟨w.heap.size + 1, 1, none⟩ = some (.int .u64 (wlo v)) := by rw [World.cell?_setCell_other _ _ _ _ (by simp)]; exact h.c1
    rw [World.cell?_setCell_same _ _ _ this]
  z := fun b j h1 h2 => by rw [World.frozen?_setCell, World.frozen?_setCell]; exact h.z b j h1 h2
theorem pi_new (w : World) (T U : TypeId) : PI w ((w.alloc (.cells #[.int .i64 0, .int .u64 0] T)).alloc (.cells #[.int .i64 0, .int .u64 0] U)) 0 where
  ext := ((Ext.refl _).alloc _).alloc _
  r0 := by simp [go_sem]
  r1 := by simp [go_sem]
  c0 := by simp [go_sem, whi]
  c1 := by simp [go_sem, wlo]
  z := fun b j h1 h2 => by
    have : b = w.heap.size ∨ b = w.heap.size + 1 := by omega
    rcases this with rfl | rfl <;> simp [go_sem]
theorem text128v_any (v : Int) (h : B128 v) (w : World) : Calls Tryd.prog 16 #[.agg #[.int .i64 (whi v), .int .u64 (wlo v)]] w fun e w' => e = .returned (.string ⟨(Lib.itoa v).toArray⟩) ∧ Ext w w' := by
  have g := ww_of h
  have := text128_any (whi v) (wlo v) g.a1 g.a2 g.b1 g.b2 w
  rwa [vI_of] at this
/-- What is known of the outcome: an error, or the number whose text it is; never an error at a numeral of at most 2^62. -/
def PPost (L : List UInt8) (w : World) (e : Ending) (w' : World) : Prop :=
  ∃ v c : Int, e = .returned (.tuple #[.agg #[.int .i64 (whi v), .int .u64 (wlo v)], .int .i64 c]) ∧ B128 v ∧ ((c = 0 ∧ Lib.itoa v = L) ∨ (c = 4 ∧ v = 0)) ∧ (∀ n, Nml L n → c = 0) ∧ Ext w w'
theorem ppost_no {L : List UInt8} {w w' : World} (h : ∀ n, ¬ Nml L n) (x : Ext w w') : PPost L w (.returned (.tuple #[.agg #[.int .i64 0, .int .u64 0], .int .i64 4])) w' :=
  ⟨0, 4, by rw [show whi 0 = 0 from rfl, show wlo 0 = 0 from rfl], b128_0, Or.inr ⟨rfl, rfl⟩, fun n hn => absurd hn (h n), x⟩
theorem ppost_yes {L : List UInt8} {w w' : World} {v : Int} (h : B128 v) (h' : Lib.itoa v = L) (x : Ext w w') : PPost L w (.returned (.tuple #[.agg #[.int .i64 (whi v), .int .u64 (wlo v)], .int .i64 0])) w' :=
  ⟨v, 0, rfl, h, Or.inl ⟨rfl, h'⟩, fun _ _ => rfl, x⟩
/-- What the digits have come to. -/
def Trk (L D : List UInt8) (k : Nat) (o : Bool) (v : Int) : Prop := ∀ n, Nml L n → o = true ∧ v = -((dval (D.take k) : Nat) : Int)
theorem Trk.step {L D : List UInt8} {k : Nat} {v x y : Int} {kx ky : Bool} (h : Trk L D k true v) (hD : ∀ n, Nml L n → D = Lib.decDigits n.natAbs) (hk : k < D.length) {b : UInt8} (hb : D.getD k 0 = b) (hb' : 48 ≤ b.toNat ∧ b.toNat ≤ 57)
    (hX : -9223372036854775808 ≤ v → v ≤ 9223372036854775808 → kx = true ∧ x = v * 10) (hY : B128 (x - (((b.toNat : Nat) : Int) - 48)) → ky = true ∧ y = x - (((b.toNat : Nat) : Int) - 48)) : Trk L D (k + 1) ky y := by
  intro n hn
  obtain ⟨_, h2⟩ := h n hn
  have h3 := hD n hn
  have h4 := dval_le (D := D) (D.length - k) k (by omega)
  rw [show dval D = n.natAbs by rw [h3, dval_dd]] at h4
  have h5 := hn.2
  obtain ⟨_, h6⟩ := hX (by omega) (by omega)
  obtain ⟨h7, h8⟩ := hY (by unfold B128; omega)
  refine ⟨h7, ?_⟩
  rw [take_snoc hk, dval_snoc, hb]
  omega
theorem Trk.stop {L D : List UInt8} {k : Nat} {v x : Int} {kx : Bool} (h : Trk L D k true v) (hD : ∀ n, Nml L n → D = Lib.decDigits n.natAbs)
    (hX : -9223372036854775808 ≤ v → v ≤ 9223372036854775808 → kx = true ∧ x = v * 10) (hk : k < D.length) (he : kx = false) : ∀ n, ¬ Nml L n := by
  intro n hn
  obtain ⟨_, h2⟩ := h n hn
  have h3 := hD n hn
  have h4 := dval_le (D := D) (D.length - k) k (by omega)
  rw [show dval D = n.natAbs by rw [h3, dval_dd]] at h4
  have h5 := hn.2
  obtain ⟨h6, _⟩ := hX (by omega) (by omega)
  rw [he] at h6; cases h6
theorem Trk.none {L D : List UInt8} {k : Nat} {o : Bool} {v : Int} (h : ∀ n, ¬ Nml L n) : Trk L D k o v := fun n hn => absurd hn (h n)
theorem Trk.over {L D : List UInt8} {k : Nat} {v : Int} (h : Trk L D k false v) : ∀ n, ¬ Nml L n := fun n hn => by cases (h n hn).1
theorem trk0 (L D : List UInt8) : Trk L D 0 true 0 := fun _ _ => ⟨rfl, by simp [dval]⟩
theorem beqL {T L : List UInt8} (h : decide (T = L) = false) : ¬ (T = L) ∧ (T == L) = false := by
  have := of_decide_eq_false h
  exact ⟨this, by simpa using this⟩

set_option maxHeartbeats 16000000 in
theorem r2parse_neg (L D : List UInt8) (hL : L = 45 :: D) (hl : D.length ≤ 1000000) (w : World) :
    Calls Tryd.prog 20 #[.string ⟨L.toArray⟩] w (PPost L w) := by
  have HD : Hid (∀ n, Nml L n → n < 0 ∧ D = Lib.decDigits n.natAbs) := fun n hn => nml_neg (hL ▸ hn)
  have hlen : L.length = D.length + 1 := by rw [hL]; rfl
  have h0 : 0 < L.length := by omega
  have hx0 : ∀ h, (⟨L.toArray⟩ : ByteArray)[0]'h = 45 := fun h => (byte_at L 0 h0 h).trans (by rw [hL]; rfl)
  have hext : (⟨L.toArray⟩ : ByteArray).extract 1 (D.length + 1) = ⟨D.toArray⟩ := by rw [← hlen, ext_drop, hL]; rfl
  have hDL : ¬ (D = L) := fun e => by rw [← e] at hlen; omega
  have hDL2 : (D == L) = false := by simpa using hDL
  clear hL
  by_cases hz : D.length = 0
  · have HN : Hid (∀ n, ¬ Nml L n) := fun n hn => by
      have h1 := (HD.out n hn).2
      have h2 := Lib.nDigits_pos n.natAbs
      rw [← Lib.decDigits_length, ← h1] at h2
      omega
    clear HD
    obtain rfl : D = [] := List.length_eq_zero_iff.1 hz
    simp only [List.length_nil, Nat.zero_add] at hlen hext
    (
      go_enter Tryd.func20, Tryd.ntmps20
      go_wp2
      refine bodyPost_ret (v := .tuple #[.agg #[.int .i64 0, .int .u64 0], .int .i64 4]) (by simp [results, Tryd.results20, go_sem, *]; done) rfl ?_
      exact ppost_no HN.out (by repeat (first | exact Ext.refl _ | refine Ext.setCell ?_ (by first | (simp; done) | (simp; omega)) _ | refine Ext.drew ?_ | refine Ext.drewN ?_ _ | refine Ext.alloc ?_ _))
    )
  · by_cases h39 : 39 < D.length
    · have HN : Hid (∀ n, ¬ Nml L n) := fun n hn => by
        have h1 := (HD.out n hn).2
        have h3 := hn.2
        have h2 := dd_len 38 n.natAbs (by omega)
        rw [← h1] at h2
        omega
      have f0 : ¬ ((D.length : Int) = 0) := by omega
      have f1 : (39 : Int) < (D.length : Int) := by omega
      go_enter Tryd.func20, Tryd.ntmps20
      go_wp2
      refine bodyPost_ret (v := .tuple #[.agg #[.int .i64 0, .int .u64 0], .int .i64 4]) (by simp [results, Tryd.results20, go_sem, *]; done) rfl ?_
      exact ppost_no HN.out (by repeat (first | exact Ext.refl _ | refine Ext.setCell ?_ (by first | (simp; done) | (simp; omega)) _ | refine Ext.drew ?_ | refine Ext.drewN ?_ _ | refine Ext.alloc ?_ _))
    · have f0 : ¬ ((D.length : Int) = 0) := by omega
      have f1 : ¬ ((39 : Int) < (D.length : Int)) := by omega
      go_enter Tryd.func20, Tryd.ntmps20
      go_wp2
      go_loopw [6, 7] (fun ok i wr => ∃ (k : Nat) (v : Int) (o : Bool), k ≤ D.length ∧ ok = .bool o ∧ i = .int .i64 k ∧ PI w wr v ∧ B128 v ∧ Trk L D k o v) (fun _ i _ => D.length - (intOf i).toNat)
      case atStart => exact ⟨0, 0, true, by omega, rfl, rfl, pi_new w _ _, b128_0, trk0 L D⟩
      case round =>
        obtain ⟨k, v, o, hk, rfl, rfl, hP, hB, hT⟩ := hrel
        have c0 := hP.c0; have c1 := hP.c1; have r0 := hP.r0; have r1 := hP.r1; have z00 := hP.z w.heap.size 0 (by omega) (by omega); have z01 := hP.z w.heap.size 1 (by omega) (by omega); have z10 := hP.z (w.heap.size + 1) 0 (by omega) (by omega); have z11 := hP.z (w.heap.size + 1) 1 (by omega) (by omega)
        have HP := Lib.hid hP
        have HB := Lib.hid hB
        clear hP hB
        by_cases hlt : k < D.length
        · rcases o with _ | _
          · have HN := Lib.hid hT.over
            clear hT
            go_wp2
            refine bodyPost_ret (v := .tuple #[.agg #[.int .i64 0, .int .u64 0], .int .i64 4]) (by simp [results, Tryd.results20, go_sem, *]; done) rfl ?_
            exact ppost_no HN.out (by repeat (first | exact HP.out.ext | exact Ext.refl _ | refine Ext.setCell ?_ (by first | (simp; done) | (simp; omega)) _ | refine Ext.drew ?_ | refine Ext.drewN ?_ _ | refine Ext.alloc ?_ _ | refine Ext.trans ?_ hb5 | refine Ext.trans ?_ hb4 | refine Ext.trans ?_ hb3 | refine Ext.trans ?_ hb2 | refine Ext.trans ?_ hb1))
          · obtain ⟨b, hbk⟩ : ∃ b : UInt8, D.getD k 0 = b := ⟨_, rfl⟩
            have hx : ∀ h, (⟨D.toArray⟩ : ByteArray)[k]'h = b := fun h => (byte_at D k hlt h).trans hbk
            have hb256 : b.toNat < 256 := b.toNat_lt
            have HT := Lib.hid hT
            clear hT
            rcases and1 (isDg b) with hg | hg
            · have HN : Hid (∀ n, ¬ Nml L n) := fun n hn => by
                have := dd_at (HD.out n hn).2 hlt
                rw [hbk, hg] at this; cases this
              have hb : b.toNat < 48 ∨ (48 ≤ b.toNat ∧ 57 < b.toNat) := by simp [isDg] at hg; omega
              clear hg hbk
              rcases hb with hb | ⟨hb, hb'⟩
              · have f1 : ((b.toNat : Nat) : Int) < 48 := by omega
                go_wp2
                refine bodyPost_ret (v := .tuple #[.agg #[.int .i64 0, .int .u64 0], .int .i64 4]) (by simp [results, Tryd.results20, go_sem, *]; done) rfl ?_
                exact ppost_no HN.out (by repeat (first | exact HP.out.ext | exact Ext.refl _ | refine Ext.setCell ?_ (by first | (simp; done) | (simp; omega)) _ | refine Ext.drew ?_ | refine Ext.drewN ?_ _ | refine Ext.alloc ?_ _ | refine Ext.trans ?_ hb5 | refine Ext.trans ?_ hb4 | refine Ext.trans ?_ hb3 | refine Ext.trans ?_ hb2 | refine Ext.trans ?_ hb1))
              · have f1 : ¬ (((b.toNat : Nat) : Int) < 48) := by omega
                have f2 : (57 : Int) < ((b.toNat : Nat) : Int) := by omega
                go_wp2
                refine bodyPost_ret (v := .tuple #[.agg #[.int .i64 0, .int .u64 0], .int .i64 4]) (by simp [results, Tryd.results20, go_sem, *]; done) rfl ?_
                exact ppost_no HN.out (by repeat (first | exact HP.out.ext | exact Ext.refl _ | refine Ext.setCell ?_ (by first | (simp; done) | (simp; omega)) _ | refine Ext.drew ?_ | refine Ext.drewN ?_ _ | refine Ext.alloc ?_ _ | refine Ext.trans ?_ hb5 | refine Ext.trans ?_ hb4 | refine Ext.trans ?_ hb3 | refine Ext.trans ?_ hb2 | refine Ext.trans ?_ hb1))
            · have hb : 48 ≤ b.toNat ∧ b.toNat ≤ 57 := by simpa [isDg] using hg
              have HBK := Lib.hid hbk
              have HBB := Lib.hid hb
              have f1 : ¬ (((b.toNat : Nat) : Int) < 48) := by omega
              have f2 : ¬ ((57 : Int) < ((b.toNat : Nat) : Int)) := by omega
              have f3 : IntKind.u8.wrap (((b.toNat : Nat) : Int) - 48) = ((b.toNat : Nat) : Int) - 48 := by rw [IntKind.wrap_u8]; omega
              have f4 : IntKind.i64.wrap (((b.toNat : Nat) : Int) - 48) = ((b.toNat : Nat) : Int) - 48 := IntWalk.i64_in _ (by omega)
              clear hg hbk
              go_wp2_with ((fail_if_success (have hzz := hb1)); go_at_call 36; refine (r2scalew_any v 10 HB.out rfl _).mono ?_; rintro e w1 ⟨x, kx, rfl, hx, hX, hb1⟩; replace hx := Lib.hid hx; replace hX := Lib.hid hX; have hP1 := HP.out.grow hb1; clear c0 c1 r0 r1 z00 z01 z10 z11; have c0 := hP1.c0; have c1 := hP1.c1; have r0 := hP1.r0; have r1 := hP1.r1; have z00 := hP1.z w.heap.size 0 (by omega) (by omega); have z01 := hP1.z w.heap.size 1 (by omega) (by omega); have z10 := hP1.z (w.heap.size + 1) 0 (by omega) (by omega); have z11 := hP1.z (w.heap.size + 1) 1 (by omega) (by omega); replace hP1 := Lib.hid hP1; rcases kx with _ | _)
              · go_roundw
                case rel => exact ⟨k + 1, x, false, by omega, rfl, by go_num, hP1.out.set x, hx.out, Trk.none (HT.out.stop (fun n hn => (HD.out n hn).2) hX.out hlt rfl)⟩
                case measure => simp [intOf]; omega
              · refine wp_region_held_drew (S := fun _ => True) (by kernel_rfl) trivial (fun hHeld => ?_)
                refine wpAnyH_take (i := 1) (v := ?v1_1) rfl (by kernel_rfl) (by kernel_rfl) (by kernel_rfl) (fun _ _ _ h => h) (Or.inl ⟨by rfl, ?y1_1⟩) (by assumption) ?r1_1
                case y1_1 => ((intro w hSw; (try dsimp only at hSw); go_simp; (first | done | with_reducible rfl)))
                (try simp only [List.getElem_toArray, List.getElem_cons_succ, List.getElem_cons_zero, Act.put, List.setIfInBounds_toArray, List.set_cons_zero, List.set_cons_succ])
                refine wpAnyH_take (i := 2) (v := ?v1_2) rfl (by kernel_rfl) (by kernel_rfl) (by kernel_rfl) (fun _ _ _ h => h) (Or.inl ⟨by rfl, ?y1_2⟩) (by assumption) ?r1_2
                case y1_2 => ((intro w hSw; (try dsimp only at hSw); go_simp; (first | done | with_reducible rfl)))
                (try simp only [List.getElem_toArray, List.getElem_cons_succ, List.getElem_cons_zero, Act.put, List.setIfInBounds_toArray, List.set_cons_zero, List.set_cons_succ])
                refine wpAnyH_take (i := 3) (v := ?v1_3) rfl (by kernel_rfl) (by kernel_rfl) (by kernel_rfl) (fun _ _ _ h => h) (Or.inl ⟨by rfl, ?y1_3⟩) (by assumption) ?r1_3
                case y1_3 => ((intro w hSw; (try dsimp only at hSw); go_simp; (first | done | with_reducible rfl)))
                (try simp only [List.getElem_toArray, List.getElem_cons_succ, List.getElem_cons_zero, Act.put, List.setIfInBounds_toArray, List.set_cons_zero, List.set_cons_succ])
                refine wpAnyH_take (i := 4) (v := ?v1_4) rfl (by kernel_rfl) (by kernel_rfl) (by kernel_rfl) (fun _ _ _ h => h) (Or.inl ⟨by rfl, ?y1_4⟩) (by assumption) ?r1_4
                case y1_4 => ((intro w hSw; (try dsimp only at hSw); go_simp; (first | done | with_reducible rfl)))
                (try simp only [List.getElem_toArray, List.getElem_cons_succ, List.getElem_cons_zero, Act.put, List.setIfInBounds_toArray, List.set_cons_zero, List.set_cons_succ])
                refine wpAnyH_take (i := 5) (v := ?v1_5) rfl (by kernel_rfl) (by kernel_rfl) (by kernel_rfl) (fun _ _ _ h => h) (Or.inl ⟨by rfl, ?y1_5⟩) (by assumption) ?r1_5
                case y1_5 => ((intro w hSw; (try dsimp only at hSw); go_simp; (first | done | with_reducible rfl)))
                (try simp only [List.getElem_toArray, List.getElem_cons_succ, List.getElem_cons_zero, Act.put, List.setIfInBounds_toArray, List.set_cons_zero, List.set_cons_succ])
                refine wpAnyH_ready (rs := [0, 6]) (by kernel_rfl) (by simp) ?_
                refine AllReadyH.cons rfl (fun K hK => ?_) (AllReadyH.cons rfl (fun K hK => ?_) AllReadyH.nil)
                · go_simp
                  refine hK.out _ _ trivial (fun hHeld => ?_)
                  clear hK K
                  (try simp only [List.getElem_toArray, List.getElem_cons_succ, List.getElem_cons_zero, Act.put, List.setIfInBounds_toArray, List.set_cons_zero, List.set_cons_succ])
                  refine wpAnyH_ready (rs := [6]) (by kernel_rfl) (by simp) ?_
                  refine AllReadyH.cons rfl (fun K hK => ?_) AllReadyH.nil
                  go_simp
                  ((fail_if_success (have hzz := hb2)); go_at_call 17; refine (rof_any _ (by have := HBB.out; omega) (by have := HBB.out; omega) _).mono ?_; rintro e w2 ⟨rfl, hb2⟩; have hP2 : PI w w2 x := PI.grow (by first | exact hP1.out.set x | exact (hP1.out.set x).drew) hb2; clear c0 c1 r0 r1 z00 z01 z10 z11; have c0 := hP2.c0; have c1 := hP2.c1; have r0 := hP2.r0; have r1 := hP2.r1; have z00 := hP2.z w.heap.size 0 (by omega) (by omega); have z01 := hP2.z w.heap.size 1 (by omega) (by omega); have z10 := hP2.z (w.heap.size + 1) 0 (by omega) (by omega); have z11 := hP2.z (w.heap.size + 1) 1 (by omega) (by omega); replace hP2 := Lib.hid hP2)
                  refine hK.out _ _ trivial (fun hHeld => ?_)
                  clear hK K
                  (try simp only [List.getElem_toArray, List.getElem_cons_succ, List.getElem_cons_zero, Act.put, List.setIfInBounds_toArray, List.set_cons_zero, List.set_cons_succ])
                  refine wpAnyH_ready (rs := [7]) (by kernel_rfl) (by simp) ?_
                  refine AllReadyH.cons rfl (fun K hK => ?_) AllReadyH.nil
                  go_simp
                  ((fail_if_success (have hzz := hb3)); go_at_call 37; refine (r2subv_any x _ hx.out (by have := HBB.out; unfold B128; omega) _).mono ?_; rintro e w3 ⟨y, ky, rfl, hy, hY, hb3⟩; replace hy := Lib.hid hy; replace hY := Lib.hid hY; have hP3 := hP2.out.grow hb3; clear c0 c1 r0 r1 z00 z01 z10 z11; have c0 := hP3.c0; have c1 := hP3.c1; have r0 := hP3.r0; have r1 := hP3.r1; have z00 := hP3.z w.heap.size 0 (by omega) (by omega); have z01 := hP3.z w.heap.size 1 (by omega) (by omega); have z10 := hP3.z (w.heap.size + 1) 0 (by omega) (by omega); have z11 := hP3.z (w.heap.size + 1) 1 (by omega) (by omega); replace hP3 := Lib.hid hP3)
                  refine hK.out _ _ trivial (fun hHeld => ?_)
                  clear hK K
                  (try simp only [List.getElem_toArray, List.getElem_cons_succ, List.getElem_cons_zero, Act.put, List.setIfInBounds_toArray, List.set_cons_zero, List.set_cons_succ])
                  refine wpAnyH_take (i := 8) (v := ?v2_8) rfl (by kernel_rfl) (by kernel_rfl) (by kernel_rfl) (fun _ _ _ h => h) (Or.inl ⟨by rfl, ?y2_8⟩) (by assumption) ?r2_8
                  case y2_8 => ((intro w hSw; (try dsimp only at hSw); go_simp; (first | done | with_reducible rfl)))
                  (try simp only [List.getElem_toArray, List.getElem_cons_succ, List.getElem_cons_zero, Act.put, List.setIfInBounds_toArray, List.set_cons_zero, List.set_cons_succ])
                  refine wpAnyH_take (i := 9) (v := ?v2_9) rfl (by kernel_rfl) (by kernel_rfl) (by kernel_rfl) (fun _ _ _ h => h) (Or.inl ⟨by rfl, ?y2_9⟩) (by assumption) ?r2_9
                  case y2_9 => ((intro w hSw; (try dsimp only at hSw); go_simp; (first | done | with_reducible rfl)))
                  (try simp only [List.getElem_toArray, List.getElem_cons_succ, List.getElem_cons_zero, Act.put, List.setIfInBounds_toArray, List.set_cons_zero, List.set_cons_succ])
                  refine wpAnyH_take (i := 10) (v := ?v2_10) rfl (by kernel_rfl) (by kernel_rfl) (by kernel_rfl) (fun _ _ _ h => h) (Or.inl ⟨by rfl, ?y2_10⟩) (by assumption) ?r2_10
                  case y2_10 => ((intro w hSw; (try dsimp only at hSw); go_simp; (first | done | with_reducible rfl)))
                  (try simp only [List.getElem_toArray, List.getElem_cons_succ, List.getElem_cons_zero, Act.put, List.setIfInBounds_toArray, List.set_cons_zero, List.set_cons_succ])
                  refine wpAnyH_ready (rs := [11]) (by kernel_rfl) (by simp) ?_
                  refine AllReadyH.cons rfl (fun K hK => ?_) AllReadyH.nil
                  go_simp
                  refine hK.out _ _ trivial (fun hHeld => ?_)
                  clear hK K
                  (try simp only [List.getElem_toArray, List.getElem_cons_succ, List.getElem_cons_zero, Act.put, List.setIfInBounds_toArray, List.set_cons_zero, List.set_cons_succ])
                  refine wpAnyH_take (i := 12) (v := ?v3_12) rfl (by kernel_rfl) (by kernel_rfl) (by kernel_rfl) (fun _ _ _ h => h) (Or.inl ⟨by rfl, ?y3_12⟩) (by assumption) ?r3_12
                  case y3_12 => ((intro w hSw; (try dsimp only at hSw); go_simp; (first | done | with_reducible rfl)))
                  (try simp only [List.getElem_toArray, List.getElem_cons_succ, List.getElem_cons_zero, Act.put, List.setIfInBounds_toArray, List.set_cons_zero, List.set_cons_succ])
                  refine wpAnyH_done (by kernel_rfl) ?_ _
                  go_wp2
                  go_roundw
                  case rel => exact ⟨k + 1, y, ky, by omega, rfl, by go_num, hP3.out.set y, hy.out, HT.out.step (fun n hn => (HD.out n hn).2) hlt HBK.out HBB.out hX.out hY.out⟩
                  case measure => simp [intOf]; omega
                · go_simp
                  ((fail_if_success (have hzz := hb2)); go_at_call 17; refine (rof_any _ (by have := HBB.out; omega) (by have := HBB.out; omega) _).mono ?_; rintro e w2 ⟨rfl, hb2⟩; have hP2 : PI w w2 x := PI.grow (by first | exact hP1.out.set x | exact (hP1.out.set x).drew) hb2; clear c0 c1 r0 r1 z00 z01 z10 z11; have c0 := hP2.c0; have c1 := hP2.c1; have r0 := hP2.r0; have r1 := hP2.r1; have z00 := hP2.z w.heap.size 0 (by omega) (by omega); have z01 := hP2.z w.heap.size 1 (by omega) (by omega); have z10 := hP2.z (w.heap.size + 1) 0 (by omega) (by omega); have z11 := hP2.z (w.heap.size + 1) 1 (by omega) (by omega); replace hP2 := Lib.hid hP2)
                  refine hK.out _ _ trivial (fun hHeld => ?_)
                  clear hK K
                  (try simp only [List.getElem_toArray, List.getElem_cons_succ, List.getElem_cons_zero, Act.put, List.setIfInBounds_toArray, List.set_cons_zero, List.set_cons_succ])
                  refine wpAnyH_ready (rs := [0]) (by kernel_rfl) (by simp) ?_
                  refine AllReadyH.cons rfl (fun K hK => ?_) AllReadyH.nil
                  go_simp
                  refine hK.out _ _ trivial (fun hHeld => ?_)
                  clear hK K
                  (try simp only [List.getElem_toArray, List.getElem_cons_succ, List.getElem_cons_zero, Act.put, List.setIfInBounds_toArray, List.set_cons_zero, List.set_cons_succ])
                  refine wpAnyH_ready (rs := [7]) (by kernel_rfl) (by simp) ?_
                  refine AllReadyH.cons rfl (fun K hK => ?_) AllReadyH.nil
                  go_simp
                  ((fail_if_success (have hzz := hb3)); go_at_call 37; refine (r2subv_any x _ hx.out (by have := HBB.out; unfold B128; omega) _).mono ?_; rintro e w3 ⟨y, ky, rfl, hy, hY, hb3⟩; replace hy := Lib.hid hy; replace hY := Lib.hid hY; have hP3 := hP2.out.grow hb3; clear c0 c1 r0 r1 z00 z01 z10 z11; have c0 := hP3.c0; have c1 := hP3.c1; have r0 := hP3.r0; have r1 := hP3.r1; have z00 := hP3.z w.heap.size 0 (by omega) (by omega); have z01 := hP3.z w.heap.size 1 (by omega) (by omega); have z10 := hP3.z (w.heap.size + 1) 0 (by omega) (by omega); have z11 := hP3.z (w.heap.size + 1) 1 (by omega) (by omega); replace hP3 := Lib.hid hP3)
                  refine hK.out _ _ trivial (fun hHeld => ?_)
                  clear hK K
                  (try simp only [List.getElem_toArray, List.getElem_cons_succ, List.getElem_cons_zero, Act.put, List.setIfInBounds_toArray, List.set_cons_zero, List.set_cons_succ])
                  refine wpAnyH_take (i := 8) (v := ?v4_8) rfl (by kernel_rfl) (by kernel_rfl) (by kernel_rfl) (fun _ _ _ h => h) (Or.inl ⟨by rfl, ?y4_8⟩) (by assumption) ?r4_8
                  case y4_8 => ((intro w hSw; (try dsimp only at hSw); go_simp; (first | done | with_reducible rfl)))
                  (try simp only [List.getElem_toArray, List.getElem_cons_succ, List.getElem_cons_zero, Act.put, List.setIfInBounds_toArray, List.set_cons_zero, List.set_cons_succ])
                  refine wpAnyH_take (i := 9) (v := ?v4_9) rfl (by kernel_rfl) (by kernel_rfl) (by kernel_rfl) (fun _ _ _ h => h) (Or.inl ⟨by rfl, ?y4_9⟩) (by assumption) ?r4_9
                  case y4_9 => ((intro w hSw; (try dsimp only at hSw); go_simp; (first | done | with_reducible rfl)))
                  (try simp only [List.getElem_toArray, List.getElem_cons_succ, List.getElem_cons_zero, Act.put, List.setIfInBounds_toArray, List.set_cons_zero, List.set_cons_succ])
                  refine wpAnyH_take (i := 10) (v := ?v4_10) rfl (by kernel_rfl) (by kernel_rfl) (by kernel_rfl) (fun _ _ _ h => h) (Or.inl ⟨by rfl, ?y4_10⟩) (by assumption) ?r4_10
                  case y4_10 => ((intro w hSw; (try dsimp only at hSw); go_simp; (first | done | with_reducible rfl)))
                  (try simp only [List.getElem_toArray, List.getElem_cons_succ, List.getElem_cons_zero, Act.put, List.setIfInBounds_toArray, List.set_cons_zero, List.set_cons_succ])
                  refine wpAnyH_ready (rs := [11]) (by kernel_rfl) (by simp) ?_
                  refine AllReadyH.cons rfl (fun K hK => ?_) AllReadyH.nil
                  go_simp
                  refine hK.out _ _ trivial (fun hHeld => ?_)
                  clear hK K
                  (try simp only [List.getElem_toArray, List.getElem_cons_succ, List.getElem_cons_zero, Act.put, List.setIfInBounds_toArray, List.set_cons_zero, List.set_cons_succ])
                  refine wpAnyH_take (i := 12) (v := ?v5_12) rfl (by kernel_rfl) (by kernel_rfl) (by kernel_rfl) (fun _ _ _ h => h) (Or.inl ⟨by rfl, ?y5_12⟩) (by assumption) ?r5_12
                  case y5_12 => ((intro w hSw; (try dsimp only at hSw); go_simp; (first | done | with_reducible rfl)))
                  (try simp only [List.getElem_toArray, List.getElem_cons_succ, List.getElem_cons_zero, Act.put, List.setIfInBounds_toArray, List.set_cons_zero, List.set_cons_succ])
                  refine wpAnyH_done (by kernel_rfl) ?_ _
                  go_wp2
                  go_roundw
                  case rel => exact ⟨k + 1, y, ky, by omega, rfl, by go_num, hP3.out.set y, hy.out, HT.out.step (fun n hn => (HD.out n hn).2) hlt HBK.out HBB.out hX.out hY.out⟩
                  case measure => simp [intOf]; omega
        · obtain rfl : k = D.length := by omega
          have HT := Lib.hid hT
          clear hT
          rcases o with _ | _
          · have HN := Lib.hid HT.out.over
            go_wp2
            refine bodyPost_ret (v := .tuple #[.agg #[.int .i64 0, .int .u64 0], .int .i64 4]) (by simp [results, Tryd.results20, go_sem, *]; done) rfl ?_
            exact ppost_no HN.out (by repeat (first | exact HP.out.ext | exact Ext.refl _ | refine Ext.setCell ?_ (by first | (simp; done) | (simp; omega)) _ | refine Ext.drew ?_ | refine Ext.drewN ?_ _ | refine Ext.alloc ?_ _ | refine Ext.trans ?_ hb5 | refine Ext.trans ?_ hb4 | refine Ext.trans ?_ hb3 | refine Ext.trans ?_ hb2 | refine Ext.trans ?_ hb1))
          · go_wp2_with ((fail_if_success (have hzz := hb5)); go_at_call 16; refine (text128v_any v HB.out _).mono ?_; rintro e w5 ⟨rfl, hb5⟩; obtain ⟨T, hT⟩ : ∃ T : List UInt8, Lib.itoa v = T := ⟨_, rfl⟩; rw [hT]; replace hT := Lib.hid hT; have hP5 : PI w w5 v := PI.grow (by first | exact HP.out | exact (HP.out).set v) hb5; clear c0 c1 r0 r1 z00 z01 z10 z11; have c0 := hP5.c0; have c1 := hP5.c1; have r0 := hP5.r0; have r1 := hP5.r1; have z00 := hP5.z w.heap.size 0 (by omega) (by omega); have z01 := hP5.z w.heap.size 1 (by omega) (by omega); have z10 := hP5.z (w.heap.size + 1) 0 (by omega) (by omega); have z11 := hP5.z (w.heap.size + 1) 1 (by omega) (by omega); replace hP5 := Lib.hid hP5; rcases decb (T = L) with hz | hz; (have hz1 := of_decide_eq_true hz); rotate_left; (have hz1 := (beqL hz).1); (have hz2 := (beqL hz).2); rotate_left)
            · have hz3 : Hid (Lib.itoa v = L) := hT.out.trans (of_decide_eq_true hz)
              refine bodyPost_ret (v := .tuple #[.agg #[.int .i64 (whi v), .int .u64 (wlo v)], .int .i64 0]) (by simp [results, Tryd.results20, go_sem, *]) rfl ?_
              exact ppost_yes HB.out hz3.out (by repeat (first | exact HP.out.ext | exact Ext.refl _ | refine Ext.setCell ?_ (by first | (simp; done) | (simp; omega)) _ | refine Ext.drew ?_ | refine Ext.drewN ?_ _ | refine Ext.alloc ?_ _ | refine Ext.trans ?_ hb5 | refine Ext.trans ?_ hb4 | refine Ext.trans ?_ hb3 | refine Ext.trans ?_ hb2 | refine Ext.trans ?_ hb1))
            · have hz3 : Hid (¬ (Lib.itoa v = L)) := fun h => of_decide_eq_false hz (hT.out.symm.trans h)
              refine bodyPost_ret (v := .tuple #[.agg #[.int .i64 0, .int .u64 0], .int .i64 4]) (by simp [results, Tryd.results20, go_sem, *]) rfl ?_
              exact ppost_no (fun n hn => by obtain ⟨g1, g2⟩ := HT.out n hn; obtain ⟨g3, g4⟩ := HD.out n hn; have g5 : D.take D.length = D := List.take_length; rw [g5, show dval D = n.natAbs by rw [g4, dval_dd]] at g2; exact hz3.out ((congrArg Lib.itoa (show v = n by omega)).trans hn.1.symm)) (by repeat (first | exact HP.out.ext | exact Ext.refl _ | refine Ext.setCell ?_ (by first | (simp; done) | (simp; omega)) _ | refine Ext.drew ?_ | refine Ext.drewN ?_ _ | refine Ext.alloc ?_ _ | refine Ext.trans ?_ hb5 | refine Ext.trans ?_ hb4 | refine Ext.trans ?_ hb3 | refine Ext.trans ?_ hb2 | refine Ext.trans ?_ hb1))

set_option maxHeartbeats 16000000 in
theorem r2parse_pos (D : List UInt8) (hL : D.headD 0 ≠ 45) (hl : D.length ≤ 1000000) (w : World) :
    Calls Tryd.prog 20 #[.string ⟨D.toArray⟩] w (PPost D w) := by
  have HD : Hid (∀ n, Nml D n → 0 ≤ n ∧ D = Lib.decDigits n.natAbs) := fun n hn => nml_pos hn hL
  by_cases hz : D.length = 0
  · have HN : Hid (∀ n, ¬ Nml D n) := fun n hn => by
      have h1 := (HD.out n hn).2
      have h2 := Lib.nDigits_pos n.natAbs
      rw [← Lib.decDigits_length, ← h1] at h2
      omega
    clear HD
    obtain rfl : D = [] := List.length_eq_zero_iff.1 hz
    (
      go_enter Tryd.func20, Tryd.ntmps20
      go_wp2
      refine bodyPost_ret (v := .tuple #[.agg #[.int .i64 0, .int .u64 0], .int .i64 4]) (by simp [results, Tryd.results20, go_sem, *]; done) rfl ?_
      exact ppost_no HN.out (by repeat (first | exact Ext.refl _ | refine Ext.setCell ?_ (by first | (simp; done) | (simp; omega)) _ | refine Ext.drew ?_ | refine Ext.drewN ?_ _ | refine Ext.alloc ?_ _))
    )
  · have h0 : 0 < D.length := by omega
    have hx0 : ∀ h, (⟨D.toArray⟩ : ByteArray)[0]'h = D.getD 0 0 := byte_at D 0 h0
    have hne : ¬ ((((D.getD 0 0).toNat : Nat) : Int) = 45) := by
      intro h
      apply hL
      cases D with
      | nil => simp at h0
      | cons c r => exact UInt8.toNat_inj.1 (show c.toNat = (45 : UInt8).toNat from by have h2 : c.toNat = 45 := (by have h3 := h; simp at h3; omega); exact h2)
    generalize D.getD 0 0 = c0 at hx0 hne
    clear hL
    by_cases h39 : 39 < D.length
    · have HN : Hid (∀ n, ¬ Nml D n) := fun n hn => by
        have h1 := (HD.out n hn).2
        have h3 := hn.2
        have h2 := dd_len 38 n.natAbs (by omega)
        rw [← h1] at h2
        omega
      have f0 : ¬ ((D.length : Int) = 0) := by omega
      have f1 : (39 : Int) < (D.length : Int) := by omega
      go_enter Tryd.func20, Tryd.ntmps20
      go_wp2
      refine bodyPost_ret (v := .tuple #[.agg #[.int .i64 0, .int .u64 0], .int .i64 4]) (by simp [results, Tryd.results20, go_sem, *]; done) rfl ?_
      exact ppost_no HN.out (by repeat (first | exact Ext.refl _ | refine Ext.setCell ?_ (by first | (simp; done) | (simp; omega)) _ | refine Ext.drew ?_ | refine Ext.drewN ?_ _ | refine Ext.alloc ?_ _))
    · have f0 : ¬ ((D.length : Int) = 0) := by omega
      have f1 : ¬ ((39 : Int) < (D.length : Int)) := by omega
      go_enter Tryd.func20, Tryd.ntmps20
      go_wp2
      go_loopw [6, 7] (fun ok i wr => ∃ (k : Nat) (v : Int) (o : Bool), k ≤ D.length ∧ ok = .bool o ∧ i = .int .i64 k ∧ PI w wr v ∧ B128 v ∧ Trk D D k o v) (fun _ i _ => D.length - (intOf i).toNat)
      case atStart => exact ⟨0, 0, true, by omega, rfl, rfl, pi_new w _ _, b128_0, trk0 D D⟩
      case round =>
        obtain ⟨k, v, o, hk, rfl, rfl, hP, hB, hT⟩ := hrel
        have c0 := hP.c0; have c1 := hP.c1; have r0 := hP.r0; have r1 := hP.r1; have z00 := hP.z w.heap.size 0 (by omega) (by omega); have z01 := hP.z w.heap.size 1 (by omega) (by omega); have z10 := hP.z (w.heap.size + 1) 0 (by omega) (by omega); have z11 := hP.z (w.heap.size + 1) 1 (by omega) (by omega)
        have HP := Lib.hid hP
        have HB := Lib.hid hB
        clear hP hB
        by_cases hlt : k < D.length
        · rcases o with _ | _
          · have HN := Lib.hid hT.over
            clear hT
            go_wp2
            refine bodyPost_ret (v := .tuple #[.agg #[.int .i64 0, .int .u64 0], .int .i64 4]) (by simp [results, Tryd.results20, go_sem, *]; done) rfl ?_
            exact ppost_no HN.out (by repeat (first | exact HP.out.ext | exact Ext.refl _ | refine Ext.setCell ?_ (by first | (simp; done) | (simp; omega)) _ | refine Ext.drew ?_ | refine Ext.drewN ?_ _ | refine Ext.alloc ?_ _ | refine Ext.trans ?_ hb5 | refine Ext.trans ?_ hb4 | refine Ext.trans ?_ hb3 | refine Ext.trans ?_ hb2 | refine Ext.trans ?_ hb1))
          · obtain ⟨b, hbk⟩ : ∃ b : UInt8, D.getD k 0 = b := ⟨_, rfl⟩
            have hx : ∀ h, (⟨D.toArray⟩ : ByteArray)[k]'h = b := fun h => (byte_at D k hlt h).trans hbk
            have hb256 : b.toNat < 256 := b.toNat_lt
            have HT := Lib.hid hT
            clear hT
            rcases and1 (isDg b) with hg | hg
            · have HN : Hid (∀ n, ¬ Nml D n) := fun n hn => by
                have := dd_at (HD.out n hn).2 hlt
                rw [hbk, hg] at this; cases this
              have hb : b.toNat < 48 ∨ (48 ≤ b.toNat ∧ 57 < b.toNat) := by simp [isDg] at hg; omega
              clear hg hbk
              rcases hb with hb | ⟨hb, hb'⟩
              · have f1 : ((b.toNat : Nat) : Int) < 48 := by omega
                go_wp2
                refine bodyPost_ret (v := .tuple #[.agg #[.int .i64 0, .int .u64 0], .int .i64 4]) (by simp [results, Tryd.results20, go_sem, *]; done) rfl ?_
                exact ppost_no HN.out (by repeat (first | exact HP.out.ext | exact Ext.refl _ | refine Ext.setCell ?_ (by first | (simp; done) | (simp; omega)) _ | refine Ext.drew ?_ | refine Ext.drewN ?_ _ | refine Ext.alloc ?_ _ | refine Ext.trans ?_ hb5 | refine Ext.trans ?_ hb4 | refine Ext.trans ?_ hb3 | refine Ext.trans ?_ hb2 | refine Ext.trans ?_ hb1))
              · have f1 : ¬ (((b.toNat : Nat) : Int) < 48) := by omega
                have f2 : (57 : Int) < ((b.toNat : Nat) : Int) := by omega
                go_wp2
                refine bodyPost_ret (v := .tuple #[.agg #[.int .i64 0, .int .u64 0], .int .i64 4]) (by simp [results, Tryd.results20, go_sem, *]; done) rfl ?_
                exact ppost_no HN.out (by repeat (first | exact HP.out.ext | exact Ext.refl _ | refine Ext.setCell ?_ (by first | (simp; done) | (simp; omega)) _ | refine Ext.drew ?_ | refine Ext.drewN ?_ _ | refine Ext.alloc ?_ _ | refine Ext.trans ?_ hb5 | refine Ext.trans ?_ hb4 | refine Ext.trans ?_ hb3 | refine Ext.trans ?_ hb2 | refine Ext.trans ?_ hb1))
            · have hb : 48 ≤ b.toNat ∧ b.toNat ≤ 57 := by simpa [isDg] using hg
              have HBK := Lib.hid hbk
              have HBB := Lib.hid hb
              have f1 : ¬ (((b.toNat : Nat) : Int) < 48) := by omega
              have f2 : ¬ ((57 : Int) < ((b.toNat : Nat) : Int)) := by omega
              have f3 : IntKind.u8.wrap (((b.toNat : Nat) : Int) - 48) = ((b.toNat : Nat) : Int) - 48 := by rw [IntKind.wrap_u8]; omega
              have f4 : IntKind.i64.wrap (((b.toNat : Nat) : Int) - 48) = ((b.toNat : Nat) : Int) - 48 := IntWalk.i64_in _ (by omega)
              clear hg hbk
              go_wp2_with ((fail_if_success (have hzz := hb1)); go_at_call 36; refine (r2scalew_any v 10 HB.out rfl _).mono ?_; rintro e w1 ⟨x, kx, rfl, hx, hX, hb1⟩; replace hx := Lib.hid hx; replace hX := Lib.hid hX; have hP1 := HP.out.grow hb1; clear c0 c1 r0 r1 z00 z01 z10 z11; have c0 := hP1.c0; have c1 := hP1.c1; have r0 := hP1.r0; have r1 := hP1.r1; have z00 := hP1.z w.heap.size 0 (by omega) (by omega); have z01 := hP1.z w.heap.size 1 (by omega) (by omega); have z10 := hP1.z (w.heap.size + 1) 0 (by omega) (by omega); have z11 := hP1.z (w.heap.size + 1) 1 (by omega) (by omega); replace hP1 := Lib.hid hP1; rcases kx with _ | _)
              · go_roundw
                case rel => exact ⟨k + 1, x, false, by omega, rfl, by go_num, hP1.out.set x, hx.out, Trk.none (HT.out.stop (fun n hn => (HD.out n hn).2) hX.out hlt rfl)⟩
                case measure => simp [intOf]; omega
              · refine wp_region_held_drew (S := fun _ => True) (by kernel_rfl) trivial (fun hHeld => ?_)
                refine wpAnyH_take (i := 1) (v := ?v6_1) rfl (by kernel_rfl) (by kernel_rfl) (by kernel_rfl) (fun _ _ _ h => h) (Or.inl ⟨by rfl, ?y6_1⟩) (by assumption) ?r6_1
                case y6_1 => ((intro w hSw; (try dsimp only at hSw); go_simp; (first | done | with_reducible rfl)))
                (try simp only [List.getElem_toArray, List.getElem_cons_succ, List.getElem_cons_zero, Act.put, List.setIfInBounds_toArray, List.set_cons_zero, List.set_cons_succ])
                refine wpAnyH_take (i := 2) (v := ?v6_2) rfl (by kernel_rfl) (by kernel_rfl) (by kernel_rfl) (fun _ _ _ h => h) (Or.inl ⟨by rfl, ?y6_2⟩) (by assumption) ?r6_2
                case y6_2 => ((intro w hSw; (try dsimp only at hSw); go_simp; (first | done | with_reducible rfl)))
                (try simp only [List.getElem_toArray, List.getElem_cons_succ, List.getElem_cons_zero, Act.put, List.setIfInBounds_toArray, List.set_cons_zero, List.set_cons_succ])
                refine wpAnyH_take (i := 3) (v := ?v6_3) rfl (by kernel_rfl) (by kernel_rfl) (by kernel_rfl) (fun _ _ _ h => h) (Or.inl ⟨by rfl, ?y6_3⟩) (by assumption) ?r6_3
                case y6_3 => ((intro w hSw; (try dsimp only at hSw); go_simp; (first | done | with_reducible rfl)))
                (try simp only [List.getElem_toArray, List.getElem_cons_succ, List.getElem_cons_zero, Act.put, List.setIfInBounds_toArray, List.set_cons_zero, List.set_cons_succ])
                refine wpAnyH_take (i := 4) (v := ?v6_4) rfl (by kernel_rfl) (by kernel_rfl) (by kernel_rfl) (fun _ _ _ h => h) (Or.inl ⟨by rfl, ?y6_4⟩) (by assumption) ?r6_4
                case y6_4 => ((intro w hSw; (try dsimp only at hSw); go_simp; (first | done | with_reducible rfl)))
                (try simp only [List.getElem_toArray, List.getElem_cons_succ, List.getElem_cons_zero, Act.put, List.setIfInBounds_toArray, List.set_cons_zero, List.set_cons_succ])
                refine wpAnyH_take (i := 5) (v := ?v6_5) rfl (by kernel_rfl) (by kernel_rfl) (by kernel_rfl) (fun _ _ _ h => h) (Or.inl ⟨by rfl, ?y6_5⟩) (by assumption) ?r6_5
                case y6_5 => ((intro w hSw; (try dsimp only at hSw); go_simp; (first | done | with_reducible rfl)))
                (try simp only [List.getElem_toArray, List.getElem_cons_succ, List.getElem_cons_zero, Act.put, List.setIfInBounds_toArray, List.set_cons_zero, List.set_cons_succ])
                refine wpAnyH_ready (rs := [0, 6]) (by kernel_rfl) (by simp) ?_
                refine AllReadyH.cons rfl (fun K hK => ?_) (AllReadyH.cons rfl (fun K hK => ?_) AllReadyH.nil)
                · go_simp
                  refine hK.out _ _ trivial (fun hHeld => ?_)
                  clear hK K
                  (try simp only [List.getElem_toArray, List.getElem_cons_succ, List.getElem_cons_zero, Act.put, List.setIfInBounds_toArray, List.set_cons_zero, List.set_cons_succ])
                  refine wpAnyH_ready (rs := [6]) (by kernel_rfl) (by simp) ?_
                  refine AllReadyH.cons rfl (fun K hK => ?_) AllReadyH.nil
                  go_simp
                  ((fail_if_success (have hzz := hb2)); go_at_call 17; refine (rof_any _ (by have := HBB.out; omega) (by have := HBB.out; omega) _).mono ?_; rintro e w2 ⟨rfl, hb2⟩; have hP2 : PI w w2 x := PI.grow (by first | exact hP1.out.set x | exact (hP1.out.set x).drew) hb2; clear c0 c1 r0 r1 z00 z01 z10 z11; have c0 := hP2.c0; have c1 := hP2.c1; have r0 := hP2.r0; have r1 := hP2.r1; have z00 := hP2.z w.heap.size 0 (by omega) (by omega); have z01 := hP2.z w.heap.size 1 (by omega) (by omega); have z10 := hP2.z (w.heap.size + 1) 0 (by omega) (by omega); have z11 := hP2.z (w.heap.size + 1) 1 (by omega) (by omega); replace hP2 := Lib.hid hP2)
                  refine hK.out _ _ trivial (fun hHeld => ?_)
                  clear hK K
                  (try simp only [List.getElem_toArray, List.getElem_cons_succ, List.getElem_cons_zero, Act.put, List.setIfInBounds_toArray, List.set_cons_zero, List.set_cons_succ])
                  refine wpAnyH_ready (rs := [7]) (by kernel_rfl) (by simp) ?_
                  refine AllReadyH.cons rfl (fun K hK => ?_) AllReadyH.nil
                  go_simp
                  ((fail_if_success (have hzz := hb3)); go_at_call 37; refine (r2subv_any x _ hx.out (by have := HBB.out; unfold B128; omega) _).mono ?_; rintro e w3 ⟨y, ky, rfl, hy, hY, hb3⟩; replace hy := Lib.hid hy; replace hY := Lib.hid hY; have hP3 := hP2.out.grow hb3; clear c0 c1 r0 r1 z00 z01 z10 z11; have c0 := hP3.c0; have c1 := hP3.c1; have r0 := hP3.r0; have r1 := hP3.r1; have z00 := hP3.z w.heap.size 0 (by omega) (by omega); have z01 := hP3.z w.heap.size 1 (by omega) (by omega); have z10 := hP3.z (w.heap.size + 1) 0 (by omega) (by omega); have z11 := hP3.z (w.heap.size + 1) 1 (by omega) (by omega); replace hP3 := Lib.hid hP3)
                  refine hK.out _ _ trivial (fun hHeld => ?_)
                  clear hK K
                  (try simp only [List.getElem_toArray, List.getElem_cons_succ, List.getElem_cons_zero, Act.put, List.setIfInBounds_toArray, List.set_cons_zero, List.set_cons_succ])
                  refine wpAnyH_take (i := 8) (v := ?v7_8) rfl (by kernel_rfl) (by kernel_rfl) (by kernel_rfl) (fun _ _ _ h => h) (Or.inl ⟨by rfl, ?y7_8⟩) (by assumption) ?r7_8
                  case y7_8 => ((intro w hSw; (try dsimp only at hSw); go_simp; (first | done | with_reducible rfl)))
                  (try simp only [List.getElem_toArray, List.getElem_cons_succ, List.getElem_cons_zero, Act.put, List.setIfInBounds_toArray, List.set_cons_zero, List.set_cons_succ])
                  refine wpAnyH_take (i := 9) (v := ?v7_9) rfl (by kernel_rfl) (by kernel_rfl) (by kernel_rfl) (fun _ _ _ h => h) (Or.inl ⟨by rfl, ?y7_9⟩) (by assumption) ?r7_9
                  case y7_9 => ((intro w hSw; (try dsimp only at hSw); go_simp; (first | done | with_reducible rfl)))
                  (try simp only [List.getElem_toArray, List.getElem_cons_succ, List.getElem_cons_zero, Act.put, List.setIfInBounds_toArray, List.set_cons_zero, List.set_cons_succ])
                  refine wpAnyH_take (i := 10) (v := ?v7_10) rfl (by kernel_rfl) (by kernel_rfl) (by kernel_rfl) (fun _ _ _ h => h) (Or.inl ⟨by rfl, ?y7_10⟩) (by assumption) ?r7_10
                  case y7_10 => ((intro w hSw; (try dsimp only at hSw); go_simp; (first | done | with_reducible rfl)))
                  (try simp only [List.getElem_toArray, List.getElem_cons_succ, List.getElem_cons_zero, Act.put, List.setIfInBounds_toArray, List.set_cons_zero, List.set_cons_succ])
                  refine wpAnyH_ready (rs := [11]) (by kernel_rfl) (by simp) ?_
                  refine AllReadyH.cons rfl (fun K hK => ?_) AllReadyH.nil
                  go_simp
                  refine hK.out _ _ trivial (fun hHeld => ?_)
                  clear hK K
                  (try simp only [List.getElem_toArray, List.getElem_cons_succ, List.getElem_cons_zero, Act.put, List.setIfInBounds_toArray, List.set_cons_zero, List.set_cons_succ])
                  refine wpAnyH_take (i := 12) (v := ?v8_12) rfl (by kernel_rfl) (by kernel_rfl) (by kernel_rfl) (fun _ _ _ h => h) (Or.inl ⟨by rfl, ?y8_12⟩) (by assumption) ?r8_12
                  case y8_12 => ((intro w hSw; (try dsimp only at hSw); go_simp; (first | done | with_reducible rfl)))
                  (try simp only [List.getElem_toArray, List.getElem_cons_succ, List.getElem_cons_zero, Act.put, List.setIfInBounds_toArray, List.set_cons_zero, List.set_cons_succ])
                  refine wpAnyH_done (by kernel_rfl) ?_ _
                  go_wp2
                  go_roundw
                  case rel => exact ⟨k + 1, y, ky, by omega, rfl, by go_num, hP3.out.set y, hy.out, HT.out.step (fun n hn => (HD.out n hn).2) hlt HBK.out HBB.out hX.out hY.out⟩
                  case measure => simp [intOf]; omega
                · go_simp
                  ((fail_if_success (have hzz := hb2)); go_at_call 17; refine (rof_any _ (by have := HBB.out; omega) (by have := HBB.out; omega) _).mono ?_; rintro e w2 ⟨rfl, hb2⟩; have hP2 : PI w w2 x := PI.grow (by first | exact hP1.out.set x | exact (hP1.out.set x).drew) hb2; clear c0 c1 r0 r1 z00 z01 z10 z11; have c0 := hP2.c0; have c1 := hP2.c1; have r0 := hP2.r0; have r1 := hP2.r1; have z00 := hP2.z w.heap.size 0 (by omega) (by omega); have z01 := hP2.z w.heap.size 1 (by omega) (by omega); have z10 := hP2.z (w.heap.size + 1) 0 (by omega) (by omega); have z11 := hP2.z (w.heap.size + 1) 1 (by omega) (by omega); replace hP2 := Lib.hid hP2)
                  refine hK.out _ _ trivial (fun hHeld => ?_)
                  clear hK K
                  (try simp only [List.getElem_toArray, List.getElem_cons_succ, List.getElem_cons_zero, Act.put, List.setIfInBounds_toArray, List.set_cons_zero, List.set_cons_succ])
                  refine wpAnyH_ready (rs := [0]) (by kernel_rfl) (by simp) ?_
                  refine AllReadyH.cons rfl (fun K hK => ?_) AllReadyH.nil
                  go_simp
                  refine hK.out _ _ trivial (fun hHeld => ?_)
                  clear hK K
                  (try simp only [List.getElem_toArray, List.getElem_cons_succ, List.getElem_cons_zero, Act.put, List.setIfInBounds_toArray, List.set_cons_zero, List.set_cons_succ])
                  refine wpAnyH_ready (rs := [7]) (by kernel_rfl) (by simp) ?_
                  refine AllReadyH.cons rfl (fun K hK => ?_) AllReadyH.nil
                  go_simp
                  ((fail_if_success (have hzz := hb3)); go_at_call 37; refine (r2subv_any x _ hx.out (by have := HBB.out; unfold B128; omega) _).mono ?_; rintro e w3 ⟨y, ky, rfl, hy, hY, hb3⟩; replace hy := Lib.hid hy; replace hY := Lib.hid hY; have hP3 := hP2.out.grow hb3; clear c0 c1 r0 r1 z00 z01 z10 z11; have c0 := hP3.c0; have c1 := hP3.c1; have r0 := hP3.r0; have r1 := hP3.r1; have z00 := hP3.z w.heap.size 0 (by omega) (by omega); have z01 := hP3.z w.heap.size 1 (by omega) (by omega); have z10 := hP3.z (w.heap.size + 1) 0 (by omega) (by omega); have z11 := hP3.z (w.heap.size + 1) 1 (by omega) (by omega); replace hP3 := Lib.hid hP3)
                  refine hK.out _ _ trivial (fun hHeld => ?_)
                  clear hK K
                  (try simp only [List.getElem_toArray, List.getElem_cons_succ, List.getElem_cons_zero, Act.put, List.setIfInBounds_toArray, List.set_cons_zero, List.set_cons_succ])
                  refine wpAnyH_take (i := 8) (v := ?v9_8) rfl (by kernel_rfl) (by kernel_rfl) (by kernel_rfl) (fun _ _ _ h => h) (Or.inl ⟨by rfl, ?y9_8⟩) (by assumption) ?r9_8
                  case y9_8 => ((intro w hSw; (try dsimp only at hSw); go_simp; (first | done | with_reducible rfl)))
                  (try simp only [List.getElem_toArray, List.getElem_cons_succ, List.getElem_cons_zero, Act.put, List.setIfInBounds_toArray, List.set_cons_zero, List.set_cons_succ])
                  refine wpAnyH_take (i := 9) (v := ?v9_9) rfl (by kernel_rfl) (by kernel_rfl) (by kernel_rfl) (fun _ _ _ h => h) (Or.inl ⟨by rfl, ?y9_9⟩) (by assumption) ?r9_9
                  case y9_9 => ((intro w hSw; (try dsimp only at hSw); go_simp; (first | done | with_reducible rfl)))
                  (try simp only [List.getElem_toArray, List.getElem_cons_succ, List.getElem_cons_zero, Act.put, List.setIfInBounds_toArray, List.set_cons_zero, List.set_cons_succ])
                  refine wpAnyH_take (i := 10) (v := ?v9_10) rfl (by kernel_rfl) (by kernel_rfl) (by kernel_rfl) (fun _ _ _ h => h) (Or.inl ⟨by rfl, ?y9_10⟩) (by assumption) ?r9_10
                  case y9_10 => ((intro w hSw; (try dsimp only at hSw); go_simp; (first | done | with_reducible rfl)))
                  (try simp only [List.getElem_toArray, List.getElem_cons_succ, List.getElem_cons_zero, Act.put, List.setIfInBounds_toArray, List.set_cons_zero, List.set_cons_succ])
                  refine wpAnyH_ready (rs := [11]) (by kernel_rfl) (by simp) ?_
                  refine AllReadyH.cons rfl (fun K hK => ?_) AllReadyH.nil
                  go_simp
                  refine hK.out _ _ trivial (fun hHeld => ?_)
                  clear hK K
                  (try simp only [List.getElem_toArray, List.getElem_cons_succ, List.getElem_cons_zero, Act.put, List.setIfInBounds_toArray, List.set_cons_zero, List.set_cons_succ])
                  refine wpAnyH_take (i := 12) (v := ?v10_12) rfl (by kernel_rfl) (by kernel_rfl) (by kernel_rfl) (fun _ _ _ h => h) (Or.inl ⟨by rfl, ?y10_12⟩) (by assumption) ?r10_12
                  case y10_12 => ((intro w hSw; (try dsimp only at hSw); go_simp; (first | done | with_reducible rfl)))
                  (try simp only [List.getElem_toArray, List.getElem_cons_succ, List.getElem_cons_zero, Act.put, List.setIfInBounds_toArray, List.set_cons_zero, List.set_cons_succ])
                  refine wpAnyH_done (by kernel_rfl) ?_ _
                  go_wp2
                  go_roundw
                  case rel => exact ⟨k + 1, y, ky, by omega, rfl, by go_num, hP3.out.set y, hy.out, HT.out.step (fun n hn => (HD.out n hn).2) hlt HBK.out HBB.out hX.out hY.out⟩
                  case measure => simp [intOf]; omega
        · obtain rfl : k = D.length := by omega
          have HT := Lib.hid hT
          clear hT
          rcases o with _ | _
          · have HN := Lib.hid HT.out.over
            go_wp2
            refine bodyPost_ret (v := .tuple #[.agg #[.int .i64 0, .int .u64 0], .int .i64 4]) (by simp [results, Tryd.results20, go_sem, *]; done) rfl ?_
            exact ppost_no HN.out (by repeat (first | exact HP.out.ext | exact Ext.refl _ | refine Ext.setCell ?_ (by first | (simp; done) | (simp; omega)) _ | refine Ext.drew ?_ | refine Ext.drewN ?_ _ | refine Ext.alloc ?_ _ | refine Ext.trans ?_ hb5 | refine Ext.trans ?_ hb4 | refine Ext.trans ?_ hb3 | refine Ext.trans ?_ hb2 | refine Ext.trans ?_ hb1))
          · go_wp2_with (first | ((fail_if_success (have hzz := hb4)); go_at_call 38; refine (r2negv_any v HB.out _).mono ?_; rintro e w4 ⟨x, kx, rfl, hx, hX, hb4⟩; replace hx := Lib.hid hx; replace hX := Lib.hid hX; have hP4 := HP.out.grow hb4; clear c0 c1 r0 r1 z00 z01 z10 z11; have c0 := hP4.c0; have c1 := hP4.c1; have r0 := hP4.r0; have r1 := hP4.r1; have z00 := hP4.z w.heap.size 0 (by omega) (by omega); have z01 := hP4.z w.heap.size 1 (by omega) (by omega); have z10 := hP4.z (w.heap.size + 1) 0 (by omega) (by omega); have z11 := hP4.z (w.heap.size + 1) 1 (by omega) (by omega); replace hP4 := Lib.hid hP4; rcases kx with _ | _) | ((fail_if_success (have hzz := hb5)); go_at_call 16; refine (text128v_any x hx.out _).mono ?_; rintro e w5 ⟨rfl, hb5⟩; obtain ⟨T, hT⟩ : ∃ T : List UInt8, Lib.itoa x = T := ⟨_, rfl⟩; rw [hT]; replace hT := Lib.hid hT; have hP5 : PI w w5 x := PI.grow (by first | exact hP4.out | exact (hP4.out).set x) hb5; clear c0 c1 r0 r1 z00 z01 z10 z11; have c0 := hP5.c0; have c1 := hP5.c1; have r0 := hP5.r0; have r1 := hP5.r1; have z00 := hP5.z w.heap.size 0 (by omega) (by omega); have z01 := hP5.z w.heap.size 1 (by omega) (by omega); have z10 := hP5.z (w.heap.size + 1) 0 (by omega) (by omega); have z11 := hP5.z (w.heap.size + 1) 1 (by omega) (by omega); replace hP5 := Lib.hid hP5; rcases decb (T = D) with hz | hz; (have hz1 := of_decide_eq_true hz); rotate_left; (have hz1 := (beqL hz).1); (have hz2 := (beqL hz).2); rotate_left))
            · refine bodyPost_ret (v := .tuple #[.agg #[.int .i64 0, .int .u64 0], .int .i64 4]) (by simp [results, Tryd.results20, go_sem, *]) rfl ?_
              exact ppost_no (fun n hn => by obtain ⟨g1, g2⟩ := HT.out n hn; obtain ⟨g3, g4⟩ := HD.out n hn; have g5 : D.take D.length = D := List.take_length; rw [g5, show dval D = n.natAbs by rw [g4, dval_dd]] at g2; have g7 := hn.2; have g6 := (hX.out (by unfold B128; omega)).1; cases g6) (by repeat (first | exact HP.out.ext | exact Ext.refl _ | refine Ext.setCell ?_ (by first | (simp; done) | (simp; omega)) _ | refine Ext.drew ?_ | refine Ext.drewN ?_ _ | refine Ext.alloc ?_ _ | refine Ext.trans ?_ hb5 | refine Ext.trans ?_ hb4 | refine Ext.trans ?_ hb3 | refine Ext.trans ?_ hb2 | refine Ext.trans ?_ hb1))
            · have hz3 : Hid (Lib.itoa x = D) := hT.out.trans (of_decide_eq_true hz)
              refine bodyPost_ret (v := .tuple #[.agg #[.int .i64 (whi x), .int .u64 (wlo x)], .int .i64 0]) (by simp [results, Tryd.results20, go_sem, *]) rfl ?_
              exact ppost_yes hx.out hz3.out (by repeat (first | exact HP.out.ext | exact Ext.refl _ | refine Ext.setCell ?_ (by first | (simp; done) | (simp; omega)) _ | refine Ext.drew ?_ | refine Ext.drewN ?_ _ | refine Ext.alloc ?_ _ | refine Ext.trans ?_ hb5 | refine Ext.trans ?_ hb4 | refine Ext.trans ?_ hb3 | refine Ext.trans ?_ hb2 | refine Ext.trans ?_ hb1))
            · have hz3 : Hid (¬ (Lib.itoa x = D)) := fun h => of_decide_eq_false hz (hT.out.symm.trans h)
              refine bodyPost_ret (v := .tuple #[.agg #[.int .i64 0, .int .u64 0], .int .i64 4]) (by simp [results, Tryd.results20, go_sem, *]) rfl ?_
              exact ppost_no (fun n hn => by obtain ⟨g1, g2⟩ := HT.out n hn; obtain ⟨g3, g4⟩ := HD.out n hn; have g5 : D.take D.length = D := List.take_length; rw [g5, show dval D = n.natAbs by rw [g4, dval_dd]] at g2; have g7 := hn.2; have g6 := (hX.out (by unfold B128; omega)).2; exact hz3.out ((congrArg Lib.itoa (show x = n by omega)).trans hn.1.symm)) (by repeat (first | exact HP.out.ext | exact Ext.refl _ | refine Ext.setCell ?_ (by first | (simp; done) | (simp; omega)) _ | refine Ext.drew ?_ | refine Ext.drewN ?_ _ | refine Ext.alloc ?_ _ | refine Ext.trans ?_ hb5 | refine Ext.trans ?_ hb4 | refine Ext.trans ?_ hb3 | refine Ext.trans ?_ hb2 | refine Ext.trans ?_ hb1))

theorem r2parse_any (L : List UInt8) (hl : L.length ≤ 1000000) (w : World) :
    Calls Tryd.prog 20 #[.string ⟨L.toArray⟩] w (PPost L w) := by
  cases L with
  | nil => exact r2parse_pos [] (by simp) hl w
  | cons c r =>
    by_cases hc : c = 45
    · subst hc
      exact r2parse_neg _ r rfl (by simp at hl; omega) w
    · exact r2parse_pos _ (by simpa using hc) hl w

end Go.Proofs.YthckbfkhbegmgaaDoor

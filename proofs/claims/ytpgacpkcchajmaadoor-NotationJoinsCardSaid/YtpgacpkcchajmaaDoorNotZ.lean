/-
  The reference's guess (layer 7).
-/
import Derived.Test.YtpgacpkcchajmaaDoorNotW
import Derived.Deep.DeepCutAuto
import Derived.Deep.CutBlock
import Derived.Deep.RegionWith
import Derived.RegionTactic
import Derived.ChangeAlike
namespace Go.Proofs.YtpgacpkcchajmaaDoor
open Go.RowKit
set_option linter.unusedSimpArgs false

theorem sd_new2 (w : World) : Sd w (w.heap.size + 1) w.heap.size ⟨1, 1, 0, 0, 0, false, 0, 0, 0, 0, false, 0⟩ ((w.alloc (.cells #[.int .u8 0, .int .u8 0, .int .i64 0, .int .i64 0, .int .i64 0, .bool false, .int .u8 0, .int .i64 0, .int .i64 0, .int .i64 0, .bool false, .int .i64 0] 26)).alloc (.cells #[.int .u8 1, .int .u8 1, .int .i64 0, .int .i64 0, .int .i64 0, .bool false, .int .u8 0, .int .i64 0, .int .i64 0, .int .i64 0, .bool false, .int .i64 0] 26)) where
  ext := ((Ext.refl _).alloc _).alloc _
  hq := by simp
  hr := by simp
  ne := by omega
  rz := (Below.heap_alloc _ _ _ (by simp)).trans (heap_alloc_new w _)
  dl := by
    have h1 := heap_alloc_new (w.alloc (.cells #[.int .u8 0, .int .u8 0, .int .i64 0, .int .i64 0, .int .i64 0, .bool false, .int .u8 0, .int .i64 0, .int .i64 0, .int .i64 0, .bool false, .int .i64 0] 26)) (.cells #[.int .u8 1, .int .u8 1, .int .i64 0, .int .i64 0, .int .i64 0, .bool false, .int .u8 0, .int .i64 0, .int .i64 0, .int .i64 0, .bool false, .int .i64 0] 26)
    have e : (w.alloc (.cells #[.int .u8 0, .int .u8 0, .int .i64 0, .int .i64 0, .int .i64 0, .bool false, .int .u8 0, .int .i64 0, .int .i64 0, .int .i64 0, .bool false, .int .i64 0] 26)).heap.size = w.heap.size + 1 := by simp
    rw [e] at h1
    exact h1
theorem Sd.set12 {w0 w : World} {q r : Nat} {d : Dl} (h : Sd w0 q r d w) (d' : Dl) : Sd w0 q r d' ((((((((((((w.setCell ⟨q, 0, none⟩ (.int .u8 d'.ty)).setCell ⟨q, 1, none⟩ (.int .u8 d'.so)).setCell ⟨q, 2, none⟩ (.int .i64 d'.ru)).setCell ⟨q, 3, none⟩ (.int .i64 d'.sh)).setCell ⟨q, 4, none⟩ (.int .i64 d'.bo)).setCell ⟨q, 5, none⟩ (.bool d'.cr)).setCell ⟨q, 6, none⟩ (.int .u8 d'.ho)).setCell ⟨q, 7, none⟩ (.int .i64 d'.vi)).setCell ⟨q, 8, none⟩ (.int .i64 d'.fi)).setCell ⟨q, 9, none⟩ (.int .i64 d'.se)).setCell ⟨q, 10, none⟩ (.bool d'.su)).setCell ⟨q, 11, none⟩ (.int .i64 d'.sc)) where
  ext := ext12 h.ext h.hq d'
  hq := h.hq
  hr := h.hr
  ne := h.ne
  dl := set12g w q _ d d' h.dl
  rz := by
    have hn : r ≠ q := fun e => h.ne e.symm
    repeat rw [Below.heap_setCell _ _ _ _ hn]
    exact h.rz
theorem run_store26 {ev : Operand → Value} {o : Oper} {w : World} {q x y : Nat} {d0 d : Dl} (ho : o.op = .store 26 (.tmp x) (.tmp y)) (hx : ev (.tmp x) = .pointer (some ⟨q, 0, none⟩)) (hy : ev (.tmp y) = .agg #[.int .u8 d.ty, .int .u8 d.so, .int .i64 d.ru, .int .i64 d.sh, .int .i64 d.bo, .bool d.cr, .int .u8 d.ho, .int .i64 d.vi, .int .i64 d.fi, .int .i64 d.se, .bool d.su, .int .i64 d.sc]) (h : w.heap[q]? = some (.cells d0.arr 26 (0, 0))) :
    (execOp ev o).run Tryd.prog w = .ok .skip ((((((((((((w.setCell ⟨q, 0, none⟩ (.int .u8 d.ty)).setCell ⟨q, 1, none⟩ (.int .u8 d.so)).setCell ⟨q, 2, none⟩ (.int .i64 d.ru)).setCell ⟨q, 3, none⟩ (.int .i64 d.sh)).setCell ⟨q, 4, none⟩ (.int .i64 d.bo)).setCell ⟨q, 5, none⟩ (.bool d.cr)).setCell ⟨q, 6, none⟩ (.int .u8 d.ho)).setCell ⟨q, 7, none⟩ (.int .i64 d.vi)).setCell ⟨q, 8, none⟩ (.int .i64 d.fi)).setCell ⟨q, 9, none⟩ (.int .i64 d.se)).setCell ⟨q, 10, none⟩ (.bool d.su)).setCell ⟨q, 11, none⟩ (.int .i64 d.sc)) := by
  have hb : BoxD d0 q w := box_of h
  have hz : ∀ j, w.frozen? ⟨q, j, none⟩ = false := fun j => by simp [World.frozen?, h]
  obtain ⟨b0, b1, b2, b3, b4, b5, b6, b7, b8, b9, b10, b11⟩ := hb
  have z0 := hz 0; have z1 := hz 1; have z2 := hz 2; have z3 := hz 3; have z4 := hz 4; have z5 := hz 5; have z6 := hz 6; have z7 := hz 7; have z8 := hz 8; have z9 := hz 9; have z10 := hz 10; have z11 := hz 11
  clear hz h
  unfold execOp
  rw [ho]
  dsimp only
  rw [hx, hy]
  go_simp
theorem wp_store26 {o : Oper} {a : Act} {w : World} {K : Act → World → Prop} {Q : Exit → Act → World → Prop} {q x y : Nat} {d0 d : Dl} (ho : o.op = .store 26 (.tmp x) (.tmp y)) (hd : o.dst = none) (hx : a.eval (.tmp x) = .pointer (some ⟨q, 0, none⟩)) (hy : a.eval (.tmp y) = .agg #[.int .u8 d.ty, .int .u8 d.so, .int .i64 d.ru, .int .i64 d.sh, .int .i64 d.bo, .bool d.cr, .int .u8 d.ho, .int .i64 d.vi, .int .i64 d.fi, .int .i64 d.se, .bool d.su, .int .i64 d.sc]) (h : w.heap[q]? = some (.cells d0.arr 26 (0, 0)))
    (hK : K a ((((((((((((w.setCell ⟨q, 0, none⟩ (.int .u8 d.ty)).setCell ⟨q, 1, none⟩ (.int .u8 d.so)).setCell ⟨q, 2, none⟩ (.int .i64 d.ru)).setCell ⟨q, 3, none⟩ (.int .i64 d.sh)).setCell ⟨q, 4, none⟩ (.int .i64 d.bo)).setCell ⟨q, 5, none⟩ (.bool d.cr)).setCell ⟨q, 6, none⟩ (.int .u8 d.ho)).setCell ⟨q, 7, none⟩ (.int .i64 d.vi)).setCell ⟨q, 8, none⟩ (.int .i64 d.fi)).setCell ⟨q, 9, none⟩ (.int .i64 d.se)).setCell ⟨q, 10, none⟩ (.bool d.su)).setCell ⟨q, 11, none⟩ (.int .i64 d.sc))) : o.wp Tryd.prog a w K Q := by
  unfold Oper.wp
  rw [run_store26 ho hx hy h]
  show K (a.put o.dst undef) _
  rw [hd]
  exact hK
theorem gSt_le (R : List UInt8) : (gSt R).length ≤ R.length := by
  unfold gSt
  have := tail_le R
  repeat' split
  all_goals omega
theorem pR1_le' (s : List UInt8) : (pR1 s).length ≤ s.length := by
  unfold pR1
  split
  · exact tail_le s
  · exact tkL_le s 110
theorem pR4_le' (s : List UInt8) : (pR4 s).length ≤ s.length := by
  unfold pR4
  split
  · exact tail_le s
  · exact tkL_le s 83
theorem gR5_le (s : List UInt8) : (gR5 s).length ≤ s.length := by
  unfold gR5
  split
  · exact Nat.le_trans (nuT_le _) (tail_le s)
  · exact Nat.le_refl _

theorem gwR_sc (R : List UInt8) (d : Dl) : (gwR R d).2.sc = d.sc := by
  unfold gwR
  split
  · cases hR : R.tail with
    | nil => rfl
    | cons x t =>
      unfold ouR
      dsimp only
      split
      · unfold wkF
        dsimp only
        split <;> rfl
      · rfl
  · rfl
theorem wkF_le' (R : List UInt8) (d : Dl) : (wkF R d).1.length ≤ R.length := by
  unfold wkF
  dsimp only
  refine Nat.le_trans (tkL_le _ _) (Nat.le_trans (tkL_le _ _) ?_)
  have h1 := nuT_le R.tail
  have h2 := tail_le R
  split
  · have h3 := nuT_le (nuT R.tail).tail
    have h4 := tail_le (nuT R.tail)
    omega
  · omega
theorem gwR_le (R : List UInt8) (d : Dl) : (gwR R d).1.length ≤ R.length := by
  unfold gwR
  split
  · have h1 := tail_le R
    cases hR : R.tail with
    | nil => simp [ouR]
    | cons x t =>
      rw [hR] at h1
      simp only [List.length_cons] at h1
      have h2 := nuT_le t
      unfold ouR
      dsimp only
      split
      · exact Nat.le_trans (wkF_le' _ _) (by omega)
      · dsimp only; omega
  · exact Nat.le_refl _
set_option maxRecDepth 20000 in
set_option maxHeartbeats 16000000 in
theorem guess_any (s : List UInt8) (hl : s.length ≤ 9223372036854775807) (w : World) :
    Calls Tryd.prog 35 #[.string ⟨s.toArray⟩] w fun e w' => e = .returned (gG s).v ∧ Ext w w' := by
  go_enter Tryd.func35, Tryd.ntmps35
  go_upto_block 0 with fail
  have hS := sd_new2 w
  obtain ⟨W, hW⟩ : ∃ X, ((w.alloc (.cells #[.int .u8 0, .int .u8 0, .int .i64 0, .int .i64 0, .int .i64 0, .bool false, .int .u8 0, .int .i64 0, .int .i64 0, .int .i64 0, .bool false, .int .i64 0] 26)).alloc (.cells #[.int .u8 1, .int .u8 1, .int .i64 0, .int .i64 0, .int .i64 0, .bool false, .int .u8 0, .int .i64 0, .int .i64 0, .int .i64 0, .bool false, .int .i64 0] 26)) = X := ⟨_, rfl⟩
  rw [hW] at hS ⊢
  clear hW
  have hqr := hS.ne
  have hrq : w.heap.size ≠ w.heap.size + 1 := fun e => hqr e.symm
  obtain ⟨q, hq⟩ : ∃ q, w.heap.size + 1 = q := ⟨_, rfl⟩
  rw [hq] at hS hqr hrq ⊢
  clear hq
  obtain ⟨r, hr⟩ : ∃ r, w.heap.size = r := ⟨_, rfl⟩
  rw [hr] at hS hqr hrq ⊢
  clear hr
  obtain ⟨b0, b1, b2, b3, b4, b5, b6, b7, b8, b9, b10, b11⟩ := hS.box; have z0 := hS.fz 0; have z1 := hS.fz 1; have z2 := hS.fz 2; have z3 := hS.fz 3; have z4 := hS.fz 4; have z5 := hS.fz 5; have z6 := hS.fz 6; have z7 := hS.fz 7; have z8 := hS.fz 8; have z9 := hS.fz 9; have z10 := hS.fz 10; have z11 := hS.fz 11; (try dsimp only at b0 b1 b2 b3 b4 b5 b6 b7 b8 b9 b10 b11)
  have HS := Lib.hid hS
  clear hS
  go_cut [0] (fun s0 wx => s0 = .string ⟨(pR1 s).toArray⟩ ∧ Sd w q r ⟨pTy s, (if pTy s = 2 then 0 else 1), 0, 0, 0, false, 0, 0, 0, 0, false, 0⟩ wx)
  case first =>
    as_aux_lemma =>
      rcases and1 (hdB s 119) with b | b
      rotate_left
      · have hp1 : (1 : Int) ≤ ((s).length : Nat) := by have := hd_pos b; omega
        have hex := tail_ext s
        have HV : Hid (pR1 s = s.tail ∧ pTy s = 2) := by simp [Hid, pR1, pTy, b]
        have HB := Lib.hid b
        clear b
        go_wp2_with (go_at_call 46; refine (has_n 119 s _ _ (by decide)).mono ?_; rintro e w' ⟨rfl, hw'⟩; obtain rfl := hw'.symm; rw [HB.out])
        go_region
        all_goals
          go_wp2
          go_meet
          rw [HV.out.1, HV.out.2]
          exact ⟨rfl, (by first | exact (HS.out.setD (j := 0) (v := .int .u8 2) (d' := ⟨2, 1, 0, 0, 0, false, 0, 0, 0, 0, false, 0⟩) rfl).setD (j := 1) (v := .int .u8 0) (d' := ⟨2, (if (2 : Int) = 2 then 0 else 1), 0, 0, 0, false, 0, 0, 0, 0, false, 0⟩) rfl | exact ((HS.out.setD (j := 0) (v := .int .u8 2) (d' := ⟨2, 1, 0, 0, 0, false, 0, 0, 0, 0, false, 0⟩) rfl).setD (j := 1) (v := .int .u8 0) (d' := ⟨2, (if (2 : Int) = 2 then 0 else 1), 0, 0, 0, false, 0, 0, 0, 0, false, 0⟩) rfl).drew | exact ((HS.out.setD (j := 0) (v := .int .u8 2) (d' := ⟨2, 1, 0, 0, 0, false, 0, 0, 0, 0, false, 0⟩) rfl).setD (j := 1) (v := .int .u8 0) (d' := ⟨2, (if (2 : Int) = 2 then 0 else 1), 0, 0, 0, false, 0, 0, 0, 0, false, 0⟩) rfl).drewN _ | exact (HS.out.drew.setD (j := 0) (v := .int .u8 2) (d' := ⟨2, 1, 0, 0, 0, false, 0, 0, 0, 0, false, 0⟩) rfl).setD (j := 1) (v := .int .u8 0) (d' := ⟨2, (if (2 : Int) = 2 then 0 else 1), 0, 0, 0, false, 0, 0, 0, 0, false, 0⟩) rfl | exact ((HS.out.drewN _).setD (j := 0) (v := .int .u8 2) (d' := ⟨2, 1, 0, 0, 0, false, 0, 0, 0, 0, false, 0⟩) rfl).setD (j := 1) (v := .int .u8 0) (d' := ⟨2, (if (2 : Int) = 2 then 0 else 1), 0, 0, 0, false, 0, 0, 0, 0, false, 0⟩) rfl)⟩
      rcases and1 (hdB s 110) with c | c
      rotate_left
      · have hp1 : (1 : Int) ≤ ((s).length : Nat) := by have := hd_pos c; omega
        have hex := tail_ext s
        have HV : Hid (pR1 s = s.tail ∧ pTy s = 3) := by simp [Hid, pR1, pTy, tkL, b, c]
        have HB := Lib.hid b
        have HC := Lib.hid c
        clear b c
        go_wp2_with (first | (go_at_call 46; refine (has_n 119 s _ _ (by decide)).mono ?_; rintro e w' ⟨rfl, hw'⟩; obtain rfl := hw'.symm; rw [HB.out]) | (go_at_call 46; refine (has_n 110 s _ _ (by decide)).mono ?_; rintro e w' ⟨rfl, hw'⟩; obtain rfl := hw'.symm; rw [HC.out]))
        go_region
        all_goals
          go_wp2
          go_meet
          rw [HV.out.1, HV.out.2]
          exact ⟨rfl, (by first | exact HS.out.setD (j := 0) (v := .int .u8 3) (d' := ⟨3, (if (3 : Int) = 2 then 0 else 1), 0, 0, 0, false, 0, 0, 0, 0, false, 0⟩) rfl | exact (HS.out.setD (j := 0) (v := .int .u8 3) (d' := ⟨3, (if (3 : Int) = 2 then 0 else 1), 0, 0, 0, false, 0, 0, 0, 0, false, 0⟩) rfl).drew | exact (HS.out.setD (j := 0) (v := .int .u8 3) (d' := ⟨3, (if (3 : Int) = 2 then 0 else 1), 0, 0, 0, false, 0, 0, 0, 0, false, 0⟩) rfl).drewN _ | exact HS.out.drew.setD (j := 0) (v := .int .u8 3) (d' := ⟨3, (if (3 : Int) = 2 then 0 else 1), 0, 0, 0, false, 0, 0, 0, 0, false, 0⟩) rfl | exact (HS.out.drewN _).setD (j := 0) (v := .int .u8 3) (d' := ⟨3, (if (3 : Int) = 2 then 0 else 1), 0, 0, 0, false, 0, 0, 0, 0, false, 0⟩) rfl)⟩
      · have HV : Hid (pR1 s = s ∧ pTy s = 1) := by simp [Hid, pR1, pTy, tkL, b, c]
        have HB := Lib.hid b
        have HC := Lib.hid c
        clear b c
        go_wp2_with (first | (go_at_call 46; refine (has_n 119 s _ _ (by decide)).mono ?_; rintro e w' ⟨rfl, hw'⟩; obtain rfl := hw'.symm; rw [HB.out]) | (go_at_call 46; refine (has_n 110 s _ _ (by decide)).mono ?_; rintro e w' ⟨rfl, hw'⟩; obtain rfl := hw'.symm; rw [HC.out]))
        go_meet
        rw [HV.out.1, HV.out.2]
        exact ⟨rfl, HS.out⟩
  case rest =>
  obtain ⟨rfl, hS⟩ := hcut
  clear b0 b1 b2 b3 b4 b5 b6 b7 b8 b9 b10 b11 z0 z1 z2 z3 z4 z5 z6 z7 z8 z9 z10 z11
  have hty := pTy_bd s
  have hl1 := pR1_le' s
  have hl2 := gSt_le (pR1 s)
  have hl3 := nuT_le (gSt (pR1 s))
  have hl4 := pR4_le' (nuT (gSt (pR1 s)))
  have hl5 := gR5_le (pR4 (nuT (gSt (pR1 s))))
  have hl6 := tkL_le (gR5 (pR4 (nuT (gSt (pR1 s))))) 120
  have hgg : gG s = { (gwR (gR6 s) (gD s)).2 with sc := gSc (gwR (gR6 s) (gD s)).1 } := rfl
  unfold gR6 gD at hgg
  dsimp only at hgg
  obtain ⟨GG, hGG⟩ : ∃ X, gG s = X := ⟨_, rfl⟩
  rw [hGG] at hgg
  have HGG := Lib.hid hGG
  clear hGG
  obtain ⟨R1, hR1⟩ : ∃ X, pR1 s = X := ⟨_, rfl⟩
  rw [hR1] at hgg hl1 hl2 hl3 hl4 hl5 hl6 ⊢
  obtain ⟨TY, hTY⟩ : ∃ X, pTy s = X := ⟨_, rfl⟩
  rw [hTY] at hgg hS hty
  obtain ⟨S0, hS0⟩ : ∃ X, (if TY = 2 then (0 : Int) else 1) = X := ⟨_, rfl⟩
  rw [hS0] at hS
  obtain ⟨SO, hSO⟩ : ∃ X, gSo TY R1 = X := ⟨_, rfl⟩
  obtain ⟨R2, hR2⟩ : ∃ X, gSt R1 = X := ⟨_, rfl⟩
  rw [hSO, hR2] at hgg
  rw [hR2] at hl2 hl3 hl4 hl5 hl6
  obtain ⟨RU, hRU⟩ : ∃ X, nuN R2 = X := ⟨_, rfl⟩
  obtain ⟨R3, hR3⟩ : ∃ X, nuT R2 = X := ⟨_, rfl⟩
  rw [hRU, hR3] at hgg
  rw [hR3] at hl3 hl4 hl5 hl6
  obtain ⟨BO, hBO⟩ : ∃ X, pBo R3 = X := ⟨_, rfl⟩
  obtain ⟨R4, hR4⟩ : ∃ X, pR4 R3 = X := ⟨_, rfl⟩
  rw [hBO, hR4] at hgg
  rw [hR4] at hl4 hl5 hl6
  obtain ⟨SH, hSH⟩ : ∃ X, gSh R4 = X := ⟨_, rfl⟩
  obtain ⟨R5, hR5⟩ : ∃ X, gR5 R4 = X := ⟨_, rfl⟩
  rw [hSH, hR5] at hgg
  rw [hR5] at hl5 hl6
  obtain ⟨CR, hCR⟩ : ∃ X, hdB R5 120 = X := ⟨_, rfl⟩
  obtain ⟨R6, hR6⟩ : ∃ X, tkL R5 120 = X := ⟨_, rfl⟩
  rw [hCR, hR6] at hgg
  rw [hR6] at hl6
  have hsc := gwR_sc R6 ⟨TY, SO, RU, SH, BO, CR, 0, 0, 0, 0, false, 0⟩
  have hol := gwR_le R6 ⟨TY, SO, RU, SH, BO, CR, 0, 0, 0, 0, false, 0⟩
  obtain ⟨OV, hOV⟩ : ∃ X, gwR R6 ⟨TY, SO, RU, SH, BO, CR, 0, 0, 0, 0, false, 0⟩ = X := ⟨_, rfl⟩
  rw [hOV] at hgg hsc hol
  have HS0 : Hid (S0 = if TY = 2 then (0 : Int) else 1) := hS0.symm
  have HSO : Hid (gSo TY R1 = SO ∧ gSt R1 = R2) := ⟨hSO, hR2⟩
  have HRU : Hid (nuN R2 = RU ∧ nuT R2 = R3) := ⟨hRU, hR3⟩
  have HBO : Hid (pBo R3 = BO ∧ pR4 R3 = R4) := ⟨hBO, hR4⟩
  have HSH : Hid (gSh R4 = SH ∧ gR5 R4 = R5) := ⟨hSH, hR5⟩
  have HCR : Hid (hdB R5 120 = CR ∧ tkL R5 120 = R6) := ⟨hCR, hR6⟩
  have HOV := Lib.hid hOV
  have HG := Lib.hid hgg
  have HSC : Hid (OV.2.sc = 0) := hsc
  have g1 : R1.length ≤ 9223372036854775807 := by omega
  have g2 : R2.length ≤ 9223372036854775807 := by omega
  have g4 : R4.tail.length ≤ 9223372036854775807 := Nat.le_trans (tail_le R4) (by omega)
  have g6 : R6.tail.length ≤ 9223372036854775807 := Nat.le_trans (tail_le R6) (by omega)
  have g7 : OV.1.tail.length ≤ 9223372036854775807 := Nat.le_trans (tail_le _) (by omega)
  clear hTY hR1 hS0 hSO hR2 hRU hR3 hBO hR4 hSH hR5 hCR hR6 hOV hgg hsc hol hl1 hl2 hl3 hl4 hl5 hl6 HS hl
  obtain ⟨b0, b1, b2, b3, b4, b5, b6, b7, b8, b9, b10, b11⟩ := hS.box; have z0 := hS.fz 0; have z1 := hS.fz 1; have z2 := hS.fz 2; have z3 := hS.fz 3; have z4 := hS.fz 4; have z5 := hS.fz 5; have z6 := hS.fz 6; have z7 := hS.fz 7; have z8 := hS.fz 8; have z9 := hS.fz 9; have z10 := hS.fz 10; have z11 := hS.fz 11; (try dsimp only at b0 b1 b2 b3 b4 b5 b6 b7 b8 b9 b10 b11)
  have HS := Lib.hid hS
  clear hS
  go_upto_block 1 with fail
  go_cut [0] (fun s0 wx => s0 = .string ⟨(R2).toArray⟩ ∧ Sd w q r ⟨TY, SO, 0, 0, 0, false, 0, 0, 0, 0, false, 0⟩ wx)
  case first =>
    as_aux_lemma =>
      obtain ⟨v1, v2⟩ := HSO.out
      clear HSO HRU HBO HSH HCR HOV HG HSC HGG
      rcases and1 (hdB R1 46) with b | b
      rotate_left
      · obtain rfl : SO = 0 := by rw [← v1]; simp [gSo, b]
        have hp1 : (1 : Int) ≤ (R1.length : Nat) := by have := hd_pos b; omega
        have hex := tail_ext R1
        have e2 : R2 = R1.tail := by rw [← v2]; simp [gSt, b]
        have E2 := Lib.hid e2
        have B0 := Lib.hid b
        clear e2 v1 v2 b
        go_wp2_with (first | (go_at_call 46; refine (has_n 46 R1 _ _ (by decide)).mono ?_; rintro e w' ⟨rfl, hw'⟩; obtain rfl := hw'.symm; rw [B0.out]))
        go_region
        all_goals
          go_wp2
          go_meet
          rw [E2.out]
          exact ⟨rfl, (by first | exact HS.out.setD (j := 1) (v := .int .u8 0) (d' := ⟨TY, 0, 0, 0, 0, false, 0, 0, 0, 0, false, 0⟩) rfl | exact (HS.out.setD (j := 1) (v := .int .u8 0) (d' := ⟨TY, 0, 0, 0, 0, false, 0, 0, 0, 0, false, 0⟩) rfl).drew | exact (HS.out.setD (j := 1) (v := .int .u8 0) (d' := ⟨TY, 0, 0, 0, 0, false, 0, 0, 0, 0, false, 0⟩) rfl).drewN _ | exact HS.out.drew.setD (j := 1) (v := .int .u8 0) (d' := ⟨TY, 0, 0, 0, 0, false, 0, 0, 0, 0, false, 0⟩) rfl | exact (HS.out.drewN _).setD (j := 1) (v := .int .u8 0) (d' := ⟨TY, 0, 0, 0, 0, false, 0, 0, 0, 0, false, 0⟩) rfl)⟩
      rcases and1 (hdB R1 98) with c | c
      rotate_left
      · obtain rfl : SO = 2 := by rw [← v1]; simp [gSo, b, c]
        have hp1 : (1 : Int) ≤ (R1.length : Nat) := by have := hd_pos c; omega
        have hex := tail_ext R1
        have e2 : R2 = R1.tail := by rw [← v2]; simp [gSt, b, c]
        have E2 := Lib.hid e2
        have B0 := Lib.hid b
        have B1 := Lib.hid c
        clear e2 v1 v2 b c
        go_wp2_with (first | (go_at_call 46; refine (has_n 46 R1 _ _ (by decide)).mono ?_; rintro e w' ⟨rfl, hw'⟩; obtain rfl := hw'.symm; rw [B0.out]) | (go_at_call 46; refine (has_n 98 R1 _ _ (by decide)).mono ?_; rintro e w' ⟨rfl, hw'⟩; obtain rfl := hw'.symm; rw [B1.out]))
        go_region
        all_goals
          go_wp2
          go_meet
          rw [E2.out]
          exact ⟨rfl, (by first | exact HS.out.setD (j := 1) (v := .int .u8 2) (d' := ⟨TY, 2, 0, 0, 0, false, 0, 0, 0, 0, false, 0⟩) rfl | exact (HS.out.setD (j := 1) (v := .int .u8 2) (d' := ⟨TY, 2, 0, 0, 0, false, 0, 0, 0, 0, false, 0⟩) rfl).drew | exact (HS.out.setD (j := 1) (v := .int .u8 2) (d' := ⟨TY, 2, 0, 0, 0, false, 0, 0, 0, 0, false, 0⟩) rfl).drewN _ | exact HS.out.drew.setD (j := 1) (v := .int .u8 2) (d' := ⟨TY, 2, 0, 0, 0, false, 0, 0, 0, 0, false, 0⟩) rfl | exact (HS.out.drewN _).setD (j := 1) (v := .int .u8 2) (d' := ⟨TY, 2, 0, 0, 0, false, 0, 0, 0, 0, false, 0⟩) rfl)⟩
      rcases and1 (hdB R1 108) with c2 | c2
      rotate_left
      · obtain rfl : SO = 3 := by rw [← v1]; simp [gSo, b, c, c2]
        have hp1 : (1 : Int) ≤ (R1.length : Nat) := by have := hd_pos c2; omega
        have hex := tail_ext R1
        have e2 : R2 = R1.tail := by rw [← v2]; simp [gSt, b, c, c2]
        have E2 := Lib.hid e2
        have B0 := Lib.hid b
        have B1 := Lib.hid c
        have B2 := Lib.hid c2
        clear e2 v1 v2 b c c2
        go_wp2_with (first | (go_at_call 46; refine (has_n 46 R1 _ _ (by decide)).mono ?_; rintro e w' ⟨rfl, hw'⟩; obtain rfl := hw'.symm; rw [B0.out]) | (go_at_call 46; refine (has_n 98 R1 _ _ (by decide)).mono ?_; rintro e w' ⟨rfl, hw'⟩; obtain rfl := hw'.symm; rw [B1.out]) | (go_at_call 46; refine (has_n 108 R1 _ _ (by decide)).mono ?_; rintro e w' ⟨rfl, hw'⟩; obtain rfl := hw'.symm; rw [B2.out]))
        go_region
        all_goals
          go_wp2
          go_meet
          rw [E2.out]
          exact ⟨rfl, (by first | exact HS.out.setD (j := 1) (v := .int .u8 3) (d' := ⟨TY, 3, 0, 0, 0, false, 0, 0, 0, 0, false, 0⟩) rfl | exact (HS.out.setD (j := 1) (v := .int .u8 3) (d' := ⟨TY, 3, 0, 0, 0, false, 0, 0, 0, 0, false, 0⟩) rfl).drew | exact (HS.out.setD (j := 1) (v := .int .u8 3) (d' := ⟨TY, 3, 0, 0, 0, false, 0, 0, 0, 0, false, 0⟩) rfl).drewN _ | exact HS.out.drew.setD (j := 1) (v := .int .u8 3) (d' := ⟨TY, 3, 0, 0, 0, false, 0, 0, 0, 0, false, 0⟩) rfl | exact (HS.out.drewN _).setD (j := 1) (v := .int .u8 3) (d' := ⟨TY, 3, 0, 0, 0, false, 0, 0, 0, 0, false, 0⟩) rfl)⟩
      rcases and1 (hdB R1 111) with c3 | c3
      rotate_left
      · obtain rfl : SO = 1 := by rw [← v1]; simp [gSo, b, c, c2, c3]
        have hp1 : (1 : Int) ≤ (R1.length : Nat) := by have := hd_pos c3; omega
        have hex := tail_ext R1
        have e2 : R2 = R1.tail := by rw [← v2]; simp [gSt, b, c, c2, c3]
        have E2 := Lib.hid e2
        have B0 := Lib.hid b
        have B1 := Lib.hid c
        have B2 := Lib.hid c2
        have B3 := Lib.hid c3
        clear e2 v1 v2 b c c2 c3
        go_wp2_with (first | (go_at_call 46; refine (has_n 46 R1 _ _ (by decide)).mono ?_; rintro e w' ⟨rfl, hw'⟩; obtain rfl := hw'.symm; rw [B0.out]) | (go_at_call 46; refine (has_n 98 R1 _ _ (by decide)).mono ?_; rintro e w' ⟨rfl, hw'⟩; obtain rfl := hw'.symm; rw [B1.out]) | (go_at_call 46; refine (has_n 108 R1 _ _ (by decide)).mono ?_; rintro e w' ⟨rfl, hw'⟩; obtain rfl := hw'.symm; rw [B2.out]) | (go_at_call 46; refine (has_n 111 R1 _ _ (by decide)).mono ?_; rintro e w' ⟨rfl, hw'⟩; obtain rfl := hw'.symm; rw [B3.out]))
        go_region
        all_goals
          go_wp2
          go_meet
          rw [E2.out]
          exact ⟨rfl, (by first | exact HS.out.setD (j := 1) (v := .int .u8 1) (d' := ⟨TY, 1, 0, 0, 0, false, 0, 0, 0, 0, false, 0⟩) rfl | exact (HS.out.setD (j := 1) (v := .int .u8 1) (d' := ⟨TY, 1, 0, 0, 0, false, 0, 0, 0, 0, false, 0⟩) rfl).drew | exact (HS.out.setD (j := 1) (v := .int .u8 1) (d' := ⟨TY, 1, 0, 0, 0, false, 0, 0, 0, 0, false, 0⟩) rfl).drewN _ | exact HS.out.drew.setD (j := 1) (v := .int .u8 1) (d' := ⟨TY, 1, 0, 0, 0, false, 0, 0, 0, 0, false, 0⟩) rfl | exact (HS.out.drewN _).setD (j := 1) (v := .int .u8 1) (d' := ⟨TY, 1, 0, 0, 0, false, 0, 0, 0, 0, false, 0⟩) rfl)⟩
      · have e1 : SO = S0 := by rw [← v1, HS0.out]; simp [gSo, b, c, c2, c3]
        have e2 : R2 = R1 := by rw [← v2]; simp [gSt, b, c, c2, c3]
        have E1 := Lib.hid e1
        have E2 := Lib.hid e2
        have B0 := Lib.hid b
        have B1 := Lib.hid c
        have B2 := Lib.hid c2
        have B3 := Lib.hid c3
        clear e1 e2 b c c2 c3 v1 v2
        go_wp2_with (first | (go_at_call 46; refine (has_n 46 R1 _ _ (by decide)).mono ?_; rintro e w' ⟨rfl, hw'⟩; obtain rfl := hw'.symm; rw [B0.out]) | (go_at_call 46; refine (has_n 98 R1 _ _ (by decide)).mono ?_; rintro e w' ⟨rfl, hw'⟩; obtain rfl := hw'.symm; rw [B1.out]) | (go_at_call 46; refine (has_n 108 R1 _ _ (by decide)).mono ?_; rintro e w' ⟨rfl, hw'⟩; obtain rfl := hw'.symm; rw [B2.out]) | (go_at_call 46; refine (has_n 111 R1 _ _ (by decide)).mono ?_; rintro e w' ⟨rfl, hw'⟩; obtain rfl := hw'.symm; rw [B3.out]))
        go_meet
        rw [E1.out, E2.out]
        exact ⟨rfl, HS.out⟩
  case rest =>
  obtain ⟨rfl, hS⟩ := hcut
  clear b0 b1 b2 b3 b4 b5 b6 b7 b8 b9 b10 b11 z0 z1 z2 z3 z4 z5 z6 z7 z8 z9 z10 z11
  obtain ⟨b0, b1, b2, b3, b4, b5, b6, b7, b8, b9, b10, b11⟩ := hS.box; have z0 := hS.fz 0; have z1 := hS.fz 1; have z2 := hS.fz 2; have z3 := hS.fz 3; have z4 := hS.fz 4; have z5 := hS.fz 5; have z6 := hS.fz 6; have z7 := hS.fz 7; have z8 := hS.fz 8; have z9 := hS.fz 9; have z10 := hS.fz 10; have z11 := hS.fz 11; (try dsimp only at b0 b1 b2 b3 b4 b5 b6 b7 b8 b9 b10 b11)
  have HS := Lib.hid hS
  clear hS
  go_upto_block 2 with ((fail_if_success (have hzz := hn1)); go_at_call 47; refine (rnumber_any R2 g2 _).mono ?_; rintro e w1 ⟨rfl, hn1⟩; rw [HRU.out.1, HRU.out.2]; (first | have hG1 := HS.out.grow hn1 | have hG1 := HS.out.drew.grow hn1); obtain ⟨b0, b1, b2, b3, b4, b5, b6, b7, b8, b9, b10, b11⟩ := hG1.box; have z0 := hG1.fz 0; have z1 := hG1.fz 1; have z2 := hG1.fz 2; have z3 := hG1.fz 3; have z4 := hG1.fz 4; have z5 := hG1.fz 5; have z6 := hG1.fz 6; have z7 := hG1.fz 7; have z8 := hG1.fz 8; have z9 := hG1.fz 9; have z10 := hG1.fz 10; have z11 := hG1.fz 11; (try dsimp only at b0 b1 b2 b3 b4 b5 b6 b7 b8 b9 b10 b11); have HG1 := Lib.hid hG1; clear hG1)
  have hS := HG1.out.setD (j := 2) (v := .int .i64 RU) (d' := ⟨TY, SO, RU, 0, 0, false, 0, 0, 0, 0, false, 0⟩) rfl
  clear b0 b1 b2 b3 b4 b5 b6 b7 b8 b9 b10 b11 z0 z1 z2 z3 z4 z5 z6 z7 z8 z9 z10 z11
  obtain ⟨b0, b1, b2, b3, b4, b5, b6, b7, b8, b9, b10, b11⟩ := hS.box; have z0 := hS.fz 0; have z1 := hS.fz 1; have z2 := hS.fz 2; have z3 := hS.fz 3; have z4 := hS.fz 4; have z5 := hS.fz 5; have z6 := hS.fz 6; have z7 := hS.fz 7; have z8 := hS.fz 8; have z9 := hS.fz 9; have z10 := hS.fz 10; have z11 := hS.fz 11; (try dsimp only at b0 b1 b2 b3 b4 b5 b6 b7 b8 b9 b10 b11)
  have HS := Lib.hid hS
  clear hS
  go_cut [0] (fun s0 wx => s0 = .string ⟨(R4).toArray⟩ ∧ Sd w q r ⟨TY, SO, RU, 0, BO, false, 0, 0, 0, 0, false, 0⟩ wx)
  case first =>
    as_aux_lemma =>
      obtain ⟨v1, v2⟩ := HBO.out
      clear HSO HRU HBO HSH HCR HOV HG HSC HGG HG1
      rcases and1 (hdB R3 70) with b | b
      rotate_left
      · obtain rfl : BO = 4 := by rw [← v1]; simp [pBo, b]
        have hp1 : (1 : Int) ≤ (R3.length : Nat) := by have := hd_pos b; omega
        have hex := tail_ext R3
        have e2 : R4 = R3.tail := by rw [← v2]; simp [pR4, tkL, b]
        have E2 := Lib.hid e2
        have B0 := Lib.hid b
        clear e2 v1 v2 b
        go_wp2_with (first | (go_at_call 46; refine (has_n 70 R3 _ _ (by decide)).mono ?_; rintro e w' ⟨rfl, hw'⟩; obtain rfl := hw'.symm; rw [B0.out]))
        go_region
        all_goals
          go_wp2
          go_meet
          rw [E2.out]
          exact ⟨rfl, (by first | exact HS.out.setD (j := 4) (v := .int .i64 4) (d' := ⟨TY, SO, RU, 0, 4, false, 0, 0, 0, 0, false, 0⟩) rfl | exact (HS.out.setD (j := 4) (v := .int .i64 4) (d' := ⟨TY, SO, RU, 0, 4, false, 0, 0, 0, 0, false, 0⟩) rfl).drew | exact (HS.out.setD (j := 4) (v := .int .i64 4) (d' := ⟨TY, SO, RU, 0, 4, false, 0, 0, 0, 0, false, 0⟩) rfl).drewN _ | exact HS.out.drew.setD (j := 4) (v := .int .i64 4) (d' := ⟨TY, SO, RU, 0, 4, false, 0, 0, 0, 0, false, 0⟩) rfl | exact (HS.out.drewN _).setD (j := 4) (v := .int .i64 4) (d' := ⟨TY, SO, RU, 0, 4, false, 0, 0, 0, 0, false, 0⟩) rfl)⟩
      rcases and1 (hdB R3 83) with c | c
      rotate_left
      · obtain rfl : BO = 6 := by rw [← v1]; simp [pBo, b, c]
        have hp1 : (1 : Int) ≤ (R3.length : Nat) := by have := hd_pos c; omega
        have hex := tail_ext R3
        have e2 : R4 = R3.tail := by rw [← v2]; simp [pR4, tkL, b, c]
        have E2 := Lib.hid e2
        have B0 := Lib.hid b
        have B1 := Lib.hid c
        clear e2 v1 v2 b c
        go_wp2_with (first | (go_at_call 46; refine (has_n 70 R3 _ _ (by decide)).mono ?_; rintro e w' ⟨rfl, hw'⟩; obtain rfl := hw'.symm; rw [B0.out]) | (go_at_call 46; refine (has_n 83 R3 _ _ (by decide)).mono ?_; rintro e w' ⟨rfl, hw'⟩; obtain rfl := hw'.symm; rw [B1.out]))
        go_region
        all_goals
          go_wp2
          go_meet
          rw [E2.out]
          exact ⟨rfl, (by first | exact HS.out.setD (j := 4) (v := .int .i64 6) (d' := ⟨TY, SO, RU, 0, 6, false, 0, 0, 0, 0, false, 0⟩) rfl | exact (HS.out.setD (j := 4) (v := .int .i64 6) (d' := ⟨TY, SO, RU, 0, 6, false, 0, 0, 0, 0, false, 0⟩) rfl).drew | exact (HS.out.setD (j := 4) (v := .int .i64 6) (d' := ⟨TY, SO, RU, 0, 6, false, 0, 0, 0, 0, false, 0⟩) rfl).drewN _ | exact HS.out.drew.setD (j := 4) (v := .int .i64 6) (d' := ⟨TY, SO, RU, 0, 6, false, 0, 0, 0, 0, false, 0⟩) rfl | exact (HS.out.drewN _).setD (j := 4) (v := .int .i64 6) (d' := ⟨TY, SO, RU, 0, 6, false, 0, 0, 0, 0, false, 0⟩) rfl)⟩
      · obtain rfl : BO = 0 := by rw [← v1]; simp [pBo, b, c]
        have e2 : R4 = R3 := by rw [← v2]; simp [pR4, tkL, b, c]
        have E2 := Lib.hid e2
        have B0 := Lib.hid b
        have B1 := Lib.hid c
        clear e2 b c v1 v2
        go_wp2_with (first | (go_at_call 46; refine (has_n 70 R3 _ _ (by decide)).mono ?_; rintro e w' ⟨rfl, hw'⟩; obtain rfl := hw'.symm; rw [B0.out]) | (go_at_call 46; refine (has_n 83 R3 _ _ (by decide)).mono ?_; rintro e w' ⟨rfl, hw'⟩; obtain rfl := hw'.symm; rw [B1.out]))
        go_meet
        rw [E2.out]
        exact ⟨rfl, HS.out⟩
  case rest =>
  obtain ⟨rfl, hS⟩ := hcut
  clear b0 b1 b2 b3 b4 b5 b6 b7 b8 b9 b10 b11 z0 z1 z2 z3 z4 z5 z6 z7 z8 z9 z10 z11
  obtain ⟨b0, b1, b2, b3, b4, b5, b6, b7, b8, b9, b10, b11⟩ := hS.box; have z0 := hS.fz 0; have z1 := hS.fz 1; have z2 := hS.fz 2; have z3 := hS.fz 3; have z4 := hS.fz 4; have z5 := hS.fz 5; have z6 := hS.fz 6; have z7 := hS.fz 7; have z8 := hS.fz 8; have z9 := hS.fz 9; have z10 := hS.fz 10; have z11 := hS.fz 11; (try dsimp only at b0 b1 b2 b3 b4 b5 b6 b7 b8 b9 b10 b11)
  have HS := Lib.hid hS
  clear hS
  go_upto_if 61 with (go_at_call 46; refine (has_n 45 R4 _ _ (by decide)).mono ?_; rintro e w' ⟨rfl, hw'⟩; obtain rfl := hw'.symm)
  go_cut [0] (fun s0 wx => s0 = .string ⟨(R5).toArray⟩ ∧ Sd w q r ⟨TY, SO, RU, SH, BO, false, 0, 0, 0, 0, false, 0⟩ wx)
  case first =>
    as_aux_lemma =>
      obtain ⟨v1, v2⟩ := HSH.out
      clear HSO HRU HBO HSH HCR HOV HG HSC HGG
      rcases and1 (hdB R4 45) with b | b
      · obtain rfl : SH = 0 := by rw [← v1]; simp [gSh, b]
        have e2 : R5 = R4 := by rw [← v2]; simp [gR5, b]
        have E2 := Lib.hid e2
        rw [b]
        clear e2 b v1 v2
        go_wp2
        go_meet
        rw [E2.out]
        exact ⟨rfl, HS.out⟩
      · have hp1 : (1 : Int) ≤ (R4.length : Nat) := by have := hd_pos b; omega
        have hex := tail_ext R4
        have e1 : nuN R4.tail = SH := by rw [← v1]; simp [gSh, b]
        have e2 : nuT R4.tail = R5 := by rw [← v2]; simp [gR5, b]
        have E1 := Lib.hid e1
        have E2 := Lib.hid e2
        rw [b]
        clear e1 e2 b v1 v2
        go_wp2_with ((fail_if_success (have hzz := hn2)); go_at_call 47; refine (rnumber_any R4.tail g4 _).mono ?_; rintro e w2 ⟨rfl, hn2⟩; rw [E1.out, E2.out]; (first | have hG2 := HS.out.grow hn2 | have hG2 := HS.out.drew.grow hn2); obtain ⟨b0, b1, b2, b3, b4, b5, b6, b7, b8, b9, b10, b11⟩ := hG2.box; have z0 := hG2.fz 0; have z1 := hG2.fz 1; have z2 := hG2.fz 2; have z3 := hG2.fz 3; have z4 := hG2.fz 4; have z5 := hG2.fz 5; have z6 := hG2.fz 6; have z7 := hG2.fz 7; have z8 := hG2.fz 8; have z9 := hG2.fz 9; have z10 := hG2.fz 10; have z11 := hG2.fz 11; (try dsimp only at b0 b1 b2 b3 b4 b5 b6 b7 b8 b9 b10 b11); have HG2 := Lib.hid hG2; clear hG2)
        go_meet
        exact ⟨rfl, HG2.out.setD (j := 3) rfl⟩
  case rest =>
  obtain ⟨rfl, hS⟩ := hcut
  clear b0 b1 b2 b3 b4 b5 b6 b7 b8 b9 b10 b11 z0 z1 z2 z3 z4 z5 z6 z7 z8 z9 z10 z11
  obtain ⟨b0, b1, b2, b3, b4, b5, b6, b7, b8, b9, b10, b11⟩ := hS.box; have z0 := hS.fz 0; have z1 := hS.fz 1; have z2 := hS.fz 2; have z3 := hS.fz 3; have z4 := hS.fz 4; have z5 := hS.fz 5; have z6 := hS.fz 6; have z7 := hS.fz 7; have z8 := hS.fz 8; have z9 := hS.fz 9; have z10 := hS.fz 10; have z11 := hS.fz 11; (try dsimp only at b0 b1 b2 b3 b4 b5 b6 b7 b8 b9 b10 b11)
  have HS := Lib.hid hS
  clear hS
  go_upto_if 70 with (go_at_call 46; refine (has_n 120 R5 _ _ (by decide)).mono ?_; rintro e w' ⟨rfl, hw'⟩; obtain rfl := hw'.symm)
  go_cut [0] (fun s0 wx => s0 = .string ⟨(R6).toArray⟩ ∧ Sd w q r ⟨TY, SO, RU, SH, BO, CR, 0, 0, 0, 0, false, 0⟩ wx)
  case first =>
    as_aux_lemma =>
      obtain ⟨v1, v2⟩ := HCR.out
      clear HSO HRU HBO HSH HCR HOV HG HSC HGG
      cases CR
      · have e2 : R6 = R5 := by rw [← v2]; simp [tkL, v1]
        have E2 := Lib.hid e2
        rw [v1]
        clear e2 v1 v2
        go_wp2
        go_meet
        rw [E2.out]
        exact ⟨rfl, HS.out⟩
      · have hp1 : (1 : Int) ≤ (R5.length : Nat) := by have := hd_pos v1; omega
        have hex := tail_ext R5
        have e2 : R6 = R5.tail := by rw [← v2]; simp [tkL, v1]
        have E2 := Lib.hid e2
        rw [v1]
        clear e2 v1 v2
        go_wp2
        go_region
        all_goals
          go_wp2
          go_meet
          rw [E2.out]
          exact ⟨rfl, (by first | exact HS.out.setD (j := 5) (v := .bool true) (d' := ⟨TY, SO, RU, SH, BO, true, 0, 0, 0, 0, false, 0⟩) rfl | exact (HS.out.setD (j := 5) (v := .bool true) (d' := ⟨TY, SO, RU, SH, BO, true, 0, 0, 0, 0, false, 0⟩) rfl).drew | exact (HS.out.setD (j := 5) (v := .bool true) (d' := ⟨TY, SO, RU, SH, BO, true, 0, 0, 0, 0, false, 0⟩) rfl).drewN _ | exact HS.out.drew.setD (j := 5) (v := .bool true) (d' := ⟨TY, SO, RU, SH, BO, true, 0, 0, 0, 0, false, 0⟩) rfl | exact (HS.out.drewN _).setD (j := 5) (v := .bool true) (d' := ⟨TY, SO, RU, SH, BO, true, 0, 0, 0, 0, false, 0⟩) rfl)⟩
  case rest =>
  obtain ⟨rfl, hS⟩ := hcut
  clear b0 b1 b2 b3 b4 b5 b6 b7 b8 b9 b10 b11 z0 z1 z2 z3 z4 z5 z6 z7 z8 z9 z10 z11
  obtain ⟨b0, b1, b2, b3, b4, b5, b6, b7, b8, b9, b10, b11⟩ := hS.box; have z0 := hS.fz 0; have z1 := hS.fz 1; have z2 := hS.fz 2; have z3 := hS.fz 3; have z4 := hS.fz 4; have z5 := hS.fz 5; have z6 := hS.fz 6; have z7 := hS.fz 7; have z8 := hS.fz 8; have z9 := hS.fz 9; have z10 := hS.fz 10; have z11 := hS.fz 11; (try dsimp only at b0 b1 b2 b3 b4 b5 b6 b7 b8 b9 b10 b11)
  have HS := Lib.hid hS
  clear hS
  go_upto_if 75 with (go_at_call 46; refine (has_n 47 R6 _ _ (by decide)).mono ?_; rintro e w' ⟨rfl, hw'⟩; obtain rfl := hw'.symm)
  go_cut [0] (fun s0 wx => s0 = .string ⟨OV.1.toArray⟩ ∧ Sd w q r OV.2 wx)
  case first =>
    as_aux_lemma =>
      have v1 := HOV.out
      clear HSO HRU HBO HSH HCR HOV HG HSC HGG
      rcases and1 (hdB R6 47) with b | b
      · have e : OV = (R6, ⟨TY, SO, RU, SH, BO, CR, 0, 0, 0, 0, false, 0⟩) := by rw [← v1]; simp [gwR, b]
        have E2 := Lib.hid e
        rw [b]
        clear e b v1
        go_wp2
        go_meet
        rw [E2.out]
        exact ⟨rfl, HS.out⟩
      · have hp1 : (1 : Int) ≤ (R6.length : Nat) := by have := hd_pos b; omega
        have hex := tail_ext R6
        have e : OV = ouR R6.tail ⟨TY, SO, RU, SH, BO, CR, 0, 0, 0, 0, false, 0⟩ := by rw [← v1]; simp [gwR, b]
        have HOU : Hid (∀ W, Calls Tryd.prog 48 #[.agg #[.int .u8 TY, .int .u8 SO, .int .i64 RU, .int .i64 SH, .int .i64 BO, .bool CR, .int .u8 0, .int .i64 0, .int .i64 0, .int .i64 0, .bool false, .int .i64 0], .string ⟨R6.tail.toArray⟩] W fun e w' => e = .returned (.tuple #[OV.2.v, .string ⟨OV.1.toArray⟩]) ∧ Ext W w') := fun W => by
          rw [e]
          exact rout_any ⟨TY, SO, RU, SH, BO, CR, 0, 0, 0, 0, false, 0⟩ rfl rfl R6.tail g6 W
        obtain ⟨O1, D⟩ := OV
        dsimp only at HOU
        rw [b]
        clear e b v1
        unfold Dl.v at HOU
        go_wp2
        refine wp_region_held_drew (S := (fun _ => True)) (by kernel_rfl) (trivial) (fun hHeld => ?_)
        refine wpAnyH_take (i := 1) (v := ?v0) rfl (by kernel_rfl) (by kernel_rfl) (by kernel_rfl) (fun _ _ _ h => h) (Or.inl ⟨by rfl, ?y0⟩) (by assumption) ?r0
        case y0 => ((intro w hSw; (try dsimp only at hSw); go_simp; (first | done | with_reducible rfl)))
        (try simp only [Act.put, List.setIfInBounds_toArray, List.set_cons_zero, List.set_cons_succ])
        refine wpAnyH_take (i := 2) (v := ?v1) rfl (by kernel_rfl) (by kernel_rfl) (by kernel_rfl) (fun _ _ _ h => h) (Or.inl ⟨by rfl, ?y1⟩) (by assumption) ?r1
        case y1 => ((intro w hSw; (try dsimp only at hSw); go_simp; (first | done | with_reducible rfl)))
        (try simp only [Act.put, List.setIfInBounds_toArray, List.set_cons_zero, List.set_cons_succ])
        refine wpAnyH_ready (rs := [0]) (by kernel_rfl) (by simp) ?_
        refine AllReadyH.cons rfl (fun K hK => ?_) AllReadyH.nil
        go_simp
        skip
        refine hK.out _ _ (trivial) (fun hHeld => ?_)
        clear hK K
        (try simp only [Act.put, List.setIfInBounds_toArray, List.set_cons_zero, List.set_cons_succ])
        refine wpAnyH_ready (rs := [3]) (by kernel_rfl) (by simp) ?_
        refine AllReadyH.cons rfl (fun K hK => ?_) AllReadyH.nil
        go_simp
        (go_at_call 48; refine (HOU.out _).mono ?_; rintro e w3 ⟨rfl, hn3⟩; (first | have hG3 := HS.out.grow hn3 | have hG3 := HS.out.drew.grow hn3); obtain ⟨b0, b1, b2, b3, b4, b5, b6, b7, b8, b9, b10, b11⟩ := hG3.box; have z0 := hG3.fz 0; have z1 := hG3.fz 1; have z2 := hG3.fz 2; have z3 := hG3.fz 3; have z4 := hG3.fz 4; have z5 := hG3.fz 5; have z6 := hG3.fz 6; have z7 := hG3.fz 7; have z8 := hG3.fz 8; have z9 := hG3.fz 9; have z10 := hG3.fz 10; have z11 := hG3.fz 11; (try dsimp only at b0 b1 b2 b3 b4 b5 b6 b7 b8 b9 b10 b11); have HG3 := Lib.hid hG3; clear hG3)
        refine hK.out _ _ (trivial) (fun hHeld => ?_)
        clear hK K
        (try simp only [Act.put, List.setIfInBounds_toArray, List.set_cons_zero, List.set_cons_succ])
        refine wpAnyH_take (i := 4) (v := ?v4) rfl (by kernel_rfl) (by kernel_rfl) (by kernel_rfl) (fun _ _ _ h => h) (Or.inl ⟨by rfl, ?y4⟩) (by assumption) ?r4
        case y4 => ((intro w hSw; (try dsimp only at hSw); go_simp; (first | done | with_reducible rfl)))
        (try simp only [Act.put, List.setIfInBounds_toArray, List.set_cons_zero, List.set_cons_succ])
        refine wpAnyH_take (i := 5) (v := ?v5) rfl (by kernel_rfl) (by kernel_rfl) (by kernel_rfl) (fun _ _ _ h => h) (Or.inl ⟨by rfl, ?y5⟩) (by assumption) ?r5
        case y5 => ((intro w hSw; (try dsimp only at hSw); go_simp; (first | done | with_reducible rfl)))
        (try simp only [Act.put, List.setIfInBounds_toArray, List.set_cons_zero, List.set_cons_succ])
        refine wpAnyH_take (i := 6) (v := ?v6) rfl (by kernel_rfl) (by kernel_rfl) (by kernel_rfl) (fun _ _ _ h => h) (Or.inl ⟨by rfl, ?y6⟩) (by assumption) ?r6
        case y6 => ((intro w hSw; (try dsimp only at hSw); go_simp; (first | done | with_reducible rfl)))
        (try simp only [Act.put, List.setIfInBounds_toArray, List.set_cons_zero, List.set_cons_succ])
        refine wpAnyH_ready (rs := [7]) (by kernel_rfl) (by simp) ?_
        refine AllReadyH.cons rfl (fun K hK => ?_) AllReadyH.nil
        refine (if_pos (by kernel_rfl)).mpr ?_
        refine wp_store26 (d := D) (q := q) rfl rfl rfl rfl HG3.out.dl ?_
        refine hK.out _ _ (trivial) (fun hHeld => ?_)
        clear hK K
        (try simp only [Act.put, List.setIfInBounds_toArray, List.set_cons_zero, List.set_cons_succ])
        refine wpAnyH_take (i := 8) (v := ?v8) rfl (by kernel_rfl) (by kernel_rfl) (by kernel_rfl) (fun _ _ _ h => h) (Or.inl ⟨by rfl, ?y8⟩) (by assumption) ?r8
        case y8 => ((intro w hSw; (try dsimp only at hSw); go_simp; (first | done | with_reducible rfl)))
        (try simp only [Act.put, List.setIfInBounds_toArray, List.set_cons_zero, List.set_cons_succ])
        refine wpAnyH_done (by kernel_rfl) ?_ _
        simp only [List.getElem_toArray, List.getElem_cons_succ, List.getElem_cons_zero, List.set_cons_zero, List.set_cons_succ]
        all_goals
          go_wp2
          go_meet
          exact ⟨rfl, by first | exact HG3.out.set12 D | exact (HG3.out.set12 D).drew | exact HG3.out.drew.set12 D⟩
  case rest =>
  obtain ⟨rfl, hS⟩ := hcut
  obtain ⟨O1, D⟩ := OV
  dsimp only at hS g7 HSC HG ⊢
  clear b0 b1 b2 b3 b4 b5 b6 b7 b8 b9 b10 b11 z0 z1 z2 z3 z4 z5 z6 z7 z8 z9 z10 z11
  obtain ⟨b0, b1, b2, b3, b4, b5, b6, b7, b8, b9, b10, b11⟩ := hS.box; have z0 := hS.fz 0; have z1 := hS.fz 1; have z2 := hS.fz 2; have z3 := hS.fz 3; have z4 := hS.fz 4; have z5 := hS.fz 5; have z6 := hS.fz 6; have z7 := hS.fz 7; have z8 := hS.fz 8; have z9 := hS.fz 9; have z10 := hS.fz 10; have z11 := hS.fz 11; (try dsimp only at b0 b1 b2 b3 b4 b5 b6 b7 b8 b9 b10 b11)
  have HS := Lib.hid hS
  clear hS
  go_upto_if 84 with (go_at_call 46; refine (has_n 64 O1 _ _ (by decide)).mono ?_; rintro e w' ⟨rfl, hw'⟩; obtain rfl := hw'.symm)
  go_cut [] (fun wx => Sd w q r GG wx)
  case first =>
    as_aux_lemma =>
      have v1 := HG.out
      have v2 := HSC.out
      clear HSO HRU HBO HSH HCR HOV HG HSC HGG
      rcases and1 (hdB O1 64) with b | b
      · have e : GG = D := by
          have h0 : gSc O1 = 0 := by simp [gSc, b]
          rw [v1, h0]
          obtain ⟨k0, k1, k2, k3, k4, k5, k6, k7, k8, k9, k10, k11⟩ := D
          dsimp only at v2 ⊢
          rw [v2]
        have E2 := Lib.hid e
        rw [b]
        clear e b v1 v2
        go_wp2
        go_meet
        rw [E2.out]
        exact HS.out
      · have hp1 : (1 : Int) ≤ (O1.length : Nat) := by have := hd_pos b; omega
        have hex := tail_ext O1
        have e : GG = { D with sc := nuN O1.tail } := by
          have h0 : gSc O1 = nuN O1.tail := by simp [gSc, b]
          rw [v1, h0]
        have E2 := Lib.hid e
        rw [b]
        clear e b v1 v2
        go_wp2_with ((fail_if_success (have hzz := hn4)); go_at_call 47; refine (rnumber_any O1.tail g7 _).mono ?_; rintro e w4 ⟨rfl, hn4⟩; (first | have hG4 := HS.out.grow hn4 | have hG4 := HS.out.drew.grow hn4); obtain ⟨b0, b1, b2, b3, b4, b5, b6, b7, b8, b9, b10, b11⟩ := hG4.box; have z0 := hG4.fz 0; have z1 := hG4.fz 1; have z2 := hG4.fz 2; have z3 := hG4.fz 3; have z4 := hG4.fz 4; have z5 := hG4.fz 5; have z6 := hG4.fz 6; have z7 := hG4.fz 7; have z8 := hG4.fz 8; have z9 := hG4.fz 9; have z10 := hG4.fz 10; have z11 := hG4.fz 11; (try dsimp only at b0 b1 b2 b3 b4 b5 b6 b7 b8 b9 b10 b11); have HG4 := Lib.hid hG4; clear hG4)
        go_meet
        rw [E2.out]
        exact HG4.out.setD (j := 11) rfl
  case rest =>
  have hS := hcut
  clear hcut
  clear b0 b1 b2 b3 b4 b5 b6 b7 b8 b9 b10 b11 z0 z1 z2 z3 z4 z5 z6 z7 z8 z9 z10 z11
  clear HSO HRU HBO HSH HCR HOV HG HSC HS
  obtain ⟨b0, b1, b2, b3, b4, b5, b6, b7, b8, b9, b10, b11⟩ := hS.box; have z0 := hS.fz 0; have z1 := hS.fz 1; have z2 := hS.fz 2; have z3 := hS.fz 3; have z4 := hS.fz 4; have z5 := hS.fz 5; have z6 := hS.fz 6; have z7 := hS.fz 7; have z8 := hS.fz 8; have z9 := hS.fz 9; have z10 := hS.fz 10; have z11 := hS.fz 11; (try dsimp only at b0 b1 b2 b3 b4 b5 b6 b7 b8 b9 b10 b11)
  obtain ⟨⟨r0, r1, r2, r3, r4, r5, r6, r7, r8, r9, r10, r11⟩, rz⟩ := zbox_fz hS.rz; have y0 := rz 0; have y1 := rz 1; have y2 := rz 2; have y3 := rz 3; have y4 := rz 4; have y5 := rz 5; have y6 := rz 6; have y7 := rz 7; have y8 := rz 8; have y9 := rz 9; have y10 := rz 10; have y11 := rz 11; clear rz
  have HSF := Lib.hid hS
  clear hS
  go_wp2
  have hB : ((((((((((((wc.setCell ⟨r, 0, none⟩ (.int .u8 GG.ty)).setCell ⟨r, 1, none⟩ (.int .u8 GG.so)).setCell ⟨r, 2, none⟩ (.int .i64 GG.ru)).setCell ⟨r, 3, none⟩ (.int .i64 GG.sh)).setCell ⟨r, 4, none⟩ (.int .i64 GG.bo)).setCell ⟨r, 5, none⟩ (.bool GG.cr)).setCell ⟨r, 6, none⟩ (.int .u8 GG.ho)).setCell ⟨r, 7, none⟩ (.int .i64 GG.vi)).setCell ⟨r, 8, none⟩ (.int .i64 GG.fi)).setCell ⟨r, 9, none⟩ (.int .i64 GG.se)).setCell ⟨r, 10, none⟩ (.bool GG.su)).setCell ⟨r, 11, none⟩ (.int .i64 GG.sc)).heap[r]? = some (.cells (Dl.arr GG) 26 (0, 0)) := set12 wc r _ GG HSF.out.rz
  have hXE : Ext w ((((((((((((wc.setCell ⟨r, 0, none⟩ (.int .u8 GG.ty)).setCell ⟨r, 1, none⟩ (.int .u8 GG.so)).setCell ⟨r, 2, none⟩ (.int .i64 GG.ru)).setCell ⟨r, 3, none⟩ (.int .i64 GG.sh)).setCell ⟨r, 4, none⟩ (.int .i64 GG.bo)).setCell ⟨r, 5, none⟩ (.bool GG.cr)).setCell ⟨r, 6, none⟩ (.int .u8 GG.ho)).setCell ⟨r, 7, none⟩ (.int .i64 GG.vi)).setCell ⟨r, 8, none⟩ (.int .i64 GG.fi)).setCell ⟨r, 9, none⟩ (.int .i64 GG.se)).setCell ⟨r, 10, none⟩ (.bool GG.su)).setCell ⟨r, 11, none⟩ (.int .i64 GG.sc)) := ext12 HSF.out.ext HSF.out.hr GG
  obtain ⟨WX, hWX⟩ : ∃ X, ((((((((((((wc.setCell ⟨r, 0, none⟩ (.int .u8 GG.ty)).setCell ⟨r, 1, none⟩ (.int .u8 GG.so)).setCell ⟨r, 2, none⟩ (.int .i64 GG.ru)).setCell ⟨r, 3, none⟩ (.int .i64 GG.sh)).setCell ⟨r, 4, none⟩ (.int .i64 GG.bo)).setCell ⟨r, 5, none⟩ (.bool GG.cr)).setCell ⟨r, 6, none⟩ (.int .u8 GG.ho)).setCell ⟨r, 7, none⟩ (.int .i64 GG.vi)).setCell ⟨r, 8, none⟩ (.int .i64 GG.fi)).setCell ⟨r, 9, none⟩ (.int .i64 GG.se)).setCell ⟨r, 10, none⟩ (.bool GG.su)).setCell ⟨r, 11, none⟩ (.int .i64 GG.sc)) = X := ⟨_, rfl⟩
  rw [hWX] at hB hXE ⊢
  clear hWX
  clear b0 b1 b2 b3 b4 b5 b6 b7 b8 b9 b10 b11 z0 z1 z2 z3 z4 z5 z6 z7 z8 z9 z10 z11
  clear r0 r1 r2 r3 r4 r5 r6 r7 r8 r9 r10 r11 y0 y1 y2 y3 y4 y5 y6 y7 y8 y9 y10 y11
  obtain ⟨n0, n1, n2, n3, n4, n5, n6, n7, n8, n9, n10, n11⟩ := box_of hB

  refine bodyPost_ret (v := .agg #[.int .u8 GG.ty, .int .u8 GG.so, .int .i64 GG.ru, .int .i64 GG.sh, .int .i64 GG.bo, .bool GG.cr, .int .u8 GG.ho, .int .i64 GG.vi, .int .i64 GG.fi, .int .i64 GG.se, .bool GG.su, .int .i64 GG.sc]) (by simp [results, Tryd.results35, go_sem, n0, n1, n2, n3, n4, n5, n6, n7, n8, n9, n10, n11]) rfl ?_
  exact ⟨by rw [HGG.out]; rfl, hXE⟩

end Go.Proofs.YtpgacpkcchajmaaDoor

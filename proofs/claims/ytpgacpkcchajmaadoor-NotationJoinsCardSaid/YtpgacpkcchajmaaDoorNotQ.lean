/-
  The reference's Parse (layer 7).
-/
import Derived.Test.YtpgacpkcchajmaaDoorNotZ
import Derived.Test.YtpgacpkcchajmaaDoorNotS
namespace Go.Proofs.YtpgacpkcchajmaaDoor
open Go.RowKit
set_option linter.unusedSimpArgs false

theorem sd_of {w w1 : World} (hb : Ext (w.alloc (.cells #[.int .u8 0, .int .u8 0, .int .i64 0, .int .i64 0, .int .i64 0, .bool false, .int .u8 0, .int .i64 0, .int .i64 0, .int .i64 0, .bool false, .int .i64 0] 26)) w1) (d : Dl) : Sd w w1.heap.size w.heap.size d (w1.alloc (.cells #[.int .u8 d.ty, .int .u8 d.so, .int .i64 d.ru, .int .i64 d.sh, .int .i64 d.bo, .bool d.cr, .int .u8 d.ho, .int .i64 d.vi, .int .i64 d.fi, .int .i64 d.se, .bool d.su, .int .i64 d.sc] 26)) := by
  have hs : w.heap.size + 1 ≤ w1.heap.size := by have := hb.size; simpa using this
  exact ⟨(((Ext.refl w).alloc _).trans hb).alloc _, by omega, Nat.le_refl _, by omega, heap_alloc_new w1 _, (Below.heap_alloc _ _ _ (by omega)).trans ((hb.block _ (by simp)).trans (heap_alloc_new w _))⟩

set_option maxRecDepth 20000 in
set_option maxHeartbeats 16000000 in
theorem rparse_any (s : List UInt8) (hl : s.length ≤ 9223372036854775807) (w : World) :
    Calls Tryd.prog 15 #[.string ⟨s.toArray⟩] w fun e w' => e = .returned (.tuple #[(raD s).v, .int .i64 (raE s)]) ∧ Ext w w' := by
  have HWG := gG_wf s
  have HGU0 := fun W => guess_any s hl W
  obtain ⟨G, hG⟩ : ∃ g, gG s = g := ⟨_, rfl⟩
  have HPA : Hid (raD s = (if paB G s then G else zD) ∧ raE s = (if paB G s then 0 else 4)) := by rw [Hid, raD, raE, hG]; exact ⟨rfl, rfl⟩
  rw [hG] at HWG
  have HGU : Hid (∀ W, Calls Tryd.prog 35 #[.string ⟨s.toArray⟩] W fun e w' => e = .returned G.v ∧ Ext W w') := fun W => by rw [← hG]; exact HGU0 W
  clear HGU0 hG
  have PR := fun (T : List UInt8) (E : Int) (h1 : prS G = T) (h2 : ckD G = E) => (show Hid (∀ W, Calls Tryd.prog 11 #[G.v] W fun e w' => e = .returned (.tuple #[.string ⟨T.toArray⟩, .int .i64 E]) ∧ Ext W w') from fun W => by rw [← h1, ← h2]; exact rprint_any G HWG W)
  obtain ⟨E, hE⟩ : ∃ E, ckD G = E := ⟨_, rfl⟩
  obtain ⟨T, hT⟩ : ∃ T, prS G = T := ⟨_, rfl⟩
  have HPR := PR T E hT hE
  clear PR
  unfold Dl.v at HPR HGU
  have hb : paB G s = (decide (E = 0) && decide (T = s)) := by
    unfold paB
    rw [hE]
    by_cases h0 : E = 0
    · have : T = symD G := by rw [← hT, prS, if_pos (hE.trans h0)]
      rw [this]
    · simp [h0]
  clear hE hT HWG
  by_cases hE0' : E = 0
  · subst hE0'
    by_cases hTs : T = s
    · subst hTs
      have HV : Hid (raD T = G ∧ raE T = 0) := by rw [Hid, HPA.out.1, HPA.out.2, hb]; simp
      clear hb HPA
      go_enter Tryd.func15, Tryd.ntmps15
      go_wp2_with (first | ((fail_if_success (have hzz := hb1)); go_at_call 35; refine (HGU.out _).mono ?_; rintro e w1 ⟨rfl, hb1⟩) | (go_at_call 11; refine (HPR.out _).mono ?_; rintro e w2 ⟨rfl, hb2⟩; have hS := (sd_of hb1 G).grow hb2; have hqr := hS.ne; have hrq := fun e => hqr (Eq.symm e); obtain ⟨b0, b1, b2, b3, b4, b5, b6, b7, b8, b9, b10, b11⟩ := hS.box; have z0 := hS.fz 0; have z1 := hS.fz 1; have z2 := hS.fz 2; have z3 := hS.fz 3; have z4 := hS.fz 4; have z5 := hS.fz 5; have z6 := hS.fz 6; have z7 := hS.fz 7; have z8 := hS.fz 8; have z9 := hS.fz 9; have z10 := hS.fz 10; have z11 := hS.fz 11; (try dsimp only at b0 b1 b2 b3 b4 b5 b6 b7 b8 b9 b10 b11); obtain ⟨⟨r0, r1, r2, r3, r4, r5, r6, r7, r8, r9, r10, r11⟩, rz⟩ := zbox_fz hS.rz; have y0 := rz 0; have y1 := rz 1; have y2 := rz 2; have y3 := rz 3; have y4 := rz 4; have y5 := rz 5; have y6 := rz 6; have y7 := rz 7; have y8 := rz 8; have y9 := rz 9; have y10 := rz 10; have y11 := rz 11; clear rz; have HS := Lib.hid hS; clear hS))
      have hB : ((((((((((((w2.setCell ⟨w.heap.size, 0, none⟩ (.int .u8 G.ty)).setCell ⟨w.heap.size, 1, none⟩ (.int .u8 G.so)).setCell ⟨w.heap.size, 2, none⟩ (.int .i64 G.ru)).setCell ⟨w.heap.size, 3, none⟩ (.int .i64 G.sh)).setCell ⟨w.heap.size, 4, none⟩ (.int .i64 G.bo)).setCell ⟨w.heap.size, 5, none⟩ (.bool G.cr)).setCell ⟨w.heap.size, 6, none⟩ (.int .u8 G.ho)).setCell ⟨w.heap.size, 7, none⟩ (.int .i64 G.vi)).setCell ⟨w.heap.size, 8, none⟩ (.int .i64 G.fi)).setCell ⟨w.heap.size, 9, none⟩ (.int .i64 G.se)).setCell ⟨w.heap.size, 10, none⟩ (.bool G.su)).setCell ⟨w.heap.size, 11, none⟩ (.int .i64 G.sc)).heap[w.heap.size]? = some (.cells (Dl.arr G) 26 (0, 0)) := set12 w2 w.heap.size _ G HS.out.rz
      have hXE : Ext w ((((((((((((w2.setCell ⟨w.heap.size, 0, none⟩ (.int .u8 G.ty)).setCell ⟨w.heap.size, 1, none⟩ (.int .u8 G.so)).setCell ⟨w.heap.size, 2, none⟩ (.int .i64 G.ru)).setCell ⟨w.heap.size, 3, none⟩ (.int .i64 G.sh)).setCell ⟨w.heap.size, 4, none⟩ (.int .i64 G.bo)).setCell ⟨w.heap.size, 5, none⟩ (.bool G.cr)).setCell ⟨w.heap.size, 6, none⟩ (.int .u8 G.ho)).setCell ⟨w.heap.size, 7, none⟩ (.int .i64 G.vi)).setCell ⟨w.heap.size, 8, none⟩ (.int .i64 G.fi)).setCell ⟨w.heap.size, 9, none⟩ (.int .i64 G.se)).setCell ⟨w.heap.size, 10, none⟩ (.bool G.su)).setCell ⟨w.heap.size, 11, none⟩ (.int .i64 G.sc)) := ext12 HS.out.ext HS.out.hr G
      obtain ⟨WX, hWX⟩ : ∃ X, ((((((((((((w2.setCell ⟨w.heap.size, 0, none⟩ (.int .u8 G.ty)).setCell ⟨w.heap.size, 1, none⟩ (.int .u8 G.so)).setCell ⟨w.heap.size, 2, none⟩ (.int .i64 G.ru)).setCell ⟨w.heap.size, 3, none⟩ (.int .i64 G.sh)).setCell ⟨w.heap.size, 4, none⟩ (.int .i64 G.bo)).setCell ⟨w.heap.size, 5, none⟩ (.bool G.cr)).setCell ⟨w.heap.size, 6, none⟩ (.int .u8 G.ho)).setCell ⟨w.heap.size, 7, none⟩ (.int .i64 G.vi)).setCell ⟨w.heap.size, 8, none⟩ (.int .i64 G.fi)).setCell ⟨w.heap.size, 9, none⟩ (.int .i64 G.se)).setCell ⟨w.heap.size, 10, none⟩ (.bool G.su)).setCell ⟨w.heap.size, 11, none⟩ (.int .i64 G.sc)) = X := ⟨_, rfl⟩
      rw [hWX] at hB hXE ⊢
      clear hWX
      clear b0 b1 b2 b3 b4 b5 b6 b7 b8 b9 b10 b11 z0 z1 z2 z3 z4 z5 z6 z7 z8 z9 z10 z11
      clear r0 r1 r2 r3 r4 r5 r6 r7 r8 r9 r10 r11 y0 y1 y2 y3 y4 y5 y6 y7 y8 y9 y10 y11
      obtain ⟨n0, n1, n2, n3, n4, n5, n6, n7, n8, n9, n10, n11⟩ := box_of hB
      refine bodyPost_ret (v := .tuple #[.agg #[.int .u8 G.ty, .int .u8 G.so, .int .i64 G.ru, .int .i64 G.sh, .int .i64 G.bo, .bool G.cr, .int .u8 G.ho, .int .i64 G.vi, .int .i64 G.fi, .int .i64 G.se, .bool G.su, .int .i64 G.sc], .int .i64 0]) (by simp [results, Tryd.results15, go_sem, n0, n1, n2, n3, n4, n5, n6, n7, n8, n9, n10, n11]) rfl ?_
      exact ⟨by rw [HV.out.1, HV.out.2]; rfl, hXE⟩
    · have HV : Hid (raD s = zD ∧ raE s = 4) := by rw [Hid, HPA.out.1, HPA.out.2, hb]; simp [hTs]
      have t1 : (T == s) = false := by simpa using hTs
      have t2 : (T != s) = true := by simp only [bne, t1, Bool.not_false]
      clear hb HPA hTs
      go_enter Tryd.func15, Tryd.ntmps15
      go_wp2_with (first | ((fail_if_success (have hzz := hb1)); go_at_call 35; refine (HGU.out _).mono ?_; rintro e w1 ⟨rfl, hb1⟩) | (go_at_call 11; refine (HPR.out _).mono ?_; rintro e w2 ⟨rfl, hb2⟩; have hS := (sd_of hb1 G).grow hb2; have hqr := hS.ne; have hrq := fun e => hqr (Eq.symm e); obtain ⟨b0, b1, b2, b3, b4, b5, b6, b7, b8, b9, b10, b11⟩ := hS.box; have z0 := hS.fz 0; have z1 := hS.fz 1; have z2 := hS.fz 2; have z3 := hS.fz 3; have z4 := hS.fz 4; have z5 := hS.fz 5; have z6 := hS.fz 6; have z7 := hS.fz 7; have z8 := hS.fz 8; have z9 := hS.fz 9; have z10 := hS.fz 10; have z11 := hS.fz 11; (try dsimp only at b0 b1 b2 b3 b4 b5 b6 b7 b8 b9 b10 b11); obtain ⟨⟨r0, r1, r2, r3, r4, r5, r6, r7, r8, r9, r10, r11⟩, rz⟩ := zbox_fz hS.rz; have y0 := rz 0; have y1 := rz 1; have y2 := rz 2; have y3 := rz 3; have y4 := rz 4; have y5 := rz 5; have y6 := rz 6; have y7 := rz 7; have y8 := rz 8; have y9 := rz 9; have y10 := rz 10; have y11 := rz 11; clear rz; have HS := Lib.hid hS; clear hS))
      have hB : ((((((((((((w2.setCell ⟨w.heap.size, 0, none⟩ (.int .u8 0)).setCell ⟨w.heap.size, 1, none⟩ (.int .u8 0)).setCell ⟨w.heap.size, 2, none⟩ (.int .i64 0)).setCell ⟨w.heap.size, 3, none⟩ (.int .i64 0)).setCell ⟨w.heap.size, 4, none⟩ (.int .i64 0)).setCell ⟨w.heap.size, 5, none⟩ (.bool false)).setCell ⟨w.heap.size, 6, none⟩ (.int .u8 0)).setCell ⟨w.heap.size, 7, none⟩ (.int .i64 0)).setCell ⟨w.heap.size, 8, none⟩ (.int .i64 0)).setCell ⟨w.heap.size, 9, none⟩ (.int .i64 0)).setCell ⟨w.heap.size, 10, none⟩ (.bool false)).setCell ⟨w.heap.size, 11, none⟩ (.int .i64 0)).heap[w.heap.size]? = some (.cells (Dl.arr zD) 26 (0, 0)) := set12 w2 w.heap.size _ zD HS.out.rz
      have hXE : Ext w ((((((((((((w2.setCell ⟨w.heap.size, 0, none⟩ (.int .u8 0)).setCell ⟨w.heap.size, 1, none⟩ (.int .u8 0)).setCell ⟨w.heap.size, 2, none⟩ (.int .i64 0)).setCell ⟨w.heap.size, 3, none⟩ (.int .i64 0)).setCell ⟨w.heap.size, 4, none⟩ (.int .i64 0)).setCell ⟨w.heap.size, 5, none⟩ (.bool false)).setCell ⟨w.heap.size, 6, none⟩ (.int .u8 0)).setCell ⟨w.heap.size, 7, none⟩ (.int .i64 0)).setCell ⟨w.heap.size, 8, none⟩ (.int .i64 0)).setCell ⟨w.heap.size, 9, none⟩ (.int .i64 0)).setCell ⟨w.heap.size, 10, none⟩ (.bool false)).setCell ⟨w.heap.size, 11, none⟩ (.int .i64 0)) := ext12 HS.out.ext HS.out.hr zD
      obtain ⟨WX, hWX⟩ : ∃ X, ((((((((((((w2.setCell ⟨w.heap.size, 0, none⟩ (.int .u8 0)).setCell ⟨w.heap.size, 1, none⟩ (.int .u8 0)).setCell ⟨w.heap.size, 2, none⟩ (.int .i64 0)).setCell ⟨w.heap.size, 3, none⟩ (.int .i64 0)).setCell ⟨w.heap.size, 4, none⟩ (.int .i64 0)).setCell ⟨w.heap.size, 5, none⟩ (.bool false)).setCell ⟨w.heap.size, 6, none⟩ (.int .u8 0)).setCell ⟨w.heap.size, 7, none⟩ (.int .i64 0)).setCell ⟨w.heap.size, 8, none⟩ (.int .i64 0)).setCell ⟨w.heap.size, 9, none⟩ (.int .i64 0)).setCell ⟨w.heap.size, 10, none⟩ (.bool false)).setCell ⟨w.heap.size, 11, none⟩ (.int .i64 0)) = X := ⟨_, rfl⟩
      rw [hWX] at hB hXE ⊢
      clear hWX
      clear b0 b1 b2 b3 b4 b5 b6 b7 b8 b9 b10 b11 z0 z1 z2 z3 z4 z5 z6 z7 z8 z9 z10 z11
      clear r0 r1 r2 r3 r4 r5 r6 r7 r8 r9 r10 r11 y0 y1 y2 y3 y4 y5 y6 y7 y8 y9 y10 y11
      obtain ⟨n0, n1, n2, n3, n4, n5, n6, n7, n8, n9, n10, n11⟩ := box_of hB
      refine bodyPost_ret (v := .tuple #[.agg #[.int .u8 0, .int .u8 0, .int .i64 0, .int .i64 0, .int .i64 0, .bool false, .int .u8 0, .int .i64 0, .int .i64 0, .int .i64 0, .bool false, .int .i64 0], .int .i64 4]) (by simp [results, Tryd.results15, go_sem, n0, n1, n2, n3, n4, n5, n6, n7, n8, n9, n10, n11, zD]) rfl ?_
      exact ⟨by rw [HV.out.1, HV.out.2]; rfl, hXE⟩
  · have HV : Hid (raD s = zD ∧ raE s = 4) := by rw [Hid, HPA.out.1, HPA.out.2, hb]; simp [hE0']
    have t1 : (E == 0) = false := by simpa using hE0'
    have t2 : (E != 0) = true := by simpa using hE0'
    clear hb HPA hE0'
    go_enter Tryd.func15, Tryd.ntmps15
    go_wp2_with (first | ((fail_if_success (have hzz := hb1)); go_at_call 35; refine (HGU.out _).mono ?_; rintro e w1 ⟨rfl, hb1⟩) | (go_at_call 11; refine (HPR.out _).mono ?_; rintro e w2 ⟨rfl, hb2⟩; have hS := (sd_of hb1 G).grow hb2; have hqr := hS.ne; have hrq := fun e => hqr (Eq.symm e); obtain ⟨b0, b1, b2, b3, b4, b5, b6, b7, b8, b9, b10, b11⟩ := hS.box; have z0 := hS.fz 0; have z1 := hS.fz 1; have z2 := hS.fz 2; have z3 := hS.fz 3; have z4 := hS.fz 4; have z5 := hS.fz 5; have z6 := hS.fz 6; have z7 := hS.fz 7; have z8 := hS.fz 8; have z9 := hS.fz 9; have z10 := hS.fz 10; have z11 := hS.fz 11; (try dsimp only at b0 b1 b2 b3 b4 b5 b6 b7 b8 b9 b10 b11); obtain ⟨⟨r0, r1, r2, r3, r4, r5, r6, r7, r8, r9, r10, r11⟩, rz⟩ := zbox_fz hS.rz; have y0 := rz 0; have y1 := rz 1; have y2 := rz 2; have y3 := rz 3; have y4 := rz 4; have y5 := rz 5; have y6 := rz 6; have y7 := rz 7; have y8 := rz 8; have y9 := rz 9; have y10 := rz 10; have y11 := rz 11; clear rz; have HS := Lib.hid hS; clear hS))
    have hB : ((((((((((((w2.setCell ⟨w.heap.size, 0, none⟩ (.int .u8 0)).setCell ⟨w.heap.size, 1, none⟩ (.int .u8 0)).setCell ⟨w.heap.size, 2, none⟩ (.int .i64 0)).setCell ⟨w.heap.size, 3, none⟩ (.int .i64 0)).setCell ⟨w.heap.size, 4, none⟩ (.int .i64 0)).setCell ⟨w.heap.size, 5, none⟩ (.bool false)).setCell ⟨w.heap.size, 6, none⟩ (.int .u8 0)).setCell ⟨w.heap.size, 7, none⟩ (.int .i64 0)).setCell ⟨w.heap.size, 8, none⟩ (.int .i64 0)).setCell ⟨w.heap.size, 9, none⟩ (.int .i64 0)).setCell ⟨w.heap.size, 10, none⟩ (.bool false)).setCell ⟨w.heap.size, 11, none⟩ (.int .i64 0)).heap[w.heap.size]? = some (.cells (Dl.arr zD) 26 (0, 0)) := set12 w2 w.heap.size _ zD HS.out.rz
    have hXE : Ext w ((((((((((((w2.setCell ⟨w.heap.size, 0, none⟩ (.int .u8 0)).setCell ⟨w.heap.size, 1, none⟩ (.int .u8 0)).setCell ⟨w.heap.size, 2, none⟩ (.int .i64 0)).setCell ⟨w.heap.size, 3, none⟩ (.int .i64 0)).setCell ⟨w.heap.size, 4, none⟩ (.int .i64 0)).setCell ⟨w.heap.size, 5, none⟩ (.bool false)).setCell ⟨w.heap.size, 6, none⟩ (.int .u8 0)).setCell ⟨w.heap.size, 7, none⟩ (.int .i64 0)).setCell ⟨w.heap.size, 8, none⟩ (.int .i64 0)).setCell ⟨w.heap.size, 9, none⟩ (.int .i64 0)).setCell ⟨w.heap.size, 10, none⟩ (.bool false)).setCell ⟨w.heap.size, 11, none⟩ (.int .i64 0)) := ext12 HS.out.ext HS.out.hr zD
    obtain ⟨WX, hWX⟩ : ∃ X, ((((((((((((w2.setCell ⟨w.heap.size, 0, none⟩ (.int .u8 0)).setCell ⟨w.heap.size, 1, none⟩ (.int .u8 0)).setCell ⟨w.heap.size, 2, none⟩ (.int .i64 0)).setCell ⟨w.heap.size, 3, none⟩ (.int .i64 0)).setCell ⟨w.heap.size, 4, none⟩ (.int .i64 0)).setCell ⟨w.heap.size, 5, none⟩ (.bool false)).setCell ⟨w.heap.size, 6, none⟩ (.int .u8 0)).setCell ⟨w.heap.size, 7, none⟩ (.int .i64 0)).setCell ⟨w.heap.size, 8, none⟩ (.int .i64 0)).setCell ⟨w.heap.size, 9, none⟩ (.int .i64 0)).setCell ⟨w.heap.size, 10, none⟩ (.bool false)).setCell ⟨w.heap.size, 11, none⟩ (.int .i64 0)) = X := ⟨_, rfl⟩
    rw [hWX] at hB hXE ⊢
    clear hWX
    clear b0 b1 b2 b3 b4 b5 b6 b7 b8 b9 b10 b11 z0 z1 z2 z3 z4 z5 z6 z7 z8 z9 z10 z11
    clear r0 r1 r2 r3 r4 r5 r6 r7 r8 r9 r10 r11 y0 y1 y2 y3 y4 y5 y6 y7 y8 y9 y10 y11
    obtain ⟨n0, n1, n2, n3, n4, n5, n6, n7, n8, n9, n10, n11⟩ := box_of hB
    refine bodyPost_ret (v := .tuple #[.agg #[.int .u8 0, .int .u8 0, .int .i64 0, .int .i64 0, .int .i64 0, .bool false, .int .u8 0, .int .i64 0, .int .i64 0, .int .i64 0, .bool false, .int .i64 0], .int .i64 4]) (by simp [results, Tryd.results15, go_sem, n0, n1, n2, n3, n4, n5, n6, n7, n8, n9, n10, n11, zD]) rfl ?_
    exact ⟨by rw [HV.out.1, HV.out.2]; rfl, hXE⟩

end Go.Proofs.YtpgacpkcchajmaaDoor

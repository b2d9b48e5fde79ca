/-
  The law CameraParses, walked.
-/
import Derived.Test.YtaeblcgblmipaaaDoorCamT
import Derived.Test.YtaeblcgblmipaaaDoorCamG
namespace Go.Proofs.YtaeblcgblmipaaaDoor
open Go.RowKit
set_option linter.unusedSimpArgs false

set_option maxHeartbeats 16000000 in
theorem cameraParses_list (L : List UInt8) (w : World) (hX : DX w) :
    Calls Tryd.prog 9 #[.string ⟨L.toArray⟩] w fun e w' => e = .returned (.bool true) ∧ Ext w w' := by
  have HX := Lib.hid hX
  clear hX
  by_cases hbig : 3000 < L.length
  · have hbig' : (3000 : Int) < (L.length : Int) := by omega
    go_enter Tryd.func9, Tryd.ntmps9
    go_wp2_with (first | ((fail_if_success (have hzz := hb1)); go_at_call 10; refine (awake_any _ HX.out.tab).mono ?_; rintro e w1 ⟨rfl, hb1⟩))
    go_ret
    exact ⟨rfl, hb1⟩
  have hbig' : ¬ ((3000 : Int) < (L.length : Int)) := by omega
  by_cases hT : ∃ n F, IsT L n F
  · obtain ⟨n, F, hI⟩ := hT
    have HIT := Lib.hid hI
    have hwf : SWf n F := fun i j hi hj => by
      have := seen_bd hI.1 hi hj
      omega
    have HPG : Hid (∀ w, DX w → Calls Tryd.prog 24 #[.string ⟨L.toArray⟩] w fun e w' => ∃ v g, e = .returned (.tuple #[v, .int .i64 0]) ∧ Ext w w' ∧ SeenV w' v n F g 0) := fun w hd => by
      have := parse_good n F w hd hI.1 hwf
      rwa [hI.2] at this
    clear hI hwf
    go_enter Tryd.func9, Tryd.ntmps9
    go_wp2_with (first | ((fail_if_success (have hzz := hb1)); go_at_call 10; refine (awake_any _ HX.out.tab).mono ?_; rintro e w1 ⟨rfl, hb1⟩) | ((fail_if_success (have hzz := hb2)); go_at_call 24; refine (HPG.out _ (HX.out.ext (by repeat (first | exact Ext.refl _ | refine Ext.setCell ?_ (by first | exact Nat.le_refl _ | (simp; done) | (simp; omega)) _ | refine Ext.drew ?_ | refine Ext.drewN ?_ _ | refine Ext.alloc ?_ _ | refine Ext.trans ?_ hb1)))).mono ?_; rintro e w2 hr2; obtain ⟨v2, g2, rfl, hb2, hS2⟩ := hr2; obtain ⟨A2, C2, rfl, T2, hC2, hA2⟩ := hS2.ex) | ((fail_if_success (have hzz := hb3)); go_at_call 25; refine (rparse_any L (by omega) _).mono ?_; rintro e w3 ⟨hb3, hr3⟩; rcases hr3 with ⟨_, hr3⟩ | ⟨v3, g3, j3, f3, rfl, hS3, hI3, hr3⟩; (exact absurd HIT.out.2 (hr3 n F HIT.out.1)); obtain ⟨rfl, hag⟩ := hr3 n F HIT.out; obtain ⟨A3, C3, rfl, T3, hC3, hA3⟩ := hS3.ex; have T3' := T3.congr hag; clear T3 hag) | ((fail_if_success (have hzz := hb4)); go_at_call 15; refine (same_any _ _ _ _ _ _ _ _ _ _ _ (T2.ext (by repeat (first | exact Ext.refl _ | refine Ext.setCell ?_ (by first | exact Nat.le_refl _ | (simp; done) | (simp; omega)) _ | refine Ext.drew ?_ | refine Ext.drewN ?_ _ | refine Ext.alloc ?_ _ | refine Ext.trans ?_ hb3 | refine Ext.trans ?_ hb2 | refine Ext.trans ?_ hb1))) (T3'.ext (by repeat (first | exact Ext.refl _ | refine Ext.setCell ?_ (by first | exact Nat.le_refl _ | (simp; done) | (simp; omega)) _ | refine Ext.drew ?_ | refine Ext.drewN ?_ _ | refine Ext.alloc ?_ _ | refine Ext.trans ?_ hb3 | refine Ext.trans ?_ hb2 | refine Ext.trans ?_ hb1)))).mono ?_; rintro e w4 ⟨rfl, hb4⟩))
    go_ret
    exact ⟨retb (by first | rfl | simp), (by repeat (first | exact Ext.refl _ | refine Ext.setCell ?_ (by first | exact Nat.le_refl _ | (simp; done) | (simp; omega)) _ | refine Ext.drew ?_ | refine Ext.drewN ?_ _ | refine Ext.alloc ?_ _ | refine Ext.trans ?_ hb4 | refine Ext.trans ?_ hb3 | refine Ext.trans ?_ hb2 | refine Ext.trans ?_ hb1))⟩
  · have HB : Hid (BadT L) := fun n F h1 h2 => hT ⟨n, F, h1, h2⟩
    clear hT
    go_enter Tryd.func9, Tryd.ntmps9
    go_wp2_with (first | ((fail_if_success (have hzz := hb1)); go_at_call 10; refine (awake_any _ HX.out.tab).mono ?_; rintro e w1 ⟨rfl, hb1⟩) | ((fail_if_success (have hzz := hb2)); go_at_call 24; refine (parse_bad L (by omega) HB.out _ (HX.out.ext (by repeat (first | exact Ext.refl _ | refine Ext.setCell ?_ (by first | exact Nat.le_refl _ | (simp; done) | (simp; omega)) _ | refine Ext.drew ?_ | refine Ext.drewN ?_ _ | refine Ext.alloc ?_ _ | refine Ext.trans ?_ hb1)))).mono ?_; rintro e w2 ⟨rfl, hb2⟩) | ((fail_if_success (have hzz := hb3)); go_at_call 25; refine (rparse_any L (by omega) _).mono ?_; rintro e w3 ⟨hb3, hr3⟩; rcases hr3 with ⟨rfl, _⟩ | ⟨v3, g3, j3, f3, rfl, hS3, hI3, hr3⟩; rotate_left; (exact absurd hI3.2 (HB.out _ _ hI3.1))) | ((fail_if_success (have hzz := hb4)); go_at_call 15; refine (same_any none none 0 0 0 (fun _ _ => 0) 0 0 0 0 _ (seenAt_nil _ _ _ _ _) (seenAt_nil _ _ _ _ _)).mono ?_; rintro e w4 ⟨rfl, hb4⟩))
    go_ret
    exact ⟨retb (by first | rfl | simp), (by repeat (first | exact Ext.refl _ | refine Ext.setCell ?_ (by first | exact Nat.le_refl _ | (simp; done) | (simp; omega)) _ | refine Ext.drew ?_ | refine Ext.drewN ?_ _ | refine Ext.alloc ?_ _ | refine Ext.trans ?_ hb4 | refine Ext.trans ?_ hb3 | refine Ext.trans ?_ hb2 | refine Ext.trans ?_ hb1))⟩
theorem cameraParses_any (s : ByteArray) (w : World) (hX : DX w) : Calls Tryd.prog 9 #[.string s] w fun e w' => e = .returned (.bool true) ∧ Ext w w' := by
  obtain ⟨⟨L⟩⟩ := s
  exact cameraParses_list L w hX

end Go.Proofs.YtaeblcgblmipaaaDoor

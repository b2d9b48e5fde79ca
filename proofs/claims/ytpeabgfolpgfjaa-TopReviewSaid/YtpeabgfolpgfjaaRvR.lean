/-
  The state before the batters come in.
-/
import Derived.Test.YtpeabgfolpgfjaaRvQ
namespace Go.Proofs.Ytpeabgfolpgfjaa
open Go.RowKit Go.Lib
set_option linter.unusedSimpArgs false

theorem wp_make3 {w : World} {o : Oper} {a : Act} {K : Act → World → Prop} {Q : Exit → Act → World → Prop} (l : Operand) (t e : TypeId) (z : Value) (bs : Nat) (hop : o.op = .makeSlice t l l) (h1 : Try.prog.underlying t = some (.slice e))
    (hi : (Try.prog.info? e).map (fun i => (i.zero, i.size, i.bytes)) = some (some z, 1, bs)) (hzc : z.cells = #[z]) (hb : bs ≤ 8) (hl : a.eval l = .int .i64 3) (base : Nat) (b4 : base ≤ w.heap.size)
    (hK : ∀ w' g cap, w'.ownsRow base e 1 (.slice (some ⟨g, 0, none⟩) 3 cap) 3 [z, z, z] → w.grownBy w' none → K (a.put o.dst (.slice (some ⟨g, 0, none⟩) 3 cap)) w') : o.wp Try.prog a w K Q := by
  obtain ⟨i, h2, h3, h4, h5⟩ := info_parts hi
  obtain ⟨w', hrun, r1, r2⟩ := run_make_full (P := Try.prog) w base t e i z 1 h1 h2 h3 h4 .i64 .i64 3 (by rw [h5]; omega) (by decide) b4
  unfold Oper.wp
  have h63 : ((3 : Nat) : Int) = 3 := rfl
  simp only [h63] at hrun
  simp [execOp, hop, hl, hrun, Result.andThen]
  have hm : (madeCells #[z] (3 * 1)).toList = [z, z, z] := by simp [madeCells, List.range_succ]
  rw [hzc, hm] at r1
  exact hK w' _ _ r1 r2
def I0 : In := ⟨0, 0, 0, 0, 0, false, 0, 0, 0, 0, [.int .u8 0, .int .u8 0, .int .u8 0], [], [], [.int .i64 0, .int .i64 0, .int .i64 0], [.bool false, .bool false, .bool false]⟩
set_option maxRecDepth 20000 in
set_option maxHeartbeats 8000000 in
theorem begin_any (w : World) (n : Int) (hn : 0 ≤ n ∧ n ≤ 9) : Calls Try.prog 11 #[.agg (rvC n), .int .i64 1, .int .i64 0, .int .i64 0] w fun e w' => ∃ k0 k1 k2 k3 k4, e = .returned (.tuple #[.agg (inC I0 k0 k1 k2 k3 k4), .int .i64 0]) ∧ InOwn w.heap.size w' I0 k0 k1 k2 k3 k4 ∧ Ext w w' := by
  have HN := Lib.hid hn
  have ew0 : IntKind.i64.wrap 0 = 0 := by decide
  clear hn
  go_enter Try.func11, Try.ntmps11
  go_upto_region 1 with fail
  obtain ⟨w0, hw0⟩ : ∃ W, W = ((w.alloc (.cells (rvC n) 25)).alloc (.cells #[.int .i64 0, .int .i64 0, .int .i64 0, .int .i64 0, .int .i64 0, .int .i64 0, .int .i64 0, .int .i64 0, .int .i64 0, .int .i64 0, .int .i64 0, .int .i64 0, .int .i64 0, .int .i64 0, .slice none 0 0, .int .i64 0, .slice none 0 0, .slice none 0 0, .bool false, .slice none 0 0, .bool false, .int .i64 0, .int .i64 0, .int .i64 0, .slice none 0 0, .int .i64 0, .int .i64 0, .int .u8 0] 34)) := ⟨_, rfl⟩
  have HX := Lib.hid (show Ext w w0 by rw [hw0]; exact (by repeat (first | exact Ext.refl _ | refine Ext.drew ?_ | refine Ext.drewN ?_ _ | refine Ext.alloc ?_ _)))
  have HB0 := Lib.hid (show BoxR w0 (w.heap.size) n by rw [hw0]; exact (BoxR.ext (show BoxR _ (w.heap.size) n from (by have := boxR_new w n; simpa using this)) (by repeat (first | exact Ext.refl _ | refine Ext.drew ?_ | refine Ext.drewN ?_ _ | refine Ext.alloc ?_ _))))
  have HB1 := Lib.hid (show BoxZ w0 (w.heap.size + 1)  by rw [hw0]; exact (BoxZ.ext (show BoxZ _ (w.heap.size + 1)  from (by have := boxZ_new (w.alloc (.cells (rvC n) 25)) ; simpa using this)) (by repeat (first | exact Ext.refl _ | refine Ext.drew ?_ | refine Ext.drewN ?_ _ | refine Ext.alloc ?_ _))))
  have lw0 : w.heap.size < w0.heap.size := HB0.out.lt
  have lw1 : w.heap.size + 1 < w0.heap.size := HB1.out.lt
  have c0_1 := HB0.out.c1
  have c0_3 := HB0.out.c3
  rw [← hw0]
  clear hw0
  go_upto_region 6 with (first | (with_reducible refine at_list ?_; first | go_skip | refine HB0.out.step (by first | rfl | kernel_rfl) rfl rfl ?_) | ((fail_if_success (have hzz := hk1)); go_at_call 21; refine (rvchk n HN.out _).mono ?_; rintro e w1 ⟨rfl, hb⟩; (have hx : Ext w0 w1 := Ext.trans (by repeat (first | exact Ext.refl _ | refine Ext.drew ?_ | refine Ext.drewN ?_ _ | refine Ext.alloc ?_ _)) hb); (replace HX := Lib.hid (HX.out.trans hx)); (replace HB0 := Lib.hid (HB0.out.ext hx)); (replace HB1 := Lib.hid (HB1.out.ext hx)); (have lw0 : w.heap.size < w1.heap.size := HB0.out.lt); (have lw1 : w.heap.size + 1 < w1.heap.size := HB1.out.lt); (replace c0_1 := HB0.out.c1); (replace c0_3 := HB0.out.c3); (have hk1 : True := trivial); (clear hx hb)) | (go_at_call 22; refine (ibet_yes _ _ _ _ (by omega)).mono ?_; rintro e w' ⟨rfl, hww⟩; replace hww := hww.symm; subst hww))
  refine wp_region_held_drew (S := (fun w' => w'.cell? ⟨w.heap.size, 1, none⟩ = some (.int .i64 3) ∧ w'.cell? ⟨w.heap.size, 3, none⟩ = some (.int .i64 0))) (by kernel_rfl) (by first | exact ⟨c0_1, c0_3⟩ | (simp [go_sem, *]; done)) (fun hHeld => ?_)
  refine wpAnyH_take (i := 0) (v := ?v1) rfl (by kernel_rfl) (by kernel_rfl) (by kernel_rfl) (fun _ _ _ h => h) (Or.inl ⟨by rfl, ?y1⟩) (by assumption) ?r1
  case y1 => ((intro w hSw; (try dsimp only at hSw); go_simp; (first | done | with_reducible rfl)))
  (try simp only [List.getElem_toArray, List.getElem_cons_succ, List.getElem_cons_zero, Act.put, List.setIfInBounds_toArray, List.set_cons_zero, List.set_cons_succ])
  refine wpAnyH_take (i := 1) (v := ?v2) rfl (by kernel_rfl) (by kernel_rfl) (by kernel_rfl) (fun _ _ _ h => h) (Or.inl ⟨by rfl, ?y2⟩) (by assumption) ?r2
  case y2 => ((intro w hSw; (try dsimp only at hSw); go_simp; (first | done | with_reducible rfl)))
  (try simp only [List.getElem_toArray, List.getElem_cons_succ, List.getElem_cons_zero, Act.put, List.setIfInBounds_toArray, List.set_cons_zero, List.set_cons_succ])
  refine wpAnyH_take (i := 2) (v := ?v3) rfl (by kernel_rfl) (by kernel_rfl) (by kernel_rfl) (fun _ _ _ h => h) (Or.inl ⟨by rfl, ?y3⟩) (by assumption) ?r3
  case y3 => ((intro w hSw; (try dsimp only at hSw); go_simp; (first | done | with_reducible rfl)))
  (try simp only [List.getElem_toArray, List.getElem_cons_succ, List.getElem_cons_zero, Act.put, List.setIfInBounds_toArray, List.set_cons_zero, List.set_cons_succ])
  refine wpAnyH_take (i := 3) (v := ?v4) rfl (by kernel_rfl) (by kernel_rfl) (by kernel_rfl) (fun _ _ _ h => h) (Or.inl ⟨by rfl, ?y4⟩) (by assumption) ?r4
  case y4 => ((intro w hSw; (try dsimp only at hSw); go_simp; (first | done | with_reducible rfl)))
  (try simp only [List.getElem_toArray, List.getElem_cons_succ, List.getElem_cons_zero, Act.put, List.setIfInBounds_toArray, List.set_cons_zero, List.set_cons_succ])
  refine wpAnyH_take (i := 4) (v := ?v5) rfl (by kernel_rfl) (by kernel_rfl) (by kernel_rfl) (fun _ _ _ h => h) (Or.inl ⟨by rfl, ?y5⟩) (by assumption) ?r5
  case y5 => ((intro w hSw; (try dsimp only at hSw); go_simp; (first | done | with_reducible rfl)))
  (try simp only [List.getElem_toArray, List.getElem_cons_succ, List.getElem_cons_zero, Act.put, List.setIfInBounds_toArray, List.set_cons_zero, List.set_cons_succ])
  refine wpAnyH_take (i := 5) (v := ?v6) rfl (by kernel_rfl) (by kernel_rfl) (by kernel_rfl) (fun _ _ _ h => h) (Or.inl ⟨by rfl, ?y6⟩) (by assumption) ?r6
  case y6 => ((intro w hSw; (try dsimp only at hSw); go_simp; (first | done | with_reducible rfl)))
  (try simp only [List.getElem_toArray, List.getElem_cons_succ, List.getElem_cons_zero, Act.put, List.setIfInBounds_toArray, List.set_cons_zero, List.set_cons_succ])
  refine wpAnyH_take (i := 6) (v := ?v7) rfl (by kernel_rfl) (by kernel_rfl) (by kernel_rfl) (fun _ _ _ h => h) (Or.inl ⟨by rfl, ?y7⟩) (by assumption) ?r7
  case y7 => ((intro w hSw; (try dsimp only at hSw); go_simp; (first | done | with_reducible rfl)))
  (try simp only [List.getElem_toArray, List.getElem_cons_succ, List.getElem_cons_zero, Act.put, List.setIfInBounds_toArray, List.set_cons_zero, List.set_cons_succ])
  refine wpAnyH_take (i := 7) (v := ?v8) rfl (by kernel_rfl) (by kernel_rfl) (by kernel_rfl) (fun _ _ _ h => h) (Or.inl ⟨by rfl, ?y8⟩) (by assumption) ?r8
  case y8 => ((intro w hSw; (try dsimp only at hSw); go_simp; (first | done | with_reducible rfl)))
  (try simp only [List.getElem_toArray, List.getElem_cons_succ, List.getElem_cons_zero, Act.put, List.setIfInBounds_toArray, List.set_cons_zero, List.set_cons_succ])
  refine wpAnyH_take (i := 8) (v := ?v9) rfl (by kernel_rfl) (by kernel_rfl) (by kernel_rfl) (fun _ _ _ h => h) (Or.inl ⟨by rfl, ?y9⟩) (by assumption) ?r9
  case y9 => ((intro w hSw; (try dsimp only at hSw); go_simp; (first | done | with_reducible rfl)))
  (try simp only [List.getElem_toArray, List.getElem_cons_succ, List.getElem_cons_zero, Act.put, List.setIfInBounds_toArray, List.set_cons_zero, List.set_cons_succ])
  refine wpAnyH_take (i := 10) (v := ?v10) rfl (by kernel_rfl) (by kernel_rfl) (by kernel_rfl) (fun _ _ _ h => h) (Or.inl ⟨by rfl, ?y10⟩) (by assumption) ?r10
  case y10 => ((intro w hSw; (try dsimp only at hSw); go_simp; (first | done | with_reducible rfl)))
  (try simp only [List.getElem_toArray, List.getElem_cons_succ, List.getElem_cons_zero, Act.put, List.setIfInBounds_toArray, List.set_cons_zero, List.set_cons_succ])
  refine wpAnyH_take (i := 11) (v := ?v11) rfl (by kernel_rfl) (by kernel_rfl) (by kernel_rfl) (fun _ _ _ h => h) (Or.inl ⟨by rfl, ?y11⟩) (by assumption) ?r11
  case y11 => ((intro w hSw; (try dsimp only at hSw); go_simp; (first | done | with_reducible rfl)))
  (try simp only [List.getElem_toArray, List.getElem_cons_succ, List.getElem_cons_zero, Act.put, List.setIfInBounds_toArray, List.set_cons_zero, List.set_cons_succ])
  refine wpAnyH_take (i := 13) (v := ?v12) rfl (by kernel_rfl) (by kernel_rfl) (by kernel_rfl) (fun _ _ _ h => h) (Or.inl ⟨by rfl, ?y12⟩) (by assumption) ?r12
  case y12 => ((intro w hSw; (try dsimp only at hSw); go_simp; (first | done | with_reducible rfl)))
  (try simp only [List.getElem_toArray, List.getElem_cons_succ, List.getElem_cons_zero, Act.put, List.setIfInBounds_toArray, List.set_cons_zero, List.set_cons_succ])
  refine wpAnyH_take (i := 14) (v := ?v13) rfl (by kernel_rfl) (by kernel_rfl) (by kernel_rfl) (fun _ _ _ h => h) (Or.inl ⟨by rfl, ?y13⟩) (by assumption) ?r13
  case y13 => ((intro w hSw; (try dsimp only at hSw); go_simp; (first | done | with_reducible rfl)))
  (try simp only [List.getElem_toArray, List.getElem_cons_succ, List.getElem_cons_zero, Act.put, List.setIfInBounds_toArray, List.set_cons_zero, List.set_cons_succ])
  refine wpAnyH_ready (rs := [9, 12, 15]) (by kernel_rfl) (by simp) ?_
  refine AllReadyH.cons rfl (fun K hK => ?_) (AllReadyH.cons rfl (fun K hK => ?_) (AllReadyH.cons rfl (fun K hK => ?_) (AllReadyH.nil)))
  · skip
    refine wp_make3 (.tmp 39) 28 92 (.int .u8 0) 1 rfl Try.underlying28 info_st rfl (by decide) rfl w.heap.size (by first | exact Nat.le_of_lt lw0 | (simp; omega)) ?_
    intro w2 g9 cap9 ho hg
    have hx : Ext w1 w2 := ext_grown (by repeat (first | exact Ext.refl _ | refine Ext.drew ?_ | refine Ext.drewN ?_ _ | refine Ext.alloc ?_ _)) hg (fun k hk => by cases hk)
    have lw0 : w.heap.size < w2.heap.size := Nat.lt_of_lt_of_le lw0 hx.size
    replace HX := Lib.hid (HX.out.trans hx)
    replace HB0 := Lib.hid (HB0.out.ext hx)
    replace HB1 := Lib.hid (HB1.out.ext hx)
    replace c0_1 := HB0.out.c1
    replace c0_3 := HB0.out.c3
    have O9 := Lib.hid ho
    clear ho hg hx
    refine hK.out _ _ (by first | exact ⟨c0_1, c0_3⟩ | (simp [go_sem, *]; done)) (fun hHeld => ?_)
    clear hK K
    (try simp only [List.getElem_toArray, List.getElem_cons_succ, List.getElem_cons_zero, Act.put, List.setIfInBounds_toArray, List.set_cons_zero, List.set_cons_succ])
    refine wpAnyH_ready (rs := [12, 15]) (by kernel_rfl) (by simp) ?_
    refine AllReadyH.cons rfl (fun K hK => ?_) (AllReadyH.cons rfl (fun K hK => ?_) (AllReadyH.nil))
    · skip
      refine wp_make3 (.tmp 42) 29 3 (.int .i64 0) 8 rfl Try.underlying29 info_int rfl (by decide) rfl w.heap.size (by first | exact Nat.le_of_lt lw0 | (simp; omega)) ?_
      intro w3 g12 cap12 ho hg
      have hx : Ext w2 w3 := ext_grown (by repeat (first | exact Ext.refl _ | refine Ext.drew ?_ | refine Ext.drewN ?_ _ | refine Ext.alloc ?_ _)) hg (fun k hk => by cases hk)
      have lw0 : w.heap.size < w3.heap.size := Nat.lt_of_lt_of_le lw0 hx.size
      replace HX := Lib.hid (HX.out.trans hx)
      replace HB0 := Lib.hid (HB0.out.ext hx)
      replace HB1 := Lib.hid (HB1.out.ext hx)
      replace c0_1 := HB0.out.c1
      replace c0_3 := HB0.out.c3
      replace O9 := Lib.hid (own_ext O9.out hx)
      have O12 := Lib.hid ho
      clear ho hg hx
      refine hK.out _ _ (by first | exact ⟨c0_1, c0_3⟩ | (simp [go_sem, *]; done)) (fun hHeld => ?_)
      clear hK K
      (try simp only [List.getElem_toArray, List.getElem_cons_succ, List.getElem_cons_zero, Act.put, List.setIfInBounds_toArray, List.set_cons_zero, List.set_cons_succ])
      refine wpAnyH_ready (rs := [15]) (by kernel_rfl) (by simp) ?_
      refine AllReadyH.cons rfl (fun K hK => ?_) AllReadyH.nil
      refine wp_make3 (.tmp 45) 30 4 (.bool false) 1 rfl Try.underlying30 info_bool rfl (by decide) rfl w.heap.size (by first | exact Nat.le_of_lt lw0 | (simp; omega)) ?_
      intro w4 g15 cap15 ho hg
      have hx : Ext w3 w4 := ext_grown (by repeat (first | exact Ext.refl _ | refine Ext.drew ?_ | refine Ext.drewN ?_ _ | refine Ext.alloc ?_ _)) hg (fun k hk => by cases hk)
      have lw0 : w.heap.size < w4.heap.size := Nat.lt_of_lt_of_le lw0 hx.size
      replace HX := Lib.hid (HX.out.trans hx)
      replace HB0 := Lib.hid (HB0.out.ext hx)
      replace HB1 := Lib.hid (HB1.out.ext hx)
      replace c0_1 := HB0.out.c1
      replace c0_3 := HB0.out.c3
      replace O9 := Lib.hid (own_ext O9.out hx)
      replace O12 := Lib.hid (own_ext O12.out hx)
      have O15 := Lib.hid ho
      clear ho hg hx
      refine hK.out _ _ (by first | exact ⟨c0_1, c0_3⟩ | (simp [go_sem, *]; done)) (fun hHeld => ?_)
      clear hK K
      (try simp only [List.getElem_toArray, List.getElem_cons_succ, List.getElem_cons_zero, Act.put, List.setIfInBounds_toArray, List.set_cons_zero, List.set_cons_succ])
      refine wpAnyH_take (i := 16) (v := ?v17) rfl (by kernel_rfl) (by kernel_rfl) (by kernel_rfl) (fun _ _ _ h => h) (Or.inl ⟨by rfl, ?y17⟩) (by assumption) ?r17
      case y17 => ((intro w hSw; (try dsimp only at hSw); go_simp; (first | done | with_reducible rfl)))
      (try simp only [List.getElem_toArray, List.getElem_cons_succ, List.getElem_cons_zero, Act.put, List.setIfInBounds_toArray, List.set_cons_zero, List.set_cons_succ])
      refine wpAnyH_ready (rs := [17]) (by kernel_rfl) (by simp) ?_
      refine AllReadyH.cons rfl (fun K hK => ?_) AllReadyH.nil
      have hW : Hid (InOwn w.heap.size w4 I0 (.slice (some ⟨g9, 0, none⟩) 3 cap9) (.slice none 0 0) (.slice none 0 0) (.slice (some ⟨g12, 0, none⟩) 3 cap12) (.slice (some ⟨g15, 0, none⟩) 3 cap15)) := Lib.hid ⟨O9.out, World.ownsRow_nil _ _ _ _, World.ownsRow_nil _ _ _ _, O12.out, O15.out, fun _ => rfl, .inl rfl, .inl rfl⟩
      obtain ⟨cz, hs, hc⟩ := HB1.out
      refine wp_store_mid 34 (.tmp 8) (.tmp 47) rfl (w.heap.size + 1) 0 (inC I0 (.slice (some ⟨g9, 0, none⟩) 3 cap9) (.slice none 0 0) (.slice none 0 0) (.slice (some ⟨g12, 0, none⟩) 3 cap12) (.slice (some ⟨g15, 0, none⟩) 3 cap15)) rfl rfl (in_there hc (by rw [hs]; rfl)) (by kernel_rfl) (inC_one hW.out.at) ?_
      have hbox : BoxI (w4.setCells (w.heap.size + 1) 0 (inC I0 (.slice (some ⟨g9, 0, none⟩) 3 cap9) (.slice none 0 0) (.slice none 0 0) (.slice (some ⟨g12, 0, none⟩) 3 cap12) (.slice (some ⟨g15, 0, none⟩) 3 cap15)).toList) (w.heap.size + 1) I0 (.slice (some ⟨g9, 0, none⟩) 3 cap9) (.slice none 0 0) (.slice none 0 0) (.slice (some ⟨g12, 0, none⟩) 3 cap12) (.slice (some ⟨g15, 0, none⟩) 3 cap15) := setCells_whole hc (by rw [hs]; rfl)
      have hg := grown_setCells (w.heap.size + 1) (inC I0 (.slice (some ⟨g9, 0, none⟩) 3 cap9) (.slice none 0 0) (.slice none 0 0) (.slice (some ⟨g12, 0, none⟩) 3 cap12) (.slice (some ⟨g15, 0, none⟩) 3 cap15)).toList 0 w4
      generalize w4.setCells (w.heap.size + 1) 0 (inC I0 (.slice (some ⟨g9, 0, none⟩) 3 cap9) (.slice none 0 0) (.slice none 0 0) (.slice (some ⟨g12, 0, none⟩) 3 cap12) (.slice (some ⟨g15, 0, none⟩) 3 cap15)).toList = w5 at hbox hg ⊢
      have HR := Lib.hid hbox
      have HO := Lib.hid (hW.out.kept HB1.out hg)
      have HB3 := Lib.hid (HB0.out.grown hg (by omega))
      replace HX := Lib.hid (ext_grown HX.out hg (fun k hk => by injection hk with hk; omega))
      clear hbox hg hs hc
      refine hK.out _ _ (by exact ⟨HB3.out.c1, HB3.out.c3⟩) (fun hHeld => ?_)
      clear hK K
      (try simp only [List.getElem_toArray, List.getElem_cons_succ, List.getElem_cons_zero, Act.put, List.setIfInBounds_toArray, List.set_cons_zero, List.set_cons_succ])
      refine wpAnyH_take (i := 18) (v := ?v19) rfl (by kernel_rfl) (by kernel_rfl) (by kernel_rfl) (fun _ _ _ h => h) (Or.inl ⟨by rfl, ?y19⟩) (by assumption) ?r19
      case y19 => ((intro w hSw; (try dsimp only at hSw); go_simp; (first | done | with_reducible rfl)))
      (try simp only [List.getElem_toArray, List.getElem_cons_succ, List.getElem_cons_zero, Act.put, List.setIfInBounds_toArray, List.set_cons_zero, List.set_cons_succ])
      refine wpAnyH_done (by kernel_rfl) ?_ _
      go_wp2_with fail
      (try simp only [Exit.inBlock, Exit.then])
      refine BoxI.ret rfl HR.out rfl rfl ?_
      exact ⟨_, _, _, _, _, rfl, HO.out, HX.out.trans (by repeat (first | exact Ext.refl _ | refine Ext.drew ?_ | refine Ext.drewN ?_ _ | refine Ext.alloc ?_ _))⟩
    · skip
      refine wp_make3 (.tmp 45) 30 4 (.bool false) 1 rfl Try.underlying30 info_bool rfl (by decide) rfl w.heap.size (by first | exact Nat.le_of_lt lw0 | (simp; omega)) ?_
      intro w3 g15 cap15 ho hg
      have hx : Ext w2 w3 := ext_grown (by repeat (first | exact Ext.refl _ | refine Ext.drew ?_ | refine Ext.drewN ?_ _ | refine Ext.alloc ?_ _)) hg (fun k hk => by cases hk)
      have lw0 : w.heap.size < w3.heap.size := Nat.lt_of_lt_of_le lw0 hx.size
      replace HX := Lib.hid (HX.out.trans hx)
      replace HB0 := Lib.hid (HB0.out.ext hx)
      replace HB1 := Lib.hid (HB1.out.ext hx)
      replace c0_1 := HB0.out.c1
      replace c0_3 := HB0.out.c3
      replace O9 := Lib.hid (own_ext O9.out hx)
      have O15 := Lib.hid ho
      clear ho hg hx
      refine hK.out _ _ (by first | exact ⟨c0_1, c0_3⟩ | (simp [go_sem, *]; done)) (fun hHeld => ?_)
      clear hK K
      (try simp only [List.getElem_toArray, List.getElem_cons_succ, List.getElem_cons_zero, Act.put, List.setIfInBounds_toArray, List.set_cons_zero, List.set_cons_succ])
      refine wpAnyH_ready (rs := [12]) (by kernel_rfl) (by simp) ?_
      refine AllReadyH.cons rfl (fun K hK => ?_) AllReadyH.nil
      refine wp_make3 (.tmp 42) 29 3 (.int .i64 0) 8 rfl Try.underlying29 info_int rfl (by decide) rfl w.heap.size (by first | exact Nat.le_of_lt lw0 | (simp; omega)) ?_
      intro w4 g12 cap12 ho hg
      have hx : Ext w3 w4 := ext_grown (by repeat (first | exact Ext.refl _ | refine Ext.drew ?_ | refine Ext.drewN ?_ _ | refine Ext.alloc ?_ _)) hg (fun k hk => by cases hk)
      have lw0 : w.heap.size < w4.heap.size := Nat.lt_of_lt_of_le lw0 hx.size
      replace HX := Lib.hid (HX.out.trans hx)
      replace HB0 := Lib.hid (HB0.out.ext hx)
      replace HB1 := Lib.hid (HB1.out.ext hx)
      replace c0_1 := HB0.out.c1
      replace c0_3 := HB0.out.c3
      replace O9 := Lib.hid (own_ext O9.out hx)
      replace O15 := Lib.hid (own_ext O15.out hx)
      have O12 := Lib.hid ho
      clear ho hg hx
      refine hK.out _ _ (by first | exact ⟨c0_1, c0_3⟩ | (simp [go_sem, *]; done)) (fun hHeld => ?_)
      clear hK K
      (try simp only [List.getElem_toArray, List.getElem_cons_succ, List.getElem_cons_zero, Act.put, List.setIfInBounds_toArray, List.set_cons_zero, List.set_cons_succ])
      refine wpAnyH_take (i := 16) (v := ?v21) rfl (by kernel_rfl) (by kernel_rfl) (by kernel_rfl) (fun _ _ _ h => h) (Or.inl ⟨by rfl, ?y21⟩) (by assumption) ?r21
      case y21 => ((intro w hSw; (try dsimp only at hSw); go_simp; (first | done | with_reducible rfl)))
      (try simp only [List.getElem_toArray, List.getElem_cons_succ, List.getElem_cons_zero, Act.put, List.setIfInBounds_toArray, List.set_cons_zero, List.set_cons_succ])
      refine wpAnyH_ready (rs := [17]) (by kernel_rfl) (by simp) ?_
      refine AllReadyH.cons rfl (fun K hK => ?_) AllReadyH.nil
      have hW : Hid (InOwn w.heap.size w4 I0 (.slice (some ⟨g9, 0, none⟩) 3 cap9) (.slice none 0 0) (.slice none 0 0) (.slice (some ⟨g12, 0, none⟩) 3 cap12) (.slice (some ⟨g15, 0, none⟩) 3 cap15)) := Lib.hid ⟨O9.out, World.ownsRow_nil _ _ _ _, World.ownsRow_nil _ _ _ _, O12.out, O15.out, fun _ => rfl, .inl rfl, .inl rfl⟩
      obtain ⟨cz, hs, hc⟩ := HB1.out
      refine wp_store_mid 34 (.tmp 8) (.tmp 47) rfl (w.heap.size + 1) 0 (inC I0 (.slice (some ⟨g9, 0, none⟩) 3 cap9) (.slice none 0 0) (.slice none 0 0) (.slice (some ⟨g12, 0, none⟩) 3 cap12) (.slice (some ⟨g15, 0, none⟩) 3 cap15)) rfl rfl (in_there hc (by rw [hs]; rfl)) (by kernel_rfl) (inC_one hW.out.at) ?_
      have hbox : BoxI (w4.setCells (w.heap.size + 1) 0 (inC I0 (.slice (some ⟨g9, 0, none⟩) 3 cap9) (.slice none 0 0) (.slice none 0 0) (.slice (some ⟨g12, 0, none⟩) 3 cap12) (.slice (some ⟨g15, 0, none⟩) 3 cap15)).toList) (w.heap.size + 1) I0 (.slice (some ⟨g9, 0, none⟩) 3 cap9) (.slice none 0 0) (.slice none 0 0) (.slice (some ⟨g12, 0, none⟩) 3 cap12) (.slice (some ⟨g15, 0, none⟩) 3 cap15) := setCells_whole hc (by rw [hs]; rfl)
      have hg := grown_setCells (w.heap.size + 1) (inC I0 (.slice (some ⟨g9, 0, none⟩) 3 cap9) (.slice none 0 0) (.slice none 0 0) (.slice (some ⟨g12, 0, none⟩) 3 cap12) (.slice (some ⟨g15, 0, none⟩) 3 cap15)).toList 0 w4
      generalize w4.setCells (w.heap.size + 1) 0 (inC I0 (.slice (some ⟨g9, 0, none⟩) 3 cap9) (.slice none 0 0) (.slice none 0 0) (.slice (some ⟨g12, 0, none⟩) 3 cap12) (.slice (some ⟨g15, 0, none⟩) 3 cap15)).toList = w5 at hbox hg ⊢
      have HR := Lib.hid hbox
      have HO := Lib.hid (hW.out.kept HB1.out hg)
      have HB3 := Lib.hid (HB0.out.grown hg (by omega))
      replace HX := Lib.hid (ext_grown HX.out hg (fun k hk => by injection hk with hk; omega))
      clear hbox hg hs hc
      refine hK.out _ _ (by exact ⟨HB3.out.c1, HB3.out.c3⟩) (fun hHeld => ?_)
      clear hK K
      (try simp only [List.getElem_toArray, List.getElem_cons_succ, List.getElem_cons_zero, Act.put, List.setIfInBounds_toArray, List.set_cons_zero, List.set_cons_succ])
      refine wpAnyH_take (i := 18) (v := ?v23) rfl (by kernel_rfl) (by kernel_rfl) (by kernel_rfl) (fun _ _ _ h => h) (Or.inl ⟨by rfl, ?y23⟩) (by assumption) ?r23
      case y23 => ((intro w hSw; (try dsimp only at hSw); go_simp; (first | done | with_reducible rfl)))
      (try simp only [List.getElem_toArray, List.getElem_cons_succ, List.getElem_cons_zero, Act.put, List.setIfInBounds_toArray, List.set_cons_zero, List.set_cons_succ])
      refine wpAnyH_done (by kernel_rfl) ?_ _
      go_wp2_with fail
      (try simp only [Exit.inBlock, Exit.then])
      refine BoxI.ret rfl HR.out rfl rfl ?_
      exact ⟨_, _, _, _, _, rfl, HO.out, HX.out.trans (by repeat (first | exact Ext.refl _ | refine Ext.drew ?_ | refine Ext.drewN ?_ _ | refine Ext.alloc ?_ _))⟩
  · skip
    refine wp_make3 (.tmp 42) 29 3 (.int .i64 0) 8 rfl Try.underlying29 info_int rfl (by decide) rfl w.heap.size (by first | exact Nat.le_of_lt lw0 | (simp; omega)) ?_
    intro w2 g12 cap12 ho hg
    have hx : Ext w1 w2 := ext_grown (by repeat (first | exact Ext.refl _ | refine Ext.drew ?_ | refine Ext.drewN ?_ _ | refine Ext.alloc ?_ _)) hg (fun k hk => by cases hk)
    have lw0 : w.heap.size < w2.heap.size := Nat.lt_of_lt_of_le lw0 hx.size
    replace HX := Lib.hid (HX.out.trans hx)
    replace HB0 := Lib.hid (HB0.out.ext hx)
    replace HB1 := Lib.hid (HB1.out.ext hx)
    replace c0_1 := HB0.out.c1
    replace c0_3 := HB0.out.c3
    have O12 := Lib.hid ho
    clear ho hg hx
    refine hK.out _ _ (by first | exact ⟨c0_1, c0_3⟩ | (simp [go_sem, *]; done)) (fun hHeld => ?_)
    clear hK K
    (try simp only [List.getElem_toArray, List.getElem_cons_succ, List.getElem_cons_zero, Act.put, List.setIfInBounds_toArray, List.set_cons_zero, List.set_cons_succ])
    refine wpAnyH_ready (rs := [9, 15]) (by kernel_rfl) (by simp) ?_
    refine AllReadyH.cons rfl (fun K hK => ?_) (AllReadyH.cons rfl (fun K hK => ?_) (AllReadyH.nil))
    · skip
      refine wp_make3 (.tmp 39) 28 92 (.int .u8 0) 1 rfl Try.underlying28 info_st rfl (by decide) rfl w.heap.size (by first | exact Nat.le_of_lt lw0 | (simp; omega)) ?_
      intro w3 g9 cap9 ho hg
      have hx : Ext w2 w3 := ext_grown (by repeat (first | exact Ext.refl _ | refine Ext.drew ?_ | refine Ext.drewN ?_ _ | refine Ext.alloc ?_ _)) hg (fun k hk => by cases hk)
      have lw0 : w.heap.size < w3.heap.size := Nat.lt_of_lt_of_le lw0 hx.size
      replace HX := Lib.hid (HX.out.trans hx)
      replace HB0 := Lib.hid (HB0.out.ext hx)
      replace HB1 := Lib.hid (HB1.out.ext hx)
      replace c0_1 := HB0.out.c1
      replace c0_3 := HB0.out.c3
      replace O12 := Lib.hid (own_ext O12.out hx)
      have O9 := Lib.hid ho
      clear ho hg hx
      refine hK.out _ _ (by first | exact ⟨c0_1, c0_3⟩ | (simp [go_sem, *]; done)) (fun hHeld => ?_)
      clear hK K
      (try simp only [List.getElem_toArray, List.getElem_cons_succ, List.getElem_cons_zero, Act.put, List.setIfInBounds_toArray, List.set_cons_zero, List.set_cons_succ])
      refine wpAnyH_ready (rs := [15]) (by kernel_rfl) (by simp) ?_
      refine AllReadyH.cons rfl (fun K hK => ?_) AllReadyH.nil
      refine wp_make3 (.tmp 45) 30 4 (.bool false) 1 rfl Try.underlying30 info_bool rfl (by decide) rfl w.heap.size (by first | exact Nat.le_of_lt lw0 | (simp; omega)) ?_
      intro w4 g15 cap15 ho hg
      have hx : Ext w3 w4 := ext_grown (by repeat (first | exact Ext.refl _ | refine Ext.drew ?_ | refine Ext.drewN ?_ _ | refine Ext.alloc ?_ _)) hg (fun k hk => by cases hk)
      have lw0 : w.heap.size < w4.heap.size := Nat.lt_of_lt_of_le lw0 hx.size
      replace HX := Lib.hid (HX.out.trans hx)
      replace HB0 := Lib.hid (HB0.out.ext hx)
      replace HB1 := Lib.hid (HB1.out.ext hx)
      replace c0_1 := HB0.out.c1
      replace c0_3 := HB0.out.c3
      replace O12 := Lib.hid (own_ext O12.out hx)
      replace O9 := Lib.hid (own_ext O9.out hx)
      have O15 := Lib.hid ho
      clear ho hg hx
      refine hK.out _ _ (by first | exact ⟨c0_1, c0_3⟩ | (simp [go_sem, *]; done)) (fun hHeld => ?_)
      clear hK K
      (try simp only [List.getElem_toArray, List.getElem_cons_succ, List.getElem_cons_zero, Act.put, List.setIfInBounds_toArray, List.set_cons_zero, List.set_cons_succ])
      refine wpAnyH_take (i := 16) (v := ?v26) rfl (by kernel_rfl) (by kernel_rfl) (by kernel_rfl) (fun _ _ _ h => h) (Or.inl ⟨by rfl, ?y26⟩) (by assumption) ?r26
      case y26 => ((intro w hSw; (try dsimp only at hSw); go_simp; (first | done | with_reducible rfl)))
      (try simp only [List.getElem_toArray, List.getElem_cons_succ, List.getElem_cons_zero, Act.put, List.setIfInBounds_toArray, List.set_cons_zero, List.set_cons_succ])
      refine wpAnyH_ready (rs := [17]) (by kernel_rfl) (by simp) ?_
      refine AllReadyH.cons rfl (fun K hK => ?_) AllReadyH.nil
      have hW : Hid (InOwn w.heap.size w4 I0 (.slice (some ⟨g9, 0, none⟩) 3 cap9) (.slice none 0 0) (.slice none 0 0) (.slice (some ⟨g12, 0, none⟩) 3 cap12) (.slice (some ⟨g15, 0, none⟩) 3 cap15)) := Lib.hid ⟨O9.out, World.ownsRow_nil _ _ _ _, World.ownsRow_nil _ _ _ _, O12.out, O15.out, fun _ => rfl, .inl rfl, .inl rfl⟩
      obtain ⟨cz, hs, hc⟩ := HB1.out
      refine wp_store_mid 34 (.tmp 8) (.tmp 47) rfl (w.heap.size + 1) 0 (inC I0 (.slice (some ⟨g9, 0, none⟩) 3 cap9) (.slice none 0 0) (.slice none 0 0) (.slice (some ⟨g12, 0, none⟩) 3 cap12) (.slice (some ⟨g15, 0, none⟩) 3 cap15)) rfl rfl (in_there hc (by rw [hs]; rfl)) (by kernel_rfl) (inC_one hW.out.at) ?_
      have hbox : BoxI (w4.setCells (w.heap.size + 1) 0 (inC I0 (.slice (some ⟨g9, 0, none⟩) 3 cap9) (.slice none 0 0) (.slice none 0 0) (.slice (some ⟨g12, 0, none⟩) 3 cap12) (.slice (some ⟨g15, 0, none⟩) 3 cap15)).toList) (w.heap.size + 1) I0 (.slice (some ⟨g9, 0, none⟩) 3 cap9) (.slice none 0 0) (.slice none 0 0) (.slice (some ⟨g12, 0, none⟩) 3 cap12) (.slice (some ⟨g15, 0, none⟩) 3 cap15) := setCells_whole hc (by rw [hs]; rfl)
      have hg := grown_setCells (w.heap.size + 1) (inC I0 (.slice (some ⟨g9, 0, none⟩) 3 cap9) (.slice none 0 0) (.slice none 0 0) (.slice (some ⟨g12, 0, none⟩) 3 cap12) (.slice (some ⟨g15, 0, none⟩) 3 cap15)).toList 0 w4
      generalize w4.setCells (w.heap.size + 1) 0 (inC I0 (.slice (some ⟨g9, 0, none⟩) 3 cap9) (.slice none 0 0) (.slice none 0 0) (.slice (some ⟨g12, 0, none⟩) 3 cap12) (.slice (some ⟨g15, 0, none⟩) 3 cap15)).toList = w5 at hbox hg ⊢
      have HR := Lib.hid hbox
      have HO := Lib.hid (hW.out.kept HB1.out hg)
      have HB3 := Lib.hid (HB0.out.grown hg (by omega))
      replace HX := Lib.hid (ext_grown HX.out hg (fun k hk => by injection hk with hk; omega))
      clear hbox hg hs hc
      refine hK.out _ _ (by exact ⟨HB3.out.c1, HB3.out.c3⟩) (fun hHeld => ?_)
      clear hK K
      (try simp only [List.getElem_toArray, List.getElem_cons_succ, List.getElem_cons_zero, Act.put, List.setIfInBounds_toArray, List.set_cons_zero, List.set_cons_succ])
      refine wpAnyH_take (i := 18) (v := ?v28) rfl (by kernel_rfl) (by kernel_rfl) (by kernel_rfl) (fun _ _ _ h => h) (Or.inl ⟨by rfl, ?y28⟩) (by assumption) ?r28
      case y28 => ((intro w hSw; (try dsimp only at hSw); go_simp; (first | done | with_reducible rfl)))
      (try simp only [List.getElem_toArray, List.getElem_cons_succ, List.getElem_cons_zero, Act.put, List.setIfInBounds_toArray, List.set_cons_zero, List.set_cons_succ])
      refine wpAnyH_done (by kernel_rfl) ?_ _
      go_wp2_with fail
      (try simp only [Exit.inBlock, Exit.then])
      refine BoxI.ret rfl HR.out rfl rfl ?_
      exact ⟨_, _, _, _, _, rfl, HO.out, HX.out.trans (by repeat (first | exact Ext.refl _ | refine Ext.drew ?_ | refine Ext.drewN ?_ _ | refine Ext.alloc ?_ _))⟩
    · skip
      refine wp_make3 (.tmp 45) 30 4 (.bool false) 1 rfl Try.underlying30 info_bool rfl (by decide) rfl w.heap.size (by first | exact Nat.le_of_lt lw0 | (simp; omega)) ?_
      intro w3 g15 cap15 ho hg
      have hx : Ext w2 w3 := ext_grown (by repeat (first | exact Ext.refl _ | refine Ext.drew ?_ | refine Ext.drewN ?_ _ | refine Ext.alloc ?_ _)) hg (fun k hk => by cases hk)
      have lw0 : w.heap.size < w3.heap.size := Nat.lt_of_lt_of_le lw0 hx.size
      replace HX := Lib.hid (HX.out.trans hx)
      replace HB0 := Lib.hid (HB0.out.ext hx)
      replace HB1 := Lib.hid (HB1.out.ext hx)
      replace c0_1 := HB0.out.c1
      replace c0_3 := HB0.out.c3
      replace O12 := Lib.hid (own_ext O12.out hx)
      have O15 := Lib.hid ho
      clear ho hg hx
      refine hK.out _ _ (by first | exact ⟨c0_1, c0_3⟩ | (simp [go_sem, *]; done)) (fun hHeld => ?_)
      clear hK K
      (try simp only [List.getElem_toArray, List.getElem_cons_succ, List.getElem_cons_zero, Act.put, List.setIfInBounds_toArray, List.set_cons_zero, List.set_cons_succ])
      refine wpAnyH_ready (rs := [9]) (by kernel_rfl) (by simp) ?_
      refine AllReadyH.cons rfl (fun K hK => ?_) AllReadyH.nil
      refine wp_make3 (.tmp 39) 28 92 (.int .u8 0) 1 rfl Try.underlying28 info_st rfl (by decide) rfl w.heap.size (by first | exact Nat.le_of_lt lw0 | (simp; omega)) ?_
      intro w4 g9 cap9 ho hg
      have hx : Ext w3 w4 := ext_grown (by repeat (first | exact Ext.refl _ | refine Ext.drew ?_ | refine Ext.drewN ?_ _ | refine Ext.alloc ?_ _)) hg (fun k hk => by cases hk)
      have lw0 : w.heap.size < w4.heap.size := Nat.lt_of_lt_of_le lw0 hx.size
      replace HX := Lib.hid (HX.out.trans hx)
      replace HB0 := Lib.hid (HB0.out.ext hx)
      replace HB1 := Lib.hid (HB1.out.ext hx)
      replace c0_1 := HB0.out.c1
      replace c0_3 := HB0.out.c3
      replace O12 := Lib.hid (own_ext O12.out hx)
      replace O15 := Lib.hid (own_ext O15.out hx)
      have O9 := Lib.hid ho
      clear ho hg hx
      refine hK.out _ _ (by first | exact ⟨c0_1, c0_3⟩ | (simp [go_sem, *]; done)) (fun hHeld => ?_)
      clear hK K
      (try simp only [List.getElem_toArray, List.getElem_cons_succ, List.getElem_cons_zero, Act.put, List.setIfInBounds_toArray, List.set_cons_zero, List.set_cons_succ])
      refine wpAnyH_take (i := 16) (v := ?v30) rfl (by kernel_rfl) (by kernel_rfl) (by kernel_rfl) (fun _ _ _ h => h) (Or.inl ⟨by rfl, ?y30⟩) (by assumption) ?r30
      case y30 => ((intro w hSw; (try dsimp only at hSw); go_simp; (first | done | with_reducible rfl)))
      (try simp only [List.getElem_toArray, List.getElem_cons_succ, List.getElem_cons_zero, Act.put, List.setIfInBounds_toArray, List.set_cons_zero, List.set_cons_succ])
      refine wpAnyH_ready (rs := [17]) (by kernel_rfl) (by simp) ?_
      refine AllReadyH.cons rfl (fun K hK => ?_) AllReadyH.nil
      have hW : Hid (InOwn w.heap.size w4 I0 (.slice (some ⟨g9, 0, none⟩) 3 cap9) (.slice none 0 0) (.slice none 0 0) (.slice (some ⟨g12, 0, none⟩) 3 cap12) (.slice (some ⟨g15, 0, none⟩) 3 cap15)) := Lib.hid ⟨O9.out, World.ownsRow_nil _ _ _ _, World.ownsRow_nil _ _ _ _, O12.out, O15.out, fun _ => rfl, .inl rfl, .inl rfl⟩
      obtain ⟨cz, hs, hc⟩ := HB1.out
      refine wp_store_mid 34 (.tmp 8) (.tmp 47) rfl (w.heap.size + 1) 0 (inC I0 (.slice (some ⟨g9, 0, none⟩) 3 cap9) (.slice none 0 0) (.slice none 0 0) (.slice (some ⟨g12, 0, none⟩) 3 cap12) (.slice (some ⟨g15, 0, none⟩) 3 cap15)) rfl rfl (in_there hc (by rw [hs]; rfl)) (by kernel_rfl) (inC_one hW.out.at) ?_
      have hbox : BoxI (w4.setCells (w.heap.size + 1) 0 (inC I0 (.slice (some ⟨g9, 0, none⟩) 3 cap9) (.slice none 0 0) (.slice none 0 0) (.slice (some ⟨g12, 0, none⟩) 3 cap12) (.slice (some ⟨g15, 0, none⟩) 3 cap15)).toList) (w.heap.size + 1) I0 (.slice (some ⟨g9, 0, none⟩) 3 cap9) (.slice none 0 0) (.slice none 0 0) (.slice (some ⟨g12, 0, none⟩) 3 cap12) (.slice (some ⟨g15, 0, none⟩) 3 cap15) := setCells_whole hc (by rw [hs]; rfl)
      have hg := grown_setCells (w.heap.size + 1) (inC I0 (.slice (some ⟨g9, 0, none⟩) 3 cap9) (.slice none 0 0) (.slice none 0 0) (.slice (some ⟨g12, 0, none⟩) 3 cap12) (.slice (some ⟨g15, 0, none⟩) 3 cap15)).toList 0 w4
      generalize w4.setCells (w.heap.size + 1) 0 (inC I0 (.slice (some ⟨g9, 0, none⟩) 3 cap9) (.slice none 0 0) (.slice none 0 0) (.slice (some ⟨g12, 0, none⟩) 3 cap12) (.slice (some ⟨g15, 0, none⟩) 3 cap15)).toList = w5 at hbox hg ⊢
      have HR := Lib.hid hbox
      have HO := Lib.hid (hW.out.kept HB1.out hg)
      have HB3 := Lib.hid (HB0.out.grown hg (by omega))
      replace HX := Lib.hid (ext_grown HX.out hg (fun k hk => by injection hk with hk; omega))
      clear hbox hg hs hc
      refine hK.out _ _ (by exact ⟨HB3.out.c1, HB3.out.c3⟩) (fun hHeld => ?_)
      clear hK K
      (try simp only [List.getElem_toArray, List.getElem_cons_succ, List.getElem_cons_zero, Act.put, List.setIfInBounds_toArray, List.set_cons_zero, List.set_cons_succ])
      refine wpAnyH_take (i := 18) (v := ?v32) rfl (by kernel_rfl) (by kernel_rfl) (by kernel_rfl) (fun _ _ _ h => h) (Or.inl ⟨by rfl, ?y32⟩) (by assumption) ?r32
      case y32 => ((intro w hSw; (try dsimp only at hSw); go_simp; (first | done | with_reducible rfl)))
      (try simp only [List.getElem_toArray, List.getElem_cons_succ, List.getElem_cons_zero, Act.put, List.setIfInBounds_toArray, List.set_cons_zero, List.set_cons_succ])
      refine wpAnyH_done (by kernel_rfl) ?_ _
      go_wp2_with fail
      (try simp only [Exit.inBlock, Exit.then])
      refine BoxI.ret rfl HR.out rfl rfl ?_
      exact ⟨_, _, _, _, _, rfl, HO.out, HX.out.trans (by repeat (first | exact Ext.refl _ | refine Ext.drew ?_ | refine Ext.drewN ?_ _ | refine Ext.alloc ?_ _))⟩
  · skip
    refine wp_make3 (.tmp 45) 30 4 (.bool false) 1 rfl Try.underlying30 info_bool rfl (by decide) rfl w.heap.size (by first | exact Nat.le_of_lt lw0 | (simp; omega)) ?_
    intro w2 g15 cap15 ho hg
    have hx : Ext w1 w2 := ext_grown (by repeat (first | exact Ext.refl _ | refine Ext.drew ?_ | refine Ext.drewN ?_ _ | refine Ext.alloc ?_ _)) hg (fun k hk => by cases hk)
    have lw0 : w.heap.size < w2.heap.size := Nat.lt_of_lt_of_le lw0 hx.size
    replace HX := Lib.hid (HX.out.trans hx)
    replace HB0 := Lib.hid (HB0.out.ext hx)
    replace HB1 := Lib.hid (HB1.out.ext hx)
    replace c0_1 := HB0.out.c1
    replace c0_3 := HB0.out.c3
    have O15 := Lib.hid ho
    clear ho hg hx
    refine hK.out _ _ (by first | exact ⟨c0_1, c0_3⟩ | (simp [go_sem, *]; done)) (fun hHeld => ?_)
    clear hK K
    (try simp only [List.getElem_toArray, List.getElem_cons_succ, List.getElem_cons_zero, Act.put, List.setIfInBounds_toArray, List.set_cons_zero, List.set_cons_succ])
    refine wpAnyH_ready (rs := [9, 12]) (by kernel_rfl) (by simp) ?_
    refine AllReadyH.cons rfl (fun K hK => ?_) (AllReadyH.cons rfl (fun K hK => ?_) (AllReadyH.nil))
    · skip
      refine wp_make3 (.tmp 39) 28 92 (.int .u8 0) 1 rfl Try.underlying28 info_st rfl (by decide) rfl w.heap.size (by first | exact Nat.le_of_lt lw0 | (simp; omega)) ?_
      intro w3 g9 cap9 ho hg
      have hx : Ext w2 w3 := ext_grown (by repeat (first | exact Ext.refl _ | refine Ext.drew ?_ | refine Ext.drewN ?_ _ | refine Ext.alloc ?_ _)) hg (fun k hk => by cases hk)
      have lw0 : w.heap.size < w3.heap.size := Nat.lt_of_lt_of_le lw0 hx.size
      replace HX := Lib.hid (HX.out.trans hx)
      replace HB0 := Lib.hid (HB0.out.ext hx)
      replace HB1 := Lib.hid (HB1.out.ext hx)
      replace c0_1 := HB0.out.c1
      replace c0_3 := HB0.out.c3
      replace O15 := Lib.hid (own_ext O15.out hx)
      have O9 := Lib.hid ho
      clear ho hg hx
      refine hK.out _ _ (by first | exact ⟨c0_1, c0_3⟩ | (simp [go_sem, *]; done)) (fun hHeld => ?_)
      clear hK K
      (try simp only [List.getElem_toArray, List.getElem_cons_succ, List.getElem_cons_zero, Act.put, List.setIfInBounds_toArray, List.set_cons_zero, List.set_cons_succ])
      refine wpAnyH_ready (rs := [12]) (by kernel_rfl) (by simp) ?_
      refine AllReadyH.cons rfl (fun K hK => ?_) AllReadyH.nil
      refine wp_make3 (.tmp 42) 29 3 (.int .i64 0) 8 rfl Try.underlying29 info_int rfl (by decide) rfl w.heap.size (by first | exact Nat.le_of_lt lw0 | (simp; omega)) ?_
      intro w4 g12 cap12 ho hg
      have hx : Ext w3 w4 := ext_grown (by repeat (first | exact Ext.refl _ | refine Ext.drew ?_ | refine Ext.drewN ?_ _ | refine Ext.alloc ?_ _)) hg (fun k hk => by cases hk)
      have lw0 : w.heap.size < w4.heap.size := Nat.lt_of_lt_of_le lw0 hx.size
      replace HX := Lib.hid (HX.out.trans hx)
      replace HB0 := Lib.hid (HB0.out.ext hx)
      replace HB1 := Lib.hid (HB1.out.ext hx)
      replace c0_1 := HB0.out.c1
      replace c0_3 := HB0.out.c3
      replace O15 := Lib.hid (own_ext O15.out hx)
      replace O9 := Lib.hid (own_ext O9.out hx)
      have O12 := Lib.hid ho
      clear ho hg hx
      refine hK.out _ _ (by first | exact ⟨c0_1, c0_3⟩ | (simp [go_sem, *]; done)) (fun hHeld => ?_)
      clear hK K
      (try simp only [List.getElem_toArray, List.getElem_cons_succ, List.getElem_cons_zero, Act.put, List.setIfInBounds_toArray, List.set_cons_zero, List.set_cons_succ])
      refine wpAnyH_take (i := 16) (v := ?v35) rfl (by kernel_rfl) (by kernel_rfl) (by kernel_rfl) (fun _ _ _ h => h) (Or.inl ⟨by rfl, ?y35⟩) (by assumption) ?r35
      case y35 => ((intro w hSw; (try dsimp only at hSw); go_simp; (first | done | with_reducible rfl)))
      (try simp only [List.getElem_toArray, List.getElem_cons_succ, List.getElem_cons_zero, Act.put, List.setIfInBounds_toArray, List.set_cons_zero, List.set_cons_succ])
      refine wpAnyH_ready (rs := [17]) (by kernel_rfl) (by simp) ?_
      refine AllReadyH.cons rfl (fun K hK => ?_) AllReadyH.nil
      have hW : Hid (InOwn w.heap.size w4 I0 (.slice (some ⟨g9, 0, none⟩) 3 cap9) (.slice none 0 0) (.slice none 0 0) (.slice (some ⟨g12, 0, none⟩) 3 cap12) (.slice (some ⟨g15, 0, none⟩) 3 cap15)) := Lib.hid ⟨O9.out, World.ownsRow_nil _ _ _ _, World.ownsRow_nil _ _ _ _, O12.out, O15.out, fun _ => rfl, .inl rfl, .inl rfl⟩
      obtain ⟨cz, hs, hc⟩ := HB1.out
      refine wp_store_mid 34 (.tmp 8) (.tmp 47) rfl (w.heap.size + 1) 0 (inC I0 (.slice (some ⟨g9, 0, none⟩) 3 cap9) (.slice none 0 0) (.slice none 0 0) (.slice (some ⟨g12, 0, none⟩) 3 cap12) (.slice (some ⟨g15, 0, none⟩) 3 cap15)) rfl rfl (in_there hc (by rw [hs]; rfl)) (by kernel_rfl) (inC_one hW.out.at) ?_
      have hbox : BoxI (w4.setCells (w.heap.size + 1) 0 (inC I0 (.slice (some ⟨g9, 0, none⟩) 3 cap9) (.slice none 0 0) (.slice none 0 0) (.slice (some ⟨g12, 0, none⟩) 3 cap12) (.slice (some ⟨g15, 0, none⟩) 3 cap15)).toList) (w.heap.size + 1) I0 (.slice (some ⟨g9, 0, none⟩) 3 cap9) (.slice none 0 0) (.slice none 0 0) (.slice (some ⟨g12, 0, none⟩) 3 cap12) (.slice (some ⟨g15, 0, none⟩) 3 cap15) := setCells_whole hc (by rw [hs]; rfl)
      have hg := grown_setCells (w.heap.size + 1) (inC I0 (.slice (some ⟨g9, 0, none⟩) 3 cap9) (.slice none 0 0) (.slice none 0 0) (.slice (some ⟨g12, 0, none⟩) 3 cap12) (.slice (some ⟨g15, 0, none⟩) 3 cap15)).toList 0 w4
      generalize w4.setCells (w.heap.size + 1) 0 (inC I0 (.slice (some ⟨g9, 0, none⟩) 3 cap9) (.slice none 0 0) (.slice none 0 0) (.slice (some ⟨g12, 0, none⟩) 3 cap12) (.slice (some ⟨g15, 0, none⟩) 3 cap15)).toList = w5 at hbox hg ⊢
      have HR := Lib.hid hbox
      have HO := Lib.hid (hW.out.kept HB1.out hg)
      have HB3 := Lib.hid (HB0.out.grown hg (by omega))
      replace HX := Lib.hid (ext_grown HX.out hg (fun k hk => by injection hk with hk; omega))
      clear hbox hg hs hc
      refine hK.out _ _ (by exact ⟨HB3.out.c1, HB3.out.c3⟩) (fun hHeld => ?_)
      clear hK K
      (try simp only [List.getElem_toArray, List.getElem_cons_succ, List.getElem_cons_zero, Act.put, List.setIfInBounds_toArray, List.set_cons_zero, List.set_cons_succ])
      refine wpAnyH_take (i := 18) (v := ?v37) rfl (by kernel_rfl) (by kernel_rfl) (by kernel_rfl) (fun _ _ _ h => h) (Or.inl ⟨by rfl, ?y37⟩) (by assumption) ?r37
      case y37 => ((intro w hSw; (try dsimp only at hSw); go_simp; (first | done | with_reducible rfl)))
      (try simp only [List.getElem_toArray, List.getElem_cons_succ, List.getElem_cons_zero, Act.put, List.setIfInBounds_toArray, List.set_cons_zero, List.set_cons_succ])
      refine wpAnyH_done (by kernel_rfl) ?_ _
      go_wp2_with fail
      (try simp only [Exit.inBlock, Exit.then])
      refine BoxI.ret rfl HR.out rfl rfl ?_
      exact ⟨_, _, _, _, _, rfl, HO.out, HX.out.trans (by repeat (first | exact Ext.refl _ | refine Ext.drew ?_ | refine Ext.drewN ?_ _ | refine Ext.alloc ?_ _))⟩
    · skip
      refine wp_make3 (.tmp 42) 29 3 (.int .i64 0) 8 rfl Try.underlying29 info_int rfl (by decide) rfl w.heap.size (by first | exact Nat.le_of_lt lw0 | (simp; omega)) ?_
      intro w3 g12 cap12 ho hg
      have hx : Ext w2 w3 := ext_grown (by repeat (first | exact Ext.refl _ | refine Ext.drew ?_ | refine Ext.drewN ?_ _ | refine Ext.alloc ?_ _)) hg (fun k hk => by cases hk)
      have lw0 : w.heap.size < w3.heap.size := Nat.lt_of_lt_of_le lw0 hx.size
      replace HX := Lib.hid (HX.out.trans hx)
      replace HB0 := Lib.hid (HB0.out.ext hx)
      replace HB1 := Lib.hid (HB1.out.ext hx)
      replace c0_1 := HB0.out.c1
      replace c0_3 := HB0.out.c3
      replace O15 := Lib.hid (own_ext O15.out hx)
      have O12 := Lib.hid ho
      clear ho hg hx
      refine hK.out _ _ (by first | exact ⟨c0_1, c0_3⟩ | (simp [go_sem, *]; done)) (fun hHeld => ?_)
      clear hK K
      (try simp only [List.getElem_toArray, List.getElem_cons_succ, List.getElem_cons_zero, Act.put, List.setIfInBounds_toArray, List.set_cons_zero, List.set_cons_succ])
      refine wpAnyH_ready (rs := [9]) (by kernel_rfl) (by simp) ?_
      refine AllReadyH.cons rfl (fun K hK => ?_) AllReadyH.nil
      refine wp_make3 (.tmp 39) 28 92 (.int .u8 0) 1 rfl Try.underlying28 info_st rfl (by decide) rfl w.heap.size (by first | exact Nat.le_of_lt lw0 | (simp; omega)) ?_
      intro w4 g9 cap9 ho hg
      have hx : Ext w3 w4 := ext_grown (by repeat (first | exact Ext.refl _ | refine Ext.drew ?_ | refine Ext.drewN ?_ _ | refine Ext.alloc ?_ _)) hg (fun k hk => by cases hk)
      have lw0 : w.heap.size < w4.heap.size := Nat.lt_of_lt_of_le lw0 hx.size
      replace HX := Lib.hid (HX.out.trans hx)
      replace HB0 := Lib.hid (HB0.out.ext hx)
      replace HB1 := Lib.hid (HB1.out.ext hx)
      replace c0_1 := HB0.out.c1
      replace c0_3 := HB0.out.c3
      replace O15 := Lib.hid (own_ext O15.out hx)
      replace O12 := Lib.hid (own_ext O12.out hx)
      have O9 := Lib.hid ho
      clear ho hg hx
      refine hK.out _ _ (by first | exact ⟨c0_1, c0_3⟩ | (simp [go_sem, *]; done)) (fun hHeld => ?_)
      clear hK K
      (try simp only [List.getElem_toArray, List.getElem_cons_succ, List.getElem_cons_zero, Act.put, List.setIfInBounds_toArray, List.set_cons_zero, List.set_cons_succ])
      refine wpAnyH_take (i := 16) (v := ?v39) rfl (by kernel_rfl) (by kernel_rfl) (by kernel_rfl) (fun _ _ _ h => h) (Or.inl ⟨by rfl, ?y39⟩) (by assumption) ?r39
      case y39 => ((intro w hSw; (try dsimp only at hSw); go_simp; (first | done | with_reducible rfl)))
      (try simp only [List.getElem_toArray, List.getElem_cons_succ, List.getElem_cons_zero, Act.put, List.setIfInBounds_toArray, List.set_cons_zero, List.set_cons_succ])
      refine wpAnyH_ready (rs := [17]) (by kernel_rfl) (by simp) ?_
      refine AllReadyH.cons rfl (fun K hK => ?_) AllReadyH.nil
      have hW : Hid (InOwn w.heap.size w4 I0 (.slice (some ⟨g9, 0, none⟩) 3 cap9) (.slice none 0 0) (.slice none 0 0) (.slice (some ⟨g12, 0, none⟩) 3 cap12) (.slice (some ⟨g15, 0, none⟩) 3 cap15)) := Lib.hid ⟨O9.out, World.ownsRow_nil _ _ _ _, World.ownsRow_nil _ _ _ _, O12.out, O15.out, fun _ => rfl, .inl rfl, .inl rfl⟩
      obtain ⟨cz, hs, hc⟩ := HB1.out
      refine wp_store_mid 34 (.tmp 8) (.tmp 47) rfl (w.heap.size + 1) 0 (inC I0 (.slice (some ⟨g9, 0, none⟩) 3 cap9) (.slice none 0 0) (.slice none 0 0) (.slice (some ⟨g12, 0, none⟩) 3 cap12) (.slice (some ⟨g15, 0, none⟩) 3 cap15)) rfl rfl (in_there hc (by rw [hs]; rfl)) (by kernel_rfl) (inC_one hW.out.at) ?_
      have hbox : BoxI (w4.setCells (w.heap.size + 1) 0 (inC I0 (.slice (some ⟨g9, 0, none⟩) 3 cap9) (.slice none 0 0) (.slice none 0 0) (.slice (some ⟨g12, 0, none⟩) 3 cap12) (.slice (some ⟨g15, 0, none⟩) 3 cap15)).toList) (w.heap.size + 1) I0 (.slice (some ⟨g9, 0, none⟩) 3 cap9) (.slice none 0 0) (.slice none 0 0) (.slice (some ⟨g12, 0, none⟩) 3 cap12) (.slice (some ⟨g15, 0, none⟩) 3 cap15) := setCells_whole hc (by rw [hs]; rfl)
      have hg := grown_setCells (w.heap.size + 1) (inC I0 (.slice (some ⟨g9, 0, none⟩) 3 cap9) (.slice none 0 0) (.slice none 0 0) (.slice (some ⟨g12, 0, none⟩) 3 cap12) (.slice (some ⟨g15, 0, none⟩) 3 cap15)).toList 0 w4
      generalize w4.setCells (w.heap.size + 1) 0 (inC I0 (.slice (some ⟨g9, 0, none⟩) 3 cap9) (.slice none 0 0) (.slice none 0 0) (.slice (some ⟨g12, 0, none⟩) 3 cap12) (.slice (some ⟨g15, 0, none⟩) 3 cap15)).toList = w5 at hbox hg ⊢
      have HR := Lib.hid hbox
      have HO := Lib.hid (hW.out.kept HB1.out hg)
      have HB3 := Lib.hid (HB0.out.grown hg (by omega))
      replace HX := Lib.hid (ext_grown HX.out hg (fun k hk => by injection hk with hk; omega))
      clear hbox hg hs hc
      refine hK.out _ _ (by exact ⟨HB3.out.c1, HB3.out.c3⟩) (fun hHeld => ?_)
      clear hK K
      (try simp only [List.getElem_toArray, List.getElem_cons_succ, List.getElem_cons_zero, Act.put, List.setIfInBounds_toArray, List.set_cons_zero, List.set_cons_succ])
      refine wpAnyH_take (i := 18) (v := ?v41) rfl (by kernel_rfl) (by kernel_rfl) (by kernel_rfl) (fun _ _ _ h => h) (Or.inl ⟨by rfl, ?y41⟩) (by assumption) ?r41
      case y41 => ((intro w hSw; (try dsimp only at hSw); go_simp; (first | done | with_reducible rfl)))
      (try simp only [List.getElem_toArray, List.getElem_cons_succ, List.getElem_cons_zero, Act.put, List.setIfInBounds_toArray, List.set_cons_zero, List.set_cons_succ])
      refine wpAnyH_done (by kernel_rfl) ?_ _
      go_wp2_with fail
      (try simp only [Exit.inBlock, Exit.then])
      refine BoxI.ret rfl HR.out rfl rfl ?_
      exact ⟨_, _, _, _, _, rfl, HO.out, HX.out.trans (by repeat (first | exact Ext.refl _ | refine Ext.drew ?_ | refine Ext.drewN ?_ _ | refine Ext.alloc ?_ _))⟩

end Go.Proofs.Ytpeabgfolpgfjaa

/-
  The law TopRobin, walked.
-/
import Derived.Test.YtdaidanpcehnnaaRobR
import Derived.Deep.AppendLies
import Derived.Deep.DeepCutAuto
namespace Go.Proofs.Ytdaidanpcehnnaa
open Go.RowKit
set_option linter.unusedSimpArgs false

theorem gcell {w w' : World} {m b o : Nat} {v : Value} (hg : w.grownBy w' (some m)) (h : w.cell? ⟨b, o, none⟩ = some v) (hne : b ≠ m) : w'.cell? ⟨b, o, none⟩ = some v := hg.cell h (fun e => hne (Option.some.inj e))
theorem pair_of {l : List Fx} {i h a mn mx : Nat} (hh : homeOf l i = h) (ha : awayOf l i = a) (h1 : min h a = mn) (h2 : max h a = mx) : ∀ p q : Nat, isPair l p q i = true ↔ p = mn ∧ q = mx := fun p q => by
  unfold isPair
  rw [hh, ha, h1, h2]
  simp only [Bool.and_eq_true, beq_iff_eq]
  constructor
  · rintro ⟨rfl, rfl⟩; exact ⟨rfl, rfl⟩
  · rintro ⟨rfl, rfl⟩; exact ⟨rfl, rfl⟩
theorem rounds_pos {n : Nat} (d : Bool) (h0 : 2 ≤ n) (h1 : n ≤ 6) : 0 < (roundsL n d).length := by
  have : n = 2 ∨ n = 3 ∨ n = 4 ∨ n = 5 ∨ n = 6 := by omega
  rcases this with rfl | rfl | rfl | rfl | rfl <;> cases d <;> decide +kernel
theorem infoRow : (Try.prog.info? 45).map (fun i => (i.zero, i.size, i.bytes)) = some (some (.slice none 0 0), 1, 24) := by kernel_rfl
theorem days_made (w : World) (base n : Nat) : DaysIs (w.alloc (.cells (madeCells #[.slice none 0 0] n) 45)) base w.heap.size n (fun _ => .slice none 0 0) (fun _ => []) :=
  ⟨World.rowIs_made w (.slice none 0 0) n _, fun _ _ => World.ownsRow_nil _ _ _ _, fun _ _ _ _ _ => .inl rfl⟩

theorem rob_made (w : World) (n : Nat) (l : List Fx) (ds gr : Nat → Int) : Rob w (((w.alloc (.map #[] 0)).alloc (.map #[] 0)).alloc (.cells (madeCells #[.slice none 0 0] n) 45)) w.heap.size (w.heap.size + 1) (w.heap.size + 1 + 1) n 0 0 l ds gr (fun t => dayL l ds t 0) := by
  have hb := (busy_made (l := l) (ds := ds) (gr := gr) w).ext (((Ext.refl _).alloc (.map #[] 0)).alloc (.cells (madeCells #[.slice none 0 0] n) 45))
  have hm := (met_made (l := l) (w.alloc (.map #[] 0))).ext ((Ext.refl _).alloc (.cells (madeCells #[.slice none 0 0] n) 45))
  have hd := days_made ((w.alloc (.map #[] 0)).alloc (.map #[] 0)) w.heap.size n
  rw [World.size_alloc] at hm
  rw [World.size_alloc, World.size_alloc] at hd
  exact ⟨(((Ext.refl _).alloc _).alloc _).alloc _, Nat.le_refl _, Nat.le_succ _, by omega, by omega, hb, hm, _, hd⟩

set_option maxRecDepth 20000 in
set_option maxHeartbeats 16000000 in
theorem topRobin_any (w : World) (k F0 R0 : Int) (d : Bool) (A : Option Addr) (gn gc : Nat) (f : Nat → Int) (hk0 : 0 ≤ k) (hk1 : k ≤ 255) (hgn : gn ≤ 9223372036854775807)
    (hG : 0 < gn → ∃ b o, A = some ⟨b, o, none⟩ ∧ b < w.heap.size ∧ ∀ j, j < gn → w.cell? ⟨b, o + j, none⟩ = some (.int .i64 (f j))) :
    Calls Try.prog 3 #[.int .u8 k, .bool d, .agg #[.int .i64 F0, .int .i64 R0, .slice A gn gc]] w fun e w' => e = .returned (.bool true) ∧ Ext w w' := by
  have hX0 : Ext w (w.alloc (.cells #[.int .i64 F0, .int .i64 R0, .slice A gn gc] 24)) := (Ext.refl _).alloc _
  have hbk0 : (w.alloc (.cells #[.int .i64 F0, .int .i64 R0, .slice A gn gc] 24)).heap[w.heap.size]? = some (.cells #[.int .i64 F0, .int .i64 R0, .slice A gn gc] 24 (0, 0)) := heap_alloc_new w _
  have HGN := Lib.hid hG
  clear hG
  go_enter Try.func3, Try.ntmps3
  go_wp2_with (go_at_call 4; refine (awake_any _).mono ?_; rintro e w1 ⟨rfl, hb1⟩; have q0 : w1.cell? ⟨w.heap.size, 0, none⟩ = some (.int .i64 F0) := hb1.keep (by simp [go_sem]); have q1 : w1.cell? ⟨w.heap.size, 1, none⟩ = some (.int .i64 R0) := hb1.keep (by simp [go_sem]); have q2 : w1.cell? ⟨w.heap.size, 2, none⟩ = some (.slice A gn gc) := hb1.keep (by simp [go_sem]))
  have hbk1 := (hb1.block _ (by simp)).trans hbk0
  have hX1 : Ext w w1 := hX0.trans hb1
  refine (seasonOf_any w1 k F0 R0 A gn gc f hk0 hk1 hgn (fun h => by obtain ⟨b, o, h1, h2, h3⟩ := HGN.out h; exact ⟨b, o, h1, hX1.lt h2, fun j hj => hX1.keep (h3 j hj)⟩)).mono ?_
  rintro e w2 ⟨n, gb, gr, F, R, rfl, hn, hF0, hF1, hR0, hR1, hgr, hrow, hgb, hb2⟩
  have hbk2 := (hb2.block _ (Array.getElem?_eq_some_iff.1 hbk1).1).trans hbk1
  have n2 : 2 ≤ n := by omega
  have n6 : n ≤ 6 := by omega
  have hgw : gb ≠ w.heap.size := by have := hX1.size; have := cell_lt q0; omega
  have lq := cell_lt q0
  clear hn q0 q1 q2
  go_wp2_with (refine wpList_storeSe (q := w.heap.size) (v0 := F) (v1 := R) (g := gb) (m := n) (c := n) rfl rfl rfl rfl rfl hbk2 ?_)
  have hbk3 := set3_heap w2 w.heap.size (v0 := .int .i64 F) (v1 := .int .i64 R) (v2 := .slice (some ⟨gb, 0, none⟩) n n) hbk2
  have hrow3 : (set3 w2 w.heap.size (.int .i64 F) (.int .i64 R) (.slice (some ⟨gb, 0, none⟩) n n)).rowIs gb 3 n (nums gr) := hrow.of_block (set3_other w2 _ _ _ hgw)
  have hX3 : Ext w (set3 w2 w.heap.size (.int .i64 F) (.int .i64 R) (.slice (some ⟨gb, 0, none⟩) n n)) := set3_ext _ _ _ (hX1.trans hb2) (Nat.le_refl _)
  generalize set3 w2 w.heap.size (.int .i64 F) (.int .i64 R) (.slice (some ⟨gb, 0, none⟩) n n) = w3 at hbk3 hrow3 hX3 ⊢
  have HGR := Lib.hid hgr
  clear hbk2 hrow hbk1 hbk0 hb1 hb2 hX1 hgr
  obtain ⟨g30, g6, gx, gt⟩ : True ∧ True ∧ True ∧ True := ⟨trivial, trivial, trivial, trivial⟩
  have hgf := good_facts d n2 n6
  have hpos := rounds_pos d n2 n6
  have HGF := Lib.hid hgf
  have hl30 := hgf.1
  clear hgf g30 g6 gx gt
  go_wp2_with fail
  refine (rounds_any w3 n d n2 n6).mono ?_
  rintro e w4 ⟨v, rfl, hb4, hownF⟩
  obtain ⟨l, hl⟩ : ∃ l, l = roundsL n d := ⟨_, rfl⟩
  rw [← hl] at hownF hpos HGF hl30
  clear hl
  have hbk4 := (hb4.block _ (Array.getElem?_eq_some_iff.1 hbk3).1).trans hbk3
  have hrow4 := rowIs_ext hrow3 hb4
  have hX4 := hX3.trans hb4
  have q0 := Lib.cell_of_heap hbk4 0
  have q1 := Lib.cell_of_heap hbk4 1
  have q2 := Lib.cell_of_heap hbk4 2
  simp only [List.getElem?_toArray, List.getElem?_cons_succ, List.getElem?_cons_zero] at q0 q1 q2
  have HOF := Lib.hid hownF
  clear hbk3 hrow3 hX3 hb4 hownF
  go_wp2_with fail
  refine (place_ok w4 l v n gb gr F R HOF.out hl30 (by omega) HGF.out.2.1 hF0 hF1 hR0 hR1 hrow4 HGR.out).mono ?_
  rintro e w5 ⟨v2, ds, rfl, hb5, hownP, hPO⟩
  have hbk5 := (hb5.block _ (Array.getElem?_eq_some_iff.1 hbk4).1).trans hbk4
  have hrow5 := rowIs_ext hrow4 hb5
  have hX5 := hX4.trans hb5
  have hownF5 := own_ext HOF.out hb5
  obtain ⟨gF, cF, rfl, _, hgF⟩ := own_form hownF5 hpos
  obtain ⟨gP, cP, rfl, _, hgP⟩ := own_form hownP hpos
  have HP := Lib.hid hPO
  have HF5 := Lib.hid hownF5
  have HP5 := Lib.hid hownP
  have HR5 := Lib.hid hrow5
  clear HOF q0 q1 q2 hbk4 hrow4 hX4 hb5 hPO hownF5 hownP hrow5
  have hmm := @run_makeMap Try.prog
  have hmk := fun W => run_make_row' (P := Try.prog) 37 45 (.slice none 0 0) 24 Try.underlying37 infoRow rfl .i64 .i64 n (by omega) (by omega) W
  have HRob := Lib.hid (rob_made w5 n l ds gr)
  go_wp2_with fail
  go_loopw [15, 16, 17, 18, 19, 20, 21, 22, 67] (fun _ _ _ _ _ _ _ _ iv wr => ∃ i : Nat, i ≤ l.length ∧ iv = .int .i64 i ∧ Rob w5 wr w5.heap.size (w5.heap.size + 1) (w5.heap.size + 1 + 1) n i i l ds gr (fun t => dayL l ds t i)) (fun _ _ _ _ _ _ _ _ iv _ => l.length - (intOf iv).toNat)
  case atStart => exact ⟨0, Nat.zero_le _, rfl, HRob.out⟩
  case round =>
    obtain ⟨i, hi, rfl, hI⟩ := hrel
    have HI := Lib.hid hI
    have hXi := hI.ext
    clear hI
    by_cases hlt : i < l.length
    · obtain ⟨x, hxi⟩ : ∃ x, l[i]? = some x := ⟨_, List.getElem?_eq_getElem hlt⟩
      have hxd : l.getD i (0, 0, 0) = x := by rw [List.getD_eq_getElem?_getD, hxi]; rfl
      obtain ⟨k1, k2, k3, k4⟩ := HGF.out.2.1 x (List.mem_of_getElem? hxi)
      obtain ⟨t0, t1, t2⟩ := fixV_at l i x hxi
      have hho : homeOf l i = x.2.1 := by unfold homeOf; rw [hxd]
      have haw : awayOf l i = x.2.2 := by unfold awayOf; rw [hxd]
      have c0 : wr.cell? ⟨gF, i * 3, none⟩ = some (.int .i64 x.1) := hXi.keep (own_cell_any HF5.out t0)
      have c1 : wr.cell? ⟨gF, i * 3 + 1, none⟩ = some (.int .i64 x.2.1) := hXi.keep (own_cell_any HF5.out t1)
      have c2 : wr.cell? ⟨gF, i * 3 + 2, none⟩ = some (.int .i64 x.2.2) := hXi.keep (own_cell_any HF5.out t2)
      have p0 : wr.cell? ⟨gP, i * 5, none⟩ = some (.int .i64 x.1) := hXi.keep (own_cell_any HP5.out ((plV_at l ds gr 0 (by omega) _ i hlt).trans (by rw [← hxd]; rfl)))
      have p1 : wr.cell? ⟨gP, i * 5 + 1, none⟩ = some (.int .i64 x.2.1) := hXi.keep (own_cell_any HP5.out ((plV_at l ds gr 1 (by omega) _ i hlt).trans (by rw [← hxd]; rfl)))
      have p2 : wr.cell? ⟨gP, i * 5 + 2, none⟩ = some (.int .i64 x.2.2) := hXi.keep (own_cell_any HP5.out ((plV_at l ds gr 2 (by omega) _ i hlt).trans (by rw [← hxd]; rfl)))
      have p3 : wr.cell? ⟨gP, i * 5 + 3, none⟩ = some (.int .i64 (ds i)) := hXi.keep (own_cell_any HP5.out ((plV_at l ds gr 3 (by omega) _ i hlt).trans rfl))
      have p4 : wr.cell? ⟨gP, i * 5 + 4, none⟩ = some (.int .i64 (gr x.2.1)) := hXi.keep (own_cell_any HP5.out ((plV_at l ds gr 4 (by omega) _ i hlt).trans (by rw [← hxd]; rfl)))
      have s0 : wr.cell? ⟨w.heap.size, 0, none⟩ = some (.int .i64 F) := hXi.keep (Lib.cell_of_heap hbk5 0)
      have s1 : wr.cell? ⟨w.heap.size, 1, none⟩ = some (.int .i64 R) := hXi.keep (Lib.cell_of_heap hbk5 1)
      have s2 : wr.cell? ⟨w.heap.size, 2, none⟩ = some (.slice (some ⟨gb, 0, none⟩) n n) := hXi.keep (Lib.cell_of_heap hbk5 2)
      have g0 : wr.cell? ⟨gb, x.2.1, none⟩ = some (.int .i64 (gr x.2.1)) := hXi.keep (HR5.out.cell k1)
      obtain ⟨wb, rfl⟩ : ∃ wb, wb = wr := ⟨_, rfl⟩
      obtain ⟨y0, y1, y2, y3⟩ := HP.out i hlt
      obtain ⟨G, hGv⟩ : ∃ G, G = gr x.2.1 := ⟨_, rfl⟩
      obtain ⟨G0, G1⟩ := HGR.out _ k1
      rw [← hGv] at p4 g0 G0 G1
      rw [hho, ← hGv] at y3
      obtain ⟨DY, hDY⟩ : ∃ DY, DY = ds i := ⟨_, rfl⟩
      have hM := mul_bd (x := (i : Int)) (y := R + 1) (p := 30) (q := 10) (by omega) (by omega) (by omega) (by omega)
      rw [← hDY] at p3 y0 y1 y2 y3
      have D0 : 0 ≤ DY := by omega
      have D1 : DY ≤ 109572 := by omega
      have HGv := Lib.hid hGv
      have HDY := Lib.hid hDY
      have HY3 := Lib.hid y3
      clear hGv hDY y0 y1 y2 y3 hM t0 t1 t2
      have lc := cell_lt c0
      have lp := cell_lt p0
      have ls := cell_lt s0
      have lg := cell_lt g0
      have hx16 : Ext wb (wb.alloc (.cells #[.int .i64 x.1, .int .i64 x.2.1, .int .i64 x.2.2, .int .i64 DY, .int .i64 G] 41)) := (Ext.refl _).alloc _
      have hlk : ∀ nq, (Instr.lookup 35 (.map (some w5.heap.size)) (.agg #[.int .i64 G, .int .i64 DY]) false).run Try.prog ((wb.alloc (.cells #[.int .i64 x.1, .int .i64 x.2.1, .int .i64 x.2.2, .int .i64 DY, .int .i64 G] 41)).drewN nq) = .ok (.bool false) ((wb.alloc (.cells #[.int .i64 x.1, .int .i64 x.2.1, .int .i64 x.2.2, .int .i64 DY, .int .i64 G] 41)).drewN nq) := fun nq =>
        busy_look (HI.out.busy.ext (hx16.drewN nq)) (wf64 (by omega) (by omega)) (wf64 (by omega) (by omega)) HY3.out
      have hlk2 : ∀ nq nr, (Instr.lookup 35 (.map (some w5.heap.size)) (.agg #[.int .i64 G, .int .i64 DY]) false).run Try.prog (((wb.alloc (.cells #[.int .i64 x.1, .int .i64 x.2.1, .int .i64 x.2.2, .int .i64 DY, .int .i64 G] 41)).drewN nq).drewN nr) = .ok (.bool false) (((wb.alloc (.cells #[.int .i64 x.1, .int .i64 x.2.1, .int .i64 x.2.2, .int .i64 DY, .int .i64 G] 41)).drewN nq).drewN nr) := fun nq nr =>
        busy_look (HI.out.busy.ext ((hx16.drewN nq).drewN nr)) (wf64 (by omega) (by omega)) (wf64 (by omega) (by omega)) HY3.out
      have e1 : decide ((x.2.1 : Int) < 0) = false := decide_eq_false (by omega)
      have e2 : decide ((n : Int) ≤ (x.2.1 : Int)) = false := decide_eq_false (by omega)
      have e3 : decide ((x.2.2 : Int) < 0) = false := decide_eq_false (by omega)
      have e4 : decide ((n : Int) ≤ (x.2.2 : Int)) = false := decide_eq_false (by omega)
      have e5 : (x.2.1 : Int) < (n : Int) := by omega
      go_wp2
      go_quiet (fail)
      go_wp2
      go_quiet (fail)
      obtain ⟨DB, hDB1, hDB2⟩ := HI.out.busy
      obtain ⟨klb, hklb⟩ := keyPlace (g := G) (d := DY) (wf64 (by omega) (by omega)) (wf64 (by omega) (by omega))
      have HDB2 := Lib.hid hDB2
      have hOB : ∀ W, Ext wb W → W.ownsMap Try.prog PLT (plainElem Try.prog 4) w5.heap.size i DB := fun W x => owns_same hDB1 (x.block _ hDB1.lt)
      have him : i < maxLen := by unfold maxLen; omega
      have hpb := plainElem_bool (H := Unit) (P := Try.prog) Try.underlying4 true
      clear hDB2 hlk hlk2 c0 c1 c2 p0 p1 p2 p3 p4 lc lp
      go_wp2_with (at_mapUpdate; refine wpList_mapUpdate_own _ rfl _ _ _ 35 rfl PLT 4 (Go.Maps.Keyed.of_law lawPlace) Try.underlying35 (plainElem Try.prog 4) w5.heap.size i DB rfl (hOB _ ?hx6) him _ _ klb rfl rfl hklb (.lit (.bool true)) [] hpb ?hk6)
      case hx6 => exact (by repeat (first | exact Ext.refl _ | refine Ext.drew ?_ | refine Ext.drewN ?_ _ | refine Ext.alloc ?_ _))
      intro w6 hown6 hgr6
      have hR6 := Rob.busyPut (HI.out.grow (by repeat (first | exact Ext.refl _ | refine Ext.drew ?_ | refine Ext.drewN ?_ _ | refine Ext.alloc ?_ _))) hgr6 (busy_put HDB2.out hklb (by rw [hho, HGv.out]) HDY.out.symm hown6)
      have hm1 := HI.out.busy.lt
      have hm2 := HI.out.met.lt
      have f1_6 : w6.cell? ⟨wb.heap.size, 1, none⟩ = some (.int .i64 x.2.1) := gcell hgr6 (by simp [go_sem]) (by omega)
      have f3_6 : w6.cell? ⟨wb.heap.size, 3, none⟩ = some (.int .i64 DY) := gcell hgr6 (by simp [go_sem]) (by omega)
      have f4_6 : w6.cell? ⟨wb.heap.size, 4, none⟩ = some (.int .i64 G) := gcell hgr6 (by simp [go_sem]) (by omega)
      have hbk16 : (wb.alloc (.cells #[.int .i64 x.1, .int .i64 x.2.1, .int .i64 x.2.2, .int .i64 DY, .int .i64 G] 41)).heap[wb.heap.size]? = some (.cells #[.int .i64 x.1, .int .i64 x.2.1, .int .i64 x.2.2, .int .i64 DY, .int .i64 G] 41 (0, 0)) := heap_alloc_new wb _
      have hbk6 := (hgr6.block _ (Array.getElem?_eq_some_iff.1 hbk16).1 (fun e => by have := Option.some.inj e; omega)).trans hbk16
      have HB6 := Lib.hid hbk6
      have HR6 := Lib.hid hR6
      clear hOB hpb hown6 hgr6 hR6 hDB1 hklb hbk16 hbk6
      go_upto_region 18 with fail
      go_cut [] (fun wx => Rob w5 wx w5.heap.size (w5.heap.size + 1) (w5.heap.size + 1 + 1) n (i + 1) (i + 1) l ds gr (fun t => dayL l ds t i) ∧ wx.heap[wb.heap.size]? = some (.cells #[.int .i64 x.1, .int .i64 x.2.1, .int .i64 x.2.2, .int .i64 DY, .int .i64 G] 41 (0, 0)))
      case first =>
        have hne18 := k3
        rcases Nat.lt_or_gt_of_ne hne18 with ho | ho
        · have o1 : (x.2.1 : Int) < (x.2.2 : Int) := by omega
          have o2 : ¬ ((x.2.2 : Int) < (x.2.1 : Int)) := by omega
          obtain ⟨st, w7, hE, hL, hL1, hg7, w8, hS, hM8, hg8⟩ := met_step (HR6.out.met.ext ((Ext.refl w6).drew)) (by omega) x.2.1 x.2.2 (by omega) (by omega) (pair_of hho haw (by omega) (by omega))
          have hcb := count_le (isPair l x.2.1 x.2.2) i
          generalize countTo (isPair l x.2.1 x.2.2) i = cnt at hE hL hL1 hS hcb
          have hwc : IntKind.i64.wrap ((cnt : Int) + 1) = (cnt : Int) + 1 := IntWalk.i64_in _ (by omega)
          have hS' : (Instr.entryStore 36 (.map (some (w5.heap.size + 1))) (.int .i64 (st : Int)) (.int .i64 ((cnt : Int) + 1))).run Try.prog w7 = .ok () w8 := hS
          refine wp_region_held_drew (S := (fun _ => True)) (by kernel_rfl) (by trivial) (fun hHeld => ?_)
          refine wpAnyH_take (i := 0) (v := ?v1) rfl (by kernel_rfl) (by kernel_rfl) (by kernel_rfl) (fun _ _ _ h => h) (Or.inl ⟨by rfl, ?y1⟩) (by assumption) ?r1
          case y1 => ((intro w hSw; (try dsimp only at hSw); go_simp; (first | done | with_reducible rfl)))
          (try simp only [List.getElem_toArray, List.getElem_cons_succ, List.getElem_cons_zero, Act.put, List.setIfInBounds_toArray, List.set_cons_zero, List.set_cons_succ])
          refine wpAnyH_take (i := 1) (v := ?v2) rfl (by kernel_rfl) (by kernel_rfl) (by kernel_rfl) (fun _ _ _ h => h) (Or.inl ⟨by rfl, ?y2⟩) (by assumption) ?r2
          case y2 => ((intro w hSw; (try dsimp only at hSw); go_simp; (first | done | with_reducible rfl)))
          (try simp only [List.getElem_toArray, List.getElem_cons_succ, List.getElem_cons_zero, Act.put, List.setIfInBounds_toArray, List.set_cons_zero, List.set_cons_succ])
          refine wpAnyH_take (i := 2) (v := ?v3) rfl (by kernel_rfl) (by kernel_rfl) (by kernel_rfl) (fun _ _ _ h => h) (Or.inl ⟨by rfl, ?y3⟩) (by assumption) ?r3
          case y3 => ((intro w hSw; (try dsimp only at hSw); go_simp; (first | done | with_reducible rfl)))
          (try simp only [List.getElem_toArray, List.getElem_cons_succ, List.getElem_cons_zero, Act.put, List.setIfInBounds_toArray, List.set_cons_zero, List.set_cons_succ])
          refine wpAnyH_take (i := 3) (v := ?v4) rfl (by kernel_rfl) (by kernel_rfl) (by kernel_rfl) (fun _ _ _ h => h) (Or.inl ⟨by rfl, ?y4⟩) (by assumption) ?r4
          case y4 => ((intro w hSw; (try dsimp only at hSw); go_simp; (first | done | with_reducible rfl)))
          (try simp only [List.getElem_toArray, List.getElem_cons_succ, List.getElem_cons_zero, Act.put, List.setIfInBounds_toArray, List.set_cons_zero, List.set_cons_succ])
          refine wpAnyH_take (i := 4) (v := ?v5) rfl (by kernel_rfl) (by kernel_rfl) (by kernel_rfl) (fun _ _ _ h => h) (Or.inl ⟨by rfl, ?y5⟩) (by assumption) ?r5
          case y5 => ((intro w hSw; (try dsimp only at hSw); go_simp; (first | done | with_reducible rfl)))
          (try simp only [List.getElem_toArray, List.getElem_cons_succ, List.getElem_cons_zero, Act.put, List.setIfInBounds_toArray, List.set_cons_zero, List.set_cons_succ])
          refine wpAnyH_take (i := 5) (v := ?v6) rfl (by kernel_rfl) (by kernel_rfl) (by kernel_rfl) (fun _ _ _ h => h) (Or.inl ⟨by rfl, ?y6⟩) (by assumption) ?r6
          case y6 => ((intro w hSw; (try dsimp only at hSw); go_simp; (first | done | with_reducible rfl)))
          (try simp only [List.getElem_toArray, List.getElem_cons_succ, List.getElem_cons_zero, Act.put, List.setIfInBounds_toArray, List.set_cons_zero, List.set_cons_succ])
          refine wpAnyH_take (i := 6) (v := ?v7) rfl (by kernel_rfl) (by kernel_rfl) (by kernel_rfl) (fun _ _ _ h => h) (Or.inl ⟨by rfl, ?y7⟩) (by assumption) ?r7
          case y7 => ((intro w hSw; (try dsimp only at hSw); go_simp; (first | done | with_reducible rfl)))
          (try simp only [List.getElem_toArray, List.getElem_cons_succ, List.getElem_cons_zero, Act.put, List.setIfInBounds_toArray, List.set_cons_zero, List.set_cons_succ])
          refine wpAnyH_take (i := 7) (v := ?v8) rfl (by kernel_rfl) (by kernel_rfl) (by kernel_rfl) (fun _ _ _ h => h) (Or.inl ⟨by rfl, ?y8⟩) (by assumption) ?r8
          case y8 => ((intro w hSw; (try dsimp only at hSw); go_simp; (first | done | with_reducible rfl)))
          (try simp only [List.getElem_toArray, List.getElem_cons_succ, List.getElem_cons_zero, Act.put, List.setIfInBounds_toArray, List.set_cons_zero, List.set_cons_succ])
          refine wpAnyH_ready (rs := [8, 10]) (by kernel_rfl) (by simp) ?_
          refine AllReadyH.cons rfl (fun K hK => ?_) (AllReadyH.cons rfl (fun K hK => ?_) (AllReadyH.nil))
          · skip
            go_simp
            skip
            refine hK.out _ _ (by first | (dsimp only; simp [go_sem, *]; done) | (simp [go_sem, *])) (fun hHeld => ?_)
            clear hK K
            (try simp only [List.getElem_toArray, List.getElem_cons_succ, List.getElem_cons_zero, Act.put, List.setIfInBounds_toArray, List.set_cons_zero, List.set_cons_succ])
            refine wpAnyH_take (i := 9) (v := ?v9) rfl (by kernel_rfl) (by kernel_rfl) (by kernel_rfl) (fun _ _ _ h => h) (Or.inl ⟨by rfl, ?y9⟩) (by assumption) ?r9
            case y9 => ((intro w hSw; (try dsimp only at hSw); go_simp; (first | done | with_reducible rfl)))
            (try simp only [List.getElem_toArray, List.getElem_cons_succ, List.getElem_cons_zero, Act.put, List.setIfInBounds_toArray, List.set_cons_zero, List.set_cons_succ])
            refine wpAnyH_ready (rs := [10]) (by kernel_rfl) (by simp) ?_
            refine AllReadyH.cons rfl (fun K hK => ?_) AllReadyH.nil
            go_simp
            skip
            refine hK.out _ _ (by first | (dsimp only; simp [go_sem, *]; done) | (simp [go_sem, *])) (fun hHeld => ?_)
            clear hK K
            (try simp only [List.getElem_toArray, List.getElem_cons_succ, List.getElem_cons_zero, Act.put, List.setIfInBounds_toArray, List.set_cons_zero, List.set_cons_succ])
            refine wpAnyH_take (i := 11) (v := ?v10) rfl (by kernel_rfl) (by kernel_rfl) (by kernel_rfl) (fun _ _ _ h => h) (Or.inl ⟨by rfl, ?y10⟩) (by assumption) ?r10
            case y10 => ((intro w hSw; (try dsimp only at hSw); go_simp; (first | done | with_reducible rfl)))
            (try simp only [List.getElem_toArray, List.getElem_cons_succ, List.getElem_cons_zero, Act.put, List.setIfInBounds_toArray, List.set_cons_zero, List.set_cons_succ])
            refine wpAnyH_ready (rs := [12]) (by kernel_rfl) (by simp) ?_
            refine AllReadyH.cons rfl (fun K hK => ?_) AllReadyH.nil
            go_simp
            skip
            refine hK.out _ _ (by first | (dsimp only; simp [go_sem, *]; done) | (simp [go_sem, *])) (fun hHeld => ?_)
            clear hK K
            (try simp only [List.getElem_toArray, List.getElem_cons_succ, List.getElem_cons_zero, Act.put, List.setIfInBounds_toArray, List.set_cons_zero, List.set_cons_succ])
            refine wpAnyH_done (by kernel_rfl) ?_ _
            go_wp2_with fail
            go_meet
            exact ⟨(HR6.out.grow ((Ext.refl _).drew)).metPut hg8 hM8, (hg8.block _ (Array.getElem?_eq_some_iff.1 HB6.out).1 (fun e => by have := Option.some.inj e; omega)).trans HB6.out⟩
          · skip
            go_simp
            skip
            refine hK.out _ _ (by first | (dsimp only; simp [go_sem, *]; done) | (simp [go_sem, *])) (fun hHeld => ?_)
            clear hK K
            (try simp only [List.getElem_toArray, List.getElem_cons_succ, List.getElem_cons_zero, Act.put, List.setIfInBounds_toArray, List.set_cons_zero, List.set_cons_succ])
            refine wpAnyH_take (i := 11) (v := ?v11) rfl (by kernel_rfl) (by kernel_rfl) (by kernel_rfl) (fun _ _ _ h => h) (Or.inl ⟨by rfl, ?y11⟩) (by assumption) ?r11
            case y11 => ((intro w hSw; (try dsimp only at hSw); go_simp; (first | done | with_reducible rfl)))
            (try simp only [List.getElem_toArray, List.getElem_cons_succ, List.getElem_cons_zero, Act.put, List.setIfInBounds_toArray, List.set_cons_zero, List.set_cons_succ])
            refine wpAnyH_ready (rs := [8]) (by kernel_rfl) (by simp) ?_
            refine AllReadyH.cons rfl (fun K hK => ?_) AllReadyH.nil
            go_simp
            skip
            refine hK.out _ _ (by first | (dsimp only; simp [go_sem, *]; done) | (simp [go_sem, *])) (fun hHeld => ?_)
            clear hK K
            (try simp only [List.getElem_toArray, List.getElem_cons_succ, List.getElem_cons_zero, Act.put, List.setIfInBounds_toArray, List.set_cons_zero, List.set_cons_succ])
            refine wpAnyH_take (i := 9) (v := ?v12) rfl (by kernel_rfl) (by kernel_rfl) (by kernel_rfl) (fun _ _ _ h => h) (Or.inl ⟨by rfl, ?y12⟩) (by assumption) ?r12
            case y12 => ((intro w hSw; (try dsimp only at hSw); go_simp; (first | done | with_reducible rfl)))
            (try simp only [List.getElem_toArray, List.getElem_cons_succ, List.getElem_cons_zero, Act.put, List.setIfInBounds_toArray, List.set_cons_zero, List.set_cons_succ])
            refine wpAnyH_ready (rs := [12]) (by kernel_rfl) (by simp) ?_
            refine AllReadyH.cons rfl (fun K hK => ?_) AllReadyH.nil
            go_simp
            skip
            refine hK.out _ _ (by first | (dsimp only; simp [go_sem, *]; done) | (simp [go_sem, *])) (fun hHeld => ?_)
            clear hK K
            (try simp only [List.getElem_toArray, List.getElem_cons_succ, List.getElem_cons_zero, Act.put, List.setIfInBounds_toArray, List.set_cons_zero, List.set_cons_succ])
            refine wpAnyH_done (by kernel_rfl) ?_ _
            go_wp2_with fail
            go_meet
            exact ⟨(HR6.out.grow ((Ext.refl _).drew)).metPut hg8 hM8, (hg8.block _ (Array.getElem?_eq_some_iff.1 HB6.out).1 (fun e => by have := Option.some.inj e; omega)).trans HB6.out⟩
        · have o1 : (x.2.2 : Int) < (x.2.1 : Int) := by omega
          have o2 : ¬ ((x.2.1 : Int) < (x.2.2 : Int)) := by omega
          obtain ⟨st, w7, hE, hL, hL1, hg7, w8, hS, hM8, hg8⟩ := met_step (HR6.out.met.ext ((Ext.refl w6).drew)) (by omega) x.2.2 x.2.1 (by omega) (by omega) (pair_of hho haw (by omega) (by omega))
          have hcb := count_le (isPair l x.2.2 x.2.1) i
          generalize countTo (isPair l x.2.2 x.2.1) i = cnt at hE hL hL1 hS hcb
          have hwc : IntKind.i64.wrap ((cnt : Int) + 1) = (cnt : Int) + 1 := IntWalk.i64_in _ (by omega)
          have hS' : (Instr.entryStore 36 (.map (some (w5.heap.size + 1))) (.int .i64 (st : Int)) (.int .i64 ((cnt : Int) + 1))).run Try.prog w7 = .ok () w8 := hS
          refine wp_region_held_drew (S := (fun _ => True)) (by kernel_rfl) (by trivial) (fun hHeld => ?_)
          refine wpAnyH_take (i := 0) (v := ?v13) rfl (by kernel_rfl) (by kernel_rfl) (by kernel_rfl) (fun _ _ _ h => h) (Or.inl ⟨by rfl, ?y13⟩) (by assumption) ?r13
          case y13 => ((intro w hSw; (try dsimp only at hSw); go_simp; (first | done | with_reducible rfl)))
          (try simp only [List.getElem_toArray, List.getElem_cons_succ, List.getElem_cons_zero, Act.put, List.setIfInBounds_toArray, List.set_cons_zero, List.set_cons_succ])
          refine wpAnyH_take (i := 1) (v := ?v14) rfl (by kernel_rfl) (by kernel_rfl) (by kernel_rfl) (fun _ _ _ h => h) (Or.inl ⟨by rfl, ?y14⟩) (by assumption) ?r14
          case y14 => ((intro w hSw; (try dsimp only at hSw); go_simp; (first | done | with_reducible rfl)))
          (try simp only [List.getElem_toArray, List.getElem_cons_succ, List.getElem_cons_zero, Act.put, List.setIfInBounds_toArray, List.set_cons_zero, List.set_cons_succ])
          refine wpAnyH_take (i := 2) (v := ?v15) rfl (by kernel_rfl) (by kernel_rfl) (by kernel_rfl) (fun _ _ _ h => h) (Or.inl ⟨by rfl, ?y15⟩) (by assumption) ?r15
          case y15 => ((intro w hSw; (try dsimp only at hSw); go_simp; (first | done | with_reducible rfl)))
          (try simp only [List.getElem_toArray, List.getElem_cons_succ, List.getElem_cons_zero, Act.put, List.setIfInBounds_toArray, List.set_cons_zero, List.set_cons_succ])
          refine wpAnyH_take (i := 3) (v := ?v16) rfl (by kernel_rfl) (by kernel_rfl) (by kernel_rfl) (fun _ _ _ h => h) (Or.inl ⟨by rfl, ?y16⟩) (by assumption) ?r16
          case y16 => ((intro w hSw; (try dsimp only at hSw); go_simp; (first | done | with_reducible rfl)))
          (try simp only [List.getElem_toArray, List.getElem_cons_succ, List.getElem_cons_zero, Act.put, List.setIfInBounds_toArray, List.set_cons_zero, List.set_cons_succ])
          refine wpAnyH_take (i := 4) (v := ?v17) rfl (by kernel_rfl) (by kernel_rfl) (by kernel_rfl) (fun _ _ _ h => h) (Or.inl ⟨by rfl, ?y17⟩) (by assumption) ?r17
          case y17 => ((intro w hSw; (try dsimp only at hSw); go_simp; (first | done | with_reducible rfl)))
          (try simp only [List.getElem_toArray, List.getElem_cons_succ, List.getElem_cons_zero, Act.put, List.setIfInBounds_toArray, List.set_cons_zero, List.set_cons_succ])
          refine wpAnyH_take (i := 5) (v := ?v18) rfl (by kernel_rfl) (by kernel_rfl) (by kernel_rfl) (fun _ _ _ h => h) (Or.inl ⟨by rfl, ?y18⟩) (by assumption) ?r18
          case y18 => ((intro w hSw; (try dsimp only at hSw); go_simp; (first | done | with_reducible rfl)))
          (try simp only [List.getElem_toArray, List.getElem_cons_succ, List.getElem_cons_zero, Act.put, List.setIfInBounds_toArray, List.set_cons_zero, List.set_cons_succ])
          refine wpAnyH_take (i := 6) (v := ?v19) rfl (by kernel_rfl) (by kernel_rfl) (by kernel_rfl) (fun _ _ _ h => h) (Or.inl ⟨by rfl, ?y19⟩) (by assumption) ?r19
          case y19 => ((intro w hSw; (try dsimp only at hSw); go_simp; (first | done | with_reducible rfl)))
          (try simp only [List.getElem_toArray, List.getElem_cons_succ, List.getElem_cons_zero, Act.put, List.setIfInBounds_toArray, List.set_cons_zero, List.set_cons_succ])
          refine wpAnyH_take (i := 7) (v := ?v20) rfl (by kernel_rfl) (by kernel_rfl) (by kernel_rfl) (fun _ _ _ h => h) (Or.inl ⟨by rfl, ?y20⟩) (by assumption) ?r20
          case y20 => ((intro w hSw; (try dsimp only at hSw); go_simp; (first | done | with_reducible rfl)))
          (try simp only [List.getElem_toArray, List.getElem_cons_succ, List.getElem_cons_zero, Act.put, List.setIfInBounds_toArray, List.set_cons_zero, List.set_cons_succ])
          refine wpAnyH_ready (rs := [8, 10]) (by kernel_rfl) (by simp) ?_
          refine AllReadyH.cons rfl (fun K hK => ?_) (AllReadyH.cons rfl (fun K hK => ?_) (AllReadyH.nil))
          · skip
            go_simp
            skip
            refine hK.out _ _ (by first | (dsimp only; simp [go_sem, *]; done) | (simp [go_sem, *])) (fun hHeld => ?_)
            clear hK K
            (try simp only [List.getElem_toArray, List.getElem_cons_succ, List.getElem_cons_zero, Act.put, List.setIfInBounds_toArray, List.set_cons_zero, List.set_cons_succ])
            refine wpAnyH_take (i := 9) (v := ?v21) rfl (by kernel_rfl) (by kernel_rfl) (by kernel_rfl) (fun _ _ _ h => h) (Or.inl ⟨by rfl, ?y21⟩) (by assumption) ?r21
            case y21 => ((intro w hSw; (try dsimp only at hSw); go_simp; (first | done | with_reducible rfl)))
            (try simp only [List.getElem_toArray, List.getElem_cons_succ, List.getElem_cons_zero, Act.put, List.setIfInBounds_toArray, List.set_cons_zero, List.set_cons_succ])
            refine wpAnyH_ready (rs := [10]) (by kernel_rfl) (by simp) ?_
            refine AllReadyH.cons rfl (fun K hK => ?_) AllReadyH.nil
            go_simp
            skip
            refine hK.out _ _ (by first | (dsimp only; simp [go_sem, *]; done) | (simp [go_sem, *])) (fun hHeld => ?_)
            clear hK K
            (try simp only [List.getElem_toArray, List.getElem_cons_succ, List.getElem_cons_zero, Act.put, List.setIfInBounds_toArray, List.set_cons_zero, List.set_cons_succ])
            refine wpAnyH_take (i := 11) (v := ?v22) rfl (by kernel_rfl) (by kernel_rfl) (by kernel_rfl) (fun _ _ _ h => h) (Or.inl ⟨by rfl, ?y22⟩) (by assumption) ?r22
            case y22 => ((intro w hSw; (try dsimp only at hSw); go_simp; (first | done | with_reducible rfl)))
            (try simp only [List.getElem_toArray, List.getElem_cons_succ, List.getElem_cons_zero, Act.put, List.setIfInBounds_toArray, List.set_cons_zero, List.set_cons_succ])
            refine wpAnyH_ready (rs := [12]) (by kernel_rfl) (by simp) ?_
            refine AllReadyH.cons rfl (fun K hK => ?_) AllReadyH.nil
            go_simp
            skip
            refine hK.out _ _ (by first | (dsimp only; simp [go_sem, *]; done) | (simp [go_sem, *])) (fun hHeld => ?_)
            clear hK K
            (try simp only [List.getElem_toArray, List.getElem_cons_succ, List.getElem_cons_zero, Act.put, List.setIfInBounds_toArray, List.set_cons_zero, List.set_cons_succ])
            refine wpAnyH_done (by kernel_rfl) ?_ _
            go_wp2_with fail
            go_meet
            exact ⟨(HR6.out.grow ((Ext.refl _).drew)).metPut hg8 hM8, (hg8.block _ (Array.getElem?_eq_some_iff.1 HB6.out).1 (fun e => by have := Option.some.inj e; omega)).trans HB6.out⟩
          · skip
            go_simp
            skip
            refine hK.out _ _ (by first | (dsimp only; simp [go_sem, *]; done) | (simp [go_sem, *])) (fun hHeld => ?_)
            clear hK K
            (try simp only [List.getElem_toArray, List.getElem_cons_succ, List.getElem_cons_zero, Act.put, List.setIfInBounds_toArray, List.set_cons_zero, List.set_cons_succ])
            refine wpAnyH_take (i := 11) (v := ?v23) rfl (by kernel_rfl) (by kernel_rfl) (by kernel_rfl) (fun _ _ _ h => h) (Or.inl ⟨by rfl, ?y23⟩) (by assumption) ?r23
            case y23 => ((intro w hSw; (try dsimp only at hSw); go_simp; (first | done | with_reducible rfl)))
            (try simp only [List.getElem_toArray, List.getElem_cons_succ, List.getElem_cons_zero, Act.put, List.setIfInBounds_toArray, List.set_cons_zero, List.set_cons_succ])
            refine wpAnyH_ready (rs := [8]) (by kernel_rfl) (by simp) ?_
            refine AllReadyH.cons rfl (fun K hK => ?_) AllReadyH.nil
            go_simp
            skip
            refine hK.out _ _ (by first | (dsimp only; simp [go_sem, *]; done) | (simp [go_sem, *])) (fun hHeld => ?_)
            clear hK K
            (try simp only [List.getElem_toArray, List.getElem_cons_succ, List.getElem_cons_zero, Act.put, List.setIfInBounds_toArray, List.set_cons_zero, List.set_cons_succ])
            refine wpAnyH_take (i := 9) (v := ?v24) rfl (by kernel_rfl) (by kernel_rfl) (by kernel_rfl) (fun _ _ _ h => h) (Or.inl ⟨by rfl, ?y24⟩) (by assumption) ?r24
            case y24 => ((intro w hSw; (try dsimp only at hSw); go_simp; (first | done | with_reducible rfl)))
            (try simp only [List.getElem_toArray, List.getElem_cons_succ, List.getElem_cons_zero, Act.put, List.setIfInBounds_toArray, List.set_cons_zero, List.set_cons_succ])
            refine wpAnyH_ready (rs := [12]) (by kernel_rfl) (by simp) ?_
            refine AllReadyH.cons rfl (fun K hK => ?_) AllReadyH.nil
            go_simp
            skip
            refine hK.out _ _ (by first | (dsimp only; simp [go_sem, *]; done) | (simp [go_sem, *])) (fun hHeld => ?_)
            clear hK K
            (try simp only [List.getElem_toArray, List.getElem_cons_succ, List.getElem_cons_zero, Act.put, List.setIfInBounds_toArray, List.set_cons_zero, List.set_cons_succ])
            refine wpAnyH_done (by kernel_rfl) ?_ _
            go_wp2_with fail
            go_meet
            exact ⟨(HR6.out.grow ((Ext.refl _).drew)).metPut hg8 hM8, (hg8.block _ (Array.getElem?_eq_some_iff.1 HB6.out).1 (fun e => by have := Option.some.inj e; omega)).trans HB6.out⟩
      case rest =>
      obtain ⟨hR8, hbk8⟩ := hcut
      obtain ⟨wv, rfl⟩ : ∃ wv, wv = wc := ⟨_, rfl⟩
      obtain ⟨L8, hL8⟩ : ∃ L : Nat → List Int, L = fun t => dayL l ds t i := ⟨_, rfl⟩
      rw [← hL8] at hR8
      have hLB8 : ∀ t, (L8 t).length ≤ 30 := fun t => by rw [hL8, dayL_len]; exact Nat.le_trans (count_le _ _) (by omega)
      have HLB8 := Lib.hid hLB8
      have HL8 := Lib.hid hL8
      clear hLB8 hL8 f1_6 f3_6 f4_6
      obtain ⟨iI, hIi, hIz, hIs, hIb⟩ := info_parts infoI64
      have HR8 := Lib.hid hR8
      have HB8 := Lib.hid hbk8
      have f3_8 := Lib.cell_of_heap hbk8 3
      simp only [List.getElem?_toArray, List.getElem?_cons_succ, List.getElem?_cons_zero] at f3_8
      obtain ⟨vs8, hd8⟩ := hR8.days
      have cd8 : wv.cell? ⟨w5.heap.size + 1 + 1, x.2.1, none⟩ = some (vs8 x.2.1) := hd8.row.cell k1
      have HD8 := Lib.hid hd8
      have lc8 := cell_lt cd8
      have lf8 := cell_lt f3_8
      clear hR8 hbk8 hd8
      go_upto_region 19 with fail
      go_cut [] (fun wx => Rob w5 wx w5.heap.size (w5.heap.size + 1) (w5.heap.size + 1 + 1) n (i + 1) (i + 1) l ds gr (addTo L8 x.2.1 DY) ∧ wx.heap[wb.heap.size]? = some (.cells #[.int .i64 x.1, .int .i64 x.2.1, .int .i64 x.2.2, .int .i64 DY, .int .i64 G] 41 (0, 0)))
      case first =>
        refine wp_region_held_drew (S := (fun w' => w'.cell? ⟨wb.heap.size, 3, none⟩ = some (.int .i64 DY))) (by kernel_rfl) (by exact f3_8) (fun hHeld => ?_)
        refine wpAnyH_take (i := 0) (v := ?v25) rfl (by kernel_rfl) (by kernel_rfl) (by kernel_rfl) (fun _ _ _ h => h) (Or.inl ⟨by rfl, ?y25⟩) (by assumption) ?r25
        case y25 => ((intro w hSw; (try dsimp only at hSw); go_simp; (first | done | with_reducible rfl)))
        (try simp only [List.getElem_toArray, List.getElem_cons_succ, List.getElem_cons_zero, Act.put, List.setIfInBounds_toArray, List.set_cons_zero, List.set_cons_succ])
        refine wpAnyH_take (i := 1) (v := ?v26) rfl (by kernel_rfl) (by kernel_rfl) (by kernel_rfl) (fun _ _ _ h => h) (Or.inl ⟨by rfl, ?y26⟩) (by assumption) ?r26
        case y26 => ((intro w hSw; (try dsimp only at hSw); go_simp; (first | done | with_reducible rfl)))
        (try simp only [List.getElem_toArray, List.getElem_cons_succ, List.getElem_cons_zero, Act.put, List.setIfInBounds_toArray, List.set_cons_zero, List.set_cons_succ])
        refine wpAnyH_take (i := 2) (v := ?v27) rfl (by kernel_rfl) (by kernel_rfl) (by kernel_rfl) (fun _ _ _ h => h) (Or.inl ⟨by rfl, ?y27⟩) (by assumption) ?r27
        case y27 => ((intro w hSw; (try dsimp only at hSw); go_simp; (first | done | with_reducible rfl)))
        (try simp only [List.getElem_toArray, List.getElem_cons_succ, List.getElem_cons_zero, Act.put, List.setIfInBounds_toArray, List.set_cons_zero, List.set_cons_succ])
        refine wpAnyH_take (i := 3) (v := ?v28) rfl (by kernel_rfl) (by kernel_rfl) (by kernel_rfl) (fun _ _ _ h => h) (Or.inl ⟨by rfl, ?y28⟩) (by assumption) ?r28
        case y28 => ((intro w hSw; (try dsimp only at hSw); go_simp; (first | done | with_reducible rfl)))
        (try simp only [List.getElem_toArray, List.getElem_cons_succ, List.getElem_cons_zero, Act.put, List.setIfInBounds_toArray, List.set_cons_zero, List.set_cons_succ])
        refine wpAnyH_take (i := 4) (v := ?v29) rfl (by kernel_rfl) (by kernel_rfl) (by kernel_rfl) (fun _ _ _ h => h) (Or.inl ⟨by rfl, ?y29⟩) (by assumption) ?r29
        case y29 => ((intro w hSw; (try dsimp only at hSw); go_simp; (first | done | with_reducible rfl)))
        (try simp only [List.getElem_toArray, List.getElem_cons_succ, List.getElem_cons_zero, Act.put, List.setIfInBounds_toArray, List.set_cons_zero, List.set_cons_succ])
        refine wpAnyH_take (i := 6) (v := ?v30) rfl (by kernel_rfl) (by kernel_rfl) (by kernel_rfl) (fun _ _ _ h => h) (Or.inl ⟨by rfl, ?y30⟩) (by assumption) ?r30
        case y30 => ((intro w hSw; (try dsimp only at hSw); go_simp; (first | done | with_reducible rfl)))
        (try simp only [List.getElem_toArray, List.getElem_cons_succ, List.getElem_cons_zero, Act.put, List.setIfInBounds_toArray, List.set_cons_zero, List.set_cons_succ])
        refine wpAnyH_take (i := 7) (v := ?v31) rfl (by kernel_rfl) (by kernel_rfl) (by kernel_rfl) (fun _ _ _ h => h) (Or.inl ⟨by rfl, ?y31⟩) (by assumption) ?r31
        case y31 => ((intro w hSw; (try dsimp only at hSw); go_simp; (first | done | with_reducible rfl)))
        (try simp only [List.getElem_toArray, List.getElem_cons_succ, List.getElem_cons_zero, Act.put, List.setIfInBounds_toArray, List.set_cons_zero, List.set_cons_succ])
        refine wpAnyH_ready (rs := [5, 8]) (by kernel_rfl) (by simp) ?_
        refine AllReadyH.cons rfl (fun K hK => ?_) (AllReadyH.cons rfl (fun K hK => ?_) (AllReadyH.nil))
        · skip
          go_simp
          skip
          refine hK.out _ _ (by first | (dsimp only; simp [go_sem, *]; done) | (simp [go_sem, *])) (fun hHeld => ?_)
          clear hK K
          (try simp only [List.getElem_toArray, List.getElem_cons_succ, List.getElem_cons_zero, Act.put, List.setIfInBounds_toArray, List.set_cons_zero, List.set_cons_succ])
          refine wpAnyH_ready (rs := [8]) (by kernel_rfl) (by simp) ?_
          refine AllReadyH.cons rfl (fun K hK => ?_) AllReadyH.nil
          go_simp
          skip
          refine hK.out _ _ (by first | (dsimp only; simp [go_sem, *]; done) | (simp [go_sem, *])) (fun hHeld => ?_)
          clear hK K
          (try simp only [List.getElem_toArray, List.getElem_cons_succ, List.getElem_cons_zero, Act.put, List.setIfInBounds_toArray, List.set_cons_zero, List.set_cons_succ])
          refine wpAnyH_ready (rs := [9]) (by kernel_rfl) (by simp) ?_
          refine AllReadyH.cons rfl (fun K hK => ?_) AllReadyH.nil
          refine step_append_lies _ rfl _ _ 45 rfl w5.heap.size 2 iI (.int .i64 0) 1 8 Try.underlying45 hIi hIz hIs hIb rfl (by decide) (vs8 x.2.1) (L8 x.2.1).length (intsV (L8 x.2.1)) rfl ((HD8.out.ext (by repeat (first | exact Ext.refl _ | refine Ext.drew ?_ | refine Ext.drewN ?_ _ | refine Ext.alloc ?_ _))).own _ k1) ⟨wv.heap.size, 0, none⟩ 1 1 [.int .i64 DY] rfl rfl ?o1 ?o2 (by decide) (by unfold maxLen; have := HLB8.out (x.2.1); omega) (by have := HLB8.out (x.2.1); omega) (by have := HR8.out.ext.size; simp at this ⊢; omega) _ rfl ?_
          case o1 =>
            intro j u hu
            rcases j with _ | j
            · simp at hu; subst hu; simp [go_sem, Addr.add]
            · simp at hu
          case o2 => intro u hu; simp at hu; subst hu; rfl
          intro g1 cap1 w9 hown9 hgr9 hat9 _
          obtain ⟨hrow9, hbk9, hbt9, HN⟩ := day_next HR8.out HD8.out (by repeat (first | exact Ext.refl _ | refine Ext.drew ?_ | refine Ext.drewN ?_ _ | refine Ext.alloc ?_ _)) k1 HB8.out hown9 hgr9 hat9
          have HN := Lib.hid HN
          have hbt9' := hbt9.symm
          have r1 := hrow9.cell k1
          have r2 := hrow9.frozen (x.2.1)
          have s3 := Lib.cell_of_heap hbk9 3
          simp only [List.getElem?_toArray, List.getElem?_cons_succ, List.getElem?_cons_zero] at s3
          clear hown9 hgr9 hat9 hrow9 hbk9
          refine hK.out _ _ (by first | exact s3 | (dsimp only; simp [go_sem, *]; done) | (simp [go_sem, *])) (fun hHeld => ?_)
          clear hK K
          (try simp only [List.getElem_toArray, List.getElem_cons_succ, List.getElem_cons_zero, Act.put, List.setIfInBounds_toArray, List.set_cons_zero, List.set_cons_succ])
          refine wpAnyH_take (i := 10) (v := ?v32) rfl (by kernel_rfl) (by kernel_rfl) (by kernel_rfl) (fun _ _ _ h => h) (Or.inl ⟨by rfl, ?y32⟩) (by assumption) ?r32
          case y32 => ((intro w hSw; (try dsimp only at hSw); go_simp; (first | done | with_reducible rfl)))
          (try simp only [List.getElem_toArray, List.getElem_cons_succ, List.getElem_cons_zero, Act.put, List.setIfInBounds_toArray, List.set_cons_zero, List.set_cons_succ])
          refine wpAnyH_ready (rs := [11]) (by kernel_rfl) (by simp) ?_
          refine AllReadyH.cons rfl (fun K hK => ?_) AllReadyH.nil
          go_simp
          skip
          refine hK.out _ _ (by first | (dsimp only; simp [go_sem, *]; done) | (simp [go_sem, *])) (fun hHeld => ?_)
          clear hK K
          (try simp only [List.getElem_toArray, List.getElem_cons_succ, List.getElem_cons_zero, Act.put, List.setIfInBounds_toArray, List.set_cons_zero, List.set_cons_succ])
          refine wpAnyH_done (by kernel_rfl) ?_ _
          go_wp2_with fail
          go_meet
          exact ⟨HN.out.1.grow (by repeat (first | exact Ext.refl _ | refine Ext.drew ?_ | refine Ext.drewN ?_ _ | refine Ext.alloc ?_ _)), HN.out.2⟩
        · skip
          go_simp
          skip
          refine hK.out _ _ (by first | (dsimp only; simp [go_sem, *]; done) | (simp [go_sem, *])) (fun hHeld => ?_)
          clear hK K
          (try simp only [List.getElem_toArray, List.getElem_cons_succ, List.getElem_cons_zero, Act.put, List.setIfInBounds_toArray, List.set_cons_zero, List.set_cons_succ])
          refine wpAnyH_ready (rs := [5]) (by kernel_rfl) (by simp) ?_
          refine AllReadyH.cons rfl (fun K hK => ?_) AllReadyH.nil
          obtain ⟨w7, hw7⟩ : ∃ W, W = (wv.alloc (.cells #[.int .i64 DY] 2)).drew := ⟨_, rfl⟩
          have hx7 : Ext wv w7 := by rw [hw7]; exact ((Ext.refl _).alloc _).drew
          have c7 : w7.cell? ⟨w5.heap.size + 1 + 1, x.2.1, none⟩ = some (vs8 x.2.1) := hx7.keep cd8
          have d7 : w7.cell? ⟨wb.heap.size, 3, none⟩ = some (.int .i64 DY) := hx7.keep f3_8
          have n7 : w7.cell? ⟨wv.heap.size, 0, none⟩ = some (.int .i64 DY) := by rw [hw7]; simp [go_sem]
          rw [← hw7]
          clear hw7 hHeld
          have lc7 := cell_lt c7
          go_simp
          refine hK.out _ _ (by first | exact d7 | (dsimp only; simp [go_sem, *]; done) | (simp [go_sem, *])) (fun hHeld => ?_)
          clear hK K
          (try simp only [List.getElem_toArray, List.getElem_cons_succ, List.getElem_cons_zero, Act.put, List.setIfInBounds_toArray, List.set_cons_zero, List.set_cons_succ])
          refine wpAnyH_ready (rs := [9]) (by kernel_rfl) (by simp) ?_
          refine AllReadyH.cons rfl (fun K hK => ?_) AllReadyH.nil
          refine step_append_lies _ rfl _ _ 45 rfl w5.heap.size 2 iI (.int .i64 0) 1 8 Try.underlying45 hIi hIz hIs hIb rfl (by decide) (vs8 x.2.1) (L8 x.2.1).length (intsV (L8 x.2.1)) rfl ((HD8.out.ext hx7).own _ k1) ⟨wv.heap.size, 0, none⟩ 1 1 [.int .i64 DY] rfl rfl ?o1 ?o2 (by decide) (by unfold maxLen; have := HLB8.out (x.2.1); omega) (by have := HLB8.out (x.2.1); omega) (by have := HR8.out.ext.size; have := hx7.size; omega) _ rfl ?_
          case o1 =>
            intro j u hu
            rcases j with _ | j
            · simp at hu; subst hu; exact n7
            · simp at hu
          case o2 => intro u hu; simp at hu; subst hu; rfl
          intro g1 cap1 w9 hown9 hgr9 hat9 _
          obtain ⟨hrow9, hbk9, hbt9, HN⟩ := day_next HR8.out HD8.out hx7 k1 HB8.out hown9 hgr9 hat9
          have HN := Lib.hid HN
          have hbt9' := hbt9.symm
          have r1 := hrow9.cell k1
          have r2 := hrow9.frozen (x.2.1)
          have s3 := Lib.cell_of_heap hbk9 3
          simp only [List.getElem?_toArray, List.getElem?_cons_succ, List.getElem?_cons_zero] at s3
          clear hown9 hgr9 hat9 hrow9 hbk9
          refine hK.out _ _ (by first | exact s3 | (dsimp only; simp [go_sem, *]; done) | (simp [go_sem, *])) (fun hHeld => ?_)
          clear hK K
          (try simp only [List.getElem_toArray, List.getElem_cons_succ, List.getElem_cons_zero, Act.put, List.setIfInBounds_toArray, List.set_cons_zero, List.set_cons_succ])
          refine wpAnyH_take (i := 10) (v := ?v33) rfl (by kernel_rfl) (by kernel_rfl) (by kernel_rfl) (fun _ _ _ h => h) (Or.inl ⟨by rfl, ?y33⟩) (by assumption) ?r33
          case y33 => ((intro w hSw; (try dsimp only at hSw); go_simp; (first | done | with_reducible rfl)))
          (try simp only [List.getElem_toArray, List.getElem_cons_succ, List.getElem_cons_zero, Act.put, List.setIfInBounds_toArray, List.set_cons_zero, List.set_cons_succ])
          refine wpAnyH_ready (rs := [11]) (by kernel_rfl) (by simp) ?_
          refine AllReadyH.cons rfl (fun K hK => ?_) AllReadyH.nil
          go_simp
          skip
          refine hK.out _ _ (by first | (dsimp only; simp [go_sem, *]; done) | (simp [go_sem, *])) (fun hHeld => ?_)
          clear hK K
          (try simp only [List.getElem_toArray, List.getElem_cons_succ, List.getElem_cons_zero, Act.put, List.setIfInBounds_toArray, List.set_cons_zero, List.set_cons_succ])
          refine wpAnyH_done (by kernel_rfl) ?_ _
          go_wp2_with fail
          go_meet
          exact ⟨HN.out.1.grow (by repeat (first | exact Ext.refl _ | refine Ext.drew ?_ | refine Ext.drewN ?_ _ | refine Ext.alloc ?_ _)), HN.out.2⟩
      case rest =>
      obtain ⟨hR9, hbk9⟩ := hcut
      obtain ⟨wy, rfl⟩ : ∃ wy, wy = wc := ⟨_, rfl⟩
      obtain ⟨L9, hL9⟩ : ∃ L : Nat → List Int, L = addTo L8 x.2.1 DY := ⟨_, rfl⟩
      rw [← hL9] at hR9
      have hLB9 : ∀ t, (L9 t).length ≤ 31 := fun t => by rw [hL9]; exact addTo_len L8 x.2.1 DY t HLB8.out
      have HLB9 := Lib.hid hLB9
      have HL9 := Lib.hid hL9
      clear hLB9 hL9 f3_8 cd8 lc8 lf8
      have HR9 := Lib.hid hR9
      have HB9 := Lib.hid hbk9
      have f3_9 := Lib.cell_of_heap hbk9 3
      simp only [List.getElem?_toArray, List.getElem?_cons_succ, List.getElem?_cons_zero] at f3_9
      obtain ⟨vs9, hd9⟩ := hR9.days
      have cd9 : wy.cell? ⟨w5.heap.size + 1 + 1, x.2.2, none⟩ = some (vs9 x.2.2) := hd9.row.cell k2
      have HD9 := Lib.hid hd9
      have lc9 := cell_lt cd9
      have lf9 := cell_lt f3_9
      clear hR9 hbk9 hd9
      go_upto_region 20 with fail
      go_cut [] (fun wx => Rob w5 wx w5.heap.size (w5.heap.size + 1) (w5.heap.size + 1 + 1) n (i + 1) (i + 1) l ds gr (addTo L9 x.2.2 DY) ∧ wx.heap[wb.heap.size]? = some (.cells #[.int .i64 x.1, .int .i64 x.2.1, .int .i64 x.2.2, .int .i64 DY, .int .i64 G] 41 (0, 0)))
      case first =>
        refine wp_region_held_drew (S := (fun w' => w'.cell? ⟨wb.heap.size, 3, none⟩ = some (.int .i64 DY))) (by kernel_rfl) (by exact f3_9) (fun hHeld => ?_)
        refine wpAnyH_take (i := 0) (v := ?v34) rfl (by kernel_rfl) (by kernel_rfl) (by kernel_rfl) (fun _ _ _ h => h) (Or.inl ⟨by rfl, ?y34⟩) (by assumption) ?r34
        case y34 => ((intro w hSw; (try dsimp only at hSw); go_simp; (first | done | with_reducible rfl)))
        (try simp only [List.getElem_toArray, List.getElem_cons_succ, List.getElem_cons_zero, Act.put, List.setIfInBounds_toArray, List.set_cons_zero, List.set_cons_succ])
        refine wpAnyH_take (i := 1) (v := ?v35) rfl (by kernel_rfl) (by kernel_rfl) (by kernel_rfl) (fun _ _ _ h => h) (Or.inl ⟨by rfl, ?y35⟩) (by assumption) ?r35
        case y35 => ((intro w hSw; (try dsimp only at hSw); go_simp; (first | done | with_reducible rfl)))
        (try simp only [List.getElem_toArray, List.getElem_cons_succ, List.getElem_cons_zero, Act.put, List.setIfInBounds_toArray, List.set_cons_zero, List.set_cons_succ])
        refine wpAnyH_take (i := 2) (v := ?v36) rfl (by kernel_rfl) (by kernel_rfl) (by kernel_rfl) (fun _ _ _ h => h) (Or.inl ⟨by rfl, ?y36⟩) (by assumption) ?r36
        case y36 => ((intro w hSw; (try dsimp only at hSw); go_simp; (first | done | with_reducible rfl)))
        (try simp only [List.getElem_toArray, List.getElem_cons_succ, List.getElem_cons_zero, Act.put, List.setIfInBounds_toArray, List.set_cons_zero, List.set_cons_succ])
        refine wpAnyH_take (i := 3) (v := ?v37) rfl (by kernel_rfl) (by kernel_rfl) (by kernel_rfl) (fun _ _ _ h => h) (Or.inl ⟨by rfl, ?y37⟩) (by assumption) ?r37
        case y37 => ((intro w hSw; (try dsimp only at hSw); go_simp; (first | done | with_reducible rfl)))
        (try simp only [List.getElem_toArray, List.getElem_cons_succ, List.getElem_cons_zero, Act.put, List.setIfInBounds_toArray, List.set_cons_zero, List.set_cons_succ])
        refine wpAnyH_take (i := 4) (v := ?v38) rfl (by kernel_rfl) (by kernel_rfl) (by kernel_rfl) (fun _ _ _ h => h) (Or.inl ⟨by rfl, ?y38⟩) (by assumption) ?r38
        case y38 => ((intro w hSw; (try dsimp only at hSw); go_simp; (first | done | with_reducible rfl)))
        (try simp only [List.getElem_toArray, List.getElem_cons_succ, List.getElem_cons_zero, Act.put, List.setIfInBounds_toArray, List.set_cons_zero, List.set_cons_succ])
        refine wpAnyH_take (i := 6) (v := ?v39) rfl (by kernel_rfl) (by kernel_rfl) (by kernel_rfl) (fun _ _ _ h => h) (Or.inl ⟨by rfl, ?y39⟩) (by assumption) ?r39
        case y39 => ((intro w hSw; (try dsimp only at hSw); go_simp; (first | done | with_reducible rfl)))
        (try simp only [List.getElem_toArray, List.getElem_cons_succ, List.getElem_cons_zero, Act.put, List.setIfInBounds_toArray, List.set_cons_zero, List.set_cons_succ])
        refine wpAnyH_take (i := 7) (v := ?v40) rfl (by kernel_rfl) (by kernel_rfl) (by kernel_rfl) (fun _ _ _ h => h) (Or.inl ⟨by rfl, ?y40⟩) (by assumption) ?r40
        case y40 => ((intro w hSw; (try dsimp only at hSw); go_simp; (first | done | with_reducible rfl)))
        (try simp only [List.getElem_toArray, List.getElem_cons_succ, List.getElem_cons_zero, Act.put, List.setIfInBounds_toArray, List.set_cons_zero, List.set_cons_succ])
        refine wpAnyH_ready (rs := [5, 8]) (by kernel_rfl) (by simp) ?_
        refine AllReadyH.cons rfl (fun K hK => ?_) (AllReadyH.cons rfl (fun K hK => ?_) (AllReadyH.nil))
        · skip
          go_simp
          skip
          refine hK.out _ _ (by first | (dsimp only; simp [go_sem, *]; done) | (simp [go_sem, *])) (fun hHeld => ?_)
          clear hK K
          (try simp only [List.getElem_toArray, List.getElem_cons_succ, List.getElem_cons_zero, Act.put, List.setIfInBounds_toArray, List.set_cons_zero, List.set_cons_succ])
          refine wpAnyH_ready (rs := [8]) (by kernel_rfl) (by simp) ?_
          refine AllReadyH.cons rfl (fun K hK => ?_) AllReadyH.nil
          go_simp
          skip
          refine hK.out _ _ (by first | (dsimp only; simp [go_sem, *]; done) | (simp [go_sem, *])) (fun hHeld => ?_)
          clear hK K
          (try simp only [List.getElem_toArray, List.getElem_cons_succ, List.getElem_cons_zero, Act.put, List.setIfInBounds_toArray, List.set_cons_zero, List.set_cons_succ])
          refine wpAnyH_ready (rs := [9]) (by kernel_rfl) (by simp) ?_
          refine AllReadyH.cons rfl (fun K hK => ?_) AllReadyH.nil
          refine step_append_lies _ rfl _ _ 45 rfl w5.heap.size 2 iI (.int .i64 0) 1 8 Try.underlying45 hIi hIz hIs hIb rfl (by decide) (vs9 x.2.2) (L9 x.2.2).length (intsV (L9 x.2.2)) rfl ((HD9.out.ext (by repeat (first | exact Ext.refl _ | refine Ext.drew ?_ | refine Ext.drewN ?_ _ | refine Ext.alloc ?_ _))).own _ k2) ⟨wy.heap.size, 0, none⟩ 1 1 [.int .i64 DY] rfl rfl ?o1 ?o2 (by decide) (by unfold maxLen; have := HLB9.out (x.2.2); omega) (by have := HLB9.out (x.2.2); omega) (by have := HR9.out.ext.size; simp at this ⊢; omega) _ rfl ?_
          case o1 =>
            intro j u hu
            rcases j with _ | j
            · simp at hu; subst hu; simp [go_sem, Addr.add]
            · simp at hu
          case o2 => intro u hu; simp at hu; subst hu; rfl
          intro g1 cap1 w9 hown9 hgr9 hat9 _
          obtain ⟨hrow9, hbk9, hbt9, HN⟩ := day_next HR9.out HD9.out (by repeat (first | exact Ext.refl _ | refine Ext.drew ?_ | refine Ext.drewN ?_ _ | refine Ext.alloc ?_ _)) k2 HB9.out hown9 hgr9 hat9
          have HN := Lib.hid HN
          have hbt9' := hbt9.symm
          have r1 := hrow9.cell k2
          have r2 := hrow9.frozen (x.2.2)
          have s3 := Lib.cell_of_heap hbk9 3
          simp only [List.getElem?_toArray, List.getElem?_cons_succ, List.getElem?_cons_zero] at s3
          clear hown9 hgr9 hat9 hrow9 hbk9
          refine hK.out _ _ (by first | exact s3 | (dsimp only; simp [go_sem, *]; done) | (simp [go_sem, *])) (fun hHeld => ?_)
          clear hK K
          (try simp only [List.getElem_toArray, List.getElem_cons_succ, List.getElem_cons_zero, Act.put, List.setIfInBounds_toArray, List.set_cons_zero, List.set_cons_succ])
          refine wpAnyH_take (i := 10) (v := ?v41) rfl (by kernel_rfl) (by kernel_rfl) (by kernel_rfl) (fun _ _ _ h => h) (Or.inl ⟨by rfl, ?y41⟩) (by assumption) ?r41
          case y41 => ((intro w hSw; (try dsimp only at hSw); go_simp; (first | done | with_reducible rfl)))
          (try simp only [List.getElem_toArray, List.getElem_cons_succ, List.getElem_cons_zero, Act.put, List.setIfInBounds_toArray, List.set_cons_zero, List.set_cons_succ])
          refine wpAnyH_ready (rs := [11]) (by kernel_rfl) (by simp) ?_
          refine AllReadyH.cons rfl (fun K hK => ?_) AllReadyH.nil
          go_simp
          skip
          refine hK.out _ _ (by first | (dsimp only; simp [go_sem, *]; done) | (simp [go_sem, *])) (fun hHeld => ?_)
          clear hK K
          (try simp only [List.getElem_toArray, List.getElem_cons_succ, List.getElem_cons_zero, Act.put, List.setIfInBounds_toArray, List.set_cons_zero, List.set_cons_succ])
          refine wpAnyH_done (by kernel_rfl) ?_ _
          go_wp2_with fail
          go_meet
          exact ⟨HN.out.1.grow (by repeat (first | exact Ext.refl _ | refine Ext.drew ?_ | refine Ext.drewN ?_ _ | refine Ext.alloc ?_ _)), HN.out.2⟩
        · skip
          go_simp
          skip
          refine hK.out _ _ (by first | (dsimp only; simp [go_sem, *]; done) | (simp [go_sem, *])) (fun hHeld => ?_)
          clear hK K
          (try simp only [List.getElem_toArray, List.getElem_cons_succ, List.getElem_cons_zero, Act.put, List.setIfInBounds_toArray, List.set_cons_zero, List.set_cons_succ])
          refine wpAnyH_ready (rs := [5]) (by kernel_rfl) (by simp) ?_
          refine AllReadyH.cons rfl (fun K hK => ?_) AllReadyH.nil
          obtain ⟨w7, hw7⟩ : ∃ W, W = (wy.alloc (.cells #[.int .i64 DY] 2)).drew := ⟨_, rfl⟩
          have hx7 : Ext wy w7 := by rw [hw7]; exact ((Ext.refl _).alloc _).drew
          have c7 : w7.cell? ⟨w5.heap.size + 1 + 1, x.2.2, none⟩ = some (vs9 x.2.2) := hx7.keep cd9
          have d7 : w7.cell? ⟨wb.heap.size, 3, none⟩ = some (.int .i64 DY) := hx7.keep f3_9
          have n7 : w7.cell? ⟨wy.heap.size, 0, none⟩ = some (.int .i64 DY) := by rw [hw7]; simp [go_sem]
          rw [← hw7]
          clear hw7 hHeld
          have lc7 := cell_lt c7
          go_simp
          refine hK.out _ _ (by first | exact d7 | (dsimp only; simp [go_sem, *]; done) | (simp [go_sem, *])) (fun hHeld => ?_)
          clear hK K
          (try simp only [List.getElem_toArray, List.getElem_cons_succ, List.getElem_cons_zero, Act.put, List.setIfInBounds_toArray, List.set_cons_zero, List.set_cons_succ])
          refine wpAnyH_ready (rs := [9]) (by kernel_rfl) (by simp) ?_
          refine AllReadyH.cons rfl (fun K hK => ?_) AllReadyH.nil
          refine step_append_lies _ rfl _ _ 45 rfl w5.heap.size 2 iI (.int .i64 0) 1 8 Try.underlying45 hIi hIz hIs hIb rfl (by decide) (vs9 x.2.2) (L9 x.2.2).length (intsV (L9 x.2.2)) rfl ((HD9.out.ext hx7).own _ k2) ⟨wy.heap.size, 0, none⟩ 1 1 [.int .i64 DY] rfl rfl ?o1 ?o2 (by decide) (by unfold maxLen; have := HLB9.out (x.2.2); omega) (by have := HLB9.out (x.2.2); omega) (by have := HR9.out.ext.size; have := hx7.size; omega) _ rfl ?_
          case o1 =>
            intro j u hu
            rcases j with _ | j
            · simp at hu; subst hu; exact n7
            · simp at hu
          case o2 => intro u hu; simp at hu; subst hu; rfl
          intro g1 cap1 w9 hown9 hgr9 hat9 _
          obtain ⟨hrow9, hbk9, hbt9, HN⟩ := day_next HR9.out HD9.out hx7 k2 HB9.out hown9 hgr9 hat9
          have HN := Lib.hid HN
          have hbt9' := hbt9.symm
          have r1 := hrow9.cell k2
          have r2 := hrow9.frozen (x.2.2)
          have s3 := Lib.cell_of_heap hbk9 3
          simp only [List.getElem?_toArray, List.getElem?_cons_succ, List.getElem?_cons_zero] at s3
          clear hown9 hgr9 hat9 hrow9 hbk9
          refine hK.out _ _ (by first | exact s3 | (dsimp only; simp [go_sem, *]; done) | (simp [go_sem, *])) (fun hHeld => ?_)
          clear hK K
          (try simp only [List.getElem_toArray, List.getElem_cons_succ, List.getElem_cons_zero, Act.put, List.setIfInBounds_toArray, List.set_cons_zero, List.set_cons_succ])
          refine wpAnyH_take (i := 10) (v := ?v42) rfl (by kernel_rfl) (by kernel_rfl) (by kernel_rfl) (fun _ _ _ h => h) (Or.inl ⟨by rfl, ?y42⟩) (by assumption) ?r42
          case y42 => ((intro w hSw; (try dsimp only at hSw); go_simp; (first | done | with_reducible rfl)))
          (try simp only [List.getElem_toArray, List.getElem_cons_succ, List.getElem_cons_zero, Act.put, List.setIfInBounds_toArray, List.set_cons_zero, List.set_cons_succ])
          refine wpAnyH_ready (rs := [11]) (by kernel_rfl) (by simp) ?_
          refine AllReadyH.cons rfl (fun K hK => ?_) AllReadyH.nil
          go_simp
          skip
          refine hK.out _ _ (by first | (dsimp only; simp [go_sem, *]; done) | (simp [go_sem, *])) (fun hHeld => ?_)
          clear hK K
          (try simp only [List.getElem_toArray, List.getElem_cons_succ, List.getElem_cons_zero, Act.put, List.setIfInBounds_toArray, List.set_cons_zero, List.set_cons_succ])
          refine wpAnyH_done (by kernel_rfl) ?_ _
          go_wp2_with fail
          go_meet
          exact ⟨HN.out.1.grow (by repeat (first | exact Ext.refl _ | refine Ext.drew ?_ | refine Ext.drewN ?_ _ | refine Ext.alloc ?_ _)), HN.out.2⟩
      case rest =>
      obtain ⟨hR10, hbk10⟩ := hcut
      obtain ⟨wt, rfl⟩ : ∃ wt, wt = wc := ⟨_, rfl⟩
      have hboth : addTo L9 x.2.2 DY = fun t => dayL l ds t (i + 1) := by rw [HL9.out, HL8.out]; exact day_both hho haw k3 HDY.out.symm
      rw [hboth] at hR10
      have HR10 := Lib.hid hR10
      have f3_10 := Lib.cell_of_heap hbk10 3
      simp only [List.getElem?_toArray, List.getElem?_cons_succ, List.getElem?_cons_zero] at f3_10
      clear hR10 hbk10 f3_9 cd9 lc9 lf9 hboth
      go_wp2_with (go_at_call 8; refine (date_ok _ DY D0 D1).mono ?_; rintro e w' ⟨yy, mm, dd, rfl, rfl, z1, z2, z3⟩)
      go_roundw
      case rel => exact ⟨i + 1, by omega, by go_num, HR10.out.grow (by repeat (first | exact Ext.refl _ | refine Ext.drew ?_ | refine Ext.drewN ?_ _ | refine Ext.alloc ?_ _))⟩
      case measure => simp [intOf]; omega
    · obtain rfl : i = l.length := by omega
      obtain ⟨wz, rfl⟩ : ∃ wz, wz = wr := ⟨_, rfl⟩
      obtain ⟨vs, hdz⟩ := HI.out.days
      have HDz := Lib.hid hdz
      have s1 : wz.cell? ⟨w.heap.size, 1, none⟩ = some (.int .i64 R) := hXi.keep (Lib.cell_of_heap hbk5 1)
      clear hdz
      cases d
      case false =>
        have hwn : wantN false = 1 := rfl
        have hwd : ∀ u, u < n → countTo (hasTeam l u) l.length = 1 * (n - 1) := fun u hu => (HGF.out.2.2.1 u hu).trans (by rw [hwn])
        have hwp : ∀ u v, u < n → v < u → countTo (isPair l v u) l.length = 1 := fun u v hu hv => (HGF.out.2.2.2 u v hu hv).trans hwn
        have HWD := Lib.hid hwd
        have HWP := Lib.hid hwp
        clear hwn hwd hwp
        go_wp2
        go_loopw [24, 25, 26, 27, 187] (fun _ _ _ _ iv wr => ∃ u : Nat, u ≤ n ∧ iv = .int .i64 u ∧ Ext wz wr) (fun _ _ _ _ iv _ => n - (intOf iv).toNat)
        case atStart => exact ⟨0, Nat.zero_le _, rfl, Ext.refl _⟩
        case round =>
          obtain ⟨u, hu, rfl, hE⟩ := hrel
          obtain ⟨wq, rfl⟩ : ∃ wq, wq = wr := ⟨_, rfl⟩
          have HE := Lib.hid hE
          clear hE
          by_cases hlt : u < n
          · have hnu : ∀ W, Ext wz W → NumsAt W (vs u) (dayL l ds u l.length).length (fun j => (dayL l ds u l.length).getD j 0) := fun W x => nums_of (own_ext (HDz.out.own u hlt) x)
            obtain ⟨Au, cu, hv, _⟩ := (hnu wz (Ext.refl _)).form
            have c0 : wq.cell? ⟨w5.heap.size + 1 + 1, u, none⟩ = some (vs u) := HE.out.keep (HDz.out.row.cell hlt)
            rw [hv] at hnu c0
            obtain ⟨m, hm⟩ : ∃ m, m = (dayL l ds u l.length).length := ⟨_, rfl⟩
            rw [← hm] at hnu c0
            have hmn : (m : Int) = ((n : Int) - 1) := by
              rw [hm, dayL_len]
              have h := HWD.out u hlt
              omega
            have c1 : wq.cell? ⟨w.heap.size, 1, none⟩ = some (.int .i64 R) := HE.out.keep s1
            have HNU := Lib.hid hnu
            have HM := Lib.hid hm
            have e1 : decide ((u : Int) < 0) = false := decide_eq_false (by omega)
            have e2 : decide ((n : Int) ≤ (u : Int)) = false := decide_eq_false (by omega)
            have e5 : (u : Int) < (n : Int) := by omega
            have lc := cell_lt c0
            have lc1 := cell_lt c1
            clear hnu hm hv
            go_wp2_with fail
            refine wp_region_held_drew (S := (fun w' => w'.cell? ⟨w5.heap.size + 1 + 1, u, none⟩ = some (.slice Au m cu) ∧ w'.cell? ⟨w.heap.size, 1, none⟩ = some (.int .i64 R))) (by kernel_rfl) (by exact ⟨c0, c1⟩) (fun hHeld => ?_)
            refine wpAnyH_take (i := 0) (v := ?v43) rfl (by kernel_rfl) (by kernel_rfl) (by kernel_rfl) (fun _ _ _ h => h) (Or.inl ⟨by rfl, ?y43⟩) (by assumption) ?r43
            case y43 => ((intro w hSw; (try dsimp only at hSw); go_simp; (first | done | with_reducible rfl)))
            (try simp only [List.getElem_toArray, List.getElem_cons_succ, List.getElem_cons_zero, Act.put, List.setIfInBounds_toArray, List.set_cons_zero, List.set_cons_succ])
            refine wpAnyH_take (i := 1) (v := ?v44) rfl (by kernel_rfl) (by kernel_rfl) (by kernel_rfl) (fun _ _ _ h => h) (Or.inl ⟨by rfl, ?y44⟩) (by assumption) ?r44
            case y44 => ((intro w hSw; (try dsimp only at hSw); go_simp; (first | done | with_reducible rfl)))
            (try simp only [List.getElem_toArray, List.getElem_cons_succ, List.getElem_cons_zero, Act.put, List.setIfInBounds_toArray, List.set_cons_zero, List.set_cons_succ])
            refine wpAnyH_take (i := 2) (v := ?v45) rfl (by kernel_rfl) (by kernel_rfl) (by kernel_rfl) (fun _ _ _ h => h) (Or.inl ⟨by rfl, ?y45⟩) (by assumption) ?r45
            case y45 => ((intro w hSw; (try dsimp only at hSw); go_simp; (first | done | with_reducible rfl)))
            (try simp only [List.getElem_toArray, List.getElem_cons_succ, List.getElem_cons_zero, Act.put, List.setIfInBounds_toArray, List.set_cons_zero, List.set_cons_succ])
            refine wpAnyH_take (i := 3) (v := ?v46) rfl (by kernel_rfl) (by kernel_rfl) (by kernel_rfl) (fun _ _ _ h => h) (Or.inl ⟨by rfl, ?y46⟩) (by assumption) ?r46
            case y46 => ((intro w hSw; (try dsimp only at hSw); go_simp; (first | done | with_reducible rfl)))
            (try simp only [List.getElem_toArray, List.getElem_cons_succ, List.getElem_cons_zero, Act.put, List.setIfInBounds_toArray, List.set_cons_zero, List.set_cons_succ])
            refine wpAnyH_take (i := 4) (v := ?v47) rfl (by kernel_rfl) (by kernel_rfl) (by kernel_rfl) (fun _ _ _ h => h) (Or.inl ⟨by rfl, ?y47⟩) (by assumption) ?r47
            case y47 => ((intro w hSw; (try dsimp only at hSw); go_simp; (first | done | with_reducible rfl)))
            (try simp only [List.getElem_toArray, List.getElem_cons_succ, List.getElem_cons_zero, Act.put, List.setIfInBounds_toArray, List.set_cons_zero, List.set_cons_succ])
            refine wpAnyH_take (i := 5) (v := ?v48) rfl (by kernel_rfl) (by kernel_rfl) (by kernel_rfl) (fun _ _ _ h => h) (Or.inl ⟨by rfl, ?y48⟩) (by assumption) ?r48
            case y48 => ((intro w hSw; (try dsimp only at hSw); go_simp; (first | done | with_reducible rfl)))
            (try simp only [List.getElem_toArray, List.getElem_cons_succ, List.getElem_cons_zero, Act.put, List.setIfInBounds_toArray, List.set_cons_zero, List.set_cons_succ])
            refine wpAnyH_ready (rs := [6]) (by kernel_rfl) (by simp) ?_
            refine AllReadyH.cons rfl (fun K hK => ?_) AllReadyH.nil
            go_simp
            (go_at_call 9; refine (rest_ok _ _ m (fun j => (dayL l ds u l.length).getD j 0) R (HNU.out _ (HE.out.trans (by repeat (first | exact Ext.refl _ | refine Ext.drew ?_ | refine Ext.drewN ?_ _ | refine Ext.alloc ?_ _)))) (by omega) (by omega) (by omega) (fun j hj => dayL_bd HP.out hF0 hF1 hR0 hR1 hl30 (Nat.le_refl _) (getD_mem (by rw [← HM.out]; exact hj))) (fun j hj => gap_of (dayL_gap HP.out (Nat.le_refl _)) j (by rw [← HM.out]; exact hj))).mono ?_; rintro e w8 ⟨rfl, hb8⟩; have hx8 : Ext wq w8 := (by first | exact hb8 | exact Ext.trans (by repeat (first | exact Ext.refl _ | refine Ext.drew ?_ | refine Ext.drewN ?_ _ | refine Ext.alloc ?_ _)) hb8); have c8 := hx8.keep c0; have lc8 := cell_lt c8; have c18 := hx8.keep c1; clear hb8)
            refine hK.out _ _ (by first | (dsimp only; simp [go_sem, *]; done) | (simp [go_sem, *])) (fun hHeld => ?_)
            clear hK K
            (try simp only [List.getElem_toArray, List.getElem_cons_succ, List.getElem_cons_zero, Act.put, List.setIfInBounds_toArray, List.set_cons_zero, List.set_cons_succ])
            refine wpAnyH_take (i := 7) (v := ?v49) rfl (by kernel_rfl) (by kernel_rfl) (by kernel_rfl) (fun _ _ _ h => h) (Or.inl ⟨by rfl, ?y49⟩) (by assumption) ?r49
            case y49 => ((intro w hSw; (try dsimp only at hSw); go_simp; (first | done | with_reducible rfl)))
            (try simp only [List.getElem_toArray, List.getElem_cons_succ, List.getElem_cons_zero, Act.put, List.setIfInBounds_toArray, List.set_cons_zero, List.set_cons_succ])
            refine wpAnyH_take (i := 8) (v := ?v50) rfl (by kernel_rfl) (by kernel_rfl) (by kernel_rfl) (fun _ _ _ h => h) (Or.inl ⟨by rfl, ?y50⟩) (by assumption) ?r50
            case y50 => ((intro w hSw; (try dsimp only at hSw); go_simp; (first | done | with_reducible rfl)))
            (try simp only [List.getElem_toArray, List.getElem_cons_succ, List.getElem_cons_zero, Act.put, List.setIfInBounds_toArray, List.set_cons_zero, List.set_cons_succ])
            refine wpAnyH_take (i := 10) (v := ?v51) rfl (by kernel_rfl) (by kernel_rfl) (by kernel_rfl) (fun _ _ _ h => h) (Or.inl ⟨by rfl, ?y51⟩) (by assumption) ?r51
            case y51 => ((intro w hSw; (try dsimp only at hSw); go_simp; (first | done | with_reducible rfl)))
            (try simp only [List.getElem_toArray, List.getElem_cons_succ, List.getElem_cons_zero, Act.put, List.setIfInBounds_toArray, List.set_cons_zero, List.set_cons_succ])
            refine wpAnyH_take (i := 9) (v := ?v52) rfl (by kernel_rfl) (by kernel_rfl) (by kernel_rfl) (fun _ _ _ h => h) (Or.inl ⟨by rfl, ?y52⟩) (by assumption) ?r52
            case y52 => ((intro w hSw; (try dsimp only at hSw); go_simp; (first | done | with_reducible rfl)))
            (try simp only [List.getElem_toArray, List.getElem_cons_succ, List.getElem_cons_zero, Act.put, List.setIfInBounds_toArray, List.set_cons_zero, List.set_cons_succ])
            refine wpAnyH_take (i := 11) (v := ?v53) rfl (by kernel_rfl) (by kernel_rfl) (by kernel_rfl) (fun _ _ _ h => h) (Or.inl ⟨by rfl, ?y53⟩) (by assumption) ?r53
            case y53 => ((intro w hSw; (try dsimp only at hSw); go_simp; (first | done | with_reducible rfl)))
            (try simp only [List.getElem_toArray, List.getElem_cons_succ, List.getElem_cons_zero, Act.put, List.setIfInBounds_toArray, List.set_cons_zero, List.set_cons_succ])
            refine wpAnyH_done (by kernel_rfl) ?_ _
            go_wp2_with fail
            go_loop [27, 219] (fun _ iv => ∃ v : Nat, v ≤ u ∧ iv = .int .i64 v) (fun _ iv => u - (intOf iv).toNat)
            case atStart => exact ⟨0, Nat.zero_le _, rfl⟩
            case round =>
              obtain ⟨v, hv, rfl⟩ := hrel
              by_cases hlt2 : v < u
              · have hlk := met_look (HI.out.met.ext (HE.out.trans hx8)) v u (by omega) (by omega)
                rw [HWP.out u v hlt hlt2] at hlk
                go_wp2
                go_round
                case rel => exact ⟨v + 1, by omega, by go_num⟩
                case measure => simp [intOf]; omega
              · obtain rfl : v = u := by omega
                go_wp2
                go_roundw
                case rel => exact ⟨v + 1, by omega, by go_num, HE.out.trans hx8⟩
                case measure => simp [intOf]; omega
          · obtain rfl : u = n := by omega
            go_wp2
            go_ret
            exact ⟨rfl, hX5.trans (HI.out.ext.trans (by first | exact HE.out | exact HE.out.trans (by repeat (first | exact Ext.refl _ | refine Ext.drew ?_ | refine Ext.drewN ?_ _ | refine Ext.alloc ?_ _))))⟩
      case true =>
        have hwn : wantN true = 2 := rfl
        have hwd : ∀ u, u < n → countTo (hasTeam l u) l.length = 2 * (n - 1) := fun u hu => (HGF.out.2.2.1 u hu).trans (by rw [hwn])
        have hwp : ∀ u v, u < n → v < u → countTo (isPair l v u) l.length = 2 := fun u v hu hv => (HGF.out.2.2.2 u v hu hv).trans hwn
        have HWD := Lib.hid hwd
        have HWP := Lib.hid hwp
        clear hwn hwd hwp
        go_wp2
        go_loopw [24, 25, 26, 27, 187] (fun _ _ _ _ iv wr => ∃ u : Nat, u ≤ n ∧ iv = .int .i64 u ∧ Ext wz wr) (fun _ _ _ _ iv _ => n - (intOf iv).toNat)
        case atStart => exact ⟨0, Nat.zero_le _, rfl, Ext.refl _⟩
        case round =>
          obtain ⟨u, hu, rfl, hE⟩ := hrel
          obtain ⟨wq, rfl⟩ : ∃ wq, wq = wr := ⟨_, rfl⟩
          have HE := Lib.hid hE
          clear hE
          by_cases hlt : u < n
          · have hnu : ∀ W, Ext wz W → NumsAt W (vs u) (dayL l ds u l.length).length (fun j => (dayL l ds u l.length).getD j 0) := fun W x => nums_of (own_ext (HDz.out.own u hlt) x)
            obtain ⟨Au, cu, hv, _⟩ := (hnu wz (Ext.refl _)).form
            have c0 : wq.cell? ⟨w5.heap.size + 1 + 1, u, none⟩ = some (vs u) := HE.out.keep (HDz.out.row.cell hlt)
            rw [hv] at hnu c0
            obtain ⟨m, hm⟩ : ∃ m, m = (dayL l ds u l.length).length := ⟨_, rfl⟩
            rw [← hm] at hnu c0
            have hmn : (m : Int) = (2 * ((n : Int) - 1)) := by
              rw [hm, dayL_len]
              have h := HWD.out u hlt
              omega
            have c1 : wq.cell? ⟨w.heap.size, 1, none⟩ = some (.int .i64 R) := HE.out.keep s1
            have HNU := Lib.hid hnu
            have HM := Lib.hid hm
            have e1 : decide ((u : Int) < 0) = false := decide_eq_false (by omega)
            have e2 : decide ((n : Int) ≤ (u : Int)) = false := decide_eq_false (by omega)
            have e5 : (u : Int) < (n : Int) := by omega
            have lc := cell_lt c0
            have lc1 := cell_lt c1
            clear hnu hm hv
            go_wp2_with fail
            refine wp_region_held_drew (S := (fun w' => w'.cell? ⟨w5.heap.size + 1 + 1, u, none⟩ = some (.slice Au m cu) ∧ w'.cell? ⟨w.heap.size, 1, none⟩ = some (.int .i64 R))) (by kernel_rfl) (by exact ⟨c0, c1⟩) (fun hHeld => ?_)
            refine wpAnyH_take (i := 0) (v := ?v54) rfl (by kernel_rfl) (by kernel_rfl) (by kernel_rfl) (fun _ _ _ h => h) (Or.inl ⟨by rfl, ?y54⟩) (by assumption) ?r54
            case y54 => ((intro w hSw; (try dsimp only at hSw); go_simp; (first | done | with_reducible rfl)))
            (try simp only [List.getElem_toArray, List.getElem_cons_succ, List.getElem_cons_zero, Act.put, List.setIfInBounds_toArray, List.set_cons_zero, List.set_cons_succ])
            refine wpAnyH_take (i := 1) (v := ?v55) rfl (by kernel_rfl) (by kernel_rfl) (by kernel_rfl) (fun _ _ _ h => h) (Or.inl ⟨by rfl, ?y55⟩) (by assumption) ?r55
            case y55 => ((intro w hSw; (try dsimp only at hSw); go_simp; (first | done | with_reducible rfl)))
            (try simp only [List.getElem_toArray, List.getElem_cons_succ, List.getElem_cons_zero, Act.put, List.setIfInBounds_toArray, List.set_cons_zero, List.set_cons_succ])
            refine wpAnyH_take (i := 2) (v := ?v56) rfl (by kernel_rfl) (by kernel_rfl) (by kernel_rfl) (fun _ _ _ h => h) (Or.inl ⟨by rfl, ?y56⟩) (by assumption) ?r56
            case y56 => ((intro w hSw; (try dsimp only at hSw); go_simp; (first | done | with_reducible rfl)))
            (try simp only [List.getElem_toArray, List.getElem_cons_succ, List.getElem_cons_zero, Act.put, List.setIfInBounds_toArray, List.set_cons_zero, List.set_cons_succ])
            refine wpAnyH_take (i := 3) (v := ?v57) rfl (by kernel_rfl) (by kernel_rfl) (by kernel_rfl) (fun _ _ _ h => h) (Or.inl ⟨by rfl, ?y57⟩) (by assumption) ?r57
            case y57 => ((intro w hSw; (try dsimp only at hSw); go_simp; (first | done | with_reducible rfl)))
            (try simp only [List.getElem_toArray, List.getElem_cons_succ, List.getElem_cons_zero, Act.put, List.setIfInBounds_toArray, List.set_cons_zero, List.set_cons_succ])
            refine wpAnyH_take (i := 4) (v := ?v58) rfl (by kernel_rfl) (by kernel_rfl) (by kernel_rfl) (fun _ _ _ h => h) (Or.inl ⟨by rfl, ?y58⟩) (by assumption) ?r58
            case y58 => ((intro w hSw; (try dsimp only at hSw); go_simp; (first | done | with_reducible rfl)))
            (try simp only [List.getElem_toArray, List.getElem_cons_succ, List.getElem_cons_zero, Act.put, List.setIfInBounds_toArray, List.set_cons_zero, List.set_cons_succ])
            refine wpAnyH_take (i := 5) (v := ?v59) rfl (by kernel_rfl) (by kernel_rfl) (by kernel_rfl) (fun _ _ _ h => h) (Or.inl ⟨by rfl, ?y59⟩) (by assumption) ?r59
            case y59 => ((intro w hSw; (try dsimp only at hSw); go_simp; (first | done | with_reducible rfl)))
            (try simp only [List.getElem_toArray, List.getElem_cons_succ, List.getElem_cons_zero, Act.put, List.setIfInBounds_toArray, List.set_cons_zero, List.set_cons_succ])
            refine wpAnyH_ready (rs := [6]) (by kernel_rfl) (by simp) ?_
            refine AllReadyH.cons rfl (fun K hK => ?_) AllReadyH.nil
            go_simp
            (go_at_call 9; refine (rest_ok _ _ m (fun j => (dayL l ds u l.length).getD j 0) R (HNU.out _ (HE.out.trans (by repeat (first | exact Ext.refl _ | refine Ext.drew ?_ | refine Ext.drewN ?_ _ | refine Ext.alloc ?_ _)))) (by omega) (by omega) (by omega) (fun j hj => dayL_bd HP.out hF0 hF1 hR0 hR1 hl30 (Nat.le_refl _) (getD_mem (by rw [← HM.out]; exact hj))) (fun j hj => gap_of (dayL_gap HP.out (Nat.le_refl _)) j (by rw [← HM.out]; exact hj))).mono ?_; rintro e w8 ⟨rfl, hb8⟩; have hx8 : Ext wq w8 := (by first | exact hb8 | exact Ext.trans (by repeat (first | exact Ext.refl _ | refine Ext.drew ?_ | refine Ext.drewN ?_ _ | refine Ext.alloc ?_ _)) hb8); have c8 := hx8.keep c0; have lc8 := cell_lt c8; have c18 := hx8.keep c1; clear hb8)
            refine hK.out _ _ (by first | (dsimp only; simp [go_sem, *]; done) | (simp [go_sem, *])) (fun hHeld => ?_)
            clear hK K
            (try simp only [List.getElem_toArray, List.getElem_cons_succ, List.getElem_cons_zero, Act.put, List.setIfInBounds_toArray, List.set_cons_zero, List.set_cons_succ])
            refine wpAnyH_take (i := 7) (v := ?v60) rfl (by kernel_rfl) (by kernel_rfl) (by kernel_rfl) (fun _ _ _ h => h) (Or.inl ⟨by rfl, ?y60⟩) (by assumption) ?r60
            case y60 => ((intro w hSw; (try dsimp only at hSw); go_simp; (first | done | with_reducible rfl)))
            (try simp only [List.getElem_toArray, List.getElem_cons_succ, List.getElem_cons_zero, Act.put, List.setIfInBounds_toArray, List.set_cons_zero, List.set_cons_succ])
            refine wpAnyH_take (i := 8) (v := ?v61) rfl (by kernel_rfl) (by kernel_rfl) (by kernel_rfl) (fun _ _ _ h => h) (Or.inl ⟨by rfl, ?y61⟩) (by assumption) ?r61
            case y61 => ((intro w hSw; (try dsimp only at hSw); go_simp; (first | done | with_reducible rfl)))
            (try simp only [List.getElem_toArray, List.getElem_cons_succ, List.getElem_cons_zero, Act.put, List.setIfInBounds_toArray, List.set_cons_zero, List.set_cons_succ])
            refine wpAnyH_take (i := 10) (v := ?v62) rfl (by kernel_rfl) (by kernel_rfl) (by kernel_rfl) (fun _ _ _ h => h) (Or.inl ⟨by rfl, ?y62⟩) (by assumption) ?r62
            case y62 => ((intro w hSw; (try dsimp only at hSw); go_simp; (first | done | with_reducible rfl)))
            (try simp only [List.getElem_toArray, List.getElem_cons_succ, List.getElem_cons_zero, Act.put, List.setIfInBounds_toArray, List.set_cons_zero, List.set_cons_succ])
            refine wpAnyH_take (i := 9) (v := ?v63) rfl (by kernel_rfl) (by kernel_rfl) (by kernel_rfl) (fun _ _ _ h => h) (Or.inl ⟨by rfl, ?y63⟩) (by assumption) ?r63
            case y63 => ((intro w hSw; (try dsimp only at hSw); go_simp; (first | done | with_reducible rfl)))
            (try simp only [List.getElem_toArray, List.getElem_cons_succ, List.getElem_cons_zero, Act.put, List.setIfInBounds_toArray, List.set_cons_zero, List.set_cons_succ])
            refine wpAnyH_take (i := 11) (v := ?v64) rfl (by kernel_rfl) (by kernel_rfl) (by kernel_rfl) (fun _ _ _ h => h) (Or.inl ⟨by rfl, ?y64⟩) (by assumption) ?r64
            case y64 => ((intro w hSw; (try dsimp only at hSw); go_simp; (first | done | with_reducible rfl)))
            (try simp only [List.getElem_toArray, List.getElem_cons_succ, List.getElem_cons_zero, Act.put, List.setIfInBounds_toArray, List.set_cons_zero, List.set_cons_succ])
            refine wpAnyH_done (by kernel_rfl) ?_ _
            go_wp2_with fail
            go_loop [27, 219] (fun _ iv => ∃ v : Nat, v ≤ u ∧ iv = .int .i64 v) (fun _ iv => u - (intOf iv).toNat)
            case atStart => exact ⟨0, Nat.zero_le _, rfl⟩
            case round =>
              obtain ⟨v, hv, rfl⟩ := hrel
              by_cases hlt2 : v < u
              · have hlk := met_look (HI.out.met.ext (HE.out.trans hx8)) v u (by omega) (by omega)
                rw [HWP.out u v hlt hlt2] at hlk
                go_wp2
                go_round
                case rel => exact ⟨v + 1, by omega, by go_num⟩
                case measure => simp [intOf]; omega
              · obtain rfl : v = u := by omega
                go_wp2
                go_roundw
                case rel => exact ⟨v + 1, by omega, by go_num, HE.out.trans hx8⟩
                case measure => simp [intOf]; omega
          · obtain rfl : u = n := by omega
            go_wp2
            go_ret
            exact ⟨rfl, hX5.trans (HI.out.ext.trans (by first | exact HE.out | exact HE.out.trans (by repeat (first | exact Ext.refl _ | refine Ext.drew ?_ | refine Ext.drewN ?_ _ | refine Ext.alloc ?_ _))))⟩

end Go.Proofs.Ytdaidanpcehnnaa

/-
  Rounds of layer 49: its contract.
-/
import Derived.Test.YtdaidanpcehnnaaRobB
import Derived.Test.YtdaidanpcehnnaaRobK
namespace Go.Proofs.Ytdaidanpcehnnaa
open Go.RowKit
set_option linter.unusedSimpArgs false

def RoundsP (w : World) (l : List Fx) (e : Ending) (w' : World) : Prop := ∃ v, e = .returned (.tuple #[v, .int .i64 0]) ∧ Ext w w' ∧ w'.ownsRow w.heap.size 39 3 v l.length (fixV l)
/-- Behind r rounds: the list so far, double or not. -/
theorem RInv.own {w wr : World} {nb ob n : Nat} {l : List Fx} (h : RInv w wr nb ob n l) : ∃ v, wr.cell? ⟨ob, 0, none⟩ = some v ∧ wr.frozen? ⟨ob, 0, none⟩ = false ∧ wr.ownsRow w.heap.size 39 3 v l.length (fixV l) ∧ wr.heap[ob]? = some (.cells #[v] 28 (0, 0)) := by
  obtain ⟨v, h1, h2⟩ := h.row
  exact ⟨v, by simp [World.cell?, h1], by simp [World.frozen?, h1], h2, h1⟩

theorem RInv.kept1 {w wr w1 : World} {nb ob n : Nat} {l : List Fx} {v : Value} (_ : RInv w wr nb ob n l) (hv : wr.heap[ob]? = some (.cells #[v] 28 (0, 0))) (hr : wr.ownsRow w.heap.size 39 3 v l.length (fixV l)) (hg : wr.grownBy w1 v.ownBlock) :
    w1.cell? ⟨ob, 0, none⟩ = some v ∧ w1.frozen? ⟨ob, 0, none⟩ = false := by
  have ho : some ob ≠ v.ownBlock := by
    rcases own_ne_blk hr hv (by decide) with e | e
    · rw [e]; exact fun h => by cases h
    · exact fun h => e h.symm
  have := (hg.block ob (Array.getElem?_eq_some_iff.1 hv).1 ho).trans hv
  exact ⟨by simp [World.cell?, this], by simp [World.frozen?, this]⟩
theorem own_cell_any {w : World} {base : Nat} {e : TypeId} {size g n cap : Nat} {xs : List Value} (h : w.ownsRow base e size (.slice (some ⟨g, 0, none⟩) n cap) n xs) {j : Nat} {u : Value} (hu : xs[j]? = some u) : w.cell? ⟨g, j, none⟩ = some u := by
  have := h.cells (g := g) rfl j u hu
  rwa [show (⟨g, 0, none⟩ : Addr).add j = ⟨g, j, none⟩ by unfold Addr.add; split <;> simp_all] at this
theorem out_pos {n : Nat} (h0 : 2 ≤ n) (h1 : n ≤ 6) : 0 < (outL n (n + n % 2) (n + n % 2 - 1)).length := by
  have : n = 2 ∨ n = 3 ∨ n = 4 ∨ n = 5 ∨ n = 6 := by omega
  rcases this with rfl | rfl | rfl | rfl | rfl <;> decide +kernel
theorem out_rounds {n : Nat} (h0 : 2 ≤ n) (h1 : n ≤ 6) : ∀ x ∈ outL n (n + n % 2) (n + n % 2 - 1), x.1 ≤ 10 := by
  have : n = 2 ∨ n = 3 ∨ n = 4 ∨ n = 5 ∨ n = 6 := by omega
  rcases this with rfl | rfl | rfl | rfl | rfl <;> decide +kernel
theorem back_take (m : Nat) (l : List Fx) {j : Nat} {x : Fx} (h : l[j]? = some x) : backL m (l.take (j + 1)) = backL m (l.take j) ++ [(x.1 + m - 1, x.2.2, x.2.1)] := by
  unfold backL
  rw [List.take_add_one, h]
  simp

set_option maxHeartbeats 8000000 in
theorem rounds_any (w : World) (n : Nat) (d : Bool) (h0 : 2 ≤ n) (h1 : n ≤ 6) : Calls Try.prog 6 #[.int .i64 n, .bool d] w (RoundsP w (roundsL n d)) := by
  obtain ⟨m, hm⟩ : ∃ m, m = n + n % 2 := ⟨_, rfl⟩
  have m0 : 2 ≤ m := by omega
  have m1 : m ≤ 6 := by omega
  have hmi : (n : Int) + (n : Int) % 2 = (m : Int) := by omega
  have HR : Hid (roundsL n d = if d then outL n m (m - 1) ++ backL m (outL n m (m - 1)) else outL n m (m - 1)) := by unfold Hid roundsL; rw [← hm]
  have hpos : 0 < (outL n m (m - 1)).length := by subst hm; exact out_pos h0 h1
  have hbx : ∀ x ∈ outL n m (m - 1), x.1 ≤ 10 := by subst hm; exact out_rounds h0 h1
  obtain ⟨i0, hi, hz0, hz1, hz2⟩ := info_parts infoFx
  clear hm
  go_enter Try.func6, Try.ntmps6
  go_wp2
  have I0 : RInv w ((w.alloc (.cells #[.int .i64 n] 3)).alloc (.cells #[.slice none 0 0] 28)) w.heap.size (w.heap.size + 1) n (outL n m 0) :=
    ⟨((Ext.refl _).alloc _).alloc _, Nat.le_refl _, Nat.le_succ _, by omega, by have := Below.heap_alloc (w.alloc (.cells #[.int .i64 n] 3)) (.cells #[.slice none 0 0] 28) w.heap.size (by simp); exact this.trans (heap_alloc_new w _),
      .slice none 0 0, by have := heap_alloc_new (w.alloc (.cells #[.int .i64 n] 3)) (.cells #[.slice none 0 0] 28); simpa using this, World.ownsRow_nil _ _ _ _⟩
  have H0 := Lib.hid I0
  clear I0
  go_loopw [9, 10, 11, 12, 28] (fun _ _ _ _ i wr => ∃ r : Nat, r ≤ m - 1 ∧ i = .int .i64 r ∧ RInv w wr w.heap.size (w.heap.size + 1) n (outL n m r)) (fun _ _ _ _ i _ => m - (intOf i).toNat)
  case atStart => exact ⟨0, by omega, rfl, H0.out⟩
  case round =>
    obtain ⟨r, hr, rfl, hI⟩ := hrel
    have HI := Lib.hid hI
    clear hI
    by_cases hlt : r < m - 1
    · have hl0 := out_len n m (by omega) r
      have hl1 := first_len n m r (outL n m r)
      obtain ⟨F, hF⟩ : ∃ F, F = firstL n m r (outL n m r) := ⟨_, rfl⟩
      rw [← hF] at hl1
      have hlen : F.length ≤ 100 := by omega
      have HOut : Hid (outL n m (r + 1) = inL n m r F (m / 2 - 1)) := by unfold Hid; rw [hF]; rfl
      have r1 : (r : Int) < (m : Int) - 1 := by omega
      by_cases hodd : r % 2 = 1
      · have q1 : ((r : Int) % 2 == 1) = true := by simp; omega
        have hF2 : Hid (addL n (outL n m r) r (m - 1) r = F) := by unfold Hid; rw [hF]; unfold firstL; rw [if_pos hodd]
        clear hF hodd
        go_wp2_with (go_at_call 11; refine (add_at w _ HI.out (by omega) r (m - 1) r rfl (by omega) rfl).mono ?_; rintro e w2 ⟨rfl, hI2⟩; rw [hF2.out] at hI2)
        have HI2 := Lib.hid hI2
        clear hI2
        go_loopw [10, 11, 12] (fun k _ _ w3 => ∃ j : Nat, j ≤ m / 2 - 1 ∧ k = .int .i64 ((j : Int) + 1) ∧ RInv w w3 w.heap.size (w.heap.size + 1) n (inL n m r F j)) (fun k _ _ _ => m - (intOf k).toNat)
        case atStart => exact ⟨0, by omega, by go_num, HI2.out⟩
        case round =>
          obtain ⟨j, hj, rfl, hI3⟩ := hrel
          have HI3 := Lib.hid hI3
          clear hI3
          by_cases hlt2 : j < m / 2 - 1
          · have hl2 := in_len n m r F j
            have s0 : (j : Int) + 1 < (m : Int) / 2 := by omega
            obtain ⟨A, hA⟩ : ∃ A, A = (r + (j + 1)) % (m - 1) := ⟨_, rfl⟩
            obtain ⟨B, hB⟩ : ∃ B, B = (r + m - 1 - (j + 1)) % (m - 1) := ⟨_, rfl⟩
            have a1 : ((r : Int) + ((j : Int) + 1)) % ((m : Int) - 1) = (A : Int) := by
              rw [hA, Int.natCast_emod]; congr 1 <;> omega
            have b1 : ((r : Int) - ((j : Int) + 1) + (m : Int) - 1) % ((m : Int) - 1) = (B : Int) := by
              rw [hB, Int.natCast_emod]; congr 1 <;> omega
            have b2 : ((r : Int) - ((j : Int) + 1) + ((m : Int) - 1)) % ((m : Int) - 1) = (B : Int) := by
              rw [hB, Int.natCast_emod]; congr 1 <;> omega
            have m9 : ¬ ((m : Int) - 1 = 0) := by omega
            have HStep : Hid (inL n m r F (j + 1) = if (j + 1) % 2 = 1 then addL n (inL n m r F j) r A B else addL n (inL n m r F j) r B A) := by unfold Hid; rw [hA, hB]; rfl
            clear hA hB
            by_cases hko : (j + 1) % 2 = 1
            · have q2 : (((j : Int) + 1) % 2 == 1) = true := by simp; omega
              have HS2 : Hid (addL n (inL n m r F j) r A B = inL n m r F (j + 1)) := by unfold Hid; rw [HStep.out, if_pos hko]
              clear hko
              go_wp2
              go_quiet (fail)
              go_wp2_with (go_at_call 11; refine (add_at w _ (HI3.out.grow (by first | exact (Ext.refl _).drewN _ | exact (Ext.refl _).drew | exact Ext.refl _)) (by omega) r A B rfl rfl rfl).mono ?_; rintro e w4 ⟨rfl, hI4⟩; rw [HS2.out] at hI4)
              go_roundw
              case rel => exact ⟨j + 1, by omega, by go_num, hI4⟩
              case measure => simp [intOf]; omega
            · have q2 : (((j : Int) + 1) % 2 == 1) = false := by simp; omega
              have HS2 : Hid (addL n (inL n m r F j) r B A = inL n m r F (j + 1)) := by unfold Hid; rw [HStep.out, if_neg hko]
              clear hko
              go_wp2
              go_quiet (fail)
              go_wp2_with (go_at_call 11; refine (add_at w _ (HI3.out.grow (by first | exact (Ext.refl _).drewN _ | exact (Ext.refl _).drew | exact Ext.refl _)) (by omega) r B A rfl rfl rfl).mono ?_; rintro e w4 ⟨rfl, hI4⟩; rw [HS2.out] at hI4)
              go_roundw
              case rel => exact ⟨j + 1, by omega, by go_num, hI4⟩
              case measure => simp [intOf]; omega
          · obtain rfl : j = m / 2 - 1 := by omega
            have s0 : ¬ (((m / 2 - 1 : Nat) : Int) + 1 < (m : Int) / 2) := by omega
            go_wp2
            go_roundw
            case rel => exact ⟨r + 1, by omega, by go_num, by rw [HOut.out]; exact HI3.out⟩
            case measure => simp [intOf]; omega
      · have q1 : ((r : Int) % 2 == 1) = false := by simp; omega
        have hF2 : Hid (addL n (outL n m r) r r (m - 1) = F) := by unfold Hid; rw [hF]; unfold firstL; rw [if_neg hodd]
        clear hF hodd
        go_wp2_with (go_at_call 11; refine (add_at w _ HI.out (by omega) r r (m - 1) rfl rfl (by omega)).mono ?_; rintro e w2 ⟨rfl, hI2⟩; rw [hF2.out] at hI2)
        have HI2 := Lib.hid hI2
        clear hI2
        go_loopw [10, 11, 12] (fun k _ _ w3 => ∃ j : Nat, j ≤ m / 2 - 1 ∧ k = .int .i64 ((j : Int) + 1) ∧ RInv w w3 w.heap.size (w.heap.size + 1) n (inL n m r F j)) (fun k _ _ _ => m - (intOf k).toNat)
        case atStart => exact ⟨0, by omega, by go_num, HI2.out⟩
        case round =>
          obtain ⟨j, hj, rfl, hI3⟩ := hrel
          have HI3 := Lib.hid hI3
          clear hI3
          by_cases hlt2 : j < m / 2 - 1
          · have hl2 := in_len n m r F j
            have s0 : (j : Int) + 1 < (m : Int) / 2 := by omega
            obtain ⟨A, hA⟩ : ∃ A, A = (r + (j + 1)) % (m - 1) := ⟨_, rfl⟩
            obtain ⟨B, hB⟩ : ∃ B, B = (r + m - 1 - (j + 1)) % (m - 1) := ⟨_, rfl⟩
            have a1 : ((r : Int) + ((j : Int) + 1)) % ((m : Int) - 1) = (A : Int) := by
              rw [hA, Int.natCast_emod]; congr 1 <;> omega
            have b1 : ((r : Int) - ((j : Int) + 1) + (m : Int) - 1) % ((m : Int) - 1) = (B : Int) := by
              rw [hB, Int.natCast_emod]; congr 1 <;> omega
            have b2 : ((r : Int) - ((j : Int) + 1) + ((m : Int) - 1)) % ((m : Int) - 1) = (B : Int) := by
              rw [hB, Int.natCast_emod]; congr 1 <;> omega
            have m9 : ¬ ((m : Int) - 1 = 0) := by omega
            have HStep : Hid (inL n m r F (j + 1) = if (j + 1) % 2 = 1 then addL n (inL n m r F j) r A B else addL n (inL n m r F j) r B A) := by unfold Hid; rw [hA, hB]; rfl
            clear hA hB
            by_cases hko : (j + 1) % 2 = 1
            · have q2 : (((j : Int) + 1) % 2 == 1) = true := by simp; omega
              have HS2 : Hid (addL n (inL n m r F j) r A B = inL n m r F (j + 1)) := by unfold Hid; rw [HStep.out, if_pos hko]
              clear hko
              go_wp2
              go_quiet (fail)
              go_wp2_with (go_at_call 11; refine (add_at w _ (HI3.out.grow (by first | exact (Ext.refl _).drewN _ | exact (Ext.refl _).drew | exact Ext.refl _)) (by omega) r A B rfl rfl rfl).mono ?_; rintro e w4 ⟨rfl, hI4⟩; rw [HS2.out] at hI4)
              go_roundw
              case rel => exact ⟨j + 1, by omega, by go_num, hI4⟩
              case measure => simp [intOf]; omega
            · have q2 : (((j : Int) + 1) % 2 == 1) = false := by simp; omega
              have HS2 : Hid (addL n (inL n m r F j) r B A = inL n m r F (j + 1)) := by unfold Hid; rw [HStep.out, if_neg hko]
              clear hko
              go_wp2
              go_quiet (fail)
              go_wp2_with (go_at_call 11; refine (add_at w _ (HI3.out.grow (by first | exact (Ext.refl _).drewN _ | exact (Ext.refl _).drew | exact Ext.refl _)) (by omega) r B A rfl rfl rfl).mono ?_; rintro e w4 ⟨rfl, hI4⟩; rw [HS2.out] at hI4)
              go_roundw
              case rel => exact ⟨j + 1, by omega, by go_num, hI4⟩
              case measure => simp [intOf]; omega
          · obtain rfl : j = m / 2 - 1 := by omega
            have s0 : ¬ (((m / 2 - 1 : Nat) : Int) + 1 < (m : Int) / 2) := by omega
            go_wp2
            go_roundw
            case rel => exact ⟨r + 1, by omega, by go_num, by rw [HOut.out]; exact HI3.out⟩
            case measure => simp [intOf]; omega
    · obtain rfl : r = m - 1 := by omega
      have r9 : ¬ (((m - 1 : Nat) : Int) < (m : Int) - 1) := by omega
      obtain ⟨v, c1, c2, hown, hblk⟩ := HI.out.own
      cases d
      · have HV : Hid (roundsL n false = outL n m (m - 1)) := HR.out
        go_wp2
        go_ret2
        exact ⟨v, rfl, HI.out.ext, by rw [HV.out]; exact hown⟩
      · have HV : Hid (roundsL n true = outL n m (m - 1) ++ backL m (outL n m (m - 1))) := HR.out
        have hk0 := out_len n m (by omega) (m - 1)
        obtain ⟨l0, hl0⟩ : ∃ l0, l0 = outL n m (m - 1) := ⟨_, rfl⟩
        rw [← hl0] at HV hown hk0 hpos HI
        rw [← hl0] at hbx
        clear hl0
        obtain ⟨g, cap, rfl, hg, hgl⟩ := own_form hown hpos
        have hgo : g ≠ w.heap.size + 1 := by
          rcases own_ne_blk hown hblk (by decide) with e | e
          · simp [Value.ownBlock] at e
          · exact fun h => e (by rw [h]; rfl)
        have hcap : l0.length ≤ cap := by
          rcases hown.2 with ⟨e, _⟩ | ⟨g', cap', cur, e, _, _, hnc, _⟩
          · cases e
          · injection e with _ _ e3; omega
        have hG0 : ∀ i u, (fixV l0)[i]? = some u → wr.cell? ⟨g, i, none⟩ = some u := fun i u hu => own_cell_any hown hu
        have HG0 := Lib.hid hG0
        have hsz := HI.out.ext.size
        clear hG0 hown hblk
        go_wp2
        go_loopw [14, 89] (fun _ i w5 => ∃ j : Nat, j ≤ l0.length ∧ i = .int .i64 j ∧ RInv w w5 w.heap.size (w.heap.size + 1) n (l0 ++ backL m (l0.take j)) ∧ (∀ i u, (fixV l0)[i]? = some u → w5.cell? ⟨g, i, none⟩ = some u)) (fun _ i _ => l0.length - (intOf i).toNat)
        case atStart => exact ⟨0, by omega, rfl, by simpa [backL] using HI.out, HG0.out⟩
        case round =>
          obtain ⟨j, hj, rfl, hI5, hG5⟩ := hrel
          obtain ⟨v5, d1, d2, hown5, hblk5⟩ := hI5.own
          have HI5 := Lib.hid hI5
          have HG5 := Lib.hid hG5
          have hsz5 := hI5.ext.size
          have hl5 : (l0 ++ backL m (l0.take j)).length ≤ 40 := by simp [backL]; omega
          clear hI5 hG5
          by_cases hlt3 : j < l0.length
          · obtain ⟨x, hx⟩ : ∃ x, l0[j]? = some x := ⟨_, List.getElem?_eq_getElem hlt3⟩
            obtain ⟨f0, f1, f2⟩ := fixV_at l0 j x hx
            have c5 : wr.cell? ⟨g, j * 3, none⟩ = some (.int .i64 x.1) := HG5.out _ _ f0
            have c6 : wr.cell? ⟨g, j * 3 + 1, none⟩ = some (.int .i64 x.2.1) := HG5.out _ _ f1
            have c7 : wr.cell? ⟨g, j * 3 + 2, none⟩ = some (.int .i64 x.2.2) := HG5.out _ _ f2
            have hg5 := cell_lt c5
            have hob5 := cell_lt d1
            clear f0 f1 f2
            have hbt := back_take m l0 hx
            have x1b := hbx x (List.mem_of_getElem? hx)
            go_wp2_with (at_builtin; refine wpList_append_keep _ rfl _ _ 28 rfl w.heap.size 39 i0 (.agg #[.int .i64 0, .int .i64 0, .int .i64 0]) 3 24 Try.underlying28 hi hz0 hz1 hz2 rfl (by decide) _ _ _ rfl ((hown5.alloc _).alloc _) ⟨wr.heap.size + 1, 0, none⟩ 1 1 [.int .i64 ((x.1 : Int) + m - 1), .int .i64 x.2.2, .int .i64 x.2.1] rfl rfl ?c1 ?c2 ?c3 ?c4 ?c5 ?_)
            case c1 =>
              intro j u hu
              rcases j with _ | _ | _ | j
              · simp at hu; subst hu; simp [go_sem, Addr.add]
              · simp at hu; subst hu; simp [go_sem, Addr.add]
              · simp at hu; subst hu; simp [go_sem, Addr.add]
              · simp at hu
            case c2 => intro u hu; simp at hu; rcases hu with rfl | rfl | rfl <;> rfl
            case c3 => unfold maxLen; omega
            case c4 => omega
            case c5 => simp; omega
            intro v' w6 hown6 hgrow _ hkeep
            have hcst : (x.1 : Int) + m - 1 = ((x.1 + m - 1 : Nat) : Int) := by omega
            rw [hcst, fixV_add, List.append_assoc, ← hbt] at hown6
            obtain ⟨g1, cc1, rfl, _, _⟩ := own_form hown6 (by omega)
            have hx2 : Ext wr ((wr.alloc (.cells #[.int .i64 x.1, .int .i64 x.2.1, .int .i64 x.2.2] 39)).alloc (.cells #[.int .i64 ((x.1 : Int) + m - 1), .int .i64 x.2.2, .int .i64 x.2.1] 39)) := ((Ext.refl _).alloc _).alloc _
            have hbk := (hx2.block _ (Array.getElem?_eq_some_iff.1 hblk5).1).trans hblk5
            have hI6 := HI5.out.grow hx2
            obtain ⟨q1, q2⟩ := hI6.kept1 hbk (own_ext hown5 hx2) hgrow
            have hlen' : (l0 ++ backL m (l0.take (j + 1))).length = (l0 ++ backL m (l0.take j)).length + 1 := by rw [hbt]; simp; omega
            have hD := hI6.done hbk (own_ext hown5 hx2) hgrow (l' := l0 ++ backL m (l0.take (j + 1))) (by rw [hlen', List.length_append]; exact hown6)
            have hG6 : ∀ i u, (fixV l0)[i]? = some u → w6.cell? ⟨g, i, none⟩ = some u := fun i u hu => by
              by_cases e : v5.ownBlock = some g
              · exact hkeep g e i u (by rw [show fixV (l0 ++ backL m (l0.take j)) = fixV l0 ++ fixV (backL m (l0.take j)) by simp [fixV], List.getElem?_append_left (List.getElem?_eq_some_iff.1 hu).1]; exact hu)
              · exact hgrow.cell (hx2.keep (HG5.out i u hu)) (fun h => e h.symm)
            have HD := Lib.hid hD
            have HG6 := Lib.hid hG6
            clear hD hG6 hkeep hgrow hown6 hown5 hblk5 hbk hI6 hbt
            go_wp2
            go_roundw
            case rel => exact ⟨j + 1, by omega, by go_num, HD.out, fun i u hu => by rw [World.cell?_setCell_other _ _ _ _ (fun e => hgo (congrArg Addr.block e).symm)]; exact HG6.out i u hu⟩
            case measure => simp [intOf]; omega
          · obtain rfl : j = l0.length := by omega
            rw [List.take_length] at hown5
            go_wp2
            go_ret2
            exact ⟨v5, rfl, HI5.out.ext, by rw [HV.out]; exact hown5⟩

end Go.Proofs.Ytdaidanpcehnnaa

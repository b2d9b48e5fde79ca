/-
  'm[k]++' in a map of the call's own, its look-up and its entry in either order; what the maps of TopRobin hold.
-/
import Derived.Test.YtdaidanpcehnnaaRobP
import Derived.Maps.Own
import Derived.Maps.OwnOps
import Derived.Maps.Views
import Derived.WideKeyEntry
import Derived.DeepKeys4
namespace Go.Proofs.Ytdaidanpcehnnaa
open Go.RowKit
open Go.Maps (Keyed IsMap atKey_put_same atKey_put_other)
open Go.WideMaps (KeyLaw)
open Go.ChangeMaps (setBlock heap_setBlock_same heap_setBlock_other)
set_option linter.unusedSimpArgs false

section
variable {H : Type} {P : Program} {w : World} {t k e : TypeId} {q : IntKind} {b n : Nat} {D : DataW H}
theorem owns_same {w w' : World} {R : Value → Option (DataW H × List MemPlace)} (h : w.ownsMap P k R b n D) (hb : w'.heap[b]? = w.heap[b]?) : w'.ownsMap P k R b n D := by
  obtain ⟨es, clock, h1, h2⟩ := h
  exact ⟨es, clock, hb.trans h1, h2⟩
theorem owns_isMap {R : Value → Option (DataW H × List MemPlace)} (h : w.ownsMap P k R b n D) : IsMap D := by
  obtain ⟨es, clock, _, _, _, rfl⟩ := h
  exact ⟨_, rfl⟩
theorem grown_block {w w' : World} {b clock : Nat} {o : Obj} {es : Array MapEntry} (hb : w.heap[b]? = some (.map es clock)) (h : w' = setBlock w b o) : w.grownBy w' (some b) := by
  subst h
  exact ⟨rfl, rfl, rfl, by simp [setBlock], fun i _ hi => heap_setBlock_other hb _ (fun e => hi (by rw [e]))⟩
theorem entry_law (K : KeyLaw P k) (ht : P.underlying t = some (.map k e)) (he : P.underlying e = some (.int q)) (hz : ∀ u : World, (zeroValue e).run P u = .ok (.int q 0) u) (h : w.ownsMap P k (plainElem P e) b n D) (hn : n < maxLen)
    {key : Value} {kl : Lit} (hkey : keyOf P k key = some kl) :
    ∃ (c : Int) (st : Nat) (w1 : World), (Instr.mapEntry t (.map (some b)) key).run P w = .ok (.tuple #[.int q c, goInt st]) w1 ∧ (Instr.lookup t (.map (some b)) key false).run P w = .ok (.int q c) w ∧
      (Instr.lookup t (.map (some b)) key false).run P w1 = .ok (.int q c) w1 ∧ D.atKey kl (.lit (.int q 0)) = .lit (.int q c) ∧ (Lit.int q c).wf = true ∧ w.grownBy w1 (some b) ∧
      ∀ a : Int, (Lit.int q a).wf = true → ∃ w2, (Instr.entryStore t (.map (some b)) (goInt st) (.int q a)).run P w1 = .ok () w2 ∧ w2.ownsMap P k (plainElem P e) b (n + 1) (D.put kl (.lit (.int q a))) ∧ w.grownBy w2 (some b) := by
  have K' := Keyed.of_law K
  have hw0 : (Lit.int q 0).wf = true := by cases q <;> decide
  obtain ⟨c, hrun, hat, hwc⟩ := h.lookup_int K' ht he (hz w) hkey
  have hown := h
  have hmap := owns_isMap h
  obtain ⟨es, clock, hb, F, hs, hD⟩ := h
  obtain ⟨v0, st, es1, clock1, hE, hv0, hst⟩ := WideElems.entry_then_store K ht hz hb F hkey
  have hkl : WideAt.IsKeyLit kl := K'.key hkey
  have hblk : (setBlock w b (.map es1 clock1)).heap[b]? = some (.map es1 clock1) := heap_setBlock_same hb _
  have hkeyfact : v0 = .int q c ∧ ∃ D1 : DataW H, (setBlock w b (.map es1 clock1)).ownsMap P k (plainElem P e) b (n + 1) D1 ∧ D1.atKey kl (.lit (.int q 0)) = .lit (.int q c) := by
    rcases K.find w hkey es.toList F.keys with ⟨h1, h2⟩ | ⟨j, e0, h1, h2, h3⟩
    · have hc0 : c = 0 := by
        rcases Maps.fit_look false K' ht (hz w) hb F hkey with ⟨hr, _, _⟩ | ⟨x, y, hx, hxk, _⟩
        · rw [hrun] at hr; simp at hr; exact hr
        · exact absurd hxk (h2 x hx)
      subst hc0
      have hm : (Instr.mapEntry t (.map (some b)) key).run P w = .ok (.tuple #[.int q 0, goInt clock]) (setBlock w b (.map (es.push ⟨key, .int q 0, clock⟩) (clock + 1))) := by
        simp [Instr.mapEntry, run_underlying ht, MapKept.run_getObj_map hb, K.check w false hkey, h1, hz, MapKept.run_setObj_map _ hb, Result.andThen, setBlock]
      have hu : (Instr.mapUpdate t (.map (some b)) key (.int q 0)).run P w = .ok () (setBlock w b (.map (es.push ⟨key, .int q 0, clock⟩) (clock + 1))) := by
        simp [Instr.mapUpdate, run_underlying ht, MapKept.run_getObj_map hb, K.check w false hkey, h1, MapKept.run_setObj_map _ hb, Result.andThen, setBlock]
      rw [hE] at hm
      injection hm with m1 m2
      obtain ⟨w', hr', hown', _⟩ := hown.update K' ht hn hkey (plainElem_int (H := H) he hw0)
      rw [hu] at hr'
      injection hr' with _ m3
      refine ⟨?_, D.put kl (.lit (.int q 0)), ?_, atKey_put_same hmap hkl _ _⟩
      · rcases hv0 with ⟨x, hx, hxk, _⟩ | ⟨_, hv⟩
        · exact absurd hxk (h2 x hx)
        · exact hv
      · rw [m2, m3]; exact hown'
    · have hj : es[j]? = some e0 := by simpa using h2
      have hsame : es.modify j (fun x => { x with key := key }) = es := by
        apply Array.ext'
        rw [Array.toList_modify, ChangeMaps.modify_eq_set _ _ _ _ h2]
        have : ({ e0 with key := key } : MapEntry) = e0 := by rw [← h3]
        rw [this]
        exact WideElems.set_self _ _ _ h2
      have hm : (Instr.mapEntry t (.map (some b)) key).run P w = .ok (.tuple #[e0.val, goInt e0.born]) (setBlock w b (.map es clock)) := by
        simp [Instr.mapEntry, run_underlying ht, MapKept.run_getObj_map hb, K.check w false hkey, h1, hj, h3, K.stays w hkey, hsame, MapKept.run_setObj_map _ hb, Result.andThen, setBlock]
      have hl : (Instr.lookup t (.map (some b)) key false).run P w = .ok e0.val w := by
        simp [Instr.lookup, run_underlying ht, MapKept.run_getObj_map hb, K.check w _ hkey, h1, Result.andThen]
      rw [hrun] at hl
      injection hl with l1 _
      rw [hE] at hm
      injection hm with m1 m2
      have m3 : v0 = e0.val := by
        injection m1 with m4
        have := congrArg (fun a : Array Value => a[0]?) m4
        simpa using this
      refine ⟨by rw [m3, ← l1], D, ?_, hat⟩
      rw [m2]
      exact (owns_same hown ((heap_setBlock_same hb _).trans hb.symm)).mono (Nat.le_succ _)
  obtain ⟨hv, D1, hown1, hat1⟩ := hkeyfact
  obtain ⟨c1, hrun1, hat2, _⟩ := hown1.lookup_int K' ht he (hz _) hkey
  have hcc : c1 = c := by
    rw [hat1] at hat2
    injection hat2 with h3
    injection h3 with _ h4
    exact h4.symm
  rw [hcc] at hrun1
  refine ⟨c, st, _, by rw [hE, hv], hrun, hrun1, hat, hwc, grown_block hb rfl, fun a hwa => ?_⟩
  obtain ⟨es', clock', hs1, hs2⟩ := hst _ (.int q a) hblk
  obtain ⟨w', hr', hown', hg'⟩ := hown.update K' ht hn hkey (plainElem_int (H := H) he hwa)
  rw [hs2] at hr'
  injection hr' with _ m3
  refine ⟨_, hs1, owns_same hown' ?_, ?_⟩
  · rw [← m3, heap_setBlock_same hb _]; exact heap_setBlock_same hblk _
  · have g1 := grown_block hb (rfl : setBlock w b (.map es1 clock1) = _)
    have g2 := grown_block hblk (rfl : setBlock (setBlock w b (.map es1 clock1)) b (.map es' clock') = _)
    exact ⟨g2.os.trans g1.os, g2.tape.trans g1.tape, g2.output.trans g1.output, Nat.le_trans g1.size g2.size, fun i hi hne => (g2.block i (Nat.lt_of_lt_of_le hi g1.size) hne).trans (g1.block i hi hne)⟩
end

end Go.Proofs.Ytdaidanpcehnnaa

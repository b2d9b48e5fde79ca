/-
  The reference's Cut, at any byte.
-/
import Derived.Test.YthccmolnfejkeaaDoorNumF
import Derived.Test.YthccmolnfejkeaaDoorRNum
namespace Go.Proofs.YthccmolnfejkeaaDoor
open Go.RowKit
set_option linter.unusedSimpArgs false

theorem cut_none (L : List UInt8) (x : UInt8) (h : ∀ c ∈ L, c ≠ x) : Lib.cut L [x] = (L, [], false) := by
  have hi : Lib.index L [x] = -1 := by
    refine Lib.index_none (fun j hj => ?_)
    unfold Lib.occAt
    cases hd : L.drop j with
    | nil => rfl
    | cons a t =>
      have ha : a ∈ L := List.mem_of_mem_drop (i := j) (by rw [hd]; simp)
      simp [List.isPrefixOf, Ne.symm (h a ha)]
  unfold Lib.cut
  rw [hi, if_neg (by decide)]
theorem cut_first {L : List UInt8} {x : UInt8} {k : Nat} (hk : k < L.length) (h : ∀ j, j < k → L.getD j 0 ≠ x) (hx : L.getD k 0 = x) : Lib.cut L [x] = (L.take k, L.drop (k + 1), true) := by
  have e : L = L.take k ++ x :: L.drop (k + 1) := by
    have h1 := List.take_append_drop k L
    rw [List.drop_eq_getElem_cons hk] at h1
    have h2 : L[k] = x := by rw [← hx]; simp [List.getD, hk]
    rw [h2] at h1
    exact h1.symm
  have := cut_at (L.take k) (L.drop (k + 1)) x (fun c hc => by
    obtain ⟨j, hj, rfl⟩ := List.getElem_of_mem hc
    have hj' : j < k := by simp at hj; omega
    have := h j hj'
    rw [List.getElem_take]
    simpa [List.getD, show j < L.length by omega] using this)
  rw [← e] at this
  exact this
theorem byte_at (L : List UInt8) (k : Nat) (hk : k < L.length) (h : k < (⟨L.toArray⟩ : ByteArray).size) : (⟨L.toArray⟩ : ByteArray)[k]'h = L.getD k 0 := by
  simp [List.getD, hk]
  rfl
theorem ext_take (L : List UInt8) (k : Nat) : (⟨L.toArray⟩ : ByteArray).extract 0 k = ⟨(L.take k).toArray⟩ := by
  apply ByteArray.ext; simp
theorem ext_drop (L : List UInt8) (k : Nat) : (⟨L.toArray⟩ : ByteArray).extract k L.length = ⟨(L.drop k).toArray⟩ := by
  apply ByteArray.ext; simp [List.take_of_length_le]
theorem all_ne {L : List UInt8} {x : UInt8} (h : ∀ j, j < L.length → L.getD j 0 ≠ x) : ∀ c ∈ L, c ≠ x := by
  intro c hc
  obtain ⟨j, hj, rfl⟩ := List.getElem_of_mem hc
  have := h j hj
  simpa [List.getD, hj] using this

def cut1 (x : UInt8) (L : List UInt8) : List UInt8 := (Lib.cut L [x]).1
def cut2 (x : UInt8) (L : List UInt8) : List UInt8 := (Lib.cut L [x]).2.1
def cut3 (x : UInt8) (L : List UInt8) : Bool := (Lib.cut L [x]).2.2
set_option maxHeartbeats 4000000 in
theorem rcut_any (x : UInt8) (L : List UInt8) (hL : L.length ≤ 1000000) (w : World) :
    Calls Tryd.prog 32 #[.string ⟨L.toArray⟩, (.int .u8 (x.toNat : Nat))] w fun e w' =>
      e = .returned (.tuple #[.string ⟨(cut1 x L).toArray⟩, .string ⟨(cut2 x L).toArray⟩, .bool (cut3 x L)]) ∧ Ext w w' := by
  go_enter Tryd.func32, Tryd.ntmps32
  go_wp2
  go_loop [7] (fun i => ∃ k : Nat, k ≤ L.length ∧ i = .int .i64 k ∧ ∀ j, j < k → L.getD j 0 ≠ x) (fun i => L.length - (intOf i).toNat)
  case atStart => exact ⟨0, by omega, rfl, fun j hj => by omega⟩
  case round =>
    obtain ⟨k, hk, rfl, hn⟩ := hrel
    have HN := Lib.hid hn
    clear hn
    by_cases hlt : k < L.length
    · by_cases hc : L.getD k 0 = x
      · have HC : Hid (Lib.cut L [x] = (L.take k, L.drop (k + 1), true)) := cut_first hlt HN.out hc
        have hx : ∀ h, (⟨L.toArray⟩ : ByteArray)[k]'h = x := fun h => (byte_at L k hlt h).trans hc
        go_wp2
        go_quiet (fail)
        go_wp2
        refine bodyPost_ret (v := .tuple #[.string ((⟨L.toArray⟩ : ByteArray).extract 0 k), .string ((⟨L.toArray⟩ : ByteArray).extract (k + 1) L.length), .bool true]) (by simp [results, Tryd.results32, go_sem, *]) rfl ?_
        exact ⟨by rw [cut1, cut2, cut3, HC.out, ext_take, ext_drop], (by repeat (first | exact Ext.refl _ | refine Ext.drew ?_ | refine Ext.drewN ?_ _ | refine Ext.alloc ?_ _))⟩
      · have hx : ∀ h, (⟨L.toArray⟩ : ByteArray)[k]'h = L.getD k 0 := byte_at L k hlt
        have hc1 : ¬ ((((L.getD k 0).toNat : Nat) : Int) = (x.toNat : Nat)) := fun h => hc (UInt8.toNat_inj.1 (by omega))
        have HN2 : Hid (∀ j, j < k + 1 → L.getD j 0 ≠ x) := fun j hj => by
          rcases Nat.lt_or_ge j k with h | h
          · exact HN.out j h
          · have : j = k := by omega
            subst this; exact hc
        generalize L.getD k 0 = b at hx hc1
        clear hc
        go_wp2
        go_round
        case rel => exact ⟨k + 1, by omega, by go_num, HN2.out⟩
        case measure => simp [intOf]; omega
    · obtain rfl : k = L.length := by omega
      have HC : Hid (Lib.cut L [x] = (L, [], false)) := cut_none L x (all_ne HN.out)
      go_wp2
      refine bodyPost_ret (v := .tuple #[.string ⟨L.toArray⟩, .string ⟨#[]⟩, .bool false]) (by simp [results, Tryd.results32, go_sem, *]) rfl ?_
      exact ⟨by rw [cut1, cut2, cut3, HC.out], (by repeat (first | exact Ext.refl _ | refine Ext.drew ?_ | refine Ext.drewN ?_ _ | refine Ext.alloc ?_ _))⟩

end Go.Proofs.YthccmolnfejkeaaDoor

/-
  Credits of a delivery (layer 9).
-/
import Derived.Test.YtpeabgfolpgfjaaSymA
import Derived.Test.YtpeabgfolpgfjaaNotA
namespace Go.Proofs.Ytpeabgfolpgfjaa
open Go.RowKit
set_option linter.unusedSimpArgs false

/-- The rules: a name, numbers, and the slice of the powerplays. -/
structure Ru where
  nm : List UInt8
  si : Int
  inn : Int
  ov : Int
  ba : Int
  qu : Int
  wi : Int
  nb : Int
  fh : Bool
  nw : Int
  fo : Int
  re : Int
  ou : Int
  pa : Option Addr
  pl : Nat
  pc : Nat
def Ru.v (r : Ru) : Value := .agg #[.string ⟨r.nm.toArray⟩, .int .i64 r.si, .int .i64 r.inn, .int .i64 r.ov, .int .i64 r.ba, .int .i64 r.qu, .int .i64 r.wi, .int .i64 r.nb, .bool r.fh, .int .i64 r.nw, .int .i64 r.fo, .int .i64 r.re, .int .i64 r.ou, .slice r.pa r.pl r.pc]
def crdB (ho : Int) : Bool := decide (1 ≤ ho ∧ ho ≤ 5)
theorem crd_any (ho : Int) (w : World) : Calls Try.prog 90 #[.int .u8 ho] w fun e w' => e = .returned (.bool (crdB ho)) ∧ w = w' := by
  obtain ⟨V, hV⟩ : ∃ V, crdB ho = V := ⟨_, rfl⟩
  have HV := Lib.hid hV
  rw [hV]
  clear hV
  go_enter Try.func90, Try.ntmps90
  go_wp2
  all_goals
    refine bodyPost_ret (v := .bool V) ?_ rfl ⟨rfl, rfl⟩
    rw [← HV.out]
    simp [results, Try.results90, go_sem, crdB, *]
    try omega
/-- The credits: batter, wides, no-balls, byes, leg byes, the bowler's, and four marks. -/
def batN (d : Dl) : Int := if d.ty = 2 then 0 else if d.so = 1 then d.ru - d.sh + d.bo else 0
def widN (d : Dl) (wi : Int) : Int := if d.ty = 2 then wi + (d.ru - d.sh + d.bo) else 0
def nbsN (d : Dl) (nb : Int) : Int := if d.ty = 3 then nb else 0
def byeN (d : Dl) : Int := if d.ty = 2 then 0 else if d.so = 2 then d.ru - d.sh + d.bo else 0
def legN (d : Dl) : Int := if d.ty = 2 then 0 else if d.so = 3 then d.ru - d.sh + d.bo else 0
def swapB (d : Dl) : Bool := (if d.cr then d.ru + 1 else d.ru) % 2 == 1
def crV (d : Dl) (wi nb : Int) : Value := .agg #[.int .i64 (batN d), .int .i64 (widN d wi), .int .i64 (nbsN d nb), .int .i64 (byeN d), .int .i64 (legN d), .int .i64 (batN d + widN d wi + nbsN d nb), .bool (d.ty == 1), .bool (d.ty != 2), .bool (crdB d.ho), .bool (swapB d)]
/-- What a legal delivery has. -/
structure Dl.Lg (d : Dl) : Prop where
  ty : d.ty = 1 ∨ d.ty = 2 ∨ d.ty = 3
  so : d.so = 0 ∨ d.so = 1 ∨ d.so = 2 ∨ d.so = 3
  ru : 0 ≤ d.ru ∧ d.ru ≤ 7
  sh : 0 ≤ d.sh ∧ d.sh ≤ d.ru
  bo : d.bo = 0 ∨ d.bo = 4 ∨ d.bo = 6
  ho : 0 ≤ d.ho ∧ d.ho ≤ 10
  sc : 0 ≤ d.sc ∧ d.sc ≤ 8
theorem lg_ok {d : Dl} (hw : d.Wf) (h : lgD d = 0) : d.Lg := by
  obtain ⟨w1, w2, w3⟩ := hw
  unfold lgD lgX at h
  split at h
  · cases h
  · split at h
    · cases h
    · exact ⟨by omega, by omega, by omega, by omega, by omega, by omega, by omega⟩

end Go.Proofs.Ytpeabgfolpgfjaa

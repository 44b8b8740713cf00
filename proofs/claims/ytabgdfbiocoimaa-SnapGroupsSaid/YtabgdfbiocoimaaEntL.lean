/- Entries of a dictionary, plain: what is wrong of one. No program in sight. -/
import Derived.Test.YtabgdfbiocoimaaTyL
namespace Go.Proofs.Ytabgdfbiocoimaa
set_option linter.unusedVariables false
set_option linter.unusedSimpArgs false
set_option linter.unnecessarySimpa false
open Go.RowKit

structure Ent where
  ix : Int
  sub : Int
  nm : ByteArray
  ty : Int
  acc : Int
  mp : Bool
  st : Bool
  mx : Int
  lo : Int
  hi : Int
  df : List UInt8
def entV (E : Ent) (A : Option Addr) (n c : Nat) : Array Value := #[.int .i64 E.ix, .int .i64 E.sub, .string E.nm, .int .i64 E.ty, .int .i64 E.acc, .bool E.mp, .bool E.st, .int .i64 E.mx, .int .i64 E.lo, .int .i64 E.hi, .slice A n c]
/-- a number of 64 bits (a name, so that the numeral does not stand in the walk's context) -/
def I64 (n : Int) : Prop := -9223372036854775808 ≤ n ∧ n ≤ 9223372036854775807
def letterB (c : Nat) : Bool := decide (97 ≤ c) && decide (c ≤ 122)
def innerB (c : Nat) : Bool := letterB c || (decide (48 ≤ c) && decide (c ≤ 57)) || decide (c = 95)
def nameB (s : ByteArray) : Bool := decide (s.size ≠ 0) && decide (s.size ≤ 16) && letterB (s.data.toList.headD 0).toNat && s.data.toList.all fun c => innerB c.toNat
def flagsB (acc : Int) (st mp : Bool) : Bool := if acc = 1 then (!st && !mp) else if acc = 2 then !st else decide (acc = 3) || decide (acc = 4)
def numberedB (t mx lo hi : Int) : Bool := decide (mx = 0) && decide (tyLow t ≤ lo) && decide (lo ≤ hi) && decide (hi ≤ tyHigh t)
def sizedB (mp : Bool) (mx lo hi : Int) : Bool := decide (lo = 0) && decide (hi = 0) && decide (1 ≤ mx) && decide (mx ≤ 256) && !mp
def limitsB (t : Int) (mp : Bool) (mx lo hi : Int) : Bool := if tyNum t = true then numberedB t mx lo hi else sizedB mp mx lo hi
def placeB (ix sub : Int) : Bool := decide (1 ≤ ix) && decide (ix ≤ 65535) && decide (0 ≤ sub) && decide (sub ≤ 255)
/-- what is wrong of an entry -/
def rightE (E : Ent) : Int := if placeB E.ix E.sub = false then 9 else if nameB E.nm = false then 14 else if tyKnown E.ty = false then 15 else
  if flagsB E.acc E.st E.mp = false then 1 else if limitsB E.ty E.mp E.mx E.lo E.hi = false then 1 else if valueE E.ty E.mx E.lo E.hi E.df ≠ 0 then 4 else 0
def groupE (ix : Int) : Int := if ix < 4096 then 1 else if ix < 8192 then 2 else if ix < 24576 then 4 else if ix < 40960 then 3 else 1
def readE (acc : Int) : Int := if acc = 3 then 100728833 else 0
def writeE (acc : Int) : Int := if acc = 1 ∨ acc = 2 then 100728834 else 0
def beforeB (a b c d : Int) : Bool := decide (a < c ∨ a = c ∧ b < d)
theorem str_at (s : ByteArray) (k : Nat) (h : k < s.size) : s.data.toList[k]'(by simpa using h) = s[k] := rfl
theorem name_no (s : ByteArray) (k : Nat) (h : k < s.size) (hb : innerB (s[k]).toNat = false) : nameB s = false := by
  have : (s.data.toList.all fun c => innerB c.toNat) = false := by
    rw [List.all_eq_false]
    exact ⟨s[k], by rw [← str_at s k h]; exact List.getElem_mem _, by rw [hb]; decide⟩
  simp [nameB, this]
theorem all_yes (s : ByteArray) (h : ∀ k (hk : k < s.size), innerB (s[k]).toNat = true) : (s.data.toList.all fun c => innerB c.toNat) = true := by
  rw [List.all_eq_true]
  intro x hx
  obtain ⟨k, hk, rfl⟩ := List.getElem_of_mem hx
  exact h k (by simpa using hk)
theorem head_at (s : ByteArray) (h : 0 < s.size) : s.data.toList.headD 0 = s[0] := by
  have h1 := str_at s 0 h
  cases hs : s.data.toList with
  | nil => have h2 : s.data.toList.length = 0 := by rw [hs]; rfl
           have h3 : s.size = s.data.toList.length := by simp
           omega
  | cons a l => simp [hs] at h1; simp [← h1]
end Go.Proofs.Ytabgdfbiocoimaa

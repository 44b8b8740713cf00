/- Types of values, plain: sizes, bits, signs, limits, and the number that bytes say. No program in sight. -/
import Derived.Test.YtimdmhhgomfijaaBase
namespace Go.Proofs.Ytimdmhhgomfijaa
set_option linter.unusedVariables false
set_option linter.unusedSimpArgs false
set_option linter.unnecessarySimpa false
section
open Go.RowKit

def tySize (t : Int) : Int := if t = 1 then 1 else if t = 2 then 1 else if t = 5 then 1 else if t = 3 then 2 else if t = 6 then 2 else if t = 4 then 4 else if t = 7 then 4 else if t = 21 then 8 else 0
def tyBits (t : Int) : Int := if t = 1 then 1 else 8 * tySize t
def tySigned (t : Int) : Bool := decide (t = 2) || decide (t = 3) || decide (t = 4) || decide (t = 21)
def tyKnown (t : Int) : Bool := decide (t = 1) || decide (t = 2) || decide (t = 3) || decide (t = 4) || decide (t = 5) || decide (t = 6) || decide (t = 7) || decide (t = 9) || decide (t = 10) || decide (t = 15) || decide (t = 21)
/-- the greatest number of a type -/
def tyHigh (t : Int) : Int := if t = 1 then 1 else if t = 2 then 127 else if t = 3 then 32767 else if t = 4 then 2147483647 else if t = 5 then 255 else if t = 6 then 65535 else if t = 7 then 4294967295 else if t = 21 then 9223372036854775807 else 0
/-- the least one -/
def tyLow (t : Int) : Int := if tySigned t = true then - tyHigh t - 1 else 0
def tyNum (t : Int) : Bool := decide (tyBits t ≠ 0)
theorem ty_cases (t : Int) : t = 1 ∨ t = 2 ∨ t = 3 ∨ t = 4 ∨ t = 5 ∨ t = 6 ∨ t = 7 ∨ t = 9 ∨ t = 10 ∨ t = 15 ∨ t = 21 ∨ (t ≠ 1 ∧ t ≠ 2 ∧ t ≠ 3 ∧ t ≠ 4 ∧ t ≠ 5 ∧ t ≠ 6 ∧ t ≠ 7 ∧ t ≠ 9 ∧ t ≠ 10 ∧ t ≠ 15 ∧ t ≠ 21) := by omega
theorem ty_num_cases (t : Int) (h : tyBits t ≠ 0) : t = 1 ∨ t = 2 ∨ t = 3 ∨ t = 4 ∨ t = 5 ∨ t = 6 ∨ t = 7 ∨ t = 21 := by
  rcases ty_cases t with rfl | rfl | rfl | rfl | rfl | rfl | rfl | rfl | rfl | rfl | rfl | ⟨h1, h2, h3, h4, h5, h6, h7, h9, h10, h15, h21⟩ <;> simp_all [tyBits, tySize]
theorem ty_none {t : Int} (h : t ≠ 1 ∧ t ≠ 2 ∧ t ≠ 3 ∧ t ≠ 4 ∧ t ≠ 5 ∧ t ≠ 6 ∧ t ≠ 7 ∧ t ≠ 9 ∧ t ≠ 10 ∧ t ≠ 15 ∧ t ≠ 21) : tySize t = 0 ∧ tyBits t = 0 ∧ tySigned t = false ∧ tyKnown t = false ∧ tyHigh t = 0 ∧ tyLow t = 0 := by
  obtain ⟨h1, h2, h3, h4, h5, h6, h7, h9, h10, h15, h21⟩ := h
  simp [tySize, tyBits, tySigned, tyKnown, tyHigh, tyLow, h1, h2, h3, h4, h5, h6, h7, h9, h10, h15, h21]
/-- n's lowest 8 s bits as a number with a sign -/
def sgnN (s : Int) (n : Nat) : Int := if s = 1 then (if n < 128 then (n : Int) else (n : Int) - 256) else if s = 2 then (if n < 32768 then (n : Int) else (n : Int) - 65536) else
  if s = 4 then (if n < 2147483648 then (n : Int) else (n : Int) - 4294967296) else (if n < 9223372036854775808 then (n : Int) else (n : Int) - 18446744073709551616)
/-- the number that bytes say, or why they say none -/
def decV (t : Int) (l : List UInt8) : Int := if tyBits t = 0 then 0 else if (l.length : Int) < tySize t then 0 else if tySize t < (l.length : Int) then 0 else
  if tySigned t = true then sgnN (tySize t) (leN l) else if t = 1 ∧ 1 < leN l then 0 else (leN l : Int)
def decE (t : Int) (l : List UInt8) : Int := if tyBits t = 0 then 15 else if (l.length : Int) < tySize t then 2 else if tySize t < (l.length : Int) then 3 else
  if tySigned t = true then 0 else if t = 1 ∧ 1 < leN l then 9 else 0
def printB (l : List UInt8) : Bool := l.all fun c => decide (32 ≤ c.toNat) && decide (c.toNat ≤ 126)
/-- what is wrong of bytes -/
def checkE (t most : Int) (l : List UInt8) : Int := if tyKnown t = false then 15 else if 0 < tyBits t then decE t l else if most < (l.length : Int) ∨ 256 < l.length then 3 else if t = 9 ∧ printB l = false then 4 else 0
/-- why bytes are no value of an entry of a type, with limits -/
def valueE (t mx lo hi : Int) (l : List UInt8) : Int :=
  if tyKnown t = false then 100925511 else
  if 0 < tyBits t then (if decE t l = 2 then 101122067 else if decE t l = 3 then 101122066 else if decE t l ≠ 0 then 101253168 else if decV t l < lo then 101253170 else if hi < decV t l then 101253169 else 0)
  else if checkE t mx l = 3 then 101122066 else if checkE t mx l = 4 then 101253168 else 0
theorem check_vals (t mx : Int) (l : List UInt8) (h0 : ¬ 0 < tyBits t) (hk : tyKnown t = true) : checkE t mx l = 3 ∨ checkE t mx l = 4 ∨ checkE t mx l = 0 := by
  unfold checkE
  rw [if_neg (by rw [hk]; decide), if_neg h0]
  split
  · exact .inl rfl
  · split
    · exact .inr (.inl rfl)
    · exact .inr (.inr rfl)
theorem dec_vals (t : Int) (l : List UInt8) : decE t l = 15 ∨ decE t l = 2 ∨ decE t l = 3 ∨ decE t l = 0 ∨ decE t l = 9 := by
  unfold decE
  repeat' split
  all_goals simp
theorem bits_nn (t : Int) : 0 ≤ tyBits t ∧ tyBits t ≤ 64 := by
  rcases ty_cases t with rfl | rfl | rfl | rfl | rfl | rfl | rfl | rfl | rfl | rfl | rfl | h
  iterate 11 exact by decide
  rw [(ty_none h).2.1]; omega
theorem num_known {t : Int} (h : tyBits t ≠ 0) : tyKnown t = true := by
  rcases ty_num_cases t h with rfl | rfl | rfl | rfl | rfl | rfl | rfl | rfl <;> rfl
/-- the walk's spelling of extend -/
theorem extend_1 (n : Nat) (h : n < 256) : wrap64 (IntKind.u64.wrap ((n : Int) * 72057594037927936)) / 72057594037927936 = sgnN 1 n := by
  unfold wrap64; rw [IntKind.wrap_u64]; simp [sgnN]; split <;> omega
theorem extend_2 (n : Nat) (h : n < 65536) : wrap64 (IntKind.u64.wrap ((n : Int) * 281474976710656)) / 281474976710656 = sgnN 2 n := by
  unfold wrap64; rw [IntKind.wrap_u64]; simp [sgnN]; split <;> omega
theorem extend_4 (n : Nat) (h : n < 4294967296) : wrap64 (IntKind.u64.wrap ((n : Int) * 4294967296)) / 4294967296 = sgnN 4 n := by
  unfold wrap64; rw [IntKind.wrap_u64]; simp [sgnN]; split <;> omega
def Wd (wd : Int) : Prop := wd = 1 ∨ wd = 2 ∨ wd = 4 ∨ wd = 8
theorem dec_none {t : Int} (l : List UInt8) (h : tyBits t = 0) : decV t l = 0 ∧ decE t l = 15 := by simp [decV, decE, h]
theorem dec_short {t : Int} (l : List UInt8) (h : tyBits t ≠ 0) (h1 : (l.length : Int) < tySize t) : decV t l = 0 ∧ decE t l = 2 := by simp [decV, decE, h, h1]
theorem dec_big {t : Int} (l : List UInt8) (h : tyBits t ≠ 0) (h1 : tySize t < (l.length : Int)) : decV t l = 0 ∧ decE t l = 3 := by
  have : ¬ (l.length : Int) < tySize t := by omega
  simp [decV, decE, h, h1, this]
theorem dec_sgn {t : Int} (l : List UInt8) (h : tyBits t ≠ 0) (h1 : tySize t = (l.length : Int)) (hs : tySigned t = true) : decV t l = sgnN (tySize t) (leN l) ∧ decE t l = 0 := by
  simp [decV, decE, h, h1, hs]
theorem dec_uns {t : Int} (l : List UInt8) (h : tyBits t ≠ 0) (h1 : tySize t = (l.length : Int)) (hs : tySigned t = false) : decV t l = (if t = 1 ∧ 1 < leN l then 0 else (leN l : Int)) ∧ decE t l = (if t = 1 ∧ 1 < leN l then 9 else 0) := by
  simp [decV, decE, h, h1, hs]
theorem ty_wd {t : Int} (h : tyBits t ≠ 0) : Wd (tySize t) := by
  rcases ty_num_cases t h with rfl | rfl | rfl | rfl | rfl | rfl | rfl | rfl
  all_goals (unfold Wd; decide)
theorem ty_uns {t : Int} (h : tyBits t ≠ 0) (hs : tySigned t = false) : t = 1 ∨ t = 5 ∨ t = 6 ∨ t = 7 := by
  rcases ty_num_cases t h with rfl | rfl | rfl | rfl | rfl | rfl | rfl | rfl
  all_goals first | omega | exact absurd hs (by decide)
theorem print_no (l : List UInt8) (k : Nat) (h : k < l.length) (hb : ¬ (32 ≤ (l[k]).toNat ∧ (l[k]).toNat ≤ 126)) : printB l = false := by
  simp only [printB, List.all_eq_false]
  exact ⟨l[k], List.getElem_mem h, by simp; omega⟩
theorem print_yes (l : List UInt8) (h : ∀ k (hk : k < l.length), 32 ≤ (l[k]).toNat ∧ (l[k]).toNat ≤ 126) : printB l = true := by
  simp only [printB, List.all_eq_true]
  intro x hx
  obtain ⟨k, hk, rfl⟩ := List.getElem_of_mem hx
  have := h k hk
  simp [this.1, this.2]
end
section
open Go.RowKit

structure Ent where
  ix : Int
  sub : Int
  nm : ByteArray
  ty : Int
  acc : Int
  mp : Bool
  st : Bool
  mx : Int
  lo : Int
  hi : Int
  df : List UInt8
def entV (E : Ent) (A : Option Addr) (n c : Nat) : Array Value := #[.int .i64 E.ix, .int .i64 E.sub, .string E.nm, .int .i64 E.ty, .int .i64 E.acc, .bool E.mp, .bool E.st, .int .i64 E.mx, .int .i64 E.lo, .int .i64 E.hi, .slice A n c]
/-- a number of 64 bits (a name, so that the numeral does not stand in the walk's context) -/
def I64 (n : Int) : Prop := -9223372036854775808 ≤ n ∧ n ≤ 9223372036854775807
def letterB (c : Nat) : Bool := decide (97 ≤ c) && decide (c ≤ 122)
def innerB (c : Nat) : Bool := letterB c || (decide (48 ≤ c) && decide (c ≤ 57)) || decide (c = 95)
def nameB (s : ByteArray) : Bool := decide (s.size ≠ 0) && decide (s.size ≤ 16) && letterB (s.data.toList.headD 0).toNat && s.data.toList.all fun c => innerB c.toNat
def flagsB (acc : Int) (st mp : Bool) : Bool := if acc = 1 then (!st && !mp) else if acc = 2 then !st else decide (acc = 3) || decide (acc = 4)
def numberedB (t mx lo hi : Int) : Bool := decide (mx = 0) && decide (tyLow t ≤ lo) && decide (lo ≤ hi) && decide (hi ≤ tyHigh t)
def sizedB (mp : Bool) (mx lo hi : Int) : Bool := decide (lo = 0) && decide (hi = 0) && decide (1 ≤ mx) && decide (mx ≤ 256) && !mp
def limitsB (t : Int) (mp : Bool) (mx lo hi : Int) : Bool := if tyNum t = true then numberedB t mx lo hi else sizedB mp mx lo hi
def placeB (ix sub : Int) : Bool := decide (1 ≤ ix) && decide (ix ≤ 65535) && decide (0 ≤ sub) && decide (sub ≤ 255)
/-- what is wrong of an entry -/
def rightE (E : Ent) : Int := if placeB E.ix E.sub = false then 9 else if nameB E.nm = false then 14 else if tyKnown E.ty = false then 15 else
  if flagsB E.acc E.st E.mp = false then 1 else if limitsB E.ty E.mp E.mx E.lo E.hi = false then 1 else if valueE E.ty E.mx E.lo E.hi E.df ≠ 0 then 4 else 0
def groupE (ix : Int) : Int := if ix < 4096 then 1 else if ix < 8192 then 2 else if ix < 24576 then 4 else if ix < 40960 then 3 else 1
def readE (acc : Int) : Int := if acc = 3 then 100728833 else 0
def writeE (acc : Int) : Int := if acc = 1 ∨ acc = 2 then 100728834 else 0
def beforeB (a b c d : Int) : Bool := decide (a < c ∨ a = c ∧ b < d)
theorem str_at (s : ByteArray) (k : Nat) (h : k < s.size) : s.data.toList[k]'(by simpa using h) = s[k] := rfl
theorem name_no (s : ByteArray) (k : Nat) (h : k < s.size) (hb : innerB (s[k]).toNat = false) : nameB s = false := by
  have : (s.data.toList.all fun c => innerB c.toNat) = false := by
    rw [List.all_eq_false]
    exact ⟨s[k], by rw [← str_at s k h]; exact List.getElem_mem _, by rw [hb]; decide⟩
  simp [nameB, this]
theorem all_yes (s : ByteArray) (h : ∀ k (hk : k < s.size), innerB (s[k]).toNat = true) : (s.data.toList.all fun c => innerB c.toNat) = true := by
  rw [List.all_eq_true]
  intro x hx
  obtain ⟨k, hk, rfl⟩ := List.getElem_of_mem hx
  exact h k (by simpa using hk)
theorem head_at (s : ByteArray) (h : 0 < s.size) : s.data.toList.headD 0 = s[0] := by
  have h1 := str_at s 0 h
  cases hs : s.data.toList with
  | nil => have h2 : s.data.toList.length = 0 := by rw [hs]; rfl
           have h3 : s.size = s.data.toList.length := by simp
           omega
  | cons a l => simp [hs] at h1; simp [← h1]
end
end Go.Proofs.Ytimdmhhgomfijaa

/- Messages of SDO transfers, plain: the message that eight bytes would say; what is laid down is read as it was. No program in sight. -/
import Derived.Test.YthdbckbpldlkeaaSdL
namespace Go.Proofs.Ythdbckbpldlkeaa
set_option linter.unusedVariables false
set_option linter.unusedSimpArgs false
set_option linter.unnecessarySimpa false
open Go.RowKit
set_option maxRecDepth 20000

def byt (b : List UInt8) (i : Nat) : Nat := (b.getD i 0).toNat
def datN (f : Int) (c : Nat) : Nat := if f = 2 then (if c / 2 % 2 = 1 then 4 - c / 4 % 4 else 0) else if f = 3 then 7 - c / 2 % 8 else if f = 11 then 7 else 0
def datF (f : Int) : Nat := if f = 2 then 4 else 1
/-- all fields that a kind's bytes would say -/
def preM (k : Int) (b : List UInt8) : Ms where
  kind := k
  ix := (leN ((b.drop 1).take 2) : Nat)
  sub := (byt b 3 : Nat)
  tg := decide (byt b 0 / 16 % 2 = 1)
  la := if formI k = 11 then decide (128 ≤ byt b 0) else decide (byt b 0 % 2 = 1)
  cr := decide (byt b 0 / 4 % 2 = 1)
  sz := if formI k = 2 then decide (byt b 0 % 2 = 1) else decide (byt b 0 / 2 % 2 = 1)
  size := leN ((b.drop 4).take 4)
  code := leN ((b.drop 4).take 4)
  data := (b.drop (datF (formI k))).take (datN (formI k) (byt b 0))
  sq := if formI k = 11 then ((byt b 0 % 128 : Nat) : Int) else ((byt b 1 : Nat) : Int)
  bl := if formI k = 8 then ((byt b 4 : Nat) : Int) else ((byt b 2 : Nat) : Int)
  em := (byt b 0 / 4 % 8 : Nat)
  sum := leN ((b.drop 1).take 2)
def guessM (k : Int) (b : List UInt8) : Ms := onlyM (formI k) (preM k b)
def hitB (k : Int) (b : List UInt8) : Bool := canB (guessM k b) && decide (laidB (guessM k b) = b)
/-- the message of the first of some kinds whose bytes they are -/
def ofM : List Int → List UInt8 → Option Ms
  | [], _ => none
  | k :: ks, b => if hitB k b = true then some (guessM k b) else ofM ks b
def errI (ks : List Int) (b : List UInt8) : Int := if b.length < 8 then 2 else if 8 < b.length then 3 else if (ofM ks b).isSome = true then 0 else 4
def resM (ks : List Int) (b : List UInt8) : Ms := if b.length = 8 then (ofM ks b).getD msZ else msZ
def reqK : List Int := [1, 2, 3, 4, 5, 6, 7, 8, 9, 10, 11]
def ansK : List Int := [1, 12, 13, 14, 15, 16, 17, 18, 19, 20]
def segK : List Int := [21]
theorem resM_zero (ks : List Int) (b : List UInt8) (h : errI ks b ≠ 0) : resM ks b = msZ := by
  unfold errI at h
  unfold resM
  split
  · rename_i h8
    rw [if_neg (by omega), if_neg (by omega)] at h
    cases ho : ofM ks b with
    | none => rfl
    | some m => rw [ho] at h; simp at h
  · rfl
theorem ofM_hit (ks : List Int) (b : List UInt8) (m : Ms) (h : ofM ks b = some m) : canB m = true ∧ laidB m = b := by
  induction ks with
  | nil => cases h
  | cons k ks ih =>
    unfold ofM at h
    split at h
    · rename_i hh
      injection h with h
      subst h
      simp only [hitB, Bool.and_eq_true, decide_eq_true_iff] at hh
      exact hh
    · exact ih h
theorem resM_ok (ks : List Int) (b : List UInt8) (h : errI ks b = 0) : canB (resM ks b) = true ∧ laidB (resM ks b) = b := by
  unfold errI at h
  have h1 : ¬ b.length < 8 := by intro h1; rw [if_pos h1] at h; cases h
  rw [if_neg h1] at h
  have h2 : ¬ 8 < b.length := by intro h2; rw [if_pos h2] at h; cases h
  rw [if_neg h2] at h
  have h3 : (ofM ks b).isSome = true := by
    cases hc : (ofM ks b).isSome
    · rw [hc] at h; simp at h
    · rfl
  obtain ⟨m, hm⟩ := Option.isSome_iff_exists.1 h3
  have := ofM_hit ks b m hm
  unfold resM
  rw [if_pos (by omega), hm]
  exact this
theorem bit_w : ∀ n : Nat, n < 256 → (n &&& 16 != 0) = decide (n / 16 % 2 = 1) ∧ (n &&& 4 != 0) = decide (n / 4 % 2 = 1) ∧ (n &&& 1 != 0) = decide (n % 2 = 1) ∧ (n &&& 2 != 0) = decide (n / 2 % 2 = 1) ∧ (n &&& 128 != 0) = decide (128 ≤ n) ∧ n &&& 127 = n % 128 ∧ n / 4 &&& 3 = n / 4 % 4 ∧ n / 2 &&& 7 = n / 2 % 8 ∧ n / 4 &&& 7 = n / 4 % 8 := by decide +kernel
end Go.Proofs.Ythdbckbpldlkeaa

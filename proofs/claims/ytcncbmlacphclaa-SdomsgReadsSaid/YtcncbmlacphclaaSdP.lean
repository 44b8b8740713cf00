/- Messages of SDO transfers, plain: the reference lays down what the program lays down. No program in sight. -/
import Derived.Test.YtcncbmlacphclaaSdL
namespace Go.Proofs.Ytcncbmlacphclaa
set_option linter.unusedVariables false
set_option linter.unusedSimpArgs false
set_option linter.unnecessarySimpa false
open Go.RowKit
set_option maxRecDepth 20000

def plB (b : Bool) (x y : Nat) : Nat := if b = true then x + y else x
def rfirB (k : Int) (n : Nat) (tg la cr sz : Bool) (sq em : Nat) : Nat :=
  if k = 1 then 128 else if k = 2 then (if n = 0 then plB sz 32 1 else plB sz 32 1 + 2 + (4 - n) * 4) else if k = 14 then (if n = 0 then plB sz 64 1 else plB sz 64 1 + 2 + (4 - n) * 4)
  else if k = 3 ∨ k = 15 then plB la (plB tg 0 16 + (7 - n) * 2) 1 else if k = 4 then 64 else if k = 5 then plB tg 96 16 else if k = 6 ∨ k = 19 then plB sz (plB cr 192 4) 2
  else if k = 7 ∨ k = 20 then 193 + 4 * em else if k = 8 ∨ k = 16 then plB cr 160 4 else if k = 9 then 163 else if k = 10 ∨ k = 17 then 162 else if k = 11 ∨ k = 18 then 161 else if k = 12 then 96
  else if k = 13 then plB tg 32 16 else plB la sq 128
def rbodL (k : Int) (n : Nat) (size code sq bl sum : Nat) (data : List UInt8) : List UInt8 :=
  if k = 1 then putL z8 4 4 code else if k = 2 ∨ k = 14 then (if n = 0 then putL z8 4 4 size else cpL (putL z8 4 4 size) 4 data) else if k = 3 ∨ k = 15 then cpL z8 1 data
  else if k = 6 ∨ k = 19 then putL z8 4 4 size else if k = 7 ∨ k = 20 then putL z8 1 2 sum else if k = 8 ∨ k = 16 then z8.set 4 (UInt8.ofNat bl) else if k = 10 ∨ k = 17 then (z8.set 1 (UInt8.ofNat sq)).set 2 (UInt8.ofNat bl)
  else if k = 21 then cpL z8 1 data else z8
def rplcB (k : Int) : Bool := decide (k = 1) || decide (k = 2) || decide (k = 14) || decide (k = 4) || decide (k = 6) || decide (k = 19) || decide (k = 8) || decide (k = 16) || decide (k = 12)
def rlaidL (k : Int) (n ix sub size code sq bl em sum : Nat) (tg la cr sz : Bool) (data : List UInt8) : List UInt8 :=
  if rplcB k = true then (putL ((rbodL k n size code sq bl sum data).set 0 (UInt8.ofNat (rfirB k n tg la cr sz sq em))) 1 2 ix).set 3 (UInt8.ofNat sub)
  else (rbodL k n size code sq bl sum data).set 0 (UInt8.ofNat (rfirB k n tg la cr sz sq em))
theorem or_128 (x : Nat) (h : x ≤ 127) : x ||| 128 = x + 128 := by
  have h1 := Nat.two_pow_add_eq_or_of_lt (i := 7) (b := x) (by omega) 1
  have h2 : 2 ^ 7 * 1 = 128 := by decide
  rw [h2] at h1
  rw [Nat.or_comm, ← h1]
  omega
theorem em_or (em : Nat) (h : em ≤ 7) : 193 ||| (em * 4) = 193 + 4 * em := by
  rcases (show em = 0 ∨ em = 1 ∨ em = 2 ∨ em = 3 ∨ em = 4 ∨ em = 5 ∨ em = 6 ∨ em = 7 by omega) with rfl | rfl | rfl | rfl | rfl | rfl | rfl | rfl <;> rfl
theorem rlaid_eq (kind : Int) (ix sub sq bl em size code sum : Nat) (tg la cr sz : Bool) (data : List UInt8) (k1 : 1 ≤ kind) (k2 : kind ≤ 21) (C2 : sq ≤ 127) (E2 : em ≤ 7) (h7 : data.length ≤ 7) (h4 : kind = 2 ∨ kind = 14 → data.length ≤ 4) :
    rlaidL kind data.length ix sub size code sq bl em sum tg la cr sz data = laidB ⟨kind, ix, sub, tg, la, cr, sz, size, code, data, sq, bl, em, sum⟩ := by
  rcases (show kind = 1 ∨ kind = 2 ∨ kind = 3 ∨ kind = 4 ∨ kind = 5 ∨ kind = 6 ∨ kind = 7 ∨ kind = 8 ∨ kind = 9 ∨ kind = 10 ∨ kind = 11 ∨ kind = 12 ∨ kind = 13 ∨ kind = 14 ∨ kind = 15 ∨ kind = 16 ∨ kind = 17 ∨ kind = 18 ∨ kind = 19 ∨ kind = 20 ∨ kind = 21 by omega) with rfl | rfl | rfl | rfl | rfl | rfl | rfl | rfl | rfl | rfl | rfl | rfl | rfl | rfl | rfl | rfl | rfl | rfl | rfl | rfl | rfl
  · rfl
  · have := h4 (.inl rfl)
    rcases data with _ | ⟨a, _ | ⟨b, _ | ⟨c, _ | ⟨d, _ | ⟨e, r⟩⟩⟩⟩⟩
    · cases sz <;> (show _ = _; kernel_rfl)
    · cases sz <;> (show _ = _; kernel_rfl)
    · cases sz <;> (show _ = _; kernel_rfl)
    · cases sz <;> (show _ = _; kernel_rfl)
    · cases sz <;> (show _ = _; kernel_rfl)
    · simp at this
  · have hd : ∀ n, n ≤ 7 → ∀ tg la : Bool, plB la (plB tg 0 16 + (7 - n) * 2) 1 = (orB la (orB tg 0 16) 1) ||| ((7 - n) * 2) := by decide
    have := hd data.length h7 tg la
    show (cpL z8 1 data).set 0 (UInt8.ofNat (plB la (plB tg 0 16 + (7 - data.length) * 2) 1)) = (cpL z8 1 data).set 0 (UInt8.ofNat ((orB la (orB tg 0 16) 1) ||| ((7 - data.length) * 2)))
    rw [this]
  · rfl
  · cases tg <;> (show _ = _; kernel_rfl)
  · cases cr <;> cases sz <;> (show _ = _; kernel_rfl)
  · show (putL z8 1 2 sum).set 0 (UInt8.ofNat (193 + 4 * em)) = (putL z8 1 2 sum).set 0 (UInt8.ofNat (193 ||| (em * 4)))
    rw [em_or em E2]
  · cases cr <;> (show _ = _; kernel_rfl)
  · rfl
  · rfl
  · rfl
  · rfl
  · cases tg <;> (show _ = _; kernel_rfl)
  · have := h4 (.inr rfl)
    rcases data with _ | ⟨a, _ | ⟨b, _ | ⟨c, _ | ⟨d, _ | ⟨e, r⟩⟩⟩⟩⟩
    · cases sz <;> (show _ = _; kernel_rfl)
    · cases sz <;> (show _ = _; kernel_rfl)
    · cases sz <;> (show _ = _; kernel_rfl)
    · cases sz <;> (show _ = _; kernel_rfl)
    · cases sz <;> (show _ = _; kernel_rfl)
    · simp at this
  · have hd : ∀ n, n ≤ 7 → ∀ tg la : Bool, plB la (plB tg 0 16 + (7 - n) * 2) 1 = (orB la (orB tg 0 16) 1) ||| ((7 - n) * 2) := by decide
    have := hd data.length h7 tg la
    show (cpL z8 1 data).set 0 (UInt8.ofNat (plB la (plB tg 0 16 + (7 - data.length) * 2) 1)) = (cpL z8 1 data).set 0 (UInt8.ofNat ((orB la (orB tg 0 16) 1) ||| ((7 - data.length) * 2)))
    rw [this]
  · cases cr <;> (show _ = _; kernel_rfl)
  · rfl
  · rfl
  · cases cr <;> cases sz <;> (show _ = _; kernel_rfl)
  · show (putL z8 1 2 sum).set 0 (UInt8.ofNat (193 + 4 * em)) = (putL z8 1 2 sum).set 0 (UInt8.ofNat (193 ||| (em * 4)))
    rw [em_or em E2]
  · show (cpL z8 1 data).set 0 (UInt8.ofNat (plB la sq 128)) = (cpL z8 1 data).set 0 (UInt8.ofNat (orB la sq 128))
    cases la
    · rfl
    · show _ = (cpL z8 1 data).set 0 (UInt8.ofNat (sq ||| 128))
      rw [or_128 sq C2]
      rfl
end Go.Proofs.Ytcncbmlacphclaa

/- Package octet and its reference: numbers with a sign, as the types want them. -/
import Derived.Test.YtehabbnohoomjaaGreatDoorNv09
import Derived.Test.YtehabbnohoomjaaGreatDoorNv32
import Derived.Laws.Closers25b
namespace Go.Proofs.YtehabbnohoomjaaGreatDoor
section
set_option linter.unusedVariables false
set_option linter.unusedSimpArgs false
set_option linter.unnecessarySimpa false
section
open Go.RowKit
set_option maxRecDepth 100000
set_option maxHeartbeats 1000000

theorem extend_8' (n : Nat) (h : n < 18446744073709551616) : wrap64 (n : Int) = sgnN 8 n := by
  unfold wrap64; simp [sgnN]; split <;> omega
theorem extend_8 (n : Nat) (h : n < 18446744073709551616) : wrap64 (IntKind.u64.wrap (n : Int)) = sgnN 8 n := by
  unfold wrap64; rw [IntKind.wrap_u64]; simp [sgnN]; split <;> omega
theorem oct_ext1 (n : Nat) (w : World) (h : n < 256) : Calls Tryz.prog 209 #[.int .u64 n, .int .i64 8] w fun e w' => e = .returned (.int .i64 (sgnN 1 n)) ∧ w = w' := by
  have H := hide h
  clear h
  go_enter Tryz.func209, Tryz.ntmps209
  go_wp2_with fail
  go_ret
  exact ⟨ret_int (by exact extend_1 n H.out), rfl⟩
theorem oct_ext2 (n : Nat) (w : World) (h : n < 65536) : Calls Tryz.prog 209 #[.int .u64 n, .int .i64 16] w fun e w' => e = .returned (.int .i64 (sgnN 2 n)) ∧ w = w' := by
  have H := hide h
  clear h
  go_enter Tryz.func209, Tryz.ntmps209
  go_wp2_with fail
  go_ret
  exact ⟨ret_int (by exact extend_2 n H.out), rfl⟩
theorem oct_ext4 (n : Nat) (w : World) (h : n < 4294967296) : Calls Tryz.prog 209 #[.int .u64 n, .int .i64 32] w fun e w' => e = .returned (.int .i64 (sgnN 4 n)) ∧ w = w' := by
  have H := hide h
  clear h
  go_enter Tryz.func209, Tryz.ntmps209
  go_wp2_with fail
  go_ret
  exact ⟨ret_int (by exact extend_4 n H.out), rfl⟩
theorem oct_ext8 (n : Nat) (w : World) (h : U64 n) : Calls Tryz.prog 209 #[.int .u64 n, .int .i64 64] w fun e w' => e = .returned (.int .i64 (sgnN 8 n)) ∧ w = w' := by
  have H := hide h
  clear h
  go_enter Tryz.func209, Tryz.ntmps209
  go_wp2_with fail
  go_ret
  refine ⟨ret_int (extend_8 n H.out), rfl⟩
theorem oct_ext (wd : Int) (n : Nat) (w : World) (hw : Wd wd) (h : n < 256 ^ wd.toNat) : Calls Tryz.prog 209 #[.int .u64 n, .int .i64 (8 * wd)] w fun e w' => e = .returned (.int .i64 (sgnN wd n)) ∧ w = w' := by
  rcases hw with rfl | rfl | rfl | rfl
  · exact oct_ext1 n w (by simpa using h)
  · exact oct_ext2 n w (by simpa using h)
  · exact oct_ext4 n w (by simpa using h)
  · exact oct_ext8 n w (by simpa [U64] using h)
/-- the number with a sign that just these bytes say -/
theorem oct_getint (A : Option Addr) (n c : Nat) (l : List UInt8) (wd : Int) (w : World) (hw : Wd wd) (hn : n = l.length) (hwn : wd = (n : Int)) (hc : n ≤ c) (hs : Sl w A (l.map bv)) :
    Calls Tryz.prog 180 #[.slice A n c, .int .i64 0, .int .i64 wd] w fun e w' => e = .returned (.tuple #[.int .i64 (sgnN wd (leN l)), .int .i64 0]) ∧ w = w' := by
  have h8 : 1 ≤ wd ∧ wd ≤ 8 := by rcases hw with rfl | rfl | rfl | rfl <;> omega
  obtain ⟨h1, h8⟩ := h8
  have HW := hide hw
  have hlt := leN_lt l
  rw [← hn, show n = wd.toNat by omega] at hlt
  have HG := hide (get_ok' A n c l 0 wd w hn hc (by omega) (by omega) (by omega) h1 h8 hs)
  have HE := hide (show (l.drop (Int.toNat 0)).take wd.toNat = l by rw [List.take_of_length_le (by simp; omega)]; rfl)
  have HL := hide hlt
  clear hw hlt hn hwn hs
  go_enter Tryz.func180, Tryz.ntmps180
  go_wp2_with fail
  refine HG.out.mono ?_
  rintro e w1 ⟨rfl, rfl⟩
  rw [HE.out]
  go_wp2_with fail
  refine (oct_ext wd (leN l) _ HW.out HL.out).mono ?_
  rintro e w1 ⟨rfl, rfl⟩
  go_wp2_with fail
  go_ret2
  exact ⟨rfl, rfl⟩
/-! the reference -/
def hfN (wd : Int) : Int := if wd = 1 then 128 else if wd = 2 then 32768 else 2147483648
end
section
open Go.RowKit
set_option maxRecDepth 100000
set_option maxHeartbeats 2000000

def SameV (v : Value) (w : World) (e : Ending) (w' : World) : Prop := e = .returned v ∧ w = w'
/-- what the loop lays up, as it is known to the walk -/
def hiN (k : Nat) : Int := 2 ^ k - 1
def RLimR (t : Int) (w : World) (e : Ending) (w' : World) : Prop := e = .returned (.tuple #[.int .i64 (tyLow t), .int .i64 (tyHigh t), .bool (tyNum t)]) ∧ w = w'
def RDecR (t : Int) (l : List UInt8) (w : World) (e : Ending) (w' : World) : Prop := e = .returned (.tuple #[.int .i64 (decV t l), .int .i64 (decE t l)]) ∧ w = w'
end
section
open Go.RowKit
set_option maxRecDepth 100000
set_option maxHeartbeats 2000000

def RValR (E : Ent) (l : List UInt8) (w : World) (e : Ending) (w' : World) : Prop := e = .returned (.int .u32 (valueE E.ty E.mx E.lo E.hi l)) ∧ Below w.heap.size w w'
end
end
end Go.Proofs.YtehabbnohoomjaaGreatDoor

/- The reference's octet: digits, Join, Put, Get, Lent, Kept, Spoil. -/
import Derived.Test.YtimdmhhgomfijaaOct
namespace Go.Proofs.Ytimdmhhgomfijaa
set_option linter.unusedVariables false
set_option linter.unusedSimpArgs false
set_option linter.unnecessarySimpa false
open Go.RowKit

theorem get_step (d : List UInt8) (k b : Nat) (h1 : 1 ≤ k) (hk : k ≤ d.length) (h8 : d.length ≤ 8) (hb : b = (d[k - 1]'(by omega)).toNat) :
    IntKind.u64.wrap (IntKind.u64.wrap (256 * ↑(leN (List.drop k d))) + IntKind.u64.wrap (b : Int)) = (leN (d.drop (k - 1)) : Int) := by
  have e : d.drop (k - 1) = d[k - 1]'(by omega) :: d.drop k := by
    rw [List.drop_eq_getElem_cons (by omega)]
    congr 2
    omega
  have hu : U64 (leN (d.drop (k - 1))) := leN_U64 (by simp; omega)
  rw [e] at hu ⊢
  simp only [leN] at hu ⊢
  rw [← hb] at hu ⊢
  unfold U64 at hu
  have e1 : IntKind.u64.wrap (256 * ↑(leN (List.drop k d))) = 256 * ↑(leN (List.drop k d)) := by rw [IntKind.wrap_u64]; omega
  have e2 : IntKind.u64.wrap (b : Int) = b := by rw [IntKind.wrap_u64]; omega
  rw [e1, e2, IntKind.wrap_u64]
  omega
end Go.Proofs.Ytimdmhhgomfijaa

/- A block upload over a dictionary of one entry: plain, and its rows in memory. -/
import Derived.Test.YtimdmhhgomfijaaBlkX
import Derived.Test.YtimdmhhgomfijaaSegU
namespace Go.Proofs.Ytimdmhhgomfijaa
set_option linter.unusedVariables false
set_option linter.unusedSimpArgs false
set_option linter.unnecessarySimpa false
open Go.RowKit
theorem bu_first (E : Ent) (cr : Bool) (t : Nat) (h : E.acc ≠ 3) (ht : t ≠ 0) :
    bupS [E] [E.df] (blkIdle blkZ) (⟨8, E.ix, E.sub, false, false, cr, false, 0, 0, [], 0, ((t : Nat) : Int), 0, 0⟩ : Ms) = ⟨0, 0, 0, ((0 : Nat) : Int), ((t : Nat) : Int), 0, 4, E.ix, E.sub, E.df, cr⟩ ∧
      bupO [E] [E.df] (⟨8, E.ix, E.sub, false, false, cr, false, 0, 0, [], 0, ((t : Nat) : Int), 0, 0⟩ : Ms) = outM (bupM E.ix E.sub E.df.length) := by
  obtain ⟨h1, h2⟩ := one_get E h
  have hd : bucode [E] (⟨8, E.ix, E.sub, false, false, cr, false, 0, 0, [], 0, ((t : Nat) : Int), 0, 0⟩ : Ms) = 0 := by
    unfold bucode
    rw [if_neg (show ¬ ((t : Nat) : Int) = 0 by omega)]
    exact h1
  constructor
  · unfold bupS
    rw [if_neg (by rw [hd]; simp)]
    simp only
    rw [h2]
    rfl
  · unfold bupO
    rw [if_neg (by rw [hd]; simp)]
    simp only
    rw [h2]
theorem give_row (t h : Nat) (ro st ix sub : Int) (b : List UInt8) (sm : Bool) (hh : h < btotal b) (ht : 1 ≤ t) : ∃ r : Nat, r = min t (btotal b - h) ∧ 1 ≤ r ∧ h + r ≤ btotal b ∧ r ≤ t ∧
    bgiveS (⟨0, 0, 0, ((h : Nat) : Int), ((t : Nat) : Int), ro, st, ix, sub, b, sm⟩ : BlkS) = ⟨0, 0, 0, ((h : Nat) : Int), ((t : Nat) : Int), ((r : Nat) : Int), 5, ix, sub, b, sm⟩ ∧
    bgiveL (⟨0, 0, 0, ((h : Nat) : Int), ((t : Nat) : Int), ro, st, ix, sub, b, sm⟩ : BlkS) = bgiveT (btotal b) h b r := by
  obtain ⟨r, hr⟩ : ∃ r, r = min t (btotal b - h) := ⟨_, rfl⟩
  have hrow : browN (⟨0, 0, 0, ((h : Nat) : Int), ((t : Nat) : Int), ro, st, ix, sub, b, sm⟩ : BlkS) = ((r : Nat) : Int) := by
    unfold browN
    simp only
    omega
  refine ⟨r, hr, by omega, by omega, by omega, ?_, ?_⟩
  · unfold bgiveS
    rw [hrow]
  · unfold bgiveL bgiveT
    rw [hrow]
    rfl
/-- the first c segments' bytes -/
def padU (B : List UInt8) : Nat → List UInt8
  | 0 => []
  | c + 1 => padU B c ++ bpiece B c
theorem padU_len (B : List UInt8) (c : Nat) : (padU B c).length = 7 * c := by
  induction c with
  | zero => rfl
  | succ c ih => rw [padU, List.length_append, ih, piece_len22]; omega
theorem pieceU_ext (B : List UInt8) (k N : Nat) (h : 7 * (k + 1) ≤ B.length + N) : bpiece B k = ((B ++ List.replicate N 0).drop (7 * k)).take 7 := by
  unfold bpiece
  rw [List.drop_append, List.take_append, List.drop_replicate, List.take_replicate, List.length_drop]
  congr 2
  omega
theorem padU_ext (B : List UInt8) (N : Nat) (c : Nat) (h : 7 * c ≤ B.length + N) : padU B c = (B ++ List.replicate N 0).take (7 * c) := by
  induction c with
  | zero => rfl
  | succ c ih => rw [padU, ih (by omega), pieceU_ext B c N (by omega), show 7 * (c + 1) = 7 * c + 7 by omega, List.take_add]
theorem padU_take (B : List UInt8) (c : Nat) (h : B.length ≤ 7 * c) : (padU B c).take B.length = B := by
  rw [padU_ext B (7 * c) c (by omega), List.take_take, Nat.min_eq_left h, List.take_append_of_le_length (Nat.le_refl _), List.take_length]
theorem bgiveT_at (tot h : Nat) (b : List UInt8) (r k : Nat) (hk : k < r) : (bgiveT tot h b r)[k]? = some (bsegM ((k : Int) + 1) (decide ((h : Int) + (k : Int) + 1 = (tot : Int))) (bpiece b (h + k))) := by
  unfold bgiveT
  rw [List.getElem?_map, List.getElem?_range hk]
  rfl
theorem bgiveT_len (tot h : Nat) (b : List UInt8) (r : Nat) : (bgiveT tot h b r).length = r := by
  unfold bgiveT
  simp
end Go.Proofs.Ytimdmhhgomfijaa

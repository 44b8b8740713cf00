/- A block download over a dictionary of one entry, plain. No program in sight. -/
import Derived.Test.YtimdmhhgomfijaaBlkL
import Derived.Test.YtimdmhhgomfijaaSegV
namespace Go.Proofs.Ytimdmhhgomfijaa
set_option linter.unusedVariables false
set_option linter.unusedSimpArgs false
set_option linter.unnecessarySimpa false
theorem piece_len (B : List UInt8) (k : Nat) : (bpiece B k).length = 7 := by
  unfold bpiece
  simp only [List.length_append, List.length_take, List.length_drop, List.length_replicate]
  omega
/-- the first c segments' bytes -/
def padB (B : List UInt8) : Nat → List UInt8
  | 0 => []
  | c + 1 => padB B c ++ bpiece B c
theorem padB_len (B : List UInt8) (c : Nat) : (padB B c).length = 7 * c := by
  induction c with
  | zero => rfl
  | succ c ih => rw [padB, List.length_append, ih, piece_len]; omega
theorem piece_ext (B : List UInt8) (k N : Nat) (h : 7 * (k + 1) ≤ B.length + N) : bpiece B k = ((B ++ List.replicate N 0).drop (7 * k)).take 7 := by
  unfold bpiece
  rw [List.drop_append, List.take_append, List.drop_replicate, List.take_replicate, List.length_drop]
  congr 2
  omega
theorem padB_ext (B : List UInt8) (N : Nat) (c : Nat) (h : 7 * c ≤ B.length + N) : padB B c = (B ++ List.replicate N 0).take (7 * c) := by
  induction c with
  | zero => rfl
  | succ c ih => rw [padB, ih (by omega), piece_ext B c N (by omega), show 7 * (c + 1) = 7 * c + 7 by omega, List.take_add]
theorem padB_take (B : List UInt8) (c : Nat) (h : B.length ≤ 7 * c) : (padB B c).take B.length = B := by
  rw [padB_ext B (7 * c) c (by omega), List.take_take, Nat.min_eq_left h, List.take_append_of_le_length (Nat.le_refl _), List.take_length]
theorem btotal_le (B : List UInt8) : B.length ≤ 7 * btotal B ∧ 7 * btotal B ≤ B.length + 7 ∧ 1 ≤ btotal B := by
  unfold btotal
  omega
theorem btotal_lt (B : List UInt8) (h : 0 < B.length) : 7 * btotal B ≤ B.length + 6 := by
  unfold btotal
  omega
/-- a segment that comes, and is not the last of a row -/
theorem bp_mid (mo sz ix sub : Int) (B : List UInt8) (sm : Bool) (has i j : Nat) (h1 : 1 ≤ j) (hji : j ≤ i) (hi : i < 16) (hmo : (7 * (has + i) : Nat) ≤ mo + 7) :
    ∃ j' : Nat, bpartS (⟨mo, sz, (j : Nat), 0, 0, 0, 1, ix, sub, padB B (has + j - 1), sm⟩ : BlkS) (⟨21, 0, 0, false, false, false, false, 0, 0, bpiece B (has + i - 1), (i : Nat), 0, 0, 0⟩ : Ms) = ⟨mo, sz, (j' : Nat), 0, 0, 0, 1, ix, sub, padB B (has + j' - 1), sm⟩ ∧
      bpartO (⟨mo, sz, (j : Nat), 0, 0, 0, 1, ix, sub, padB B (has + j - 1), sm⟩ : BlkS) (⟨21, 0, 0, false, false, false, false, 0, 0, bpiece B (has + i - 1), (i : Nat), 0, 0, 0⟩ : Ms) = outZ ∧ 1 ≤ j' ∧ j' ≤ i + 1 ∧ (j = i → j' = i + 1) := by
  have hpc : bpcode (⟨mo, sz, (j : Nat), 0, 0, 0, 1, ix, sub, padB B (has + j - 1), sm⟩ : BlkS) (⟨21, 0, 0, false, false, false, false, 0, 0, bpiece B (has + i - 1), (i : Nat), 0, 0, 0⟩ : Ms) = 0 := by
    unfold bpcode
    rw [if_neg (show ¬ (16 : Int) < ((i : Nat) : Int) by omega), if_neg]
    rintro ⟨a, b⟩
    have a : ((i : Nat) : Int) = ((j : Nat) : Int) := a
    have b : mo + 7 < (((padB B (has + j - 1)) ++ (bpiece B (has + i - 1))).length : Int) := b
    rw [List.length_append, padB_len, piece_len] at b
    omega
  by_cases hij : i = j
  · subst hij
    refine ⟨i + 1, ?_, ?_, by omega, by omega, fun _ => rfl⟩
    · unfold bpartS
      rw [if_neg (show ¬ (16 : Int) < ((i : Nat) : Int) by omega), if_neg (by rw [hpc]; simp), if_pos (show ((i : Nat) : Int) < 16 ∧ false = false from ⟨by omega, rfl⟩)]
      unfold btake
      rw [if_pos (show ((i : Nat) : Int) = ((i : Nat) : Int) from rfl)]
      simp only [show (false = true) = False by simp, if_false]
      congr 1
      rw [show has + (i + 1) - 1 = (has + i - 1) + 1 by omega]
      rfl
    · unfold bpartO
      rw [if_neg (by rw [hpc]; simp), if_pos (show ((i : Nat) : Int) < 16 ∧ false = false from ⟨by omega, rfl⟩)]
  · refine ⟨j, ?_, ?_, by omega, by omega, fun h => absurd h.symm hij⟩
    · unfold bpartS
      rw [if_neg (show ¬ (16 : Int) < ((i : Nat) : Int) by omega), if_neg (by rw [hpc]; simp), if_pos (show ((i : Nat) : Int) < 16 ∧ false = false from ⟨by omega, rfl⟩)]
      unfold btake
      rw [if_neg (show ¬ ((i : Nat) : Int) = ((j : Nat) : Int) by omega)]
    · unfold bpartO
      rw [if_neg (by rw [hpc]; simp), if_pos (show ((i : Nat) : Int) < 16 ∧ false = false from ⟨by omega, rfl⟩)]
/-- the last one of a row -/
theorem bp_end (mo sz ix sub : Int) (B : List UInt8) (sm : Bool) (has i j tot : Nat) (la : Bool) (h1 : 1 ≤ j) (hji : j ≤ i) (hi : i ≤ 16) (hit : has + i ≤ tot) (hla : la = true ↔ has + i = tot) (hend : la = true ∨ i = 16) (hmo : (7 * (has + i) : Nat) ≤ mo + 7) :
    ∃ j' st' : Nat, bpartS (⟨mo, sz, (j : Nat), 0, 0, 0, 1, ix, sub, padB B (has + j - 1), sm⟩ : BlkS) (⟨21, 0, 0, false, la, false, false, 0, 0, bpiece B (has + i - 1), (i : Nat), 0, 0, 0⟩ : Ms) = ⟨mo, sz, 1, 0, 0, 0, (st' : Nat), ix, sub, padB B (has + j' - 1), sm⟩ ∧
      bpartO (⟨mo, sz, (j : Nat), 0, 0, 0, 1, ix, sub, padB B (has + j - 1), sm⟩ : BlkS) (⟨21, 0, 0, false, la, false, false, 0, 0, bpiece B (has + i - 1), (i : Nat), 0, 0, 0⟩ : Ms) = outM (ackM ((j' : Nat) - 1)) ∧ 1 ≤ j' ∧ j' ≤ i + 1 ∧ (j = i → j' = i + 1) ∧ ((st' = 1 ∧ has + j' - 1 < tot) ∨ (st' = 2 ∧ has + j' - 1 = tot)) := by
  have hpc : bpcode (⟨mo, sz, (j : Nat), 0, 0, 0, 1, ix, sub, padB B (has + j - 1), sm⟩ : BlkS) (⟨21, 0, 0, false, la, false, false, 0, 0, bpiece B (has + i - 1), (i : Nat), 0, 0, 0⟩ : Ms) = 0 := by
    unfold bpcode
    rw [if_neg (show ¬ (16 : Int) < ((i : Nat) : Int) by omega), if_neg]
    rintro ⟨a, b⟩
    have a : ((i : Nat) : Int) = ((j : Nat) : Int) := a
    have b : mo + 7 < (((padB B (has + j - 1)) ++ (bpiece B (has + i - 1))).length : Int) := b
    rw [List.length_append, padB_len, piece_len] at b
    omega
  have hne : ¬ (((i : Nat) : Int) < 16 ∧ la = false) := by
    rintro ⟨a, b⟩
    rcases hend with h | h
    · rw [b] at h; cases h
    · omega
  by_cases hij : i = j
  · subst hij
    refine ⟨i + 1, (if la = true then 2 else 1), ?_, ?_, by omega, by omega, fun _ => rfl, ?_⟩
    · unfold bpartS
      rw [if_neg (show ¬ (16 : Int) < ((i : Nat) : Int) by omega), if_neg (by rw [hpc]; simp), if_neg hne]
      unfold btake
      rw [if_pos (show ((i : Nat) : Int) = ((i : Nat) : Int) from rfl)]
      rw [show padB B (has + (i + 1) - 1) = padB B (has + i - 1) ++ bpiece B (has + i - 1) by rw [show has + (i + 1) - 1 = (has + i - 1) + 1 by omega]; rfl]
      cases la <;> rfl
    · unfold bpartO
      rw [if_neg (by rw [hpc]; simp), if_neg hne]
      unfold btake
      rw [if_pos (show ((i : Nat) : Int) = ((i : Nat) : Int) from rfl)]
      congr 2
    · cases la
      · left
        have : ¬ has + i = tot := fun h => by have := hla.2 h; cases this
        exact ⟨rfl, by omega⟩
      · right
        have := hla.1 rfl
        exact ⟨rfl, by omega⟩
  · refine ⟨j, 1, ?_, ?_, by omega, by omega, fun h => absurd h.symm hij, .inl ⟨rfl, by omega⟩⟩
    · unfold bpartS
      rw [if_neg (show ¬ (16 : Int) < ((i : Nat) : Int) by omega), if_neg (by rw [hpc]; simp), if_neg hne]
      unfold btake
      rw [if_neg (show ¬ ((i : Nat) : Int) = ((j : Nat) : Int) by omega)]
      rfl
    · unfold bpartO
      rw [if_neg (by rw [hpc]; simp), if_neg hne]
      unfold btake
      rw [if_neg (show ¬ ((i : Nat) : Int) = ((j : Nat) : Int) by omega)]
theorem bd_first (E : Ent) (k : Nat) (cr s : Bool) (z : Nat) (hz : z = if s = true then k else 0) (h : writeE E.acc = 0) (hf : fitsC E k = 0) :
    bdownS [E] (blkIdle blkZ) (⟨6, E.ix, E.sub, false, false, cr, s, z, 0, [], 0, 0, 0, 0⟩ : Ms) = ⟨mostE E, szD s k, (1 : Nat), 0, 0, 0, 1, E.ix, E.sub, [], cr⟩ ∧ bdownO [E] (⟨6, E.ix, E.sub, false, false, cr, s, z, 0, [], 0, 0, 0, 0⟩ : Ms) = outM (bokM E.ix E.sub) := by
  have h1 := one_may E h
  obtain ⟨h2, _, h3⟩ := one_loc E
  have hd : bdcode [E] (⟨6, E.ix, E.sub, false, false, cr, s, z, 0, [], 0, 0, 0, 0⟩ : Ms) = 0 := by
    unfold bdcode
    simp only
    split
    · rename_i hh
      rw [h2, h3, hz, if_pos hh.2]
      exact hf
    · exact h1
  constructor
  · unfold bdownS
    rw [if_neg (by rw [hd]; simp)]
    simp only
    rw [h2, h3]
    subst hz
    cases s <;> rfl
  · unfold bdownO
    rw [if_neg (by rw [hd]; simp)]
theorem bd_last (E : Ent) (B : List UInt8) (cr s : Bool) (sum : Nat) (hs : sum = if cr = true then sum16L B else 0) (hf : fitsC E B.length = 0) :
    bendS (⟨mostE E, szD s B.length, 1, 0, 0, 0, 2, E.ix, E.sub, padB B (btotal B), cr⟩ : BlkS) (⟨7, 0, 0, false, false, false, false, 0, 0, [], 0, 0, (7 * btotal B - B.length : Nat), sum⟩ : Ms) = ⟨mostE E, szD s B.length, 1, 0, 0, 0, 3, E.ix, E.sub, padB B (btotal B), cr⟩ ∧
      bendO (⟨mostE E, szD s B.length, 1, 0, 0, 0, 2, E.ix, E.sub, padB B (btotal B), cr⟩ : BlkS) (⟨7, 0, 0, false, false, false, false, 0, 0, [], 0, 0, (7 * btotal B - B.length : Nat), sum⟩ : Ms) = ⟨[], true, E.ix, E.sub, B⟩ := by
  obtain ⟨ht, _, _⟩ := btotal_le B
  have hb : bendB (⟨mostE E, szD s B.length, 1, 0, 0, 0, 2, E.ix, E.sub, padB B (btotal B), cr⟩ : BlkS) (⟨7, 0, 0, false, false, false, false, 0, 0, [], 0, 0, (7 * btotal B - B.length : Nat), sum⟩ : Ms) = B := by
    unfold bendB
    simp only [Int.toNat_natCast]
    rw [padB_len, show 7 * btotal B - (7 * btotal B - B.length) = B.length by omega]
    exact padB_take B _ ht
  have hmo : (B.length : Int) ≤ mostE E := by
    unfold fitsC at hf
    split at hf
    · omega
    · omega
  have he : becode (⟨mostE E, szD s B.length, 1, 0, 0, 0, 2, E.ix, E.sub, padB B (btotal B), cr⟩ : BlkS) (⟨7, 0, 0, false, false, false, false, 0, 0, [], 0, 0, (7 * btotal B - B.length : Nat), sum⟩ : Ms) = 0 := by
    unfold becode
    rw [hb, if_neg, if_neg, if_neg]
    · simp only
      omega
    · rintro ⟨a, b⟩
      simp only at a b
      unfold szD at a b
      split at a
      · rename_i h; rw [if_pos h] at b; exact b rfl
      · exact a rfl
    · rintro ⟨a, b⟩
      simp only at a b
      rw [hs, if_pos a] at b
      exact b rfl
  constructor
  · unfold bendS
    rw [if_neg (by rw [he]; simp)]
  · unfold bendO
    rw [if_neg (by rw [he]; simp), hb]
end Go.Proofs.Ytimdmhhgomfijaa

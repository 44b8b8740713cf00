/- Records: what was laid down is read as it was, and what is read is laid down as it was. No walk. -/
import Derived.Test.YtehabbnohoomjaaGreatDoorC06
namespace Go.Proofs.YtehabbnohoomjaaGreatDoor
section
set_option linter.unusedVariables false
set_option linter.unusedSimpArgs false
set_option linter.unnecessarySimpa false
set_option maxHeartbeats 400000

theorem openE_seal (y : List UInt8) : openE (sealL y) = 0 := by
  have hl : (sealL y).length = y.length + 4 := sealL_length y
  refine openE_yes _ _ rfl (by omega) ?_
  have e : (sealL y).length - 4 = y.length := by omega
  rw [e]
  have h1 : (sealL y).drop y.length = leB 4 (crcOn 0 y) := by rw [sealL, List.drop_left]
  have h2 : (sealL y).take y.length = y := by rw [sealL, List.take_left]
  rw [h1, h2, List.take_of_length_le (by rw [leB_length]; omega), leN_leB]
  exact Nat.mod_eq_of_lt (crcOn_lt _ _)

theorem recX_of (k num n : Nat) (r : List UInt8) (hk : k ≤ 255) (hnum : U32 num) (hn : n ≤ 65535) :
    recX1 (recH k num n ++ r) = k ∧ recX2 (recH k num n ++ r) = num ∧ recX3 (recH k num n ++ r) = n ∧ ((recH k num n ++ r).getD 0 0).toNat = 87 := by
  unfold U32 at hnum
  refine ⟨?_, ?_, ?_, ?_⟩
  · have : ((recH k num n ++ r).drop 1).take 1 = leB 1 k := rfl
    rw [recX1, this, leN_leB]; omega
  · have : ((recH k num n ++ r).drop 2).take 4 = leB 4 num := rfl
    rw [recX2, this, leN_leB]; omega
  · have : ((recH k num n ++ r).drop 6).take 2 = leB 2 n := rfl
    rw [recX3, this, leN_leB]; omega
  · rfl

theorem fits_of (k num n : Nat) (h : rightR k num n = 0) : fitsR k num n = true := by
  unfold rightR at h
  simp only [fitsR, decide_eq_true_eq]
  repeat' split at h
  all_goals omega
theorem right_of (k num : Nat) (n : Nat) (h : fitsR k num n = true) : rightR k num n = 0 := by
  simp only [fitsR, decide_eq_true_eq] at h
  unfold rightR
  repeat' split
  all_goals omega

/-- the record that stands at the beginning of x, but for its last byte -/
theorem recAt_built (k num : Nat) (l c : List UInt8) (z : UInt8) (at_ : Int) (h : rightR k num l.length = 0) (hu : U32 num) :
    recAt (sealL (recH k num l.length ++ l) ++ z :: c) at_ = if z.toNat = 0 then ⟨k, num, l, at_ + l.length + 13, 0⟩ else ⟨0, 0, [], 0, 8⟩ := by
  obtain ⟨k1, k2, k3, k4, k5⟩ := right_ok k num l.length h
  have hS : sealL (recH k num l.length ++ l) ++ z :: c = recH k num l.length ++ (l ++ (leB 4 (crcOn 0 (recH k num l.length ++ l)) ++ z :: c)) := by
    simp [sealL]
  obtain ⟨e1, e2, e3, e4⟩ := recX_of k num l.length (l ++ (leB 4 (crcOn 0 (recH k num l.length ++ l)) ++ z :: c)) (by omega) hu (by omega)
  rw [← hS] at e1 e2 e3 e4
  have hH := recH_length k num l.length
  have hsl := sealL_length (recH k num l.length ++ l)
  have hlen : (sealL (recH k num l.length ++ l)).length = l.length + 12 := by rw [hsl, List.length_append, hH]; omega
  have hxl : (sealL (recH k num l.length ++ l) ++ z :: c).length = l.length + 13 + c.length := by rw [List.length_append, hlen, List.length_cons]; omega
  have ht : (sealL (recH k num l.length ++ l) ++ z :: c).take (l.length + 12) = sealL (recH k num l.length ++ l) := by rw [← hlen, List.take_left]
  have hz : ((sealL (recH k num l.length ++ l) ++ z :: c).getD (l.length + 12) 0) = z := by
    rw [List.getD_eq_getElem?_getD, List.getElem?_append_right (by omega), hlen]
    simp
  have hd : ((sealL (recH k num l.length ++ l) ++ z :: c).drop 8).take l.length = l := by
    rw [hS, ← hH, List.drop_left, List.take_left]
  have hf := fits_of k num l.length h
  by_cases hz0 : z.toNat = 0
  · rw [if_pos hz0, recAt_ok (by omega) e4 (by rw [e1, e2, e3]; exact hf) (by omega) (by rw [e3, ht]; exact openE_seal _) (by rw [e3, hz]; exact hz0), e1, e2, e3, hd]
  · rw [if_neg hz0, recAt_none (by omega) e4 (by rw [e1, e2, e3]; exact hf) (by omega) (by rw [e3, ht]; exact openE_seal _) (by rw [e3, hz]; exact hz0)]
theorem build_parse_rec (a c l : List UInt8) (k : Int) (num : Nat) (h : rightR k num l.length = 0) (hu : U32 num) :
    recParse (a ++ (recB k num l ++ c)) a.length = ⟨k, num, l, (a.length : Int) + l.length + 13, 0⟩ ∧ (recB k num l).length = l.length + 13 := by
  obtain ⟨k1, k2, k3, k4, k5⟩ := right_ok k num l.length h
  obtain ⟨k, rfl⟩ := Int.eq_ofNat_of_zero_le (show 0 ≤ k by omega)
  have hB := recB_yes k num l.length l rfl h
  have hlen : (recB k num l).length = l.length + 13 := by rw [hB, List.length_append, sealL_length, List.length_append, recH_length]; simp; omega
  refine ⟨?_, hlen⟩
  rw [recParse_at _ _ (by rw [List.length_append]; omega), List.drop_left, hB, List.append_assoc]
  rw [List.singleton_append, recAt_built k num l c 0 _ h hu, if_pos (show UInt8.toNat 0 = 0 from rfl)]
theorem take_split (x : List UInt8) (a b : Nat) : x.take (a + b) = x.take a ++ (x.drop a).take b := by
  rw [List.take_add]
theorem leB_of (x : List UInt8) (k : Nat) (h : k ≤ x.length) : leB k (leN (x.take k)) = x.take k := by
  have h2 : (x.take k).length = k := by simp; omega
  have := leB_leN (x.take k)
  rw [h2] at this
  exact this
theorem head_of (x : List UInt8) (h : 8 ≤ x.length) (h0 : (x.getD 0 0).toNat = 87) : x.take 8 = recH (recX1 x) (recX2 x) (recX3 x) := by
  have e : x.take 8 = x.take 1 ++ ((x.drop 1).take 1 ++ ((x.drop 2).take 4 ++ (x.drop 6).take 2)) := by
    rw [show 8 = 1 + (1 + (4 + 2)) from rfl, take_split, take_split, take_split, List.drop_drop, List.drop_drop]
  have e0 : x.take 1 = [87] := by
    cases x with
    | nil => simp at h
    | cons c x =>
      simp at h0
      have : c = 87 := UInt8.toNat.inj h0
      rw [this]
      simp
  rw [e, e0, recH, recX1, recX2, recX3, leB_of (x.drop 1) 1 (by simp; omega), leB_of (x.drop 2) 4 (by simp; omega), leB_of (x.drop 6) 2 (by simp; omega)]
  simp

theorem recAt_cases (x : List UInt8) (at_ : Int) : (∃ er, er ≠ 0 ∧ recAt x at_ = ⟨0, 0, [], 0, er⟩) ∨
    (13 ≤ x.length ∧ (x.getD 0 0).toNat = 87 ∧ fitsR (recX1 x) (recX2 x) (recX3 x) = true ∧ recX3 x + 13 ≤ x.length ∧ openE (x.take (recX3 x + 12)) = 0 ∧ (x.getD (recX3 x + 12) 0).toNat = 0 ∧
      recAt x at_ = ⟨recX1 x, recX2 x, (x.drop 8).take (recX3 x), at_ + recX3 x + 13, 0⟩) := by
  unfold recAt
  split
  · exact .inl ⟨2, by decide, rfl⟩
  split
  · exact .inl ⟨4, by decide, rfl⟩
  split
  · exact .inl ⟨4, by decide, rfl⟩
  split
  · exact .inl ⟨2, by decide, rfl⟩
  split
  · exact .inl ⟨5, by decide, rfl⟩
  split
  · exact .inl ⟨8, by decide, rfl⟩
  rename_i a b c d e f
  exact .inr ⟨by omega, by omega, by simpa using c, by omega, by simpa using e, by omega, rfl⟩
theorem recParse_cases (l : List UInt8) (at_ : Int) : (∃ er, er ≠ 0 ∧ recParse l at_ = ⟨0, 0, [], 0, er⟩) ∨
    (0 ≤ at_ ∧ at_ ≤ l.length ∧ ∃ x, x = l.drop at_.toNat ∧ 13 ≤ x.length ∧ (x.getD 0 0).toNat = 87 ∧ fitsR (recX1 x) (recX2 x) (recX3 x) = true ∧ recX3 x + 13 ≤ x.length ∧ openE (x.take (recX3 x + 12)) = 0 ∧ (x.getD (recX3 x + 12) 0).toNat = 0 ∧
      recParse l at_ = ⟨recX1 x, recX2 x, (x.drop 8).take (recX3 x), at_ + recX3 x + 13, 0⟩) := by
  unfold recParse
  split
  · exact .inl ⟨1, by decide, rfl⟩
  · rcases recAt_cases (l.drop at_.toNat) at_ with h | h
    · exact .inl h
    · exact .inr ⟨by omega, by omega, _, rfl, h⟩
theorem parse_build_rec (l : List UInt8) (at_ : Int) (p : PR) (hp : p = recParse l at_) (h : p.er = 0) :
    U32 p.num ∧ rightR p.kind p.num p.data.length = 0 ∧ 0 ≤ at_ ∧ p.to ≤ l.length ∧ p.to - at_ = ((recB p.kind p.num p.data).length : Nat) ∧ (l.drop at_.toNat).take (recB p.kind p.num p.data).length = recB p.kind p.num p.data ∧ p.to = at_ + p.data.length + 13 := by
  rcases recParse_cases l at_ with ⟨er, her, he⟩ | ⟨a0, a1, x, hx, h13, h0, hf, h1, h2, h3, he⟩
  · rw [hp, he] at h
    exact absurd h her
  · rw [he] at hp
    subst hp
    have hd : ((x.drop 8).take (recX3 x)).length = recX3 x := by simp; omega
    have hr := right_of _ _ _ hf
    have hxl : x.length = l.length - at_.toNat := by rw [hx]; simp
    have hB : recB (recX1 x : Nat) (recX2 x) ((x.drop 8).take (recX3 x)) = x.take (recX3 x + 13) := by
      rw [recB_yes (recX1 x) (recX2 x) (recX3 x) _ hd.symm hr, ← head_of x (by omega) h0, ← take_split]
      have hs := (seal_eq (x.take (recX3 x + 12)) (recX3 x + 12) (by simp; omega) (by omega)).2
        (by
          have ho := h2
          unfold openE at ho
          rw [List.length_take, Nat.min_eq_left (by omega)] at ho
          rw [if_neg (by omega)] at ho
          split at ho
          · rename_i q
            rw [List.take_of_length_le (by simp; omega)]
            exact q
          · cases ho)
      rw [List.take_take, show min (recX3 x + 12 - 4) (recX3 x + 12) = 8 + recX3 x by omega] at hs
      rw [hs, show recX3 x + 13 = (recX3 x + 12) + 1 by omega, take_split x (recX3 x + 12) 1]
      congr 1
      rw [List.drop_eq_getElem_cons (by omega), List.take_succ_cons, List.take_zero]
      have := getD_byte x (recX3 x + 12) (by omega)
      rw [h3] at this
      congr 1
      exact UInt8.toNat.inj this
    have hBl : (recB (recX1 x : Nat) (recX2 x) ((x.drop 8).take (recX3 x))).length = recX3 x + 13 := by rw [hB]; simp; omega
    refine ⟨by have := recX2_le x; show recX2 x < _; omega, by rw [hd]; exact hr, a0, ?_, ?_, ?_, ?_⟩
    · simp only []; omega
    · simp only []; rw [hBl]; omega
    · simp only []; rw [hBl, ← hx, hB]
    · simp only []; rw [hd]
end
end Go.Proofs.YtehabbnohoomjaaGreatDoor
namespace Go.Proofs.YtehabbnohoomjaaGreatDoor
section
set_option linter.unusedVariables false
set_option linter.unusedSimpArgs false
set_option linter.unnecessarySimpa false
open Go.RowKit
set_option maxRecDepth 20000
set_option maxHeartbeats 1000000
attribute [local go_sem ↓] Go.wp_at_zero Go.wp_at_succ
end
end Go.Proofs.YtehabbnohoomjaaGreatDoor
namespace Go.Proofs.YtehabbnohoomjaaGreatDoor
section
set_option linter.unusedVariables false
set_option linter.unusedSimpArgs false
set_option linter.unnecessarySimpa false
open Go.RowKit
set_option maxRecDepth 20000
set_option maxHeartbeats 1000000
attribute [local go_sem ↓] Go.wp_at_zero Go.wp_at_succ
end
end Go.Proofs.YtehabbnohoomjaaGreatDoor
namespace Go.Proofs.YtehabbnohoomjaaGreatDoor
section
set_option linter.unusedVariables false
set_option linter.unusedSimpArgs false
set_option linter.unnecessarySimpa false
open Go.RowKit
set_option maxRecDepth 20000
set_option maxHeartbeats 1000000
attribute [local go_sem ↓] Go.wp_at_zero Go.wp_at_succ
end
end Go.Proofs.YtehabbnohoomjaaGreatDoor
namespace Go.Proofs.YtehabbnohoomjaaGreatDoor
section
set_option linter.unusedVariables false
set_option linter.unusedSimpArgs false
set_option linter.unnecessarySimpa false
open Go.RowKit
set_option maxRecDepth 20000
set_option maxHeartbeats 1000000
attribute [local go_sem ↓] Go.wp_at_zero Go.wp_at_succ
end
end Go.Proofs.YtehabbnohoomjaaGreatDoor

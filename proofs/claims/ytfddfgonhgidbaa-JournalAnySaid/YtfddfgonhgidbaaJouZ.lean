/- An Append that may be cut: what it leaves. No walk. -/
import Derived.Test.YtfddfgonhgidbaaJouX
namespace Go.Proofs.Ytfddfgonhgidbaa
set_option linter.unusedVariables false
set_option linter.unusedSimpArgs false
set_option linter.unnecessarySimpa false
open Go.RowKit
set_option maxRecDepth 20000
set_option maxHeartbeats 2000000

theorem progF_ops (bs : List UInt8) : ∀ (S : FS) (k : Nat), (progF S k bs).1.ops ≤ S.ops + bs.length := by
  induction bs with
  | nil => intro S k; exact Nat.le_refl _
  | cons x bs ih =>
    intro S k
    rw [progF]
    split
    · simp
    · refine Nat.le_trans (ih _ _) ?_
      simp only [List.length_cons]
      omega
theorem eraseF_ops (S : FS) (i : Nat) : (eraseF S i).1.ops ≤ S.ops + 1 := by
  unfold eraseF
  split <;> simp
theorem layJ_ops (J : JS) (S : FS) (i : Nat) (x : LK) (kd : Int) (num : Nat) (d : List UInt8) : (layJ J S i x kd num d).2.1.ops ≤ S.ops + (recB kd num d).length := by
  have h := progF_ops (recB kd num d) S (1024 * i + x.en)
  unfold layJ
  generalize progF S (1024 * i + x.en) (recB kd num d) = r at h
  obtain ⟨S', e⟩ := r
  dsimp only
  split <;> exact h
theorem appJ_ops (J : JS) (S : FS) (kd : Int) (d : List UInt8) : (appJ J S kd d).2.1.ops ≤ S.ops + (recB kd (numJ J + 1) d).length + 1 := by
  unfold appJ
  split
  · simp only []; omega
  split
  · simp only []; omega
  split
  · simp only []; omega
  generalize placeJ J S d.length = r
  obtain ⟨i, er, ok⟩ := r
  dsimp only
  split
  · simp only []; omega
  split
  · have h := eraseF_ops S i
    generalize eraseF S i = r at h
    obtain ⟨S1, e1⟩ := r
    dsimp only at h ⊢
    split
    · refine Nat.le_trans (layJ_ops _ _ _ _ _ _ _) ?_
      omega
    · simp only []; omega
  · refine Nat.le_trans (layJ_ops _ _ _ _ _ _ _) ?_
    omega
theorem recJ_recS (S : FS) : recJ (openJ S) = recS S := by unfold recJ recS lastJ openJ; rfl
/-- what an Append leaves that may be cut -/
theorem crash_step {S : FS} {k : Nat} {d : List UInt8} (hf : Fresh S k) (hoff : S.off = false) (hk : ((k + 1 : Nat) : Int) < S.most) (hk2 : k + 1 ≤ 1000000) (hd : d.length ≤ 960) :
    ∃ J' S' e, appJ (openJ S) S 1 d = (J', S', e) ∧ Fresh S' (k + 1) ∧ S'.most = S.most ∧ S'.wear.length = S.wear.length ∧ S'.ops ≤ S.ops + 1000 ∧ numJ (openJ S') ≤ numJ (openJ S) + 1 ∧
      ((e = 0 ∧ S'.off = false ∧ recJ (openJ S') = (1, numJ (openJ S) + 1, d) ∧ (openJ S').has = true) ∨
       (e = 7 ∧ S'.off = true ∧ ((recJ (openJ S') = (1, numJ (openJ S) + 1, d) ∧ (openJ S').has = true) ∨ (recJ (openJ S') = recJ (openJ S) ∧ (openJ S').has = (openJ S).has)))) := by
  have hr : rightR 1 (numJ (openJ S) + 1) d.length = 0 := by
    unfold rightR
    rw [if_neg (by omega), if_neg (by omega), if_neg (by decide), if_neg (by omega)]
  obtain ⟨⟨J1, S1, e⟩, hap⟩ : ∃ r, r = appJ (openJ S) S 1 d := ⟨_, rfl⟩
  obtain ⟨i, y, er, hs⟩ := fresh_app hf hoff hr hap.symm
  have hBl := (build_parse_rec [] [] d 1 (numJ (openJ S) + 1) hr (by have := hf.num; have := hf.small; unfold U32; omega)).2
  have hops := appJ_ops (openJ S) S 1 d
  rw [← hap, hBl] at hops
  have hrec := step_rec hs
  have hnew : newL (looksF S1) = (i, true) → (openJ S1).has = true := fun h => by unfold openJ; rw [h]
  have hnum : numJ (openJ S1) ≤ numJ (openJ S) + 1 := by
    rcases hrec with ⟨_, h⟩ | ⟨_, _, h, _⟩
    · rw [← recS_num, h]; exact Nat.le_refl _
    · rw [← recS_num, h, recS_num]; omega
  refine ⟨J1, S1, e, hap.symm, fresh_step hf hs hk hk2, hs.kept.most, hs.kept.wear, by simp only [] at hops; omega, hnum, ?_⟩
  rcases hs.ends with ⟨he, h2, _⟩ | ⟨he, _, h2, _⟩
  · left
    rcases hrec with ⟨h3, h4⟩ | ⟨h3, _⟩
    · exact ⟨he, h2, by rw [recJ_recS, h4], hnew h3⟩
    · exact absurd he h3
  · right
    refine ⟨he, h2, ?_⟩
    rcases hrec with ⟨h3, h4⟩ | ⟨_, h3, h4, _⟩
    · exact .inl ⟨by rw [recJ_recS, h4], hnew h3⟩
    · exact .inr ⟨by rw [recJ_recS, recJ_recS, h4], by unfold openJ; rw [h3]⟩
end Go.Proofs.Ytfddfgonhgidbaa

/- The wear behind an Append that may be cut. No walk. -/
import Derived.Test.YtapfadaplncpeaaJouZ
namespace Go.Proofs.Ytapfadaplncpeaa
set_option linter.unusedVariables false
set_option linter.unusedSimpArgs false
set_option linter.unnecessarySimpa false
open Go.RowKit
set_option maxRecDepth 20000
set_option maxHeartbeats 2000000

theorem wears_step {S : FS} {N c : Nat} {d : List UInt8} (hf : Fresh S N) (hw : WInv S c) (hoff : S.off = false) (hk : ((N + 1 : Nat) : Int) < S.most) (hk2 : N + 1 ≤ 1000000) (hd : d.length ≤ 960) :
    ∃ J' S' e, appJ (openJ S) S 1 d = (J', S', e) ∧ Fresh S' (N + 1) ∧ S'.most = S.most ∧ S'.wear.length = S.wear.length ∧ S'.ops ≤ S.ops + 1000 ∧ S'.wear.sum ≤ S.wear.sum + 1 ∧
      ((e = 0 ∧ S'.off = false ∧ J' = openJ S' ∧ WInv S' c) ∨ (e = 7 ∧ S'.off = true ∧ WInv S' (c + 1))) := by
  have hr : rightR 1 (numJ (openJ S) + 1) d.length = 0 := by
    unfold rightR
    rw [if_neg (by omega), if_neg (by omega), if_neg (by decide), if_neg (by omega)]
  obtain ⟨⟨J1, S1, e⟩, hap⟩ : ∃ r, r = appJ (openJ S) S 1 d := ⟨_, rfl⟩
  obtain ⟨i, y, er, hs⟩ := fresh_app hf hoff hr hap.symm
  have hBl := (build_parse_rec [] [] d 1 (numJ (openJ S) + 1) hr (by have := hf.num; have := hf.small; unfold U32; omega)).2
  have hops := appJ_ops (openJ S) S 1 d
  rw [← hap, hBl] at hops
  have hws := wear_step hf hw hs
  have hsum := wear_sum hs
  refine ⟨J1, S1, e, hap.symm, fresh_step hf hs hk hk2, hs.kept.most, hs.kept.wear, by simp only [] at hops; omega, by cases er <;> simp at hsum <;> omega, ?_⟩
  rcases hs.ends with ⟨he, h2, _⟩ | ⟨he, _, h2, _⟩
  · left
    subst he
    exact ⟨rfl, h2, step_open hs, by simpa using hws⟩
  · right
    subst he
    exact ⟨rfl, h2, by simpa using hws⟩
/-- what the law asks of the wear -/
theorem wears_ok {S : FS} {c : Nat} (hw : WInv S c) {a b : Nat} (ha : a < S.wear.length) (hb : b < S.wear.length) : S.wear.getD b 0 ≤ S.wear.getD a 0 + 2 + c := hw.gap b a hb ha
theorem sum_take : ∀ (l : List Nat) (k : Nat), k < l.length → (l.take (k + 1)).sum = (l.take k).sum + l.getD k 0 := by
  intro l k hk
  rw [List.take_succ_eq_append_getElem hk, List.sum_append, List.getD_eq_getElem?_getD, List.getElem?_eq_getElem hk]
  simp
end Go.Proofs.Ytapfadaplncpeaa

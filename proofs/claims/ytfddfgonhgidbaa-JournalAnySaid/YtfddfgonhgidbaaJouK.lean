/- Law 9's known. -/
import Derived.Test.YtfddfgonhgidbaaJouH
import Derived.Test.YtfddfgonhgidbaaJouN
import Derived.Test.YtfddfgonhgidbaaFlaG
namespace Go.Proofs.Ytfddfgonhgidbaa
set_option linter.unusedVariables false
set_option linter.unusedSimpArgs false
set_option linter.unnecessarySimpa false
open Go.RowKit
set_option maxRecDepth 20000
set_option maxHeartbeats 4000000

theorem conv_c0 (w : World) (C : Array Value) (n c : Nat) : (convert 22 22 (.slice (some ⟨w.heap.size, 0, none⟩) n c)).run Try.prog (w.alloc (.cells C 5)) = .ok (.slice (some ⟨w.heap.size, 0, none⟩) n c) (w.alloc (.cells C 5 (C.size, C.size + 1))) :=
  Lib.run_convert_bytes_const (P := Try.prog) w 22 5 C n c Try.underlying22 Try.underlying5
theorem mark_c0 (w : World) (x : Value) (t : TypeId) (f : Nat × Nat) : Sl (w.alloc (.cells #[x] t f)) (some ⟨w.heap.size, 0, none⟩) [x] := Sl.mark w x t f
theorem appJ_kind (J : JS) (S : FS) (kd : Int) (d : List UInt8) (h0 : (J.dead || S.off) = false) (h1 : numJ J ≠ 4294967295) (h2 : rightR kd (numJ J + 1) d.length ≠ 0) : appJ J S kd d = (J, S, rightR kd (numJ J + 1) d.length) := by
  unfold appJ
  rw [if_neg (by rw [h0]; decide), if_neg h1, if_pos h2]
theorem known_next : nextL (looksF (newF 3 9)) (newF 3 9).wear (newF 3 9).most = (0, true) := by
  rw [newF_looks]
  rfl
theorem known_app : ∃ S1, appJ (openJ (newF 3 9)) (newF 3 9) 1 [97] = (openJ S1, S1, 0) ∧ S1.b = put (List.replicate 3072 255) 0 (recB 1 1 [97]) ∧ S1.off = false ∧ (openJ S1).now = 0 ∧ recJ (openJ S1) = (1, 1, [97]) ∧ (openJ S1).has = true ∧ numJ (openJ S1) = 1 ∧ S1.ops = 14 := by
  have hf := newF_fresh 3 9 (by decide) (by decide)
  have hnum : numJ (openJ (newF 3 9)) = 0 := by have := hf.num; omega
  have hr : rightR 1 (numJ (openJ (newF 3 9)) + 1) [97].length = 0 := by rw [hnum]; decide
  obtain ⟨⟨J1, S1, e⟩, ha⟩ : ∃ r, r = appJ (openJ (newF 3 9)) (newF 3 9) 1 [97] := ⟨_, rfl⟩
  obtain ⟨i, y, er, hs⟩ := fresh_app hf rfl hr ha.symm
  have hp := hs.place
  rw [known_next] at hp
  have hi : i = 0 ∧ er = false := by
    rcases hp with ⟨_, h⟩ | ⟨h, h2, _⟩
    · rw [newF_new] at h; injection h with _ h; cases h
    · injection h with h _
      refine ⟨h.symm, ?_⟩
      rw [h2, newF_looks, ← h]
      rfl
  obtain ⟨rfl, rfl⟩ := hi
  have he : e = 0 := by
    rcases hs.ends with ⟨h, _⟩ | ⟨_, h, _⟩
    · exact h
    · exact absurd h (by decide)
  subst he
  have hJ1 := step_open hs
  have hrec := step_rec hs
  rw [hnum] at hrec
  have hr2 : newL (looksF S1) = (0, true) ∧ recS S1 = (1, 1, [97]) := by
    rcases hrec with h | ⟨h, _⟩
    · exact h
    · exact absurd rfl h
  have hoff : S1.off = false := by
    rcases hs.ends with ⟨_, h, _⟩ | ⟨h, _⟩
    · exact h
    · cases h
  have hb : S1.b = put (List.replicate 3072 255) 0 (recB 1 1 [97]) := by
    have h1 := ha
    unfold appJ at h1
    rw [if_neg (by decide), if_neg (by rw [hnum]; decide), if_neg (fun h => h hr)] at h1
    unfold placeJ at h1
    have hh : (openJ (newF 3 9)).has = false := by unfold openJ; rw [newF_new]
    rw [hh] at h1
    have hlk : (openJ (newF 3 9)).looks = looksF (newF 3 9) := rfl
    rw [hlk, known_next] at h1
    simp only [Bool.false_and, Bool.false_eq_true, if_false, if_true] at h1
    have hbg : begunL ((looksF (newF 3 9)).getD 0 lookZ) = false := by rw [newF_looks]; rfl
    rw [hbg] at h1
    simp only [Bool.false_eq_true, if_false, Bool.true_eq_false] at h1
    have hx : (looksF (newF 3 9)).getD 0 lookZ = ⟨0, 0, [], 0, 0, true⟩ := by rw [newF_looks]; rfl
    unfold layJ at h1
    rw [hx, hnum] at h1
    have hBl := (build_parse_rec [] [] [97] 1 1 (by decide) (by unfold U32; omega)).2
    have hpb := progF_blank (recB 1 1 [97]) (newF 3 9) (1024 * 0 + 0) (by
      intro j _ hj
      rw [hBl] at hj
      simp only [newF]
      rw [List.getElem?_replicate, if_pos (by simp at hj; omega)]) (by rw [hBl]; simp [newF])
    rcases hpb with ⟨_, h2⟩ | ⟨t, _, h2, _⟩
    · rw [h2] at h1
      simp only [if_true] at h1
      injection h1 with _ h1
      injection h1 with h1 _
      rw [h1]
      rfl
    · simp only [newF] at h2; omega
  have hops : S1.ops = 14 := by
    rcases hs.ends with ⟨_, _, _, _, h, _⟩ | ⟨h, _⟩
    · rw [h]; rfl
    · cases h
  refine ⟨S1, by rw [← ha, hJ1], hb, hoff, ?_, ?_, ?_, ?_, hops⟩
  · unfold openJ; rw [hr2.1]
  · have h3 : recJ (openJ S1) = recS S1 := by unfold recJ recS lastJ openJ; rfl
    rw [h3, hr2.2]
  · unfold openJ; rw [hr2.1]
  · rw [← recS_num, hr2.2]
end Go.Proofs.Ytfddfgonhgidbaa

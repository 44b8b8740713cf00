/- Messages of SDO transfers, plain: what was laid down is read as it was, by the side that takes it. No program in sight. -/
import Derived.Test.YtcncbmlacphclaaSdK2
import Derived.Test.YtcncbmlacphclaaSdR
namespace Go.Proofs.Ytcncbmlacphclaa
set_option linter.unusedVariables false
set_option linter.unusedSimpArgs false
set_option linter.unnecessarySimpa false
open Go.RowKit
set_option maxRecDepth 20000

def Apart (ks : List Int) : Prop := ∀ k ∈ ks, ∀ k' ∈ ks, ∀ c, c < 256 → headB k c = true → headB k' c = true → k = k'
theorem ofM_back (ks : List Int) (M : Ms) (hc : canB M = true) (hu1 : M.size ≤ 4294967295) (hu2 : M.code ≤ 4294967295) (hu3 : M.sum ≤ 65535) (hk : M.kind ∈ ks) (ha : Apart ks) : ofM ks (laidB M) = some M := by
  have hG := guess_laid M hc hu1 hu2 hu3
  induction ks with
  | nil => cases hk
  | cons k ks ih =>
    unfold ofM
    by_cases hkk : k = M.kind
    · subst hkk
      have : hitB M.kind (laidB M) = true := by
        unfold hitB
        rw [hG.1, hc]
        simp
      rw [if_pos this, hG.1]
    · have hn : ¬ hitB k (laidB M) = true := by
        intro h
        simp only [hitB, Bool.and_eq_true, decide_eq_true_iff] at h
        have hb := guess_bd k (laidB M)
        have hN := (guess_laid (guessM k (laidB M)) h.1 hb.1 hb.2.1 hb.2.2).2
        rw [h.2, show (guessM k (laidB M)).kind = k from rfl] at hN
        exact hkk (ha k (by simp) M.kind hk _ (by unfold byt; exact UInt8.toNat_lt _) hN hG.2)
      rw [if_neg hn]
      have hk' : M.kind ∈ ks := by
        rcases List.mem_cons.1 hk with h | h
        · exact absurd h.symm hkk
        · exact h
      exact ih hk' (fun a h1 b h2 => ha a (by simp [h1]) b (by simp [h2]))
theorem res_back (ks : List Int) (M : Ms) (hc : canB M = true) (hu1 : M.size ≤ 4294967295) (hu2 : M.code ≤ 4294967295) (hu3 : M.sum ≤ 65535) (hk : M.kind ∈ ks) (ha : Apart ks) : resM ks (laidB M) = M ∧ errI ks (laidB M) = 0 := by
  have h := ofM_back ks M hc hu1 hu2 hu3 hk ha
  have h8 := laid_len M hc
  refine ⟨?_, ?_⟩
  · unfold resM; rw [if_pos h8, h]; rfl
  · unfold errI; rw [if_neg (by omega), if_neg (by omega), h]; rfl
theorem apart_req : Apart reqK := by unfold Apart reqK; decide +kernel
theorem apart_ans : Apart ansK := by unfold Apart ansK; decide +kernel
theorem apart_seg : Apart segK := by unfold Apart segK; decide +kernel
end Go.Proofs.Ytcncbmlacphclaa

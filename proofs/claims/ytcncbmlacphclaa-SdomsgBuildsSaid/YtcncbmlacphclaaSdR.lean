/- Package sdomsg: read. -/
import Derived.Test.YtcncbmlacphclaaSdF
import Derived.Test.YtcncbmlacphclaaSdHz
import Derived.Deep.Light
namespace Go.Proofs.Ytcncbmlacphclaa
set_option linter.unusedVariables false
set_option linter.unusedSimpArgs false
set_option linter.unnecessarySimpa false
open Go.RowKit
set_option maxRecDepth 100000
set_option maxHeartbeats 2000000

theorem only_bd (f : Int) (M : Ms) (h1 : M.size ≤ 4294967295) (h2 : M.code ≤ 4294967295) (h3 : M.sum ≤ 65535) : (onlyM f M).size ≤ 4294967295 ∧ (onlyM f M).code ≤ 4294967295 ∧ (onlyM f M).sum ≤ 65535 := by
  unfold onlyM
  refine ⟨?_, ?_, ?_⟩ <;> (simp only []; split <;> omega)
theorem guess_bd (k : Int) (b : List UInt8) : (guessM k b).size ≤ 4294967295 ∧ (guessM k b).code ≤ 4294967295 ∧ (guessM k b).sum ≤ 65535 := by
  have h4 : leN ((b.drop 4).take 4) ≤ 4294967295 := by
    have h := leN_lt ((b.drop 4).take 4)
    have hp : 256 ^ ((b.drop 4).take 4).length ≤ 256 ^ 4 := Nat.pow_le_pow_right (by omega) (List.length_take_le _ _)
    have : (256 : Nat) ^ 4 = 4294967296 := by decide
    omega
  have h2 : leN ((b.drop 1).take 2) ≤ 65535 := by
    have h := leN_lt ((b.drop 1).take 2)
    have hp : 256 ^ ((b.drop 1).take 2).length ≤ 256 ^ 2 := Nat.pow_le_pow_right (by omega) (List.length_take_le _ _)
    have : (256 : Nat) ^ 2 = 65536 := by decide
    omega
  exact only_bd _ (preM k b) h4 h4 h2
theorem sd_build (M : Ms) (A : Option Addr) (n c : Nat) (w : World) (hn : n = M.data.length) (hs : Sl w A (M.data.map bv)) (hu1 : M.size ≤ 4294967295) (hu2 : M.code ≤ 4294967295) (hu3 : M.sum ≤ 65535) :
    Calls Try.prog 32 #[.agg (msV M A n c)] w (BuildM M w) := by
  cases h : canB M
  · exact sd_build_no M A n c w hn hs h
  · exact sd_build_yes M A n c w hn hs h hu1 hu2 hu3
def iv (k : Int) : Value := .int .i64 k
def ReadR (ks : List Int) (b : List UInt8) (w : World) (e : Ending) (w' : World) : Prop :=
  ∃ A' n' c', e = .returned (.tuple #[.agg (msV (resM ks b) A' n' c'), .int .i64 (errI ks b)]) ∧ OwnB w' w.heap.size A' n' c' (resM ks b).data ∧ Below w.heap.size w w'
theorem read_miss (ks : List Int) (b : List UInt8) (w : World) (h : b.length ≠ 8) (h8 : errI ks b = if b.length < 8 then 2 else 3) (e : Ending) (w' : World) (he : e = .returned (.tuple #[.agg (msV msZ none 0 0), .int .i64 (if b.length < 8 then 2 else 3)])) (hb : Below w.heap.size w w') : ReadR ks b w e w' := by
  have : resM ks b = msZ := by unfold resM; rw [if_neg h]
  exact ⟨none, 0, 0, by rw [this, h8, he], by rw [this]; exact OwnB.nil _ _, hb⟩
theorem sd_read_len (ks : List Int) (A : Option Addr) (n c : Nat) (K : Value) (b : List UInt8) (w : World) (hn : n = b.length) (h8 : b.length ≠ 8) :
    Calls Try.prog 69 #[.slice A n c, K] w (ReadR ks b w) := by
  rcases Nat.lt_or_gt_of_ne h8 with h | h
  · have HE : Hid (∀ e w', e = .returned (.tuple #[.agg (msV msZ none 0 0), .int .i64 2]) → Below w.heap.size w w' → ReadR ks b w e w') := hide (fun e w' he hb => read_miss ks b w h8 (by unfold errI; rw [if_pos h, if_pos h]) e w' (by rw [if_pos h]; exact he) hb)
    have hn8 : n < 8 := by omega
    clear h h8 hn
    go_enter Try.func69, Try.ntmps69
    go_wp2_with fail
    refine bodyPost_ret (v := .tuple #[.agg (msV msZ none 0 0), .int .i64 2]) (by simp [results, Try.results69, go_sem, msV, msZ]) rfl (HE.out _ _ rfl (by repeat' (first | with_reducible assumption | with_reducible exact Below.refl _ _ | with_reducible apply below_alloc | with_reducible apply below_drew1 | with_reducible apply below_drewN | (with_reducible apply below_step; with_reducible assumption) | (with_reducible apply below_sg2; (first | exact Nat.le_refl _ | (simp; done) | omega)))))
  · have HE : Hid (∀ e w', e = .returned (.tuple #[.agg (msV msZ none 0 0), .int .i64 3]) → Below w.heap.size w w' → ReadR ks b w e w') := hide (fun e w' he hb => read_miss ks b w h8 (by unfold errI; rw [if_neg (by omega), if_pos h, if_neg (by omega)]) e w' (by rw [if_neg (by omega)]; exact he) hb)
    have hn8 : 8 < n := by omega
    clear h h8 hn
    go_enter Try.func69, Try.ntmps69
    go_wp2_with fail
    refine bodyPost_ret (v := .tuple #[.agg (msV msZ none 0 0), .int .i64 3]) (by simp [results, Try.results69, go_sem, msV, msZ]) rfl (HE.out _ _ rfl (by repeat' (first | with_reducible assumption | with_reducible exact Below.refl _ _ | with_reducible apply below_alloc | with_reducible apply below_drew1 | with_reducible apply below_drewN | (with_reducible apply below_step; with_reducible assumption) | (with_reducible apply below_sg2; (first | exact Nat.le_refl _ | (simp; done) | omega)))))
end Go.Proofs.Ytcncbmlacphclaa

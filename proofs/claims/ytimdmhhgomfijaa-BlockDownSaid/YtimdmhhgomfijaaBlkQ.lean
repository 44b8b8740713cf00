/- Law package 22: piece, pieces, row. -/
import Derived.Test.YtimdmhhgomfijaaBlkG
import Derived.Test.YtimdmhhgomfijaaBlkP
import Derived.Test.YtimdmhhgomfijaaSegN
namespace Go.Proofs.Ytimdmhhgomfijaa
set_option linter.unusedVariables false
set_option linter.unusedSimpArgs false
set_option linter.unnecessarySimpa false
open Go.RowKit
set_option maxRecDepth 100000
set_option maxHeartbeats 4000000
theorem btot_eq (B : List UInt8) (n : Nat) (hn : n = B.length) : (btotal B : Int) = if n = 0 then 1 else ((n : Int) + 6) / 7 := by
  unfold btotal
  rw [← hn]
  split <;> omega
theorem pieces_22 (A : Option Addr) (n c : Nat) (B : List UInt8) (w : World) (hn : n = B.length) (h1 : n ≤ 1000) : Calls Try.prog 25 #[.slice A n c] w fun e w' => e = .returned (.int .i64 (btotal B : Nat)) ∧ w = w' := by
  have HT := hide (btot_eq B n hn)
  clear hn
  by_cases h0 : n = 0
  · go_enter Try.func25, Try.ntmps25
    go_wp2_with fail
    go_ret
    exact ⟨by rw [HT.out, if_pos h0]; rfl, rfl⟩
  · go_enter Try.func25, Try.ntmps25
    go_wp2_with fail
    go_ret
    exact ⟨by rw [HT.out, if_neg h0]; rfl, rfl⟩
theorem piece_22 (A : Option Addr) (n c : Nat) (B : List UInt8) (k : Nat) (w : World) (hn : n = B.length) (hc : n ≤ c) (h1 : n ≤ 1000) (hk : k ≤ 1000) (hs : Sl w A (B.map bv)) : Calls Try.prog 52 #[.slice A n c, .int .i64 (k : Nat)] w fun e w' => ∃ A' c', e = .returned (.slice A' 7 c') ∧ OwnB w' w.heap.size A' 7 c' (bpiece B k) ∧ Below w.heap.size w w' := by
  have HN := hide hn
  have HS := hide hs
  clear hn hs
  by_cases hlt : 7 * k < n
  · have h7 : (7 : Int) * (k : Int) < (n : Int) := by omega
    have HSd : Hid (∀ w1, Below w.heap.size w w1 → Sl w1 (Option.map (fun x => x.add (7 * k)) A) ((B.drop (7 * k)).map bv)) := hide (fun w1 h => by
      have h2 := (HS.out.below h).cut1 (k := 7 * k) (c := c) (by simp; have := HN.out; omega)
      unfold cutA at h2
      rw [if_neg (by omega), Nat.mul_one, ← List.map_drop] at h2
      exact h2)
    have HE : Hid ((B.drop (7 * k)).take 7 ++ (List.replicate 7 0).drop (n - 7 * k) = bpiece B k) := hide (by unfold bpiece; rw [List.drop_replicate, HN.out])
    go_enter Try.func52, Try.ntmps52
    go_wp2_with (first
      | (at_make; refine mk_b _ rfl _ _ rfl .i64 .i64 7 7 7 7 rfl rfl rfl rfl (Nat.le_refl _) (by omega) w.heap.size rfl ?_; intro w1 hO1 hz1 hb1; have HO1 := hide hO1; clear hO1)
      | (with_reducible refine cpy_b _ rfl (.tmp 12) (.tmp 16) rfl w.heap.size _ _ _ rfl HO1.out _ _ _ (B.drop (7 * k)) rfl (by rw [List.length_drop, ← HN.out]) (HSd.out _ hb1) hb1.size (bpiece B k) HE.out ?_; intro w2 hO2 _ hb2; have HO2 := hide hO2; clear hO2))
    go_ret
    exact ⟨_, _, rfl, HO2.out, hb1.trans hb2⟩
  · have h7 : ¬ (7 : Int) * (k : Int) < (n : Int) := by omega
    go_enter Try.func52, Try.ntmps52
    go_wp2_with (at_make; refine mk_b _ rfl _ _ rfl .i64 .i64 7 7 7 7 rfl rfl rfl rfl (Nat.le_refl _) (by omega) w.heap.size rfl ?_; intro w1 hO1 hz1 hb1; have HO1 := hide hO1; clear hO1)
    go_ret
    refine ⟨_, _, rfl, ?_, hb1⟩
    have e : bpiece B k = List.replicate 7 0 := by
      unfold bpiece
      rw [List.drop_of_length_le (by have := HN.out; omega), show B.length - 7 * k = 0 by have := HN.out; omega]
      rfl
    rw [e]
    exact HO1.out
end Go.Proofs.Ytimdmhhgomfijaa

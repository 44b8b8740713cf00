/- Package canid: the Ids of an SDO server and its client. -/
import Derived.Test.YthdbckbpldlkeaaBase
import Derived.Test.YthdbckbpldlkeaaLaws
import Derived.Test.YthdbckbpldlkeaaOwnF
namespace Go.Proofs.Ythdbckbpldlkeaa
set_option linter.unusedVariables false
set_option linter.unusedSimpArgs false
set_option linter.unnecessarySimpa false
open Go.RowKit
set_option maxRecDepth 100000
set_option maxHeartbeats 4000000
theorem cid_base (k : Int) (hk : k = 7 ∨ k = 8) (w : World) : Calls Try.prog 50 #[.int .i64 k] w fun e w' => e = .returned (.tuple #[.int .i64 (if k = 7 then 1408 else 1536), .bool true]) ∧ w = w' := by
  rcases hk with rfl | rfl
  · go_enter Try.func50, Try.ntmps50
    go_wp2_with fail
    go_ret2
    exact ⟨rfl, rfl⟩
  · go_enter Try.func50, Try.ntmps50
    go_wp2_with fail
    go_ret2
    exact ⟨rfl, rfl⟩
theorem cid_btw (n a b : Int) (w : World) : Calls Try.prog 51 #[.int .i64 n, .int .i64 a, .int .i64 b] w fun e w' => e = .returned (.bool (decide (a ≤ n) && decide (n ≤ b))) ∧ w = w' := by
  by_cases h : a ≤ n
  · have hd := decide_eq_true h
    go_enter Try.func51, Try.ntmps51
    go_wp2_with fail
    go_ret
    exact ⟨by simp [h], rfl⟩
  · have hd := decide_eq_false h
    go_enter Try.func51, Try.ntmps51
    go_wp2_with fail
    go_ret
    exact ⟨by simp [h], rfl⟩
theorem cid_yes (k : Int) (hk : k = 7 ∨ k = 8) (node : Int) (h : 1 ≤ node ∧ node ≤ 127) (w : World) :
    Calls Try.prog 24 #[.agg #[.int .i64 k, .int .i64 0, .int .i64 node]] w fun e w' => e = .returned (.tuple #[.int .i64 ((if k = 7 then 1408 else 1536) + node), .int .i64 0]) ∧ Below w.heap.size w w' := by
  have q := blk_one w 59 #[.int .i64 k, .int .i64 0, .int .i64 node]
  have hbw := below_alloc (Below.refl w.heap.size w) (.cells #[.int .i64 k, .int .i64 0, .int .i64 node] 59)
  have HB := hide hbw
  clear hbw
  obtain ⟨h1, h2⟩ := h
  rcases hk with rfl | rfl
  all_goals
    obtain ⟨q_c0, q_c1, q_c2⟩ := cel3 q
    have q_f := q.frozen
    go_enter Try.func24, Try.ntmps24
    go_wp2_with fail
    refine (cid_base _ (by simp) _).mono ?_
    rintro e w1 ⟨rfl, rfl⟩
    go_wp2_with fail
    refine (cid_btw _ _ _ _).mono ?_
    rintro e w1 ⟨rfl, rfl⟩
    have hd : (decide ((1 : Int) ≤ node) && decide (node ≤ 127)) = true := by simp [h1, h2]
    rw [hd]
    go_wp2_with fail
    go_ret2
    refine ⟨?_, HB.out⟩
    simp
theorem cid_no (k : Int) (hk : k = 7 ∨ k = 8) (node : Int) (h : ¬ (1 ≤ node ∧ node ≤ 127)) (w : World) :
    Calls Try.prog 24 #[.agg #[.int .i64 k, .int .i64 0, .int .i64 node]] w fun e w' => e = .returned (.tuple #[.int .i64 0, .int .i64 1]) ∧ Below w.heap.size w w' := by
  have q := blk_one w 59 #[.int .i64 k, .int .i64 0, .int .i64 node]
  have hbw := below_alloc (Below.refl w.heap.size w) (.cells #[.int .i64 k, .int .i64 0, .int .i64 node] 59)
  have HB := hide hbw
  have hd : Hid ((decide ((1 : Int) ≤ node) && decide (node ≤ 127)) = false) := hide (by simp only [Bool.and_eq_false_iff, decide_eq_false_iff_not]; omega)
  clear hbw h
  rcases hk with rfl | rfl
  all_goals
    obtain ⟨q_c0, q_c1, q_c2⟩ := cel3 q
    have q_f := q.frozen
    go_enter Try.func24, Try.ntmps24
    go_wp2_with fail
    refine (cid_base _ (by simp) _).mono ?_
    rintro e w1 ⟨rfl, rfl⟩
    go_wp2_with fail
    refine (cid_btw _ _ _ _).mono ?_
    rintro e w1 ⟨rfl, rfl⟩
    rw [hd.out]
    go_wp2_with fail
    go_ret2
    exact ⟨rfl, HB.out⟩
end Go.Proofs.Ythdbckbpldlkeaa

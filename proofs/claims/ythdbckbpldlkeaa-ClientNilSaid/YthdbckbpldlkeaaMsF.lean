/- Rows of messages in memory; copy into a row, in a walk. -/
import Derived.Test.YthdbckbpldlkeaaOwnF
import Derived.Test.YthdbckbpldlkeaaSegL
namespace Go.Proofs.Ythdbckbpldlkeaa
set_option linter.unusedVariables false
set_option linter.unusedSimpArgs false
set_option linter.unnecessarySimpa false
open Go.RowKit
set_option maxRecDepth 100000
set_option maxHeartbeats 4000000
/-- copy into a row of the call's own, from any source: what it does -/
theorem run_cpy {P : Program} {w : World} (dT sT ty elem : TypeId) (hu : P.underlying dT = some (.slice elem)) (hsz : (P.info? elem).map (·.size) = some 1)
    (B e : Nat) (A : Option Addr) (n c : Nat) (xs : List Value) (hown : Own w B e 1 A n c xs)
    (A2 : Option Addr) (m c2 : Nat) (ys : List Value) (hl : ys.length = m) (hr : Sl w A2 ys) (h1 : ∀ u ∈ ys, u.oneCell' = true) :
    ∃ w', (Builtin.copy_ #[dT, sT] ty #[.slice A n c, .slice A2 m c2]).run P w = .ok (goInt (Nat.min m n)) w' ∧ Own w' B e 1 A n c (ys.take n ++ xs.drop m) ∧ w.grownBy w' (Value.ownBlock (.slice A n c)) ∧ Below B w w' := by
  have hxl : xs.length = n := by simpa using hown.len
  by_cases h0 : Nat.min m n = 0
  · refine ⟨w, by rw [h0]; exact run_copy_none (P := P) w dT sT ty elem A A2 n c m c2 hu hsz h0, ?_, World.grownBy.refl _ _, Below.refl _ _⟩
    have hm : m = 0 ∨ n = 0 := by
      rcases Nat.le_total m n with h' | h'
      · left; rw [← h0]; exact (Nat.min_eq_left h').symm
      · right; rw [← h0]; exact (Nat.min_eq_right h').symm
    rcases hm with rfl | rfl
    · rw [List.eq_nil_of_length_eq_zero hl]; simpa using hown
    · rw [List.eq_nil_of_length_eq_zero hxl] at hown ⊢; simpa using hown
  · have hn0 : 0 < n := by
      rcases Nat.eq_zero_or_pos n with h' | h'
      · subst h'; simp at h0
      · exact h'
    have hm0 : 0 < m := by
      rcases Nat.eq_zero_or_pos m with h' | h'
      · subst h'; simp at h0
      · exact h'
    obtain ⟨ad, rfl, _⟩ := hr 0 _ (List.getElem?_eq_getElem (by omega))
    rcases hown.2 with ⟨hv, hz⟩ | ⟨g, cap, cur, hv, hb, hg, hnc, hcm, hcs, htake⟩
    · omega
    · injection hv with hA _ hcc
      subst hA
      subst hcc
      have hmn : Nat.min m n ≤ n := Nat.min_le_right _ _
      have hcl : (ys.take n).length = Nat.min m n := by rw [List.length_take, hl]; exact Nat.min_comm _ _
      have hrun := run_copy_row (P := P) w dT sT ty elem g 0 n c ad m c2 cur e (ys.take n) hu hsz hg hcl (by
        intro j v hv
        rw [List.getElem?_take] at hv
        split at hv
        · obtain ⟨ad', h', hc⟩ := hr j v hv
          injection h' with h'
          subst h'
          exact hc
        · simp at hv) (by rw [hcl]; omega) (by intro v hv; exact h1 v (List.mem_of_mem_take hv))
      rw [hcl] at hrun
      refine ⟨_, hrun, ?_⟩
      have hnl : (ys.take n ++ xs.drop m).length = n := by
        rw [List.length_append, hcl, List.length_drop, hxl]
        show min m n + (n - m) = n
        omega
      refine ⟨⟨by simpa using hnl, .inr ⟨g, c, _, rfl, hb, setRow_heap w g _ _ e _ hg, hnc, hcm, ?_, ?_⟩⟩, ⟨rfl, rfl, rfl, by simp [World.setRow], fun k hk hne => setRow_other w g k _ (by simpa [Value.ownBlock] using hne)⟩, below_setRow (Below.refl _ _) hb _⟩
      · simp only [List.size_toArray, List.take_zero, List.nil_append, List.length_append, List.length_drop, Array.length_toList, hcl]
        omega
      · simp only [List.take_zero, List.nil_append, Nat.zero_add, Nat.mul_one]
        rw [List.take_append, hcl]
        have e1 : (ys.take n).take n = ys.take n := by rw [List.take_take, Nat.min_self]
        rw [e1]
        congr 1
        rw [List.take_drop]
        have e2 : Nat.min m n + (n - Nat.min m n) = n := by omega
        rw [e2]
        rw [Nat.mul_one] at htake
        rw [htake]
        rcases Nat.le_total m n with h' | h'
        · rw [show Nat.min m n = m from Nat.min_eq_left h']
        · rw [show Nat.min m n = n from Nat.min_eq_right h', List.drop_eq_nil_of_le (by omega), List.drop_eq_nil_of_le (by omega)]
theorem wp_cpy_b {o : Oper} {a : Act} {K : Act → World → Prop} {Q : Exit → Act → World → Prop} {w : World} (d s : Operand)
    (ho : o.op = .call { callee := .builtin .copy, args := #[d, s], argTypes := #[32, 32] })
    (B : Nat) (A : Option Addr) (n c : Nat) {l : List UInt8} (hd : a.eval d = .slice A n c) (hown : OwnB w B A n c l)
    (A2 : Option Addr) (m c2 : Nat) (l2 : List UInt8) (hs : a.eval s = .slice A2 m c2) (hm : m = l2.length) (hr : Sl w A2 (l2.map bv))
    (l3 : List UInt8) (hl3 : l2.take n ++ l.drop m = l3)
    (h : ∀ w', OwnB w' B A n c l3 → w.grownBy w' (Value.ownBlock (.slice A n c)) → Below B w w' → K (a.put o.dst (goInt (Nat.min m n))) w') : Oper.wp Try.prog o a w K Q := by
  obtain ⟨w', hrun, h1, h2, h3⟩ := run_cpy (P := Try.prog) (w := w) 32 32 o.type 5 Try.underlying32 sizeU8 B _ A n c _ hown.own A2 m c2 (l2.map bv) (by simp [hm]) hr (bv_one _)
  unfold Oper.wp
  simp [execOp, ho, resolve, invoke, builtin, hd, hs, hrun, Result.andThen]
  refine h w' ⟨?_, ?_⟩ h2 h3
  · have := hown.hn
    rw [← hl3]
    simp
    omega
  · rw [← hl3]
    simpa using h1
def msF (M : Ms) (d : Option Addr × Nat) : List Value := [.int .i64 M.kind, .int .i64 M.ix, .int .i64 M.sub, .bool M.tg, .bool M.la, .bool M.cr, .bool M.sz, .int .u32 (M.size : Nat), .int .u32 (M.code : Nat), .slice d.1 M.data.length d.2, .int .i64 M.sq, .int .i64 M.bl, .int .i64 M.em, .int .u16 (M.sum : Nat)]
theorem msF_len (M : Ms) (d : Option Addr × Nat) : (msF M d).length = 14 := rfl
theorem msF_one (M : Ms) (d : Option Addr × Nat) : ∀ u ∈ msF M d, u.oneCell' = true := by
  intro u hu
  simp [msF] at hu
  rcases hu with rfl | rfl | rfl | rfl | rfl | rfl | rfl | rfl | rfl | rfl | rfl | rfl | rfl | rfl <;> rfl
theorem infoMs : (Try.prog.info? 63).map (fun i => (i.zero, i.size, i.bytes)) = some (some (.agg #[.int .i64 0, .int .i64 0, .int .i64 0, .bool false, .bool false, .bool false, .bool false, .int .u32 0, .int .u32 0, .slice none 0 0, .int .i64 0, .int .i64 0, .int .i64 0, .int .u16 0]), 14, 96) := by kernel_rfl
abbrev OwnM (w : World) (F : Nat → Prop) (A : Option Addr) (n c : Nat) (L : List Ms) (ds : List (Option Addr × Nat)) : Prop := OwnF msF 14 63 Ms.data w F A n c L ds
end Go.Proofs.Ythdbckbpldlkeaa

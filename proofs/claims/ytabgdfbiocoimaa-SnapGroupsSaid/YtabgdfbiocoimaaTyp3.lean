/- Package types: what is known of a type. -/
import Derived.Test.YtabgdfbiocoimaaTyp2
import Derived.Deep.QuietTactic
import Derived.BigQuiet
namespace Go.Proofs.Ytabgdfbiocoimaa
set_option linter.unusedVariables false
set_option linter.unusedSimpArgs false
set_option linter.unnecessarySimpa false
open Go.RowKit
set_option maxRecDepth 100000
set_option maxHeartbeats 1000000

def RowR (t : Int) (w : World) (e : Ending) (w' : World) : Prop := e = .returned (.agg #[.string (tyNm t), .int .i64 (tySize t), .int .i64 (tyBits t), .bool (tySigned t)]) ∧ Below w.heap.size w w'
theorem kind_at {t : Int} (h0 : 0 ≤ t) (h1 : t < 32) (w : World) : (Instr.index 132 (.agg kindArr) (.int .i64 t)).run Try.prog w = .ok (.agg #[.string (tyNm t), .int .i64 (tySize t), .int .i64 (tyBits t), .bool (tySigned t)]) w := by
  have h : t = 0 ∨ t = 1 ∨ t = 2 ∨ t = 3 ∨ t = 4 ∨ t = 5 ∨ t = 6 ∨ t = 7 ∨ t = 8 ∨ t = 9 ∨ t = 10 ∨ t = 11 ∨ t = 12 ∨ t = 13 ∨ t = 14 ∨ t = 15 ∨ t = 16 ∨ t = 17 ∨ t = 18 ∨ t = 19 ∨ t = 20 ∨ t = 21 ∨ t = 22 ∨ t = 23 ∨ t = 24 ∨ t = 25 ∨ t = 26 ∨ t = 27 ∨ t = 28 ∨ t = 29 ∨ t = 30 ∨ t = 31 := by omega
  clear h0 h1
  rcases h with rfl | rfl | rfl | rfl | rfl | rfl | rfl | rfl | rfl | rfl | rfl | rfl | rfl | rfl | rfl | rfl | rfl | rfl | rfl | rfl | rfl | rfl | rfl | rfl | rfl | rfl | rfl | rfl | rfl | rfl | rfl | rfl <;> (show _ = _; kernel_rfl)
theorem row_out {t : Int} (h : t < 0 ∨ 32 ≤ t) : tyNm t = ⟨#[]⟩ ∧ tySize t = 0 ∧ tyBits t = 0 ∧ tySigned t = false := by
  obtain ⟨h1, h2, h3, _⟩ := ty_none (t := t) (by omega)
  refine ⟨?_, h1, h2, h3⟩
  unfold tyNm
  iterate 11 rw [if_neg (by omega)]
theorem ty_of (t : Int) (w : World) : Calls Try.prog 94 #[.int .i64 t] w (RowR t w) := by
  by_cases h : t < 0 ∨ 32 ≤ t
  · have HR := hide (row_out h)
    have HE : RowR t w (.returned (.agg #[.string ⟨#[]⟩, .int .i64 0, .int .i64 0, .bool false])) (w.alloc (.cells #[.string ⟨#[]⟩, .int .i64 0, .int .i64 0, .bool false] 118)) := by
      obtain ⟨h1, h2, h3, h4⟩ := HR.out
      unfold RowR
      rw [h1, h2, h3, h4]
      exact ⟨rfl, below_alloc (Below.refl _ _) _⟩
    rcases h with h | h
    · go_enter Try.func94, Try.ntmps94
      go_wp2_with fail
      exact bodyPost_ret (v := .agg #[.string ⟨#[]⟩, .int .i64 0, .int .i64 0, .bool false]) (by simp [results, Try.results94, go_sem]) rfl HE
    · have h0 : ¬ t < 0 := by omega
      go_enter Try.func94, Try.ntmps94
      go_wp2_with fail
      exact bodyPost_ret (v := .agg #[.string ⟨#[]⟩, .int .i64 0, .int .i64 0, .bool false]) (by simp [results, Try.results94, go_sem]) rfl HE
  · have h0 : 0 ≤ t := by omega
    have h1 : t < 32 := by omega
    clear h
    have hk := fun w => kind_at h0 h1 w
    have q0 := blk_one w 118 #[.string ⟨#[]⟩, .int .i64 0, .int .i64 0, .bool false]
    go_enter Try.func94, Try.ntmps94
    go_wp2_with fail
    refine (kinds_any _).mono ?_
    rintro e w1 ⟨rfl, hb1⟩
    have q := q0.below hb1 q0.lt
    have q_c0 := q.cell 0 rfl
    have q_f0 := q.frozen 0
    have q_c1 := q.cell 1 rfl
    have q_f1 := q.frozen 1
    have q_c2 := q.cell 2 rfl
    have q_f2 := q.frozen 2
    have q_c3 := q.cell 3 rfl
    have q_f3 := q.frozen 3
    have hbw := below_step hb1 (below_alloc (Below.refl w.heap.size w) (.cells #[.string ⟨#[]⟩, .int .i64 0, .int .i64 0, .bool false] 118))
    go_wp2_with fail
    exact bodyPost_ret (v := .agg #[.string (tyNm t), .int .i64 (tySize t), .int .i64 (tyBits t), .bool (tySigned t)]) (by simp [results, Try.results94, go_sem, q_c0, q_f0, q_c1, q_f1, q_c2, q_f2, q_c3, q_f3]) rfl ⟨rfl, (by repeat' (first | with_reducible assumption | with_reducible exact Below.refl _ _ | with_reducible apply below_alloc | with_reducible apply below_drew1 | with_reducible apply below_drewN | (with_reducible apply below_step; with_reducible assumption) | (with_reducible apply below_sg2; (first | exact Nat.le_refl _ | (simp; done) | omega))))⟩
/-! the tests -/
theorem tv_s1 : tySize 1 = 1 := rfl
theorem tv_b1 : tyBits 1 = 1 := rfl
theorem tv_g1 : tySigned 1 = false := rfl
theorem tv_s2 : tySize 2 = 1 := rfl
theorem tv_b2 : tyBits 2 = 8 := rfl
theorem tv_g2 : tySigned 2 = true := rfl
theorem tv_s3 : tySize 3 = 2 := rfl
theorem tv_b3 : tyBits 3 = 16 := rfl
theorem tv_g3 : tySigned 3 = true := rfl
theorem tv_s4 : tySize 4 = 4 := rfl
theorem tv_b4 : tyBits 4 = 32 := rfl
theorem tv_g4 : tySigned 4 = true := rfl
theorem tv_s5 : tySize 5 = 1 := rfl
theorem tv_b5 : tyBits 5 = 8 := rfl
theorem tv_g5 : tySigned 5 = false := rfl
theorem tv_s6 : tySize 6 = 2 := rfl
theorem tv_b6 : tyBits 6 = 16 := rfl
theorem tv_g6 : tySigned 6 = false := rfl
theorem tv_s7 : tySize 7 = 4 := rfl
theorem tv_b7 : tyBits 7 = 32 := rfl
theorem tv_g7 : tySigned 7 = false := rfl
theorem tv_s21 : tySize 21 = 8 := rfl
theorem tv_b21 : tyBits 21 = 64 := rfl
theorem tv_g21 : tySigned 21 = true := rfl

theorem nm_nil {t : Int} (h : (tyNm t).toList = []) : tySize t = 0 ∧ tyBits t = 0 ∧ tySigned t = false ∧ tyKnown t = false := by
  rcases ty_cases t with rfl | rfl | rfl | rfl | rfl | rfl | rfl | rfl | rfl | rfl | rfl | hn
  iterate 11 exact absurd h (by simp [tyNm])
  exact ⟨(ty_none hn).1, (ty_none hn).2.1, (ty_none hn).2.2.1, (ty_none hn).2.2.2.1⟩
theorem nm_some {t : Int} (h : ¬ (tyNm t).toList = []) : tyKnown t = true := by
  rcases ty_cases t with rfl | rfl | rfl | rfl | rfl | rfl | rfl | rfl | rfl | rfl | rfl | ⟨h1, h2, h3, h4, h5, h6, h7, h9, h10, h15, h21⟩
  iterate 11 rfl
  exfalso
  apply h
  simp [tyNm, h1, h2, h3, h4, h5, h6, h7, h9, h10, h15, h21]
theorem known_of_cmp {t : Int} : (¬ (tyNm t).toList = [] → tyKnown t = true) ∧ ((tyNm t).toList = [] → tySize t = 0 ∧ tyBits t = 0 ∧ tySigned t = false ∧ tyKnown t = false) := ⟨nm_some, nm_nil⟩
theorem ty_known (t : Int) (w : World) : Calls Try.prog 88 #[.int .i64 t] w fun e w' => e = .returned (.bool (tyKnown t)) ∧ Below w.heap.size w w' := by
  have H := hide (known_of_cmp (t := t))
  go_enter Try.func88, Try.ntmps88
  go_wp2_with fail
  refine (ty_of t _).mono ?_
  rintro e w1 ⟨rfl, hb1⟩
  go_wp2_with fail
  all_goals
    go_ret
    refine ⟨ret_bool ?_, hb1⟩
    have := H.out.1
    have := H.out.2
    simp_all
theorem fld1 (a b c d : Value) (w : World) : (Instr.field 118 (.agg #[a, b, c, d]) 1).run Try.prog w = .ok b w := by kernel_rfl
theorem fld2 (a b c d : Value) (w : World) : (Instr.field 118 (.agg #[a, b, c, d]) 2).run Try.prog w = .ok c w := by kernel_rfl
theorem fld3 (a b c d : Value) (w : World) : (Instr.field 118 (.agg #[a, b, c, d]) 3).run Try.prog w = .ok d w := by kernel_rfl
theorem ty_bits (t : Int) (w : World) : Calls Try.prog 62 #[.int .i64 t] w fun e w' => e = .returned (.int .i64 (tyBits t)) ∧ Below w.heap.size w w' := by
  have hf := fld2 (.string (tyNm t)) (.int .i64 (tySize t)) (.int .i64 (tyBits t)) (.bool (tySigned t))
  go_enter Try.func62, Try.ntmps62
  go_wp2_with fail
  refine (ty_of t _).mono ?_
  rintro e w1 ⟨rfl, hb1⟩
  go_wp2_with fail
  go_ret
  exact ⟨rfl, hb1⟩
def LimR (t : Int) (w : World) (e : Ending) (w' : World) : Prop := e = .returned (.tuple #[.int .i64 (tyLow t), .int .i64 (tyHigh t), .bool (tyNum t)]) ∧ Below w.heap.size w w'
theorem lim_none {t : Int} (h : tyBits t = 0) : tyLow t = 0 ∧ tyHigh t = 0 ∧ tyNum t = false := by
  have : tyNum t = false := by simp [tyNum, h]
  rcases ty_cases t with rfl | rfl | rfl | rfl | rfl | rfl | rfl | rfl | rfl | rfl | rfl | hn
  iterate 7 exact absurd h (by decide)
  iterate 3 exact ⟨rfl, rfl, this⟩
  · exact absurd h (by decide)
  · exact ⟨(ty_none hn).2.2.2.2.2, (ty_none hn).2.2.2.2.1, this⟩
theorem ty_limits (t : Int) (w : World) : Calls Try.prog 86 #[.int .i64 t] w (LimR t w) := by
  by_cases h : tyBits t = 0
  · have HL := hide (lim_none h)
    have h' : (tyBits t == 0) = true := by simpa using h
    clear h
    go_enter Try.func86, Try.ntmps86
    go_wp2_with fail
    refine (ty_of t _).mono ?_
    rintro e w1 ⟨rfl, hb1⟩
    go_wp2_with fail
    go_ret3
    obtain ⟨h1, h2, h3⟩ := HL.out
    exact ⟨by rw [h1, h2, h3]; rfl, (by repeat' (first | with_reducible assumption | with_reducible exact Below.refl _ _ | with_reducible apply below_alloc | with_reducible apply below_drew1 | with_reducible apply below_drewN | (with_reducible apply below_step; with_reducible assumption) | (with_reducible apply below_sg2; (first | exact Nat.le_refl _ | (simp; done) | omega))))⟩
  · have hc := ty_num_cases t h
    clear h
    rcases hc with rfl | rfl | rfl | rfl | rfl | rfl | rfl | rfl
    all_goals
      go_enter Try.func86, Try.ntmps86
      go_wp2_with fail
      refine (ty_of _ _).mono ?_
      rintro e w1 ⟨rfl, hb1⟩
      simp only [tv_s1, tv_s2, tv_s3, tv_s4, tv_s5, tv_s6, tv_s7, tv_s21, tv_b1, tv_b2, tv_b3, tv_b4, tv_b5, tv_b6, tv_b7, tv_b21, tv_g1, tv_g2, tv_g3, tv_g4, tv_g5, tv_g6, tv_g7, tv_g21]
      go_wp2_with fail
      (try go_quiet (fail))
      (try go_wp2_with fail)
      (try go_ret3)
      exact ⟨rfl, (by repeat' (first | with_reducible assumption | with_reducible exact Below.refl _ _ | with_reducible apply below_alloc | with_reducible apply below_drew1 | with_reducible apply below_drewN | (with_reducible apply below_step; with_reducible assumption) | (with_reducible apply below_sg2; (first | exact Nat.le_refl _ | (simp; done) | omega))))⟩
end Go.Proofs.Ytabgdfbiocoimaa

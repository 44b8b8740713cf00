/- Package types: the table of kinds, and what is known of a type. -/
import Derived.Test.YtehabbnohoomjaaGreatDoorC28
import Derived.Test.YtehabbnohoomjaaGreatDoorC27
import Derived.Deep.QuietTactic
import Derived.BigQuiet
import Derived.Test.YtehabbnohoomjaaGreatDoorC29
import Derived.Laws.Closers25b
namespace Go.Proofs.YtehabbnohoomjaaGreatDoor
section
set_option linter.unusedVariables false
set_option linter.unusedSimpArgs false
set_option linter.unnecessarySimpa false
section
open Go.RowKit
set_option maxRecDepth 100000
set_option maxHeartbeats 1000000

theorem below_setCells {B : Nat} {a : World} (b : Nat) (hb : B ≤ b) : ∀ (vs : List Value) (o : Nat) {w : World}, Below B a w → Below B a (w.setCells b o vs)
  | [], _, _, h => h
  | v :: r, o, _, h => below_setCells b hb r (o + 1) (h.setCell (p := ⟨b, o, none⟩) hb v)
theorem there_of_blk {w : World} {g n : Nat} {t : TypeId} {cs : Array Value} (hB : Blk w g t cs) (hn : n = cs.size) : w.there g 0 n := by
  intro j hj
  rw [Nat.zero_add]
  exact ⟨by rw [hB.cell j (Array.getElem?_eq_getElem (by omega))]; rfl, hB.frozen j⟩
def tyNm (t : Int) : ByteArray := if t = 1 then ⟨#[98, 111, 111, 108]⟩ else if t = 2 then ⟨#[105, 56]⟩ else if t = 3 then ⟨#[105, 49, 54]⟩ else if t = 4 then ⟨#[105, 51, 50]⟩ else if t = 5 then ⟨#[117, 56]⟩ else if t = 6 then ⟨#[117, 49, 54]⟩ else if t = 7 then ⟨#[117, 51, 50]⟩ else
  if t = 9 then ⟨#[116, 101, 120, 116]⟩ else if t = 10 then ⟨#[98, 121, 116, 101, 115]⟩ else if t = 15 then ⟨#[100, 111, 109, 97, 105, 110]⟩ else if t = 21 then ⟨#[105, 54, 52]⟩ else ⟨#[]⟩
def tyRow (t : Int) : Array Value := #[.string (tyNm t), .int .i64 (tySize t), .int .i64 (tyBits t), .bool (tySigned t)]
def kindArr : Array Value := ((List.range 32).flatMap fun t => (tyRow (t : Nat)).toList).toArray
def KindsR (w : World) (e : Ending) (w' : World) : Prop := e = .returned (.agg kindArr) ∧ Below w.heap.size w w'
theorem kind_info : (Tryz.prog.info? 224).map (·.size) = some kindArr.size := by kernel_rfl
theorem kind_one : kindArr.all (·.oneCell') = true := by decide +kernel
theorem kind_size : kindArr.size = Tryz.zeroCells224.size := by decide +kernel
theorem kinds_any (w : World) : Calls Tryz.prog 168 #[] w (KindsR w) := by
  have hB := blk_one w 224 Tryz.zeroCells224
  go_enter Tryz.func168, Tryz.ntmps168
  go_wp2_with (with_reducible refine wpList_store_mid rfl _ _ _ rfl w.heap.size 0 _ rfl rfl (there_of_blk (blk_one w _ _) ?_) ?_ ?_ ?_)
  all_goals (generalize hX : Array.setIfInBounds _ 87 _ = X; have hk : X = kindArr := (hX.symm.trans (by kernel_rfl)); clear hX; subst hk)
  iterate 3 first | exact kind_size | exact kind_info | exact kind_one
  have hE := hB.all kindArr.toList (by rw [Array.length_toList]; exact kind_size)
  rw [Array.toArray_toList] at hE
  have hS : Below w.heap.size w ((w.alloc (.cells Tryz.zeroCells224 224)).setCells w.heap.size 0 kindArr.toList) := below_setCells _ (Nat.le_refl _) _ _ (below_alloc (Below.refl _ _) _)
  generalize (w.alloc (.cells Tryz.zeroCells224 224)).setCells w.heap.size 0 kindArr.toList = W at *
  go_wp2
  refine bodyPost_ret (v := .agg kindArr) (results_cell_row rfl _ _ _ _ _ _ _ rfl hE Tryz.underlying224 rfl kind_info) rfl ?_
  exact ⟨rfl, hS⟩
end
section
open Go.RowKit
set_option maxRecDepth 100000
set_option maxHeartbeats 1000000

def RowR (t : Int) (w : World) (e : Ending) (w' : World) : Prop := e = .returned (.agg #[.string (tyNm t), .int .i64 (tySize t), .int .i64 (tyBits t), .bool (tySigned t)]) ∧ Below w.heap.size w w'
theorem kind_at {t : Int} (h0 : 0 ≤ t) (h1 : t < 32) (w : World) : (Instr.index 224 (.agg kindArr) (.int .i64 t)).run Tryz.prog w = .ok (.agg #[.string (tyNm t), .int .i64 (tySize t), .int .i64 (tyBits t), .bool (tySigned t)]) w := by
  have h : t = 0 ∨ t = 1 ∨ t = 2 ∨ t = 3 ∨ t = 4 ∨ t = 5 ∨ t = 6 ∨ t = 7 ∨ t = 8 ∨ t = 9 ∨ t = 10 ∨ t = 11 ∨ t = 12 ∨ t = 13 ∨ t = 14 ∨ t = 15 ∨ t = 16 ∨ t = 17 ∨ t = 18 ∨ t = 19 ∨ t = 20 ∨ t = 21 ∨ t = 22 ∨ t = 23 ∨ t = 24 ∨ t = 25 ∨ t = 26 ∨ t = 27 ∨ t = 28 ∨ t = 29 ∨ t = 30 ∨ t = 31 := by omega
  clear h0 h1
  rcases h with rfl | rfl | rfl | rfl | rfl | rfl | rfl | rfl | rfl | rfl | rfl | rfl | rfl | rfl | rfl | rfl | rfl | rfl | rfl | rfl | rfl | rfl | rfl | rfl | rfl | rfl | rfl | rfl | rfl | rfl | rfl | rfl <;> (show _ = _; kernel_rfl)
theorem row_out {t : Int} (h : t < 0 ∨ 32 ≤ t) : tyNm t = ⟨#[]⟩ ∧ tySize t = 0 ∧ tyBits t = 0 ∧ tySigned t = false := by
  obtain ⟨h1, h2, h3, _⟩ := ty_none (t := t) (by omega)
  refine ⟨?_, h1, h2, h3⟩
  unfold tyNm
  iterate 11 rw [if_neg (by omega)]
theorem ty_of (t : Int) (w : World) : Calls Tryz.prog 136 #[.int .i64 t] w (RowR t w) := by
  by_cases h : t < 0 ∨ 32 ≤ t
  · have HR := hide (row_out h)
    have HE : RowR t w (.returned (.agg #[.string ⟨#[]⟩, .int .i64 0, .int .i64 0, .bool false])) (w.alloc (.cells #[.string ⟨#[]⟩, .int .i64 0, .int .i64 0, .bool false] 192)) := by
      obtain ⟨h1, h2, h3, h4⟩ := HR.out
      unfold RowR
      rw [h1, h2, h3, h4]
      exact ⟨rfl, below_alloc (Below.refl _ _) _⟩
    rcases h with h | h
    · go_enter Tryz.func136, Tryz.ntmps136
      go_wp2_with fail
      exact bodyPost_ret (v := .agg #[.string ⟨#[]⟩, .int .i64 0, .int .i64 0, .bool false]) (by simp [results, Tryz.results136, go_sem]) rfl HE
    · have h0 : ¬ t < 0 := by omega
      go_enter Tryz.func136, Tryz.ntmps136
      go_wp2_with fail
      exact bodyPost_ret (v := .agg #[.string ⟨#[]⟩, .int .i64 0, .int .i64 0, .bool false]) (by simp [results, Tryz.results136, go_sem]) rfl HE
  · have h0 : 0 ≤ t := by omega
    have h1 : t < 32 := by omega
    clear h
    have hk := fun w => kind_at h0 h1 w
    have q0 := blk_one w 192 #[.string ⟨#[]⟩, .int .i64 0, .int .i64 0, .bool false]
    go_enter Tryz.func136, Tryz.ntmps136
    go_wp2_with fail
    refine (kinds_any _).mono ?_
    rintro e w1 ⟨rfl, hb1⟩
    have q := q0.below hb1 q0.lt
    obtain ⟨q_c0, q_c1, q_c2, q_c3⟩ := cel4 q
    have q_f := q.frozen
    have hbw := below_step hb1 (below_alloc (Below.refl w.heap.size w) (.cells #[.string ⟨#[]⟩, .int .i64 0, .int .i64 0, .bool false] 192))
    go_wp2_with fail
    exact bodyPost_ret (v := .agg #[.string (tyNm t), .int .i64 (tySize t), .int .i64 (tyBits t), .bool (tySigned t)]) (by simp [results, Tryz.results136, go_sem, q_c0, q_c1, q_c2, q_c3, q_f]) rfl ⟨rfl, (by repeat' (first | with_reducible assumption | with_reducible exact Below.refl _ _ | with_reducible apply below_alloc | with_reducible apply below_drew1 | with_reducible apply below_drewN | (with_reducible apply below_step; with_reducible assumption) | (with_reducible apply below_sg2; (first | exact Nat.le_refl _ | (simp; done) | omega))))⟩
/-! the tests -/
theorem tv_s1 : tySize 1 = 1 := rfl
theorem tv_b1 : tyBits 1 = 1 := rfl
theorem tv_g1 : tySigned 1 = false := rfl
theorem tv_s2 : tySize 2 = 1 := rfl
theorem tv_b2 : tyBits 2 = 8 := rfl
theorem tv_g2 : tySigned 2 = true := rfl
theorem tv_s3 : tySize 3 = 2 := rfl
theorem tv_b3 : tyBits 3 = 16 := rfl
theorem tv_g3 : tySigned 3 = true := rfl
theorem tv_s4 : tySize 4 = 4 := rfl
theorem tv_b4 : tyBits 4 = 32 := rfl
theorem tv_g4 : tySigned 4 = true := rfl
theorem tv_s5 : tySize 5 = 1 := rfl
theorem tv_b5 : tyBits 5 = 8 := rfl
theorem tv_g5 : tySigned 5 = false := rfl
theorem tv_s6 : tySize 6 = 2 := rfl
theorem tv_b6 : tyBits 6 = 16 := rfl
theorem tv_g6 : tySigned 6 = false := rfl
theorem tv_s7 : tySize 7 = 4 := rfl
theorem tv_b7 : tyBits 7 = 32 := rfl
theorem tv_g7 : tySigned 7 = false := rfl
theorem tv_s21 : tySize 21 = 8 := rfl
theorem tv_b21 : tyBits 21 = 64 := rfl
theorem tv_g21 : tySigned 21 = true := rfl

theorem nm_nil {t : Int} (h : (tyNm t).toList = []) : tySize t = 0 ∧ tyBits t = 0 ∧ tySigned t = false ∧ tyKnown t = false := by
  rcases ty_cases t with rfl | rfl | rfl | rfl | rfl | rfl | rfl | rfl | rfl | rfl | rfl | hn
  iterate 11 exact absurd h (by simp [tyNm])
  exact ⟨(ty_none hn).1, (ty_none hn).2.1, (ty_none hn).2.2.1, (ty_none hn).2.2.2.1⟩
theorem nm_some {t : Int} (h : ¬ (tyNm t).toList = []) : tyKnown t = true := by
  rcases ty_cases t with rfl | rfl | rfl | rfl | rfl | rfl | rfl | rfl | rfl | rfl | rfl | ⟨h1, h2, h3, h4, h5, h6, h7, h9, h10, h15, h21⟩
  iterate 11 rfl
  exfalso
  apply h
  simp [tyNm, h1, h2, h3, h4, h5, h6, h7, h9, h10, h15, h21]
theorem known_of_cmp {t : Int} : (¬ (tyNm t).toList = [] → tyKnown t = true) ∧ ((tyNm t).toList = [] → tySize t = 0 ∧ tyBits t = 0 ∧ tySigned t = false ∧ tyKnown t = false) := ⟨nm_some, nm_nil⟩
theorem ty_known (t : Int) (w : World) : Calls Tryz.prog 100 #[.int .i64 t] w fun e w' => e = .returned (.bool (tyKnown t)) ∧ Below w.heap.size w w' := by
  have H := hide (known_of_cmp (t := t))
  go_enter Tryz.func100, Tryz.ntmps100
  go_wp2_with fail
  refine (ty_of t _).mono ?_
  rintro e w1 ⟨rfl, hb1⟩
  go_wp2_with fail
  all_goals
    go_ret
    refine ⟨ret_bool ?_, hb1⟩
    have := H.out.1
    have := H.out.2
    simp_all
theorem fld2 (a b c d : Value) (w : World) : (Instr.field 192 (.agg #[a, b, c, d]) 2).run Tryz.prog w = .ok c w := by kernel_rfl
theorem ty_bits (t : Int) (w : World) : Calls Tryz.prog 124 #[.int .i64 t] w fun e w' => e = .returned (.int .i64 (tyBits t)) ∧ Below w.heap.size w w' := by
  have hf := fld2 (.string (tyNm t)) (.int .i64 (tySize t)) (.int .i64 (tyBits t)) (.bool (tySigned t))
  go_enter Tryz.func124, Tryz.ntmps124
  go_wp2_with fail
  refine (ty_of t _).mono ?_
  rintro e w1 ⟨rfl, hb1⟩
  go_wp2_with fail
  go_ret
  exact ⟨rfl, hb1⟩
def LimR (t : Int) (w : World) (e : Ending) (w' : World) : Prop := e = .returned (.tuple #[.int .i64 (tyLow t), .int .i64 (tyHigh t), .bool (tyNum t)]) ∧ Below w.heap.size w w'
theorem lim_none {t : Int} (h : tyBits t = 0) : tyLow t = 0 ∧ tyHigh t = 0 ∧ tyNum t = false := by
  have : tyNum t = false := by simp [tyNum, h]
  rcases ty_cases t with rfl | rfl | rfl | rfl | rfl | rfl | rfl | rfl | rfl | rfl | rfl | hn
  iterate 7 exact absurd h (by decide)
  iterate 3 exact ⟨rfl, rfl, this⟩
  · exact absurd h (by decide)
  · exact ⟨(ty_none hn).2.2.2.2.2, (ty_none hn).2.2.2.2.1, this⟩
theorem ty_limits (t : Int) (w : World) : Calls Tryz.prog 98 #[.int .i64 t] w (LimR t w) := by
  by_cases h : tyBits t = 0
  · have HL := hide (lim_none h)
    have h' : (tyBits t == 0) = true := by simpa using h
    clear h
    go_enter Tryz.func98, Tryz.ntmps98
    go_wp2_with fail
    refine (ty_of t _).mono ?_
    rintro e w1 ⟨rfl, hb1⟩
    go_wp2_with fail
    go_ret3
    obtain ⟨h1, h2, h3⟩ := HL.out
    exact ⟨by rw [h1, h2, h3]; rfl, (by repeat' (first | with_reducible assumption | with_reducible exact Below.refl _ _ | with_reducible apply below_alloc | with_reducible apply below_drew1 | with_reducible apply below_drewN | (with_reducible apply below_step; with_reducible assumption) | (with_reducible apply below_sg2; (first | exact Nat.le_refl _ | (simp; done) | omega))))⟩
  · have hc := ty_num_cases t h
    clear h
    rcases hc with rfl | rfl | rfl | rfl | rfl | rfl | rfl | rfl
    all_goals
      go_enter Tryz.func98, Tryz.ntmps98
      go_wp2_with fail
      refine (ty_of _ _).mono ?_
      rintro e w1 ⟨rfl, hb1⟩
      simp only [tv_s1, tv_s2, tv_s3, tv_s4, tv_s5, tv_s6, tv_s7, tv_s21, tv_b1, tv_b2, tv_b3, tv_b4, tv_b5, tv_b6, tv_b7, tv_b21, tv_g1, tv_g2, tv_g3, tv_g4, tv_g5, tv_g6, tv_g7, tv_g21]
      go_wp2_with fail
      (try go_quiet (fail))
      (try go_wp2_with fail)
      (try go_ret3)
      exact ⟨rfl, (by repeat' (first | with_reducible assumption | with_reducible exact Below.refl _ _ | with_reducible apply below_alloc | with_reducible apply below_drew1 | with_reducible apply below_drewN | (with_reducible apply below_step; with_reducible assumption) | (with_reducible apply below_sg2; (first | exact Nat.le_refl _ | (simp; done) | omega))))⟩
end
section
open Go.RowKit
set_option maxRecDepth 100000
set_option maxHeartbeats 2000000

def DecR (t : Int) (l : List UInt8) (w : World) (e : Ending) (w' : World) : Prop := e = .returned (.tuple #[.int .i64 (decV t l), .int .i64 (decE t l)]) ∧ Below w.heap.size w w'
theorem ty_decode (t : Int) (A : Option Addr) (n c : Nat) (l : List UInt8) (w : World) (hn : n = l.length) (hc : n ≤ c) (hl : n ≤ 35184372088832) (hs : Sl w A (l.map bv)) :
    Calls Tryz.prog 151 #[.int .i64 t, .slice A n c] w (DecR t l w) := by
  by_cases h : tyBits t = 0
  · have HL := hide (dec_none l h)
    have h' : (tyBits t == 0) = true := by simpa using h
    clear h
    go_enter Tryz.func151, Tryz.ntmps151
    go_wp2_with fail
    refine (ty_of t _).mono ?_
    rintro e w1 ⟨rfl, hb1⟩
    go_wp2_with fail
    go_ret2
    obtain ⟨h1, h2⟩ := HL.out
    exact ⟨by rw [h1, h2]; rfl, (by repeat' (first | with_reducible assumption | with_reducible exact Below.refl _ _ | with_reducible apply below_alloc | with_reducible apply below_drew1 | with_reducible apply below_drewN | (with_reducible apply below_step; with_reducible assumption) | (with_reducible apply below_sg2; (first | exact Nat.le_refl _ | (simp; done) | omega))))⟩
  have h' : (tyBits t == 0) = false := by simpa using h
  by_cases h1 : (n : Int) < tySize t
  · have HL := hide (dec_short l h (by omega))
    clear h
    go_enter Tryz.func151, Tryz.ntmps151
    go_wp2_with fail
    refine (ty_of t _).mono ?_
    rintro e w1 ⟨rfl, hb1⟩
    go_wp2_with fail
    go_ret2
    obtain ⟨h1, h2⟩ := HL.out
    exact ⟨by rw [h1, h2]; rfl, (by repeat' (first | with_reducible assumption | with_reducible exact Below.refl _ _ | with_reducible apply below_alloc | with_reducible apply below_drew1 | with_reducible apply below_drewN | (with_reducible apply below_step; with_reducible assumption) | (with_reducible apply below_sg2; (first | exact Nat.le_refl _ | (simp; done) | omega))))⟩
  by_cases h2 : tySize t < (n : Int)
  · have HL := hide (dec_big l h (by omega))
    clear h
    go_enter Tryz.func151, Tryz.ntmps151
    go_wp2_with fail
    refine (ty_of t _).mono ?_
    rintro e w1 ⟨rfl, hb1⟩
    go_wp2_with fail
    go_ret2
    obtain ⟨h1, h2⟩ := HL.out
    exact ⟨by rw [h1, h2]; rfl, (by repeat' (first | with_reducible assumption | with_reducible exact Below.refl _ _ | with_reducible apply below_alloc | with_reducible apply below_drew1 | with_reducible apply below_drewN | (with_reducible apply below_step; with_reducible assumption) | (with_reducible apply below_sg2; (first | exact Nat.le_refl _ | (simp; done) | omega))))⟩
  have h3 : tySize t = (n : Int) := by omega
  have HW := hide (ty_wd h)
  have hx := leN_lt l
  rw [← hn] at hx
  by_cases hg : tySigned t = true
  · have HL := hide (dec_sgn l h (by omega) hg)
    have HN := hide hn
    have H3 := hide h3
    clear h hn h3 hx
    go_enter Tryz.func151, Tryz.ntmps151
    go_wp2_with fail
    refine (ty_of t _).mono ?_
    rintro e w1 ⟨rfl, hb1⟩
    go_wp2_with fail
    refine (oct_getint A n c l (tySize t) _ HW.out HN.out H3.out hc ((hs.below hb1).alloc _)).mono ?_
    rintro e w2 ⟨rfl, rfl⟩
    go_wp2_with fail
    go_ret2
    obtain ⟨h1, h2⟩ := HL.out
    exact ⟨by rw [h1, h2]; rfl, (by repeat' (first | with_reducible assumption | with_reducible exact Below.refl _ _ | with_reducible apply below_alloc | with_reducible apply below_drew1 | with_reducible apply below_drewN | (with_reducible apply below_step; with_reducible assumption) | (with_reducible apply below_sg2; (first | exact Nat.le_refl _ | (simp; done) | omega))))⟩
  · have hg' : tySigned t = false := by simpa using hg
    have HL := hide (dec_uns l h (by omega) hg')
    have hu := ty_uns h hg'
    have h8 : 1 ≤ tySize t ∧ tySize t ≤ 8 := by rcases HW.out with hw | hw | hw | hw <;> omega
    have HG := hide (fun W (h : Sl W A (l.map bv)) => get_ok' A n c l 0 (tySize t) W hn hc (by omega) (by omega) (by omega) h8.1 h8.2 h)
    have HE := hide (show (l.drop (Int.toNat 0)).take (tySize t).toNat = l by rw [List.take_of_length_le (by simp; omega)]; rfl)
    have hx4 : n = (tySize t).toNat := by omega
    rw [hx4] at hx
    clear h hn hx4 h8 HW hg hg' h' h1 h2
    obtain ⟨x, hxx⟩ : ∃ x, leN l = x := ⟨_, rfl⟩
    rw [hxx] at HL hx
    have HX := hide hxx
    clear hxx
    rcases hu with rfl | rfl | rfl | rfl
    all_goals
      simp only [tv_s1, tv_s5, tv_s6, tv_s7, tv_b1, tv_b5, tv_b6, tv_b7, tv_g1, tv_g5, tv_g6, tv_g7] at HG HE h3 hx
      rcases (show n = 1 ∨ n = 2 ∨ n = 4 by omega) with rfl | rfl | rfl <;> first | (exfalso; revert h3; decide) | skip
    all_goals
      clear h3
      simp only [p1, p2, p4] at hx
      have hx' : x ≤ 4294967295 := by omega
      have HX2 := hide hx
      clear hx
      go_enter Tryz.func151, Tryz.ntmps151
      go_wp2_with fail
      refine (ty_of _ _).mono ?_
      rintro e w1 ⟨rfl, hb1⟩
      simp only [tv_s1, tv_s5, tv_s6, tv_s7, tv_b1, tv_b5, tv_b6, tv_b7, tv_g1, tv_g5, tv_g6, tv_g7]
      have hs1 := (hs.below hb1).alloc
      go_wp2_with fail
      refine (HG.out _ (hs1 _)).mono ?_
      rintro e w2 ⟨rfl, rfl⟩
      rw [HE.out, HX.out]
      clear hs1
      go_wp2_with fail
      all_goals
        go_ret2
        obtain ⟨h1, h2⟩ := HL.out
        have := HX2.out
        first
          | (refine ⟨by rw [h1, h2, if_neg (by omega), if_neg (by omega)]; rfl, (by repeat' (first | with_reducible assumption | with_reducible exact Below.refl _ _ | with_reducible apply below_alloc | with_reducible apply below_drew1 | with_reducible apply below_drewN | (with_reducible apply below_step; with_reducible assumption) | (with_reducible apply below_sg2; (first | exact Nat.le_refl _ | (simp; done) | omega))))⟩; done)
          | (refine ⟨by rw [h1, h2, if_pos (by simp at *; omega), if_pos (by simp at *; omega)]; rfl, (by repeat' (first | with_reducible assumption | with_reducible exact Below.refl _ _ | with_reducible apply below_alloc | with_reducible apply below_drew1 | with_reducible apply below_drewN | (with_reducible apply below_step; with_reducible assumption) | (with_reducible apply below_sg2; (first | exact Nat.le_refl _ | (simp; done) | omega))))⟩; done)
          | (refine ⟨by rw [h1, h2, if_neg (by simp at *; omega), if_neg (by simp at *; omega)]; rfl, (by repeat' (first | with_reducible assumption | with_reducible exact Below.refl _ _ | with_reducible apply below_alloc | with_reducible apply below_drew1 | with_reducible apply below_drewN | (with_reducible apply below_step; with_reducible assumption) | (with_reducible apply below_sg2; (first | exact Nat.le_refl _ | (simp; done) | omega))))⟩; done)
theorem ty_printed (A : Option Addr) (n c : Nat) (l : List UInt8) (w : World) (hn : n = l.length) (hl : n ≤ 35184372088832) (hs : Sl w A (l.map bv)) :
    Calls Tryz.prog 152 #[.slice A n c] w fun e w' => e = .returned (.bool (printB l)) ∧ w = w' := by
  have HN := hide hn
  clear hn
  go_enter Tryz.func152, Tryz.ntmps152
  go_wp2_with fail
  go_loop [4, 7] (fun _ i => ∃ k : Nat, k ≤ n ∧ i = .int .i64 k ∧ Hid (∀ j (hj : j < l.length), j < k → 32 ≤ (l[j]).toNat ∧ (l[j]).toNat ≤ 126)) (fun _ i => n - (intOf i).toNat)
  case atStart => exact ⟨0, by omega, rfl, hide (by intro j _ h; omega)⟩
  case round =>
    obtain ⟨k, hk, rfl, HA⟩ := hrel
    by_cases hlt : k < n
    · obtain ⟨ad, rfl, hcell⟩ := hs.byte (j := k) (by have := HN.out; omega)
      obtain ⟨b, hb⟩ : ∃ b, b = (l[k]'(by have := HN.out; omega)).toNat := ⟨_, rfl⟩
      rw [← hb] at hcell
      have HB := hide hb
      clear hb
      by_cases hp : 32 ≤ b ∧ b ≤ 126
      · obtain ⟨hp1, hp2⟩ := hp
        go_wp2_with fail
        go_round
        case rel =>
          refine ⟨k + 1, by omega, by go_num, hide ?_⟩
          intro j hj hjk
          by_cases e : j = k
          · subst e; rw [← HB.out]; exact ⟨hp1, hp2⟩
          · exact HA.out j hj (by omega)
        case measure => simp [intOf]; omega
      · have HP := hide hp
        rcases (show b < 32 ∨ (32 ≤ b ∧ 126 < b) by omega) with hp1 | ⟨hp1, hp2⟩
        all_goals
          clear hp
          go_wp2_with fail
          go_ret
          exact ⟨ret_bool (print_no l k (by have := HN.out; omega) (by rw [← HB.out]; exact HP.out)).symm, rfl⟩
    · go_wp2_with fail
      go_ret
      exact ⟨ret_bool (print_yes l (fun j hj => HA.out j hj (by have := HN.out; omega))).symm, rfl⟩
def CheckR (t mx : Int) (l : List UInt8) (w : World) (e : Ending) (w' : World) : Prop := e = .returned (.int .i64 (checkE t mx l)) ∧ Below w.heap.size w w'
theorem ty_check (t mx : Int) (A : Option Addr) (n c : Nat) (l : List UInt8) (w : World) (hn : n = l.length) (hc : n ≤ c) (hl : n ≤ 35184372088832) (hs : Sl w A (l.map bv)) :
    Calls Tryz.prog 126 #[.int .i64 t, .int .i64 mx, .slice A n c] w (CheckR t mx l w) := by
  have H := hide (known_of_cmp (t := t))
  by_cases hk : tyKnown t = false
  · have HC := hide (show checkE t mx l = 15 by simp [checkE, hk])
    have hz : (tyNm t).toList = [] ∧ tySize t = 0 ∧ tyBits t = 0 ∧ tySigned t = false := by
      have h1 : (tyNm t).toList = [] := by
        refine Classical.byContradiction fun h => ?_
        have := H.out.1 h
        rw [hk] at this
        cases this
      obtain ⟨h2, h3, h4, _⟩ := H.out.2 h1
      exact ⟨h1, h2, h3, h4⟩
    obtain ⟨z1, z2, z3, z4⟩ := hz
    clear hk
    go_enter Tryz.func126, Tryz.ntmps126
    go_wp2_with fail
    refine (ty_of t _).mono ?_
    rintro e w1 ⟨rfl, hb1⟩
    go_wp2_with fail
    go_ret
    exact ⟨ret_int HC.out.symm, (by repeat' (first | with_reducible assumption | with_reducible exact Below.refl _ _ | with_reducible apply below_alloc | with_reducible apply below_drew1 | with_reducible apply below_drewN | (with_reducible apply below_step; with_reducible assumption) | (with_reducible apply below_sg2; (first | exact Nat.le_refl _ | (simp; done) | omega))))⟩
  have hk' : tyKnown t = true := by simpa using hk
  have hz : ¬ (tyNm t).toList = [] := by
    intro h
    have := (H.out.2 h).2.2.2
    rw [hk'] at this
    cases this
  by_cases hb : 0 < tyBits t
  · have HC := hide (show checkE t mx l = decE t l by simp [checkE, hk', hb])
    clear hk hk'
    go_enter Tryz.func126, Tryz.ntmps126
    go_wp2_with fail
    refine (ty_of t _).mono ?_
    rintro e w1 ⟨rfl, hb1⟩
    have HD := hide (ty_decode t A n c l (w1.alloc (.cells #[.string (tyNm t), .int .i64 (tySize t), .int .i64 (tyBits t), .bool (tySigned t)] 192)) hn hc hl ((hs.below hb1).alloc _))
    clear hn
    go_wp2_with fail
    refine HD.out.mono ?_
    rintro e w2 ⟨rfl, hb2⟩
    go_wp2_with fail
    go_ret
    exact ⟨ret_int HC.out.symm, (by repeat' (first | with_reducible assumption | with_reducible exact Below.refl _ _ | with_reducible apply below_alloc | with_reducible apply below_drew1 | with_reducible apply below_drewN | (with_reducible apply below_step; with_reducible assumption) | (with_reducible apply below_sg2; (first | exact Nat.le_refl _ | (simp; done) | omega))))⟩
  have HC := hide (show checkE t mx l = if mx < (l.length : Int) ∨ 256 < l.length then 3 else if t = 9 ∧ printB l = false then 4 else 0 by simp [checkE, hk', hb])
  have HN := hide hn
  clear hk hk' hn
  by_cases hbig : mx < (n : Int) ∨ 256 < n
  · have HB := hide hbig
    by_cases hq : 256 < mx
    all_goals
      first | (have hq2 : (256 : Int) < (n : Int) := by omega) | (have hq2 : mx < (n : Int) := by omega)
      clear hbig
      go_enter Tryz.func126, Tryz.ntmps126
      go_wp2_with fail
      refine (ty_of t _).mono ?_
      rintro e w1 ⟨rfl, hb1⟩
      go_wp2_with fail
      go_ret
      refine ⟨ret_int ?_, (by repeat' (first | with_reducible assumption | with_reducible exact Below.refl _ _ | with_reducible apply below_alloc | with_reducible apply below_drew1 | with_reducible apply below_drewN | (with_reducible apply below_step; with_reducible assumption) | (with_reducible apply below_sg2; (first | exact Nat.le_refl _ | (simp; done) | omega))))⟩
      rw [HC.out, if_pos (by have := HN.out; have := HB.out; omega)]
  · have hn1 : (n : Int) ≤ mx := by omega
    have hn2 : (n : Int) ≤ 256 := by omega
    have HNB : Hid (¬ (mx < (l.length : Int) ∨ 256 < l.length)) := hide (by have := HN.out; omega)
    clear hbig
    by_cases h9 : t = 9
    · subst h9
      cases hpr : printB l
      all_goals
        have HP := hide hpr
        clear hpr
        by_cases hq : 256 < mx
        all_goals
          go_enter Tryz.func126, Tryz.ntmps126
          go_wp2_with fail
          refine (ty_of _ _).mono ?_
          rintro e w1 ⟨rfl, hb1⟩
          go_wp2_with fail
          refine (ty_printed A n c l _ HN.out hl ((hs.below hb1).alloc _)).mono ?_
          rintro e w2 ⟨rfl, rfl⟩
          rw [HP.out]
          go_wp2_with fail
          go_ret
          refine ⟨ret_int ?_, (by repeat' (first | with_reducible assumption | with_reducible exact Below.refl _ _ | with_reducible apply below_alloc | with_reducible apply below_drew1 | with_reducible apply below_drewN | (with_reducible apply below_step; with_reducible assumption) | (with_reducible apply below_sg2; (first | exact Nat.le_refl _ | (simp; done) | omega))))⟩
          rw [HC.out, if_neg HNB.out, HP.out]
          rfl
    · have H9 : Hid (t ≠ 9) := hide h9
      have h9' : (t == 9) = false := by simpa using h9
      clear h9
      by_cases hq : 256 < mx
      all_goals
        go_enter Tryz.func126, Tryz.ntmps126
        go_wp2_with fail
        refine (ty_of _ _).mono ?_
        rintro e w1 ⟨rfl, hb1⟩
        go_wp2_with fail
        go_ret
        refine ⟨ret_int ?_, (by repeat' (first | with_reducible assumption | with_reducible exact Below.refl _ _ | with_reducible apply below_alloc | with_reducible apply below_drew1 | with_reducible apply below_drewN | (with_reducible apply below_step; with_reducible assumption) | (with_reducible apply below_sg2; (first | exact Nat.le_refl _ | (simp; done) | omega))))⟩
        rw [HC.out, if_neg HNB.out, if_neg (fun h => H9.out h.1)]
end
end
end Go.Proofs.YtehabbnohoomjaaGreatDoor
namespace Go.Proofs.YtehabbnohoomjaaGreatDoor
section
set_option linter.unusedVariables false
set_option linter.unusedSimpArgs false
set_option linter.unnecessarySimpa false
open Go.RowKit
set_option maxRecDepth 100000
set_option maxHeartbeats 2000000

theorem ent_letter (c : Nat) (w : World) : Calls Tryz.prog 137 #[.int .u8 (c : Nat)] w fun e w' => e = .returned (.bool (letterB c)) ∧ w = w' := by
  go_enter Tryz.func137, Tryz.ntmps137
  go_wp2_with fail
  all_goals
    go_ret
    exact ⟨ret_bool (by rw [Bool.eq_iff_iff]; simp_all [letterB]; try omega), rfl⟩
theorem ent_inner (c : Nat) (w : World) : Calls Tryz.prog 138 #[.int .u8 (c : Nat)] w fun e w' => e = .returned (.bool (innerB c)) ∧ w = w' := by
  cases hl : letterB c
  all_goals
    have HL := hide hl
    clear hl
    go_enter Tryz.func138, Tryz.ntmps138
    go_wp2_with fail
    refine (ent_letter c _).mono ?_
    rintro e w1 ⟨rfl, rfl⟩
    rw [HL.out]
    go_wp2_with fail
    all_goals
      go_ret
      exact ⟨ret_bool (by have := HL.out; rw [Bool.eq_iff_iff]; simp_all [innerB]; try omega), rfl⟩
theorem nil_size (s : ByteArray) (h : s.size = 0) : s.toList = [] := by
  rw [toList_nil_iff_emptyBytes]
  obtain ⟨⟨l⟩⟩ := s
  have : l.length = 0 := h
  rw [List.eq_nil_of_length_eq_zero this]
  rfl
theorem some_size (s : ByteArray) (h : 0 < s.size) : ¬ s.toList = [] := by
  rw [toList_nil_iff_emptyBytes]
  rintro rfl
  exact absurd h (by decide)
theorem ent_name (s : ByteArray) (w : World) (hsz : s.size ≤ 9223372036854775807) : Calls Tryz.prog 99 #[.string s] w fun e w' => e = .returned (.bool (nameB s)) ∧ w = w' := by
  by_cases h0 : s.size = 0
  · have HR : Hid (nameB s = false) := hide (by simp [nameB, h0])
    have hnil := nil_size s h0
    clear h0
    go_enter Tryz.func99, Tryz.ntmps99
    go_wp2_with fail
    go_ret
    exact ⟨ret_bool HR.out.symm, rfl⟩
  have hp : 0 < s.size := by omega
  have hnn := some_size s hp
  have hne : s.toList.isEmpty = false := by simpa using hnn
  by_cases h16 : 16 < s.size
  · have HR : Hid (nameB s = false) := hide (by simp [nameB]; intro _ h; omega)
    clear h0
    go_enter Tryz.func99, Tryz.ntmps99
    go_wp2_with fail
    go_ret
    exact ⟨ret_bool HR.out.symm, rfl⟩
  have h16' : s.size ≤ 16 := by omega
  cases hl : letterB (s[0]).toNat
  · have HR : Hid (nameB s = false) := hide (by simp only [nameB, head_at s hp, hl]; simp)
    have HL := hide hl
    clear h0 hl h16
    go_enter Tryz.func99, Tryz.ntmps99
    go_wp2_with fail
    refine (ent_letter _ _).mono ?_
    rintro e w1 ⟨rfl, rfl⟩
    rw [HL.out]
    go_wp2_with fail
    go_ret
    exact ⟨ret_bool HR.out.symm, rfl⟩
  · have HR : Hid ((∀ k (hk : k < s.size), innerB (s[k]).toNat = true) → nameB s = true) := hide (by intro h; simp only [nameB, head_at s hp, hl, all_yes s h]; simp [h0, h16'])
    have HL := hide hl
    clear h0 hl h16
    go_enter Tryz.func99, Tryz.ntmps99
    go_wp2_with fail
    refine (ent_letter _ _).mono ?_
    rintro e w1 ⟨rfl, rfl⟩
    rw [HL.out]
    go_wp2_with fail
    go_loop [3, 19] (fun _ i => ∃ k : Nat, k ≤ s.size ∧ i = .int .i64 k ∧ Hid (∀ j (hj : j < s.size), j < k → innerB (s[j]).toNat = true)) (fun _ i => s.size - (intOf i).toNat)
    case atStart => exact ⟨0, by omega, rfl, hide (by intro j _ h; omega)⟩
    case round =>
      obtain ⟨k, hk, rfl, HA⟩ := hrel
      by_cases hlt : k < s.size
      · cases hi : innerB (s[k]).toNat
        · have HI := hide hi
          clear hi
          go_wp2_with fail
          refine (ent_inner _ _).mono ?_
          rintro e w1 ⟨rfl, rfl⟩
          rw [HI.out]
          go_wp2_with fail
          go_ret
          exact ⟨ret_bool (name_no s k hlt HI.out).symm, rfl⟩
        · have HI := hide hi
          clear hi
          go_wp2_with fail
          refine (ent_inner _ _).mono ?_
          rintro e w1 ⟨rfl, rfl⟩
          rw [HI.out]
          go_wp2_with fail
          go_round
          case rel =>
            refine ⟨k + 1, by omega, by go_num, hide ?_⟩
            intro j hj hjk
            by_cases e : j = k
            · subst e; exact HI.out
            · exact HA.out j hj (by omega)
          case measure => simp [intOf]; omega
      · go_wp2_with fail
        go_ret
        exact ⟨ret_bool (HR.out (fun j hj => HA.out j hj (by omega))).symm, rfl⟩
theorem ent_flags (E : Ent) (A : Option Addr) (n c : Nat) (w : World) : Calls Tryz.prog 101 #[.agg (entV E A n c)] w fun e w' => e = .returned (.bool (flagsB E.acc E.st E.mp)) ∧ Below w.heap.size w w' := by
  obtain ⟨ix, sub, nm, ty, acc, mp, st, mx, lo, hi, df⟩ := E
  unfold entV
  go_enter Tryz.func101, Tryz.ntmps101
  go_wp2_with fail
  all_goals (go_ret; exact ⟨ret_bool (by simp_all [flagsB]), below_alloc (Below.refl _ _) _⟩)
theorem ent_numbered (E : Ent) (A : Option Addr) (n c : Nat) (w : World) : Calls Tryz.prog 102 #[.agg (entV E A n c), .int .i64 (tyLow E.ty), .int .i64 (tyHigh E.ty)] w fun e w' => e = .returned (.bool (numberedB E.ty E.mx E.lo E.hi)) ∧ Below w.heap.size w w' := by
  obtain ⟨ix, sub, nm, ty, acc, mp, st, mx, lo, hi, df⟩ := E
  unfold entV
  go_enter Tryz.func102, Tryz.ntmps102
  go_wp2_with fail
  all_goals (go_ret; exact ⟨ret_bool (by rw [Bool.eq_iff_iff]; simp_all [numberedB]; try omega), below_alloc (Below.refl _ _) _⟩)
theorem ent_sized (E : Ent) (A : Option Addr) (n c : Nat) (w : World) : Calls Tryz.prog 103 #[.agg (entV E A n c)] w fun e w' => e = .returned (.bool (sizedB E.mp E.mx E.lo E.hi)) ∧ Below w.heap.size w w' := by
  obtain ⟨ix, sub, nm, ty, acc, mp, st, mx, lo, hi, df⟩ := E
  unfold entV
  go_enter Tryz.func103, Tryz.ntmps103
  go_wp2_with fail
  all_goals (go_ret; exact ⟨ret_bool (by rw [Bool.eq_iff_iff]; simp_all [sizedB]; try omega), below_alloc (Below.refl _ _) _⟩)
end
end Go.Proofs.YtehabbnohoomjaaGreatDoor

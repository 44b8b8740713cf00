/- Proved: for every input, law BlockUp answers true, and what was handed in reads as it did. No condition. -/
import Derived.Test.YtimdmhhgomfijaaBlkU
import Derived.Test.YtimdmhhgomfijaaBlkN
import Derived.Test.YtimdmhhgomfijaaOpenV
import Derived.Test.YtimdmhhgomfijaaOpenB
namespace Go.Proofs.Ytimdmhhgomfijaa
set_option linter.unusedVariables false
set_option linter.unusedSimpArgs false
set_option linter.unnecessarySimpa false
open Go.RowKit
set_option maxRecDepth 100000
set_option maxHeartbeats 40000000
theorem sle_oneu {w : World} {g : Nat} {E : Ent} {A : Option Addr} {n c : Nat} (hB : Blk w g 24 (entV E A n c)) (hn : n = E.df.length) (hc : n ≤ c) (hs : Sl w A (E.df.map bv)) : SlE w (some ⟨g, 0, none⟩) [E] := by
  intro j E' hj
  have hj0 : j = 0 := by
    have := (List.getElem?_eq_some_iff.1 hj).1
    simp at this
    exact this
  subst hj0
  injection hj with hj
  subst hj
  subst hn
  exact ⟨g, 0, A, c, rfl, ⟨hB.cell 0 rfl, hB.cell 1 rfl, hB.cell 2 rfl, hB.cell 3 rfl, hB.cell 4 rfl, hB.cell 5 rfl, hB.cell 6 rfl, hB.cell 7 rfl, hB.cell 8 rfl, hB.cell 9 rfl, hB.cell 10 rfl⟩, hc, hs⟩
/-- the outer loop's beginning -/
def BUL (w2 : World) (E : Ent) (cr : Bool) (n5 p pd x0 em sumv : Nat) (vt vg vd vi : Value) (W : World) : Prop :=
  ∃ (i h t : Nat) (Ag : Option Addr) (ng cg : Nat), vi = .int .i64 (i : Nat) ∧ vt = .int .i64 (t : Nat) ∧ vg = .slice Ag ng cg ∧ 1 ≤ t ∧ t ≤ 100 ∧ i ≤ n5 + h ∧ h ≤ btotal E.df ∧ Only (fun q => q = p) w2 W ∧ OwnB W (x0 + 1) Ag ng cg (padU E.df h) ∧ x0 < W.heap.size ∧
    ((vd = .bool false ∧ h < btotal E.df ∧ ∃ (r N N2 : Nat) (As : Option Addr) (cs : Nat) (ds : List (Option Addr × Nat)), 1 ≤ r ∧ r ≤ t ∧ h + r ≤ btotal E.df ∧ x0 < N ∧ N2 ≤ W.heap.size ∧ BV_ W (fun q => q < x0) p pd (⟨0, 0, 0, ((h : Nat) : Int), ((t : Nat) : Int), ((r : Nat) : Int), 5, E.ix, E.sub, E.df, cr⟩ : BlkS) ∧ Blk W x0 44 (outV As r cs outZ none 0 0) ∧ OwnM W (fun g => N ≤ g ∧ g < N2) As r cs (bgiveT (btotal E.df) h E.df r) ds ∧ (∀ g, Ag = some ⟨g, 0, none⟩ → ¬ (N ≤ g ∧ g < N2))) ∨
     (vd = .bool true ∧ h = btotal E.df ∧ ∃ (t2 : Nat) (ro : Int) (g : Nat) (Ao : Option Addr) (no co : Nat) (Ad : Option Addr) (nd cd : Nat), BV_ W (fun _ => True) p pd (⟨0, 0, 0, ((h : Nat) : Int), ((t2 : Nat) : Int), ro, 6, E.ix, E.sub, E.df, cr⟩ : BlkS) ∧ Blk W x0 44 (outV (some ⟨g, 0, none⟩) 1 1 (outM (bendM ((em : Nat) : Int) sumv)) Ao no co) ∧ Blk W g 39 (msV (bendM ((em : Nat) : Int) sumv) Ad nd cd)))
/-- the inner loop's beginning -/
def BUI (w2 : World) (E : Ent) (cr : Bool) (p pd x0 h t r nq N N2 : Nat) (As : Option Addr) (cs : Nat) (ds : List (Option Addr × Nat)) (vg vd vk : Value) (W : World) : Prop :=
  ∃ (k : Nat) (Ag : Option Addr) (ng cg : Nat) (bd : Bool), vk = .int .i64 (k : Nat) ∧ vg = .slice Ag ng cg ∧ vd = .bool bd ∧ (bd = true ↔ h + min k nq = btotal E.df) ∧ k ≤ r ∧ OwnB W (x0 + 1) Ag ng cg (padU E.df (h + min k nq)) ∧ (∀ g, Ag = some ⟨g, 0, none⟩ → ¬ (N ≤ g ∧ g < N2)) ∧ Only (fun q => q = p) w2 W ∧ BV_ W (fun q => q < x0) p pd (⟨0, 0, 0, ((h : Nat) : Int), ((t : Nat) : Int), ((r : Nat) : Int), 5, E.ix, E.sub, E.df, cr⟩ : BlkS) ∧ Blk W x0 44 (outV As r cs outZ none 0 0) ∧ OwnM W (fun g => N ≤ g ∧ g < N2) As r cs (bgiveT (btotal E.df) h E.df r) ds ∧ N2 ≤ W.heap.size
theorem bui_grow {w2 W W6 : World} {E : Ent} {cr : Bool} {p pd x0 h t r nq N N2 : Nat} {As : Option Addr} {cs : Nat} {ds : List (Option Addr × Nat)} {Ag A6 : Option Addr} {ng cg n6 c6 k : Nat} {bd : Bool} {l : List UInt8}
    (h7 : OwnB W (x0 + 1) Ag ng cg l) (hAN : ∀ g, Ag = some ⟨g, 0, none⟩ → ¬ (N ≤ g ∧ g < N2)) (hO : Only (fun q => q = p) w2 W) (hV : BV_ W (fun q => q < x0) p pd (⟨0, 0, 0, ((h : Nat) : Int), ((t : Nat) : Int), ((r : Nat) : Int), 5, E.ix, E.sub, E.df, cr⟩ : BlkS)) (hK : Blk W x0 44 (outV As r cs outZ none 0 0)) (hM : OwnM W (fun g => N ≤ g ∧ g < N2) As r cs (bgiveT (btotal E.df) h E.df r) ds) (hN2 : N2 ≤ W.heap.size) (hx : w2.heap.size ≤ x0) (hp : p < w2.heap.size)
    (h6 : OwnB W6 (x0 + 1) A6 n6 c6 (padU E.df (h + min (k + 1) nq))) (hg : W.grownBy W6 (Value.ownBlock (.slice Ag ng cg))) (hA : A6 = Ag ∨ A6 = some ⟨W.heap.size, 0, none⟩) (hb6 : Below (x0 + 1) W W6) (hkr : k + 1 ≤ r) (hbd : bd = true ↔ h + min (k + 1) nq = btotal E.df) (vk : Value) (hvk : vk = .int .i64 ((k + 1 : Nat) : Int)) :
    BUI w2 E cr p pd x0 h t r nq N N2 As cs ds (.slice A6 n6 c6) (.bool bd) vk W6 := by
  have ho : Only (fun q => Ag = some ⟨q, 0, none⟩) W W6 := Only.of_grown hg (fun q hq => by
    rcases h7.own.shape with ⟨rfl, _, _⟩ | ⟨q', rfl, _, _⟩
    · simp [Value.ownBlock] at hq
    · simp [Value.ownBlock] at hq
      subst hq
      rfl)
  refine ⟨k + 1, A6, n6, c6, bd, hvk, rfl, rfl, hbd, hkr, h6, ?_, ⟨hb6.os.trans hO.os, hb6.tape.trans hO.tape, hb6.output.trans hO.output, Nat.le_trans hO.size ho.size, fun i hi hF => (hb6.block i (by omega)).trans (hO.block i hi hF)⟩, hV.keep (fun q hq _ => hb6.block q (by rcases hq with rfl | hq <;> omega)) ho.size (fun _ _ h => h), (hb6.block _ (Nat.lt_succ_self _)).trans hK, hM.keep (fun g hg2 hlt => ho.block g hlt (fun e => hAN g e hg2)), Nat.le_trans hN2 ho.size⟩
  rcases hA with rfl | rfl
  · exact hAN
  · intro g e
    injection e with e
    injection e with e
    omega
theorem cell_grown {w w6 : World} {B : Nat} {Ag : Option Addr} {ng cg : Nat} {l : List UInt8} {g off : Nat} {u : Value} (h7 : OwnB w B Ag ng cg l) (hg : w.grownBy w6 (Value.ownBlock (.slice Ag ng cg))) (hlt : g < w.heap.size) (hne : ∀ q, Ag = some ⟨q, 0, none⟩ → q ≠ g) (hc : w.cell? ⟨g, off, none⟩ = some u) : w6.cell? ⟨g, off, none⟩ = some u := by
  have ho : Only (fun q => Ag = some ⟨q, 0, none⟩) w w6 := Only.of_grown hg (fun q hq => by
    rcases h7.own.shape with ⟨rfl, _, _⟩ | ⟨q', rfl, _, _⟩
    · simp [Value.ownBlock] at hq
    · simp [Value.ownBlock] at hq
      subst hq
      rfl)
  rw [← hc]
  unfold World.cell?
  rw [ho.block g hlt (fun e => hne g e rfl)]
theorem bul_end {w2 wr w5 : World} {E : Ent} {cr : Bool} {n5 p pd x0 em sumv t i h nq r ng cg ns cs g5 no5 co5 nd5 cd5 : Nat} {Ag As Ao5 Ad5 : Option Addr} {X5 : Nat → Prop} (ht1 : 1 ≤ t) (ht2 : t ≤ 100) (hpro : i + 1 ≤ n5 + (h + nq)) (hfin : h + nq = btotal E.df) (hO2 : Only (fun q => q = p) w2 wr) (ho5 : Only (fun q => q = p) wr w5) (hx2 : w2.heap.size ≤ x0) (hG3 : OwnB wr (x0 + 1) Ag ng cg (padU E.df (h + nq))) (hpw : p < w2.heap.size) (hxr : x0 < wr.heap.size)
    (hk5 : Blk w5 x0 44 (outV As ns cs outZ none 0 0)) (hS5 : BV_ w5 (fun g => (g < x0 ∨ wr.heap.size ≤ g) ∧ ¬ X5 g) p pd (⟨0, 0, 0, (((h + nq : Nat) : Nat) : Int), ((t : Nat) : Int), ((r : Nat) : Int), 6, E.ix, E.sub, E.df, cr⟩ : BlkS)) (hM5 : Blk w5 g5 39 (msV (bendM ((em : Nat) : Int) sumv) Ad5 nd5 cd5)) (hg5 : wr.heap.size ≤ g5) :
    BUL w2 E cr n5 p pd x0 em sumv (.int .i64 (t : Nat)) (.slice Ag ng cg) (.bool true) (.int .i64 ((i : Int) + 1)) (putO w5 x0 (some ⟨g5, 0, none⟩) 1 1 (outM (bendM ((em : Nat) : Int) sumv)) Ao5 no5 co5) := by
  refine ⟨i + 1, h + nq, t, Ag, ng, cg, by push_cast; rfl, rfl, rfl, ht1, ht2, hpro, by omega, putO_only (hO2.trans ho5 (fun _ _ h => h)) hx2 _ _ _ _ _ _ _, putO_own (ownB_only hG3 ho5 (fun q h1 _ (e : q = p) => by omega)) (by omega) _ _ _ _ _ _ _, by rw [putO_size]; exact hk5.lt, .inr ⟨rfl, hfin, t, ((r : Nat) : Int), g5, Ao5, no5, co5, Ad5, nd5, cd5, ?_, putO_blk hk5, putO_far hM5 (by omega) _ _ _ _ _ _ _⟩⟩
  exact hS5.keep (fun q hq _ => putO_heap (by rcases hq with rfl | hq; omega; (rcases hq.1 with h | h <;> omega)) _ _ _ _ _ _ _) (by rw [putO_size]; exact Nat.le_refl _) (fun _ _ _ => trivial)
theorem bul_more {w2 wr w5 : World} {E : Ent} {cr : Bool} {n5 p pd x0 em sumv t i h nq ns5 ng cg ns cs cs5 : Nat} {Ag As As5 : Option Addr} {ds5 : List (Option Addr × Nat)} (ht1 : 1 ≤ t) (ht2 : t ≤ 100) (hpro : i + 1 ≤ n5 + (h + nq)) (hlt : h + nq < btotal E.df) (hr1 : 1 ≤ ns5) (hr2 : h + nq + ns5 ≤ btotal E.df) (hr3 : ns5 ≤ t) (hO2 : Only (fun q => q = p) w2 wr) (ho5 : Only (fun q => q = p) wr w5) (hx2 : w2.heap.size ≤ x0) (hG3 : OwnB wr (x0 + 1) Ag ng cg (padU E.df (h + nq))) (hpw : p < w2.heap.size) (hxr : x0 < wr.heap.size)
    (hk5 : Blk w5 x0 44 (outV As ns cs outZ none 0 0)) (hV5 : BV_ w5 (fun q => q < x0) p pd (⟨0, 0, 0, (((h + nq : Nat) : Nat) : Int), ((t : Nat) : Int), ((ns5 : Nat) : Int), 5, E.ix, E.sub, E.df, cr⟩ : BlkS)) (hOM5 : OwnM w5 (fun g => wr.heap.size ≤ g) As5 ns5 cs5 (bgiveT (btotal E.df) (h + nq) E.df ns5) ds5) :
    BUL w2 E cr n5 p pd x0 em sumv (.int .i64 (t : Nat)) (.slice Ag ng cg) (.bool false) (.int .i64 ((i : Int) + 1)) (putO w5 x0 As5 ns5 cs5 outZ none 0 0) := by
  refine ⟨i + 1, h + nq, t, Ag, ng, cg, by push_cast; rfl, rfl, rfl, ht1, ht2, hpro, by omega, putO_only (hO2.trans ho5 (fun _ _ h => h)) hx2 _ _ _ _ _ _ _, putO_own (ownB_only hG3 ho5 (fun q h1 _ (e : q = p) => by omega)) (by omega) _ _ _ _ _ _ _, by rw [putO_size]; exact hk5.lt, .inl ⟨rfl, hlt, ns5, wr.heap.size, w5.heap.size, As5, cs5, ds5, hr1, hr3, hr2, hxr, by rw [putO_size]; exact Nat.le_refl _, ?_, putO_blk hk5, ?_, ?_⟩⟩
  · exact hV5.keep (fun q hq _ => putO_heap (by rcases hq with rfl | hq <;> omega) _ _ _ _ _ _ _) (by rw [putO_size]; exact Nat.le_refl _) (fun _ _ h => h)
  · exact (hOM5.keep (fun g hg _ => putO_heap (show g ≠ x0 by omega) _ _ _ _ _ _ _)).mono (fun g hg h => ⟨h, by rw [putO_size] at hg; exact hg⟩)
  · intro q e hq
    rcases hG3.own.shape with ⟨h1, _, _⟩ | ⟨q', h1, _, h3⟩
    · rw [e] at h1
      cases h1
    · rw [e] at h1
      injection h1 with h1
      injection h1 with h1
      have := hq.1
      omega
theorem blockUp_walk (E : Ent) (A : Option Addr) (n c : Nat) (A2 : Option Addr) (n2 c2 : Nat) (A4 : Option Addr) (n4 c4 : Nat) (cr s : Bool) (tk : List UInt8) (A5 : Option Addr) (n5 c5 : Nat) (w : World) (hn : n = E.df.length) (hc : n ≤ c) (hx : E.nm.size ≤ 9223372036854775807) (hs : Sl w A (E.df.map bv))
    (hn5 : n5 = tk.length) (hs5 : Sl w A5 (tk.map bv)) : Calls Try.prog 7 #[.agg (bsenuV E A n c A2 n2 c2 A4 n4 c4 cr s A5 n5 c5)] w (TrueB w) := by
  have q0 := blk_one w 59 (bsenuV E A n c A2 n2 c2 A4 n4 c4 cr s A5 n5 c5)
  have hbw0 := below_alloc (Below.refl w.heap.size w) (.cells (bsenuV E A n c A2 n2 c2 A4 n4 c4 cr s A5 n5 c5) 59)
  obtain ⟨q1, q2⟩ := blk_two w 59 24 (bsenuV E A n c A2 n2 c2 A4 n4 c4 cr s A5 n5 c5) (entV E A n c)
  have hbw2 := below_alloc hbw0 (.cells (entV E A n c) 24)
  have q3 := Blk.new ((w.alloc (.cells (bsenuV E A n c A2 n2 c2 A4 n4 c4 cr s A5 n5 c5) 59)).alloc (.cells (entV E A n c) 24)) 24 (entV E A n c)
  rw [show ((w.alloc (.cells (bsenuV E A n c A2 n2 c2 A4 n4 c4 cr s A5 n5 c5) 59)).alloc (.cells (entV E A n c) 24)).heap.size = w.heap.size + 2 by simp] at q3
  have hbw3 := below_alloc hbw2 (.cells (entV E A n c) 24)
  have HSE := hide (sle_oneu q3 hn hc (hs.below hbw3))
  have HQ1 := hide (q1.alloc (.cells (entV E A n c) 24))
  have HQ2 := hide (q2.alloc (.cells (entV E A n c) 24))
  have HB2 := hide hbw2
  have HB3 := hide hbw3
  have HN := hide hn
  have HS := hide hs
  have HN5 := hide hn5
  have HS5 := hide hs5
  clear hn q0 q3 hbw0 hbw2 hbw3 hs hn5 hs5
  unfold bsenuV entV at q1 HB2 HB3 HSE HQ1 HQ2
  unfold entV at q2
  unfold bsenuV at q2
  unfold bsenuV
  have hzz : w.heap.size < (w.heap.size + 1) := Nat.lt_succ_self _
  have q1_c0 := q1.cell 0 rfl
  have q1_f0 := q1.frozen 0
  have q1_c1 := q1.cell 1 rfl
  have q1_f1 := q1.frozen 1
  have q1_c2 := q1.cell 2 rfl
  have q1_f2 := q1.frozen 2
  have q1_c3 := q1.cell 3 rfl
  have q1_f3 := q1.frozen 3
  have q1_c4 := q1.cell 4 rfl
  have q1_f4 := q1.frozen 4
  have q1_c5 := q1.cell 5 rfl
  have q1_f5 := q1.frozen 5
  have q1_c6 := q1.cell 6 rfl
  have q1_f6 := q1.frozen 6
  have q1_c7 := q1.cell 7 rfl
  have q1_f7 := q1.frozen 7
  have q1_c8 := q1.cell 8 rfl
  have q1_f8 := q1.frozen 8
  have q1_c9 := q1.cell 9 rfl
  have q1_f9 := q1.frozen 9
  have q1_c10 := q1.cell 10 rfl
  have q1_f10 := q1.frozen 10
  have q1_c11 := q1.cell 11 rfl
  have q1_f11 := q1.frozen 11
  have q1_c12 := q1.cell 12 rfl
  have q1_f12 := q1.frozen 12
  have q1_c13 := q1.cell 13 rfl
  have q1_f13 := q1.frozen 13
  have q1_c14 := q1.cell 14 rfl
  have q1_f14 := q1.frozen 14
  have q1_c15 := q1.cell 15 rfl
  have q1_f15 := q1.frozen 15
  have q2_c0 := q2.cell 0 rfl
  have q2_f0 := q2.frozen 0
  have q2_c1 := q2.cell 1 rfl
  have q2_f1 := q2.frozen 1
  have q2_c2 := q2.cell 2 rfl
  have q2_f2 := q2.frozen 2
  have q2_c3 := q2.cell 3 rfl
  have q2_f3 := q2.frozen 3
  have q2_c4 := q2.cell 4 rfl
  have q2_f4 := q2.frozen 4
  have q2_c5 := q2.cell 5 rfl
  have q2_f5 := q2.frozen 5
  have q2_c6 := q2.cell 6 rfl
  have q2_f6 := q2.frozen 6
  have q2_c7 := q2.cell 7 rfl
  have q2_f7 := q2.frozen 7
  have q2_c8 := q2.cell 8 rfl
  have q2_f8 := q2.frozen 8
  have q2_c9 := q2.cell 9 rfl
  have q2_f9 := q2.frozen 9
  have q2_c10 := q2.cell 10 rfl
  have q2_f10 := q2.frozen 10
  by_cases h1000 : 1000 < n
  · go_enter Try.func7, Try.ntmps7
    go_wp2_with fail
    refine (known_22 _).mono ?_
    rintro e w1 ⟨rfl, hb1⟩
    go_wp2_with fail
    go_ret
    exact (⟨rfl, below_step hb1 HB2.out⟩ : TrueB w _ _)
  by_cases h300 : 300 < n5
  · go_enter Try.func7, Try.ntmps7
    go_wp2_with fail
    refine (known_22 _).mono ?_
    rintro e w1 ⟨rfl, hb1⟩
    go_wp2_with fail
    go_ret
    exact (⟨rfl, below_step hb1 HB2.out⟩ : TrueB w _ _)
  go_enter Try.func7, Try.ntmps7
  go_wp2_with fail
  refine (dict_new _ 1 1 [E] _ rfl HSE.out (by intro E' h; simp at h; subst h; exact ⟨by have := HN.out; omega, hx⟩)).mono ?_
  rintro e w1 ⟨v, er, at_, rfl, hnp, hv0, h0, hb1⟩
  have HNP := hide hnp
  have HBW1 := hide (below_step hb1 HB3.out)
  have HE1 := hide (HQ2.out.below hb1 HQ2.out.lt)
  have HQ3 := hide (HQ1.out.below hb1 HQ1.out.lt)
  have qq := HQ3.out
  have qe := HE1.out
  clear q1_c0 q1_f0 q1_c1 q1_f1 q1_c2 q1_f2 q1_c3 q1_f3 q1_c4 q1_f4 q1_c5 q1_f5 q1_c6 q1_f6 q1_c7 q1_f7 q1_c8 q1_f8 q1_c9 q1_f9 q1_c10 q1_f10 q1_c11 q1_f11 q1_c12 q1_f12 q1_c13 q1_f13 q1_c14 q1_f14 q1_c15 q1_f15
  clear q2_c0 q2_f0 q2_c1 q2_f1 q2_c2 q2_f2 q2_c3 q2_f3 q2_c4 q2_f4 q2_c5 q2_f5 q2_c6 q2_f6 q2_c7 q2_f7 q2_c8 q2_f8 q2_c9 q2_f9 q2_c10 q2_f10
  clear q1 q2 hnp hb1
  have qq_c0 := qq.cell 0 rfl
  have qq_f0 := qq.frozen 0
  have qq_c1 := qq.cell 1 rfl
  have qq_f1 := qq.frozen 1
  have qq_c2 := qq.cell 2 rfl
  have qq_f2 := qq.frozen 2
  have qq_c3 := qq.cell 3 rfl
  have qq_f3 := qq.frozen 3
  have qq_c4 := qq.cell 4 rfl
  have qq_f4 := qq.frozen 4
  have qq_c5 := qq.cell 5 rfl
  have qq_f5 := qq.frozen 5
  have qq_c6 := qq.cell 6 rfl
  have qq_f6 := qq.frozen 6
  have qq_c7 := qq.cell 7 rfl
  have qq_f7 := qq.frozen 7
  have qq_c8 := qq.cell 8 rfl
  have qq_f8 := qq.frozen 8
  have qq_c9 := qq.cell 9 rfl
  have qq_f9 := qq.frozen 9
  have qq_c10 := qq.cell 10 rfl
  have qq_f10 := qq.frozen 10
  have qq_c11 := qq.cell 11 rfl
  have qq_f11 := qq.frozen 11
  have qq_c12 := qq.cell 12 rfl
  have qq_f12 := qq.frozen 12
  have qq_c13 := qq.cell 13 rfl
  have qq_f13 := qq.frozen 13
  have qq_c14 := qq.cell 14 rfl
  have qq_f14 := qq.frozen 14
  have qq_c15 := qq.cell 15 rfl
  have qq_f15 := qq.frozen 15
  have qe_c0 := qe.cell 0 rfl
  have qe_f0 := qe.frozen 0
  have qe_c1 := qe.cell 1 rfl
  have qe_f1 := qe.frozen 1
  have qe_c2 := qe.cell 2 rfl
  have qe_f2 := qe.frozen 2
  have qe_c3 := qe.cell 3 rfl
  have qe_f3 := qe.frozen 3
  have qe_c4 := qe.cell 4 rfl
  have qe_f4 := qe.frozen 4
  have qe_c5 := qe.cell 5 rfl
  have qe_f5 := qe.frozen 5
  have qe_c6 := qe.cell 6 rfl
  have qe_f6 := qe.frozen 6
  have qe_c7 := qe.cell 7 rfl
  have qe_f7 := qe.frozen 7
  have qe_c8 := qe.cell 8 rfl
  have qe_f8 := qe.frozen 8
  have qe_c9 := qe.cell 9 rfl
  have qe_f9 := qe.frozen 9
  have qe_c10 := qe.cell 10 rfl
  have qe_f10 := qe.frozen 10
  by_cases her : er = 0
  · obtain ⟨pd, gl, nn, cl, Av, cv, ds, es, rfl, hnn, hD⟩ := h0 her
    by_cases hac : E.acc = 3
    · go_wp2_with fail
      refine (known_22 _).mono ?_
      rintro e w2 ⟨rfl, hb2⟩
      go_wp2_with fail
      go_ret
      exact (⟨rfl, below_step hb2 HBW1.out⟩ : TrueB w _ _)
    · have hacq : (E.acc == 3) = false := by simp [hac]
      have HAC := hide hac
      subst her
      have HRT : Hid (ValsP1 E) := hide (right_one HNP.out)
      have HD : Hid (DB 75 w1 (fun g => g < w1.heap.size) pd (some ⟨gl, 0, none⟩) nn cl Av cv [E] [E.df] ds es) := hide (hD.mono (fun g h _ => h))
      have H1 : Hid (nn ≤ 1000) := hide (by rw [hnn]; simp)
      clear hD hnn h0 hv0 hac
      go_wp2_with fail
      refine (blk_new pd _).mono ?_
      rintro e w2 ⟨rfl, hB2, hb2, hz2⟩
      obtain ⟨p, hpp⟩ : ∃ p, p = w1.heap.size := ⟨_, rfl⟩
      rw [← hpp] at hB2 ⊢
      have HPP := hide hpp
      have HBW2 := hide (below_step hb2 HBW1.out)
      have HD2 := hide (HD.out.below hb2)
      have HQ4 := hide (HQ3.out.below hb2 HQ3.out.lt)
      have HE4 := hide (HE1.out.below hb2 HE1.out.lt)
      have HSv : Hid (BV_ w2 (fun _ => True) p pd blkZ) := hide ⟨none, 0, 0, hB2, fun h => absurd rfl h⟩
      have zp2 := hB2.lt
      have hwp : w.heap.size + 1 < p := by rw [hpp]; exact HE1.out.lt
      clear qq_c0 qq_f0 qq_c1 qq_f1 qq_c2 qq_f2 qq_c3 qq_f3 qq_c4 qq_f4 qq_c5 qq_f5 qq_c6 qq_f6 qq_c7 qq_f7 qq_c8 qq_f8 qq_c9 qq_f9 qq_c10 qq_f10 qq_c11 qq_f11 qq_c12 qq_f12 qq_c13 qq_f13 qq_c14 qq_f14 qq_c15 qq_f15
      clear qe_c0 qe_f0 qe_c1 qe_f1 qe_c2 qe_f2 qe_c3 qe_f3 qe_c4 qe_f4 qe_c5 qe_f5 qe_c6 qe_f6 qe_c7 qe_f7 qe_c8 qe_f8 qe_c9 qe_f9 qe_c10 qe_f10
      clear hb2 hz2 hB2 hpp qq qe
      have qq := HQ4.out
      have qe := HE4.out
      have qq_c0 := qq.cell 0 rfl
      have qq_f0 := qq.frozen 0
      have qq_c1 := qq.cell 1 rfl
      have qq_f1 := qq.frozen 1
      have qq_c2 := qq.cell 2 rfl
      have qq_f2 := qq.frozen 2
      have qq_c3 := qq.cell 3 rfl
      have qq_f3 := qq.frozen 3
      have qq_c4 := qq.cell 4 rfl
      have qq_f4 := qq.frozen 4
      have qq_c5 := qq.cell 5 rfl
      have qq_f5 := qq.frozen 5
      have qq_c6 := qq.cell 6 rfl
      have qq_f6 := qq.frozen 6
      have qq_c7 := qq.cell 7 rfl
      have qq_f7 := qq.frozen 7
      have qq_c8 := qq.cell 8 rfl
      have qq_f8 := qq.frozen 8
      have qq_c9 := qq.cell 9 rfl
      have qq_f9 := qq.frozen 9
      have qq_c10 := qq.cell 10 rfl
      have qq_f10 := qq.frozen 10
      have qq_c11 := qq.cell 11 rfl
      have qq_f11 := qq.frozen 11
      have qq_c12 := qq.cell 12 rfl
      have qq_f12 := qq.frozen 12
      have qq_c13 := qq.cell 13 rfl
      have qq_f13 := qq.frozen 13
      have qq_c14 := qq.cell 14 rfl
      have qq_f14 := qq.frozen 14
      have qq_c15 := qq.cell 15 rfl
      have qq_f15 := qq.frozen 15
      have qe_c0 := qe.cell 0 rfl
      have qe_f0 := qe.frozen 0
      have qe_c1 := qe.cell 1 rfl
      have qe_f1 := qe.frozen 1
      have qe_c2 := qe.cell 2 rfl
      have qe_f2 := qe.frozen 2
      have qe_c3 := qe.cell 3 rfl
      have qe_f3 := qe.frozen 3
      have qe_c4 := qe.cell 4 rfl
      have qe_f4 := qe.frozen 4
      have qe_c5 := qe.cell 5 rfl
      have qe_f5 := qe.frozen 5
      have qe_c6 := qe.cell 6 rfl
      have qe_f6 := qe.frozen 6
      have qe_c7 := qe.cell 7 rfl
      have qe_f7 := qe.frozen 7
      have qe_c8 := qe.cell 8 rfl
      have qe_f8 := qe.frozen 8
      have qe_c9 := qe.cell 9 rfl
      have qe_f9 := qe.frozen 9
      have qe_c10 := qe.cell 10 rfl
      have qe_f10 := qe.frozen 10
      obtain ⟨tk0, htk0⟩ : ∃ t, t = 1 + n2 % 100 := ⟨_, rfl⟩
      have htki : (1 : Int) + (n2 : Int) % 100 = (tk0 : Int) := by omega
      have htki2 : (1 : Int) + Int.tmod (n2 : Int) 100 = (tk0 : Int) := by rw [Int.tmod_eq_emod_of_nonneg (by omega)]; omega
      have htk1 : 1 ≤ tk0 ∧ tk0 ≤ 100 := by omega
      obtain ⟨htk1, htk100⟩ := htk1
      clear htk0
      go_wp2_with fail
      have hrun := blk_recv8 (V := [E.df]) p blkZ (fun _ => True) E.ix E.sub false false cr false 0 0 [] 0 (tk0 : Nat) 0 0 none 0 0 w2 HD2.out (List.pairwise_singleton _ _) H1.out (by intro v h; simp at h; subst h; exact HRT.out.2) (by rw [HPP.out]; simp) HSv.out
      refine hrun.mono ?_
      rintro e w3 ⟨X3, As3, ns3, cs3, Ao3, no3, co3, rfl, hm3, hO3, hX3, hS3, ho3⟩
      clear hrun
      obtain ⟨u1, u2⟩ := bu_first E cr tk0 HAC.out (by omega)
      rw [← HN.out] at u2
      rw [u1] at hS3
      rw [u2] at hm3 hO3 ⊢
      obtain ⟨g3, Ad3, nd3, cd3, rfl, rfl, rfl, hg3, hM3, hOd3⟩ := ms_one hm3
      have hgp3 : g3 ≠ p := by omega
      have hw3p : w3.heap.size ≠ p := by have := ho3.size; omega
      have hK0 : BK w2 p pd (fun _ _ _ => False) (⟨0, 0, 0, ((0 : Nat) : Int), ((tk0 : Nat) : Int), 0, 4, E.ix, E.sub, E.df, cr⟩ : BlkS) w3 := ⟨ho3, hS3.keep (fun _ _ _ => rfl) (Nat.le_refl _) (fun _ _ _ => trivial), fun _ _ _ h => h.elim⟩
      have HK1 := hide (((hK0.add hgp3 hM3).step (below_alloc (Below.refl _ _) (.cells (outV (some ⟨g3, 0, none⟩) 1 1 (outM (bupM E.ix E.sub n)) Ao3 no3 co3) 44))).add hw3p (Blk.new w3 44 (outV (some ⟨g3, 0, none⟩) 1 1 (outM (bupM E.ix E.sub n)) Ao3 no3 co3)))
      obtain ⟨x0, hx0⟩ : ∃ x0, x0 = w3.heap.size := ⟨_, rfl⟩
      have HV1 : Hid (BV_ (w3.alloc (.cells (outV (some ⟨g3, 0, none⟩) 1 1 (outM (bupM E.ix E.sub n)) Ao3 no3 co3) 44)) (fun q => q < x0) p pd (⟨0, 0, 0, ((0 : Nat) : Int), ((tk0 : Nat) : Int), 0, 4, E.ix, E.sub, E.df, cr⟩ : BlkS)) := hide (hS3.keep (fun q _ hq => Below.heap_alloc _ _ _ hq) (by simp) (fun q hq _ => by omega))
      have hx2 : w2.heap.size ≤ x0 := by rw [hx0]; exact ho3.size
      clear qq_c0 qq_f0 qq_c1 qq_f1 qq_c2 qq_f2 qq_c3 qq_f3 qq_c4 qq_f4 qq_c5 qq_f5 qq_c6 qq_f6 qq_c7 qq_f7 qq_c8 qq_f8 qq_c9 qq_f9 qq_c10 qq_f10 qq_c11 qq_f11 qq_c12 qq_f12 qq_c13 qq_f13 qq_c14 qq_f14 qq_c15 qq_f15
      clear qe_c0 qe_f0 qe_c1 qe_f1 qe_c2 qe_f2 qe_c3 qe_f3 qe_c4 qe_f4 qe_c5 qe_f5 qe_c6 qe_f6 qe_c7 qe_f7 qe_c8 qe_f8 qe_c9 qe_f9 qe_c10 qe_f10
      clear hm3 hO3 hX3 hS3 hM3 hOd3 ho3 hg3 u1 u2 qq qe hK0
      unfold outV outM at HV1
      unfold outV outM
      dsimp only
      go_upto_region 12 with fail
      rw [← hx0] at HK1
      refine wp_gen (P := fun W => BK w2 p pd (fun q t cs => ((fun q t cs => False ∨ (q = g3 ∧ t = 39 ∧ cs = msV (bupM E.ix E.sub n) Ad3 nd3 cd3)) q t cs) ∨ (q = x0 ∧ t = 44 ∧ cs = outV (some ⟨g3, 0, none⟩) 1 1 (outM (bupM E.ix E.sub n)) Ao3 no3 co3)) (⟨0, 0, 0, ((0 : Nat) : Int), ((tk0 : Nat) : Int), 0, 4, E.ix, E.sub, E.df, cr⟩ : BlkS) W ∧ BV_ W (fun q => q < x0) p pd (⟨0, 0, 0, ((0 : Nat) : Int), ((tk0 : Nat) : Int), 0, 4, E.ix, E.sub, E.df, cr⟩ : BlkS)) (by rw [hx0] at HK1 HV1 ⊢; exact ⟨HK1.out, HV1.out⟩) (fun W hW => ?_)
      clear HK1 HV1
      rw [← hx0]
      obtain ⟨hW, hV⟩ := hW
      have HKW := hide hW
      have HVW := hide hV
      have hK := (hW.2.2 x0 _ _ (.inr ⟨rfl, rfl, rfl⟩)).2
      have hM := (hW.2.2 g3 _ _ (.inl (.inr ⟨rfl, rfl, rfl⟩))).2
      have qe := blk_only HE4.out hW.1 (show w.heap.size + 1 ≠ p by omega)
      have zW : x0 < W.heap.size := hK.lt
      have zg : g3 < W.heap.size := hM.lt
      have ze : w.heap.size + 1 < W.heap.size := qe.lt
      have HK0 := hide hK
      unfold outV outM at hK
      unfold msV bupM at hM
      have hK_c0 := hK.cell 0 rfl
      have hK_f0 := hK.frozen 0
      have hK_c1 := hK.cell 1 rfl
      have hK_f1 := hK.frozen 1
      have hK_c2 := hK.cell 2 rfl
      have hK_f2 := hK.frozen 2
      have hK_c3 := hK.cell 3 rfl
      have hK_f3 := hK.frozen 3
      have hK_c4 := hK.cell 4 rfl
      have hK_f4 := hK.frozen 4
      have hM_c0 := hM.cell 0 rfl
      have hM_f0 := hM.frozen 0
      have hM_c1 := hM.cell 1 rfl
      have hM_f1 := hM.frozen 1
      have hM_c2 := hM.cell 2 rfl
      have hM_f2 := hM.frozen 2
      have hM_c3 := hM.cell 3 rfl
      have hM_f3 := hM.frozen 3
      have hM_c4 := hM.cell 4 rfl
      have hM_f4 := hM.frozen 4
      have hM_c5 := hM.cell 5 rfl
      have hM_f5 := hM.frozen 5
      have hM_c6 := hM.cell 6 rfl
      have hM_f6 := hM.frozen 6
      have hM_c7 := hM.cell 7 rfl
      have hM_f7 := hM.frozen 7
      have hM_c8 := hM.cell 8 rfl
      have hM_f8 := hM.frozen 8
      have hM_c9 := hM.cell 9 rfl
      have hM_f9 := hM.frozen 9
      have hM_c10 := hM.cell 10 rfl
      have hM_f10 := hM.frozen 10
      have hM_c11 := hM.cell 11 rfl
      have hM_f11 := hM.frozen 11
      have hM_c12 := hM.cell 12 rfl
      have hM_f12 := hM.frozen 12
      have hM_c13 := hM.cell 13 rfl
      have hM_f13 := hM.frozen 13
      have qe_c0 := qe.cell 0 rfl
      have qe_f0 := qe.frozen 0
      have qe_c1 := qe.cell 1 rfl
      have qe_f1 := qe.frozen 1
      have qe_c2 := qe.cell 2 rfl
      have qe_f2 := qe.frozen 2
      have qe_c3 := qe.cell 3 rfl
      have qe_f3 := qe.frozen 3
      have qe_c4 := qe.cell 4 rfl
      have qe_f4 := qe.frozen 4
      have qe_c5 := qe.cell 5 rfl
      have qe_f5 := qe.frozen 5
      have qe_c6 := qe.cell 6 rfl
      have qe_f6 := qe.frozen 6
      have qe_c7 := qe.cell 7 rfl
      have qe_f7 := qe.frozen 7
      have qe_c8 := qe.cell 8 rfl
      have qe_f8 := qe.frozen 8
      have qe_c9 := qe.cell 9 rfl
      have qe_f9 := qe.frozen 9
      have qe_c10 := qe.cell 10 rfl
      have qe_f10 := qe.frozen 10
      clear hW hV hx0
      have hwn : IntKind.i64.wrap (n : Int) = (n : Int) := by unfold IntKind.wrap; simp [IntKind.signed, IntKind.bits]; omega
      refine wp_region_held_drew (S := (fun w' => (∀ qA : Addr, qA.block < (W).heap.size → w'.cell? qA = (W).cell? qA) ∧ Below (W).heap.size (W) w')) (by kernel_rfl) ?hS1 (fun hHeld => ?rest1)
      case hS1 => ((try dsimp only); (((try go_split_ands); refine sn_of ?_; repeat' (first | with_reducible assumption | with_reducible exact Below.refl _ _ | with_reducible apply below_alloc | with_reducible apply below_drew1 | with_reducible apply below_drewN | (with_reducible apply below_step; with_reducible assumption) | (with_reducible apply below_sg2; (first | exact Nat.le_refl _ | (simp; done) | omega))))))
      case' rest1 => skip
      refine wpAnyH_take (i := 0) (oi := _) (v := ?v2) rfl (by kernel_rfl) (by kernel_rfl) (by kernel_rfl) (fun _ _ _ h => h) (Or.inl ⟨by rfl, ?hy2⟩) (by assumption) ?rest2
      case hy2 => ((intro w hSw; (try dsimp only at hSw); go_simp) <;> with_reducible rfl)
      case' rest2 => try simp only [List.getElem_toArray, List.getElem_cons_zero, List.getElem_cons_succ, Act.put, List.setIfInBounds_toArray, List.set_cons_zero, List.set_cons_succ]
      refine wpAnyH_take (i := 1) (oi := _) (v := ?v3) rfl (by kernel_rfl) (by kernel_rfl) (by kernel_rfl) (fun _ _ _ h => h) (Or.inl ⟨by rfl, ?hy3⟩) (by assumption) ?rest3
      case hy3 => ((intro w hSw; (try dsimp only at hSw); go_simp) <;> with_reducible rfl)
      case' rest3 => try simp only [List.getElem_toArray, List.getElem_cons_zero, List.getElem_cons_succ, Act.put, List.setIfInBounds_toArray, List.set_cons_zero, List.set_cons_succ]
      refine wpAnyH_take (i := 2) (oi := _) (v := ?v4) rfl (by kernel_rfl) (by kernel_rfl) (by kernel_rfl) (fun _ _ _ h => h) (Or.inl ⟨by rfl, ?hy4⟩) (by assumption) ?rest4
      case hy4 => ((intro w hSw; (try dsimp only at hSw); go_simp) <;> with_reducible rfl)
      case' rest4 => try simp only [List.getElem_toArray, List.getElem_cons_zero, List.getElem_cons_succ, Act.put, List.setIfInBounds_toArray, List.set_cons_zero, List.set_cons_succ]
      refine wpAnyH_take (i := 3) (oi := _) (v := ?v5) rfl (by kernel_rfl) (by kernel_rfl) (by kernel_rfl) (fun _ _ _ h => h) (Or.inl ⟨by rfl, ?hy5⟩) (by assumption) ?rest5
      case hy5 => ((intro w hSw; (try dsimp only at hSw); go_simp) <;> with_reducible rfl)
      case' rest5 => try simp only [List.getElem_toArray, List.getElem_cons_zero, List.getElem_cons_succ, Act.put, List.setIfInBounds_toArray, List.set_cons_zero, List.set_cons_succ]
      refine wpAnyH_take (i := 4) (oi := _) (v := ?v6) rfl (by kernel_rfl) (by kernel_rfl) (by kernel_rfl) (fun _ _ _ h => h) (Or.inl ⟨by rfl, ?hy6⟩) (by assumption) ?rest6
      case hy6 => ((intro w hSw; (try dsimp only at hSw); go_simp) <;> with_reducible rfl)
      case' rest6 => try simp only [List.getElem_toArray, List.getElem_cons_zero, List.getElem_cons_succ, Act.put, List.setIfInBounds_toArray, List.set_cons_zero, List.set_cons_succ]
      refine wpAnyH_take (i := 5) (oi := _) (v := ?v7) rfl (by kernel_rfl) (by kernel_rfl) (by kernel_rfl) (fun _ _ _ h => h) (Or.inl ⟨by rfl, ?hy7⟩) (by assumption) ?rest7
      case hy7 => ((intro w hSw; (try dsimp only at hSw); go_simp) <;> with_reducible rfl)
      case' rest7 => try simp only [List.getElem_toArray, List.getElem_cons_zero, List.getElem_cons_succ, Act.put, List.setIfInBounds_toArray, List.set_cons_zero, List.set_cons_succ]
      refine wpAnyH_take (i := 6) (oi := _) (v := ?v8) rfl (by kernel_rfl) (by kernel_rfl) (by kernel_rfl) (fun _ _ _ h => h) (Or.inl ⟨by rfl, ?hy8⟩) (by assumption) ?rest8
      case hy8 => ((intro w hSw; (try dsimp only at hSw); go_simp) <;> with_reducible rfl)
      case' rest8 => try simp only [List.getElem_toArray, List.getElem_cons_zero, List.getElem_cons_succ, Act.put, List.setIfInBounds_toArray, List.set_cons_zero, List.set_cons_succ]
      refine wpAnyH_take (i := 7) (oi := _) (v := ?v9) rfl (by kernel_rfl) (by kernel_rfl) (by kernel_rfl) (fun _ _ _ h => h) (Or.inl ⟨by rfl, ?hy9⟩) (by assumption) ?rest9
      case hy9 => ((intro w hSw; (try dsimp only at hSw); go_simp) <;> with_reducible rfl)
      case' rest9 => try simp only [List.getElem_toArray, List.getElem_cons_zero, List.getElem_cons_succ, Act.put, List.setIfInBounds_toArray, List.set_cons_zero, List.set_cons_succ]
      refine wpAnyH_take (i := 8) (oi := _) (v := ?v10) rfl (by kernel_rfl) (by kernel_rfl) (by kernel_rfl) (fun _ _ _ h => h) (Or.inl ⟨by rfl, ?hy10⟩) (by assumption) ?rest10
      case hy10 => ((intro w hSw; (try dsimp only at hSw); go_simp) <;> with_reducible rfl)
      case' rest10 => try simp only [List.getElem_toArray, List.getElem_cons_zero, List.getElem_cons_succ, Act.put, List.setIfInBounds_toArray, List.set_cons_zero, List.set_cons_succ]
      refine wpAnyH_take (i := 9) (oi := _) (v := ?v11) rfl (by kernel_rfl) (by kernel_rfl) (by kernel_rfl) (fun _ _ _ h => h) (Or.inl ⟨by rfl, ?hy11⟩) (by assumption) ?rest11
      case hy11 => ((intro w hSw; (try dsimp only at hSw); go_simp) <;> with_reducible rfl)
      case' rest11 => try simp only [List.getElem_toArray, List.getElem_cons_zero, List.getElem_cons_succ, Act.put, List.setIfInBounds_toArray, List.set_cons_zero, List.set_cons_succ]
      refine wpAnyH_take (i := 10) (oi := _) (v := ?v12) rfl (by kernel_rfl) (by kernel_rfl) (by kernel_rfl) (fun _ _ _ h => h) (Or.inl ⟨by rfl, ?hy12⟩) (by assumption) ?rest12
      case hy12 => ((intro w hSw; (try dsimp only at hSw); go_simp) <;> with_reducible rfl)
      case' rest12 => try simp only [List.getElem_toArray, List.getElem_cons_zero, List.getElem_cons_succ, Act.put, List.setIfInBounds_toArray, List.set_cons_zero, List.set_cons_succ]
      refine wpAnyH_take (i := 11) (oi := _) (v := ?v13) rfl (by kernel_rfl) (by kernel_rfl) (by kernel_rfl) (fun _ _ _ h => h) (Or.inl ⟨by rfl, ?hy13⟩) (by assumption) ?rest13
      case hy13 => ((intro w hSw; (try dsimp only at hSw); go_simp) <;> with_reducible rfl)
      case' rest13 => try simp only [List.getElem_toArray, List.getElem_cons_zero, List.getElem_cons_succ, Act.put, List.setIfInBounds_toArray, List.set_cons_zero, List.set_cons_succ]
      refine wpAnyH_take (i := 12) (oi := _) (v := ?v14) rfl (by kernel_rfl) (by kernel_rfl) (by kernel_rfl) (fun _ _ _ h => h) (Or.inl ⟨by rfl, ?hy14⟩) (by assumption) ?rest14
      case hy14 => ((intro w hSw; (try dsimp only at hSw); go_simp) <;> with_reducible rfl)
      case' rest14 => try simp only [List.getElem_toArray, List.getElem_cons_zero, List.getElem_cons_succ, Act.put, List.setIfInBounds_toArray, List.set_cons_zero, List.set_cons_succ]
      refine wpAnyH_take (i := 13) (oi := _) (v := ?v15) rfl (by kernel_rfl) (by kernel_rfl) (by kernel_rfl) (fun _ _ _ h => h) (Or.inl ⟨by rfl, ?hy15⟩) (by assumption) ?rest15
      case hy15 => ((intro w hSw; (try dsimp only at hSw); go_simp) <;> with_reducible rfl)
      case' rest15 => try simp only [List.getElem_toArray, List.getElem_cons_zero, List.getElem_cons_succ, Act.put, List.setIfInBounds_toArray, List.set_cons_zero, List.set_cons_succ]
      refine wpAnyH_take (i := 14) (oi := _) (v := ?v16) rfl (by kernel_rfl) (by kernel_rfl) (by kernel_rfl) (fun _ _ _ h => h) (Or.inl ⟨by rfl, ?hy16⟩) (by assumption) ?rest16
      case hy16 => ((intro w hSw; (try dsimp only at hSw); go_simp) <;> with_reducible rfl)
      case' rest16 => try simp only [List.getElem_toArray, List.getElem_cons_zero, List.getElem_cons_succ, Act.put, List.setIfInBounds_toArray, List.set_cons_zero, List.set_cons_succ]
      refine wpAnyH_take (i := 15) (oi := _) (v := ?v17) rfl (by kernel_rfl) (by kernel_rfl) (by kernel_rfl) (fun _ _ _ h => h) (Or.inl ⟨by rfl, ?hy17⟩) (by assumption) ?rest17
      case hy17 => ((intro w hSw; (try dsimp only at hSw); go_simp) <;> with_reducible rfl)
      case' rest17 => try simp only [List.getElem_toArray, List.getElem_cons_zero, List.getElem_cons_succ, Act.put, List.setIfInBounds_toArray, List.set_cons_zero, List.set_cons_succ]
      refine wpAnyH_take (i := 16) (oi := _) (v := ?v18) rfl (by kernel_rfl) (by kernel_rfl) (by kernel_rfl) (fun _ _ _ h => h) (Or.inl ⟨by rfl, ?hy18⟩) (by assumption) ?rest18
      case hy18 => ((intro w hSw; (try dsimp only at hSw); go_simp) <;> with_reducible rfl)
      case' rest18 => try simp only [List.getElem_toArray, List.getElem_cons_zero, List.getElem_cons_succ, Act.put, List.setIfInBounds_toArray, List.set_cons_zero, List.set_cons_succ]
      refine wpAnyH_take (i := 17) (oi := _) (v := ?v19) rfl (by kernel_rfl) (by kernel_rfl) (by kernel_rfl) (fun _ _ _ h => h) (Or.inl ⟨by rfl, ?hy19⟩) (by assumption) ?rest19
      case hy19 => ((intro w hSw; (try dsimp only at hSw); go_simp) <;> with_reducible rfl)
      case' rest19 => try simp only [List.getElem_toArray, List.getElem_cons_zero, List.getElem_cons_succ, Act.put, List.setIfInBounds_toArray, List.set_cons_zero, List.set_cons_succ]
      refine wpAnyH_take (i := 18) (oi := _) (v := ?v20) rfl (by kernel_rfl) (by kernel_rfl) (by kernel_rfl) (fun _ _ _ h => h) (Or.inl ⟨by rfl, ?hy20⟩) (by assumption) ?rest20
      case hy20 => ((intro w hSw; (try dsimp only at hSw); go_simp) <;> with_reducible rfl)
      case' rest20 => try simp only [List.getElem_toArray, List.getElem_cons_zero, List.getElem_cons_succ, Act.put, List.setIfInBounds_toArray, List.set_cons_zero, List.set_cons_succ]
      refine wpAnyH_take (i := 19) (oi := _) (v := ?v21) rfl (by kernel_rfl) (by kernel_rfl) (by kernel_rfl) (fun _ _ _ h => h) (Or.inl ⟨by rfl, ?hy21⟩) (by assumption) ?rest21
      case hy21 => ((intro w hSw; (try dsimp only at hSw); go_simp) <;> with_reducible rfl)
      case' rest21 => try simp only [List.getElem_toArray, List.getElem_cons_zero, List.getElem_cons_succ, Act.put, List.setIfInBounds_toArray, List.set_cons_zero, List.set_cons_succ]
      refine wpAnyH_take (i := 20) (oi := _) (v := ?v22) rfl (by kernel_rfl) (by kernel_rfl) (by kernel_rfl) (fun _ _ _ h => h) (Or.inl ⟨by rfl, ?hy22⟩) (by assumption) ?rest22
      case hy22 => ((intro w hSw; (try dsimp only at hSw); go_simp) <;> with_reducible rfl)
      case' rest22 => try simp only [List.getElem_toArray, List.getElem_cons_zero, List.getElem_cons_succ, Act.put, List.setIfInBounds_toArray, List.set_cons_zero, List.set_cons_succ]
      refine wpAnyH_take (i := 21) (oi := _) (v := ?v23) rfl (by kernel_rfl) (by kernel_rfl) (by kernel_rfl) (fun _ _ _ h => h) (Or.inl ⟨by rfl, ?hy23⟩) (by assumption) ?rest23
      case hy23 => ((intro w hSw; (try dsimp only at hSw); go_simp) <;> with_reducible rfl)
      case' rest23 => try simp only [List.getElem_toArray, List.getElem_cons_zero, List.getElem_cons_succ, Act.put, List.setIfInBounds_toArray, List.set_cons_zero, List.set_cons_succ]
      refine wpAnyH_take (i := 22) (oi := _) (v := ?v24) rfl (by kernel_rfl) (by kernel_rfl) (by kernel_rfl) (fun _ _ _ h => h) (Or.inl ⟨by rfl, ?hy24⟩) (by assumption) ?rest24
      case hy24 => ((intro w hSw; (try dsimp only at hSw); go_simp) <;> with_reducible rfl)
      case' rest24 => try simp only [List.getElem_toArray, List.getElem_cons_zero, List.getElem_cons_succ, Act.put, List.setIfInBounds_toArray, List.set_cons_zero, List.set_cons_succ]
      refine wpAnyH_take (i := 23) (oi := _) (v := ?v25) rfl (by kernel_rfl) (by kernel_rfl) (by kernel_rfl) (fun _ _ _ h => h) (Or.inl ⟨by rfl, ?hy25⟩) (by assumption) ?rest25
      case hy25 => ((intro w hSw; (try dsimp only at hSw); go_simp) <;> with_reducible rfl)
      case' rest25 => try simp only [List.getElem_toArray, List.getElem_cons_zero, List.getElem_cons_succ, Act.put, List.setIfInBounds_toArray, List.set_cons_zero, List.set_cons_succ]
      refine wpAnyH_done (by kernel_rfl) ?_ _
      have hEnd := hHeld.2
      repeat (clear hHeld)
      clear hEnd
      go_upto_region 15 with fail
      refine wp_gen (P := fun W1 => Only (fun q => q = p) w2 W1 ∧ BV_ W1 (fun q => q < x0) p pd (⟨0, 0, 0, ((0 : Nat) : Int), ((tk0 : Nat) : Int), 0, 4, E.ix, E.sub, E.df, cr⟩ : BlkS) ∧ Blk W1 x0 44 (outV (some ⟨g3, 0, none⟩) 1 1 (outM (bupM E.ix E.sub n)) Ao3 no3 co3)) ⟨HKW.out.1.drew, HVW.out, HK0.out⟩ (fun W1 hW1 => ?_)
      clear hK_c0 hK_f0 hK_c1 hK_f1 hK_c2 hK_f2 hK_c3 hK_f3 hK_c4 hK_f4
      clear hM_c0 hM_f0 hM_c1 hM_f1 hM_c2 hM_f2 hM_c3 hM_f3 hM_c4 hM_f4 hM_c5 hM_f5 hM_c6 hM_f6 hM_c7 hM_f7 hM_c8 hM_f8 hM_c9 hM_f9 hM_c10 hM_f10 hM_c11 hM_f11 hM_c12 hM_f12 hM_c13 hM_f13
      clear qe_c0 qe_f0 qe_c1 qe_f1 qe_c2 qe_f2 qe_c3 qe_f3 qe_c4 qe_f4 qe_c5 qe_f5 qe_c6 qe_f6 qe_c7 qe_f7 qe_c8 qe_f8 qe_c9 qe_f9 qe_c10 qe_f10
      clear hK hM qe zW zg ze HKW HVW HK0
      obtain ⟨hO1, hV1, hK1⟩ := hW1
      have HO1 := hide hO1
      have HV1 := hide hV1
      have HK1 := hide hK1
      have hdf : E.df.length ≤ 256 := HRT.out.2
      have HDF := hide hdf
      clear hO1 hV1 hK1 hdf
      go_wp2_with fail
      have hrun := blk_recv9 p pd 0 0 0 (tk0 : Nat) 0 E.ix E.sub E.df cr 0 (fun q => q < x0) 0 0 false false false false 0 0 [] 0 0 0 0 none 0 0 W1 HV1.out (by have := HDF.out; omega) (by have := (show 1 ≤ btotal E.df from by unfold btotal; omega); omega) (by omega)
      refine hrun.mono ?_
      rintro e w5 ⟨As5, ns5, cs5, ds5, rfl, hOM5, hV5, ho5⟩
      clear hrun
      obtain ⟨r, hr, hr1, hr2, hr3, u1, u2⟩ := give_row tk0 0 0 4 E.ix E.sub E.df cr (by unfold btotal; omega) htk1
      rw [u1] at hV5
      rw [u2] at hOM5
      obtain rfl : ns5 = r := by rw [hOM5.hn, bgiveT_len]
      obtain ⟨em, hem⟩ : ∃ em, em = 7 * btotal E.df - E.df.length := ⟨_, rfl⟩
      obtain ⟨sumv, hsumv⟩ : ∃ sv : Nat, sv = if cr = true then sum16L E.df else 0 := ⟨_, rfl⟩
      have HEM := hide hem
      have HSV := hide hsumv
      have hx0p : x0 ≠ p := by omega
      have hk5 := blk_only HK1.out ho5 hx0p
      have zk1 : x0 < W1.heap.size := HK1.out.lt
      have HST : Hid (BUL w2 E cr n5 p pd x0 em sumv (.int .i64 (tk0 : Nat)) (.slice none 0 0) (.bool false) (.int .i64 0) (putO w5 x0 As5 ns5 cs5 outZ none 0 0)) := hide (by
        refine ⟨0, 0, tk0, none, 0, 0, rfl, rfl, rfl, htk1, htk100, Nat.zero_le _, Nat.zero_le _, putO_only (HO1.out.trans ho5 (fun _ _ h => h)) hx2 _ _ _ _ _ _ _, OwnB.nil _ _, by rw [putO_size]; exact hk5.lt, .inl ⟨rfl, by unfold btotal; omega, ns5, W1.heap.size, w5.heap.size, As5, cs5, ds5, hr1, hr3, hr2, zk1, by rw [putO_size]; exact Nat.le_refl _, ?_, putO_blk hk5, ?_, by simp⟩⟩
        · exact hV5.keep (fun q hq _ => putO_heap (by rcases hq with rfl | hq; exact fun e => hx0p e.symm; omega) _ _ _ _ _ _ _) (by rw [putO_size]; exact Nat.le_refl _) (fun _ _ h => h)
        · exact (hOM5.keep (fun g hg _ => putO_heap (show g ≠ x0 by omega) _ _ _ _ _ _ _)).mono (fun g hg h => ⟨h, by rw [putO_size] at hg; exact hg⟩))
      unfold putO outZ at HST
      unfold outV outZ
      dsimp only at HST
      dsimp only
      unfold outV outM at hk5
      have hk5_c0 := hk5.cell 0 rfl
      have hk5_f0 := hk5.frozen 0
      have hk5_c1 := hk5.cell 1 rfl
      have hk5_f1 := hk5.frozen 1
      have hk5_c2 := hk5.cell 2 rfl
      have hk5_f2 := hk5.frozen 2
      have hk5_c3 := hk5.cell 3 rfl
      have hk5_f3 := hk5.frozen 3
      have hk5_c4 := hk5.cell 4 rfl
      have hk5_f4 := hk5.frozen 4
      have zk5 : x0 < w5.heap.size := hk5.lt
      clear hOM5 hV5 ho5 u1 u2 hr hem hsumv
      go_upto_region 16 with fail
      refine wp_gen (P := BUL w2 E cr n5 p pd x0 em sumv (.int .i64 (tk0 : Nat)) (.slice none 0 0) (.bool false) (.int .i64 0)) HST.out (fun W6 hW6 => ?_)
      clear hk5_c0 hk5_f0 hk5_c1 hk5_f1 hk5_c2 hk5_f2 hk5_c3 hk5_f3 hk5_c4 hk5_f4
      clear HST hk5 zk5 HO1 HV1 HK1 zk1 hr1 hr2 hr3
      have HST := hide hW6
      clear hW6
      have HPW : Hid (p < w2.heap.size) := hide zp2
      obtain ⟨tot, ht⟩ : ∃ tot, tot = btotal E.df := ⟨_, rfl⟩
      have HT := hide ht
      have ht40 : tot ≤ 40 := by rw [ht]; have := HDF.out; unfold btotal; omega
      clear ht
      go_wp2_with fail
      go_loopw [8, 10, 11, 12, 13, 14, 15] (fun vt vg vd vi _ _ _ wr => BUL w2 E cr n5 p pd x0 em sumv vt vg vd vi wr) (fun _ _ _ vi _ _ _ _ => 500 - (intOf vi).toNat)
      case atStart => exact HST.out
      case round =>
        obtain ⟨i, h, t, Ag, ng, cg, rfl, rfl, rfl, ht1, ht100, hih, hhtot, hOr, hGr, hx0r, hcase⟩ := hrel
        rw [← HT.out] at hhtot hcase
        have HOr := hide hOr
        have HGr := hide hGr
        have HBr := hide (below_only hOr HBW2.out (fun i (e : i = p) => by omega))
        have hi500 : (i : Int) < 500 := by omega
        clear hOr hGr
        rcases hcase with ⟨rfl, hlt, r, N, N2, As, cs, ds, hr1, hrt, hhr, hxN, hN2, hV, hK, hOM, hAN⟩ | ⟨rfl, hht, t2, ro, g, Ao, no, co, Ad, nd, cd, hV, hK, hM⟩
        · have qq := blk_only HQ4.out HOr.out (show w.heap.size ≠ p by omega)
          have zqq : w.heap.size < wr.heap.size := qq.lt
          have HV := hide hV
          have HK := hide hK
          have HOM := hide hOM
          have HAN := hide hAN
          unfold outV outZ at hK
          dsimp only at hK
          have qq_c0 := qq.cell 0 rfl
          have qq_f0 := qq.frozen 0
          have qq_c1 := qq.cell 1 rfl
          have qq_f1 := qq.frozen 1
          have qq_c2 := qq.cell 2 rfl
          have qq_f2 := qq.frozen 2
          have qq_c3 := qq.cell 3 rfl
          have qq_f3 := qq.frozen 3
          have qq_c4 := qq.cell 4 rfl
          have qq_f4 := qq.frozen 4
          have qq_c5 := qq.cell 5 rfl
          have qq_f5 := qq.frozen 5
          have qq_c6 := qq.cell 6 rfl
          have qq_f6 := qq.frozen 6
          have qq_c7 := qq.cell 7 rfl
          have qq_f7 := qq.frozen 7
          have qq_c8 := qq.cell 8 rfl
          have qq_f8 := qq.frozen 8
          have qq_c9 := qq.cell 9 rfl
          have qq_f9 := qq.frozen 9
          have qq_c10 := qq.cell 10 rfl
          have qq_f10 := qq.frozen 10
          have qq_c11 := qq.cell 11 rfl
          have qq_f11 := qq.frozen 11
          have qq_c12 := qq.cell 12 rfl
          have qq_f12 := qq.frozen 12
          have qq_c13 := qq.cell 13 rfl
          have qq_f13 := qq.frozen 13
          have qq_c14 := qq.cell 14 rfl
          have qq_f14 := qq.frozen 14
          have qq_c15 := qq.cell 15 rfl
          have qq_f15 := qq.frozen 15
          have hK_c0 := hK.cell 0 rfl
          have hK_f0 := hK.frozen 0
          have hK_c1 := hK.cell 1 rfl
          have hK_f1 := hK.frozen 1
          have hK_c2 := hK.cell 2 rfl
          have hK_f2 := hK.frozen 2
          have hK_c3 := hK.cell 3 rfl
          have hK_f3 := hK.frozen 3
          have hK_c4 := hK.cell 4 rfl
          have hK_f4 := hK.frozen 4
          clear hV hOM hAN
          have hrl : (r : Int) ≤ (t : Int) := by omega
          have hr1i : (1 : Int) ≤ (r : Int) := by omega
          go_upto_if 116 with fail
          simp only [show decide (t < r) = false from decide_eq_false (by omega), Bool.or_false]
          go_cut [8, 14] (fun s8 s14 wx => wr = wx ∧ ∃ nq t2 : Nat, s8 = .int .i64 (t2 : Nat) ∧ s14 = .int .i64 (nq : Nat) ∧ nq ≤ r ∧ 1 ≤ t2 ∧ t2 ≤ 100 ∧ i + 1 ≤ n5 + (h + nq))
          case first =>
            by_cases hi5 : i < n5
            · obtain ⟨z, hz⟩ : ∃ z, tk[i]? = some z := ⟨tk[i]'(by rw [← HN5.out]; exact hi5), List.getElem?_eq_getElem _⟩
              obtain ⟨gL, hA5, hcell⟩ := (HS5.out.below HBr.out) i (bv z) (by simp [hz])
              subst hA5
              replace hcell : wr.cell? (gL.add i) = some (.int .u8 ((z.toNat : Nat) : Int)) := hcell
              have hz8 : z.toNat < 256 := z.toNat_lt
              obtain ⟨nq, hnq⟩ : ∃ q, q = z.toNat % (r + 1) := ⟨_, rfl⟩
              have hnqi : (z.toNat : Int) % ((r : Int) + 1) = (nq : Int) := by rw [hnq]; push_cast; rfl
              obtain ⟨t2, ht2⟩ : ∃ q, q = 1 + z.toNat % 100 := ⟨_, rfl⟩
              have hti : (1 : Int) + (z.toNat : Int) % 100 = (t2 : Int) := by omega
              have hnqr : nq ≤ r := by rw [hnq]; exact Nat.lt_succ_iff.1 (Nat.mod_lt _ (by omega))
              have hrr : ¬ ((r : Int) + 1 = 0) := by omega
              have HT2 : Hid (1 ≤ t2 ∧ t2 ≤ 100) := hide (by omega)
              clear hz hnq ht2
              go_wp2_with fail
              go_meet
              exact ⟨rfl, nq, t2, rfl, by rw [hnqi], hnqr, HT2.out.1, HT2.out.2, by omega⟩
            · go_wp2_with fail
              go_meet
              exact ⟨rfl, r, t, rfl, rfl, Nat.le_refl _, ht1, ht100, by omega⟩
          case rest =>
            obtain ⟨rfl, nq, t', rfl, rfl, hnqr, ht'1, ht'2, hpro⟩ := hcut
            go_wp2_with fail
            go_loopw [10, 11, 15] (fun vg vd vk wx => BUI w2 E cr p pd x0 h t r nq N N2 As cs ds vg vd vk wx) (fun _ _ vk _ => r - (intOf vk).toNat)
            case atStart => exact ⟨0, Ag, ng, cg, false, rfl, rfl, rfl, by rw [← HT.out, Nat.zero_min]; simp; omega, Nat.zero_le _, by rw [Nat.zero_min]; exact HGr.out, HAN.out, HOr.out, HV.out, HK.out, by have h1 := HOM.out; rw [HT.out] at h1; exact h1, hN2⟩
            case round =>
              obtain ⟨k, Ag', ng', cg', bd, rfl, rfl, rfl, hbd, hkr, hG2, hAN2, hO2, hV2, hK2, hM2, hN22⟩ := hrel
              rw [← HT.out] at hbd
              have HBD := hide hbd
              have HG2 := hide hG2
              have HAN2 := hide hAN2
              have HO2 := hide hO2
              have HV2 := hide hV2
              have HK2 := hide hK2
              have HM2 := hide hM2
              have zx2 : x0 < wr.heap.size := hK2.lt
              clear hbd hG2 hAN2 hO2 hV2 hK2
              by_cases hlt2 : k < r
              · obtain ⟨d, hd, hOd, hFd⟩ := hM2.elem (bgiveT_at (btotal E.df) h E.df r k hlt2)
                obtain ⟨g, hAs, zgA, hcells⟩ := hM2.cells msF_len (bgiveT_at (btotal E.df) h E.df r k hlt2) hd (by omega)
                have hgF := hM2.inF g hAs
                subst hAs
                obtain ⟨la, hla⟩ : ∃ la, la = decide ((h : Int) + (k : Int) + 1 = (btotal E.df : Int)) := ⟨_, rfl⟩
                have c0 : wr.cell? ⟨g, k * 14, none⟩ = some (.int .i64 21) := hcells 0 _ rfl
                have c4 : wr.cell? ⟨g, k * 14 + 4, none⟩ = some (.bool la) := by rw [hla]; exact hcells 4 _ rfl
                have c9 : wr.cell? ⟨g, k * 14 + 9, none⟩ = some (.slice d.1 7 d.2) := hcells 9 _ (by show some (Value.slice d.1 (bpiece E.df (h + k)).length d.2) = _; rw [piece_len22])
                have c10 : wr.cell? ⟨g, k * 14 + 10, none⟩ = some (.int .i64 ((k : Int) + 1)) := hcells 10 _ rfl
                have hOd7 : OwnB wr 0 d.1 7 d.2 (bpiece E.df (h + k)) := by have h1 := hOd; rw [show (Ms.data (bsegM ((k : Int) + 1) (decide ((h : Int) + (k : Int) + 1 = (btotal E.df : Int))) (bpiece E.df (h + k)))).length = 7 from piece_len22 _ _] at h1; exact h1
                have HOd := hide hOd7
                rw [← HT.out] at hla
                have hlav : la = true ↔ h + k + 1 = tot := by rw [hla]; simp; omega
                have HLA := hide hlav
                have hkla : la = true → ¬ (k : Int) < (r : Int) - 1 := fun e => by have := hlav.1 e; omega
                obtain ⟨i1, i2, i3⟩ := idx_at hlt2
                have hng : ng' ≤ 1000 := by have h1 := HG2.out.hn; rw [padU_len] at h1; omega
                clear hM2 hd hOd hFd hcells hOd7 hla hlav
                by_cases hkn : k < nq
                · have hbf : bd = false := by
                    cases hb : bd
                    · rfl
                    · exfalso
                      have h1 := HBD.out.1 hb
                      rw [Nat.min_eq_left (by omega)] at h1
                      omega
                  subst hbf
                  cases la
                  · clear hkla
                    go_wp2_with (at_builtin; refine app_b _ rfl _ _ rfl (x0 + 1) _ _ _ _ rfl HG2.out _ _ _ (bpiece E.df (h + k)) rfl HOd.out.hn HOd.out.sl (by omega) (show x0 + 1 ≤ wr.heap.size by omega) (ng' + 7) rfl ?_; intro A6 c6 w6 hO6 hg6 hA6 hb6; have c46 := cell_grown HG2.out hg6 zgA (fun q e1 e2 => HAN2.out q e1 (by rw [e2]; exact hgF)) c4)
                    go_roundw
                    case rel => exact bui_grow HG2.out HAN2.out HO2.out HV2.out HK2.out HM2.out hN22 hx2 HPW.out (by rw [Nat.min_eq_left (show k ≤ nq by omega)] at hO6; rw [Nat.min_eq_left (show k + 1 ≤ nq by omega)]; exact hO6) hg6 hA6 hb6 (by omega) (by rw [← HT.out, Nat.min_eq_left (show k + 1 ≤ nq by omega)]; have h1 := HLA.out; simp at h1 ⊢; omega) _ (by go_num)
                    case measure => simp [intOf]; omega
                  · have hkl := hkla rfl
                    clear hkla
                    go_wp2_with (at_builtin; refine app_b _ rfl _ _ rfl (x0 + 1) _ _ _ _ rfl HG2.out _ _ _ (bpiece E.df (h + k)) rfl HOd.out.hn HOd.out.sl (by omega) (show x0 + 1 ≤ wr.heap.size by omega) (ng' + 7) rfl ?_; intro A6 c6 w6 hO6 hg6 hA6 hb6; have c46 := cell_grown HG2.out hg6 zgA (fun q e1 e2 => HAN2.out q e1 (by rw [e2]; exact hgF)) c4)
                    go_roundw
                    case rel => exact bui_grow HG2.out HAN2.out HO2.out HV2.out HK2.out HM2.out hN22 hx2 HPW.out (by rw [Nat.min_eq_left (show k ≤ nq by omega)] at hO6; rw [Nat.min_eq_left (show k + 1 ≤ nq by omega)]; exact hO6) hg6 hA6 hb6 (by omega) (by rw [← HT.out, Nat.min_eq_left (show k + 1 ≤ nq by omega)]; have h1 := HLA.out; simp at h1 ⊢; omega) _ (by go_num)
                    case measure => simp [intOf]; omega
                · have hmin1 : min (k + 1) nq = min k nq := by omega
                  cases la
                  · clear hkla
                    go_wp2_with fail
                    go_roundw
                    case rel => exact ⟨k + 1, Ag', ng', cg', bd, by go_num, rfl, rfl, by rw [← HT.out, hmin1]; exact HBD.out, by omega, by rw [hmin1]; exact HG2.out, HAN2.out, HO2.out, HV2.out, HK2.out, HM2.out, hN22⟩
                    case measure => simp [intOf]; omega
                  · have hkl := hkla rfl
                    clear hkla
                    go_wp2_with fail
                    go_roundw
                    case rel => exact ⟨k + 1, Ag', ng', cg', bd, by go_num, rfl, rfl, by rw [← HT.out, hmin1]; exact HBD.out, by omega, by rw [hmin1]; exact HG2.out, HAN2.out, HO2.out, HV2.out, HK2.out, HM2.out, hN22⟩
                    case measure => simp [intOf]; omega
              · have hmn : min k nq = nq := by omega
                have hG3 : OwnB wr (x0 + 1) Ag' ng' cg' (padU E.df (h + nq)) := by have h1 := HG2.out; rw [hmn] at h1; exact h1
                have hb3 : bd = true ↔ h + nq = tot := by have h1 := HBD.out; rw [hmn] at h1; exact h1
                have HG3 := hide hG3
                have hdl := HDF.out
                clear hG3
                by_cases hfin : h + nq = tot
                · have hbt : bd = true := hb3.2 hfin
                  subst hbt
                  have HFIN := hide hfin
                  clear hb3 hfin hmn hdl
                  go_wp2_with fail
                  have hrun := blk_recv10e p pd 0 0 0 (t : Nat) (r : Nat) E.ix E.sub E.df cr h (fun q => q < x0) 0 0 false false false false 0 0 [] (nq : Nat) (t' : Nat) 0 0 none 0 0 wr HV2.out (by have := HDF.out; omega) nq (hide rfl) (by omega) (hide (by omega)) (by omega) (by omega) (by omega) (h + nq) (hide rfl) (hide (by rw [← HT.out]; exact HFIN.out)) em (hide HEM.out) sumv (hide HSV.out)
                  refine hrun.mono ?_
                  rintro e w5 ⟨X5, As5, ns5, cs5, Ao5, no5, co5, rfl, hm5, hO5, hX5, hS5, ho5⟩
                  clear hrun
                  obtain ⟨g5, Ad5, nd5, cd5, rfl, rfl, rfl, hg5, hM5, hOd5⟩ := ms_one hm5
                  have hk5 := blk_only HK2.out ho5 hx0p
                  have HR := hide (bul_end (em := em) (sumv := sumv) (t := t') (i := i) (Ao5 := Ao5) (no5 := no5) (co5 := co5) ht'1 ht'2 hpro (by rw [← HT.out]; exact HFIN.out) HO2.out ho5 hx2 HG3.out HPW.out zx2 hk5 hS5 hM5 hg5)
                  unfold putO outM at HR
                  unfold outV outM
                  dsimp only at HR
                  dsimp only
                  unfold outV outZ at hk5
                  have hk5_c0 := hk5.cell 0 rfl
                  have hk5_f0 := hk5.frozen 0
                  have hk5_c1 := hk5.cell 1 rfl
                  have hk5_f1 := hk5.frozen 1
                  have hk5_c2 := hk5.cell 2 rfl
                  have hk5_f2 := hk5.frozen 2
                  have hk5_c3 := hk5.cell 3 rfl
                  have hk5_f3 := hk5.frozen 3
                  have hk5_c4 := hk5.cell 4 rfl
                  have hk5_f4 := hk5.frozen 4
                  have zk5 : x0 < w5.heap.size := hk5.lt
                  clear hm5 hO5 hX5 hS5 ho5 hM5 hOd5 hg5
                  go_wp2_with fail
                  go_roundw
                  case rel => exact HR.out
                  case measure => simp [intOf]; omega
                · have hbt : bd = false := by
                    cases hb : bd
                    · rfl
                    · exact absurd (hb3.1 hb) hfin
                  subst hbt
                  have hlt3 : h + nq < tot := by omega
                  have HLT3 := hide hlt3
                  clear hb3 hfin hmn hdl hlt3
                  go_wp2_with fail
                  have hrun := blk_recv10g p pd 0 0 0 (t : Nat) (r : Nat) E.ix E.sub E.df cr h (fun q => q < x0) 0 0 false false false false 0 0 [] (nq : Nat) (t' : Nat) 0 0 none 0 0 wr HV2.out (by have := HDF.out; omega) nq (hide rfl) (by omega) (hide (by omega)) (by omega) (by omega) (by omega) (h + nq) (hide rfl) (by rw [← HT.out]; exact HLT3.out)
                  refine hrun.mono ?_
                  rintro e w5 ⟨As5, ns5, cs5, ds5, rfl, hOM5, hV5, ho5⟩
                  clear hrun
                  obtain ⟨r5, hr5, hr51, hr52, hr53, u1, u2⟩ := give_row t' (h + nq) ((r : Nat) : Int) 5 E.ix E.sub E.df cr (by rw [← HT.out]; exact HLT3.out) (by omega)
                  rw [u1] at hV5
                  rw [u2] at hOM5
                  obtain rfl : ns5 = r5 := by rw [hOM5.hn, bgiveT_len]
                  have hk5 := blk_only HK2.out ho5 hx0p
                  have HR := hide (bul_more (em := em) (sumv := sumv) (t := t') (i := i) ht'1 ht'2 hpro (by rw [← HT.out]; exact HLT3.out) hr51 hr52 hr53 HO2.out ho5 hx2 HG3.out HPW.out zx2 hk5 hV5 hOM5)
                  unfold putO outZ at HR
                  unfold outV outZ
                  dsimp only at HR
                  dsimp only
                  unfold outV outZ at hk5
                  have hk5_c0 := hk5.cell 0 rfl
                  have hk5_f0 := hk5.frozen 0
                  have hk5_c1 := hk5.cell 1 rfl
                  have hk5_f1 := hk5.frozen 1
                  have hk5_c2 := hk5.cell 2 rfl
                  have hk5_f2 := hk5.frozen 2
                  have hk5_c3 := hk5.cell 3 rfl
                  have hk5_f3 := hk5.frozen 3
                  have hk5_c4 := hk5.cell 4 rfl
                  have hk5_f4 := hk5.frozen 4
                  have zk5 : x0 < w5.heap.size := hk5.lt
                  clear hOM5 hV5 ho5 u1 u2 hr5
                  go_wp2_with fail
                  go_roundw
                  case rel => exact HR.out
                  case measure => simp [intOf]; omega
        · have qq := blk_only HQ4.out HOr.out (show w.heap.size ≠ p by omega)
          have qe := blk_only HE4.out HOr.out (show w.heap.size + 1 ≠ p by omega)
          have zqq : w.heap.size < wr.heap.size := qq.lt
          have zqe : w.heap.size + 1 < wr.heap.size := qe.lt
          have zx : x0 < wr.heap.size := hK.lt
          have zg : g < wr.heap.size := hM.lt
          have hK0 : BK w2 p pd (fun _ _ _ => False) (⟨0, 0, 0, ((h : Nat) : Int), ((t2 : Nat) : Int), ro, 6, E.ix, E.sub, E.df, cr⟩ : BlkS) wr := ⟨HOr.out, hV, fun _ _ _ h => h.elim⟩
          have HK0 := hide hK0
          have hgl : ng = 7 * h := by have h1 := HGr.out.hn; rw [padU_len] at h1; exact h1
          have htl : E.df.length ≤ 7 * tot ∧ 1 ≤ tot := by rw [HT.out]; unfold btotal; omega
          have hle : ng ≤ cg := HGr.out.le
          obtain ⟨gq, hAg, hgq1, zgq⟩ := HGr.out.own.at_ (by omega)
          subst hAg
          have HS2 : Hid (Sl wr (some ⟨gq, 0, none⟩) (E.df.map bv)) := hide (by
            have h1 := HGr.out.sl.take_ E.df.length
            rw [← List.map_take, padU_take _ _ (by omega)] at h1
            exact h1)
          have hen : em + n = ng := by have h1 := HEM.out; have h2 := HN.out; rw [← HT.out] at h1; omega
          have hsub : (ng : Int) - (em : Int) = (n : Int) := by omega
          have hle1 : ¬ (ng : Int) < (em : Int) := by omega
          have hle0 : ¬ (em : Int) < 0 := by omega
          have hncg : n ≤ cg := by omega
          have hng7 : ng ≤ 1000 := by omega
          clear hen htl hgl hle hV hih hhtot hht hK0
          unfold outV outM at hK
          unfold msV bendM at hM
          have hK_c0 := hK.cell 0 rfl
          have hK_f0 := hK.frozen 0
          have hK_c1 := hK.cell 1 rfl
          have hK_f1 := hK.frozen 1
          have hK_c2 := hK.cell 2 rfl
          have hK_f2 := hK.frozen 2
          have hK_c3 := hK.cell 3 rfl
          have hK_f3 := hK.frozen 3
          have hK_c4 := hK.cell 4 rfl
          have hK_f4 := hK.frozen 4
          have hM_c0 := hM.cell 0 rfl
          have hM_f0 := hM.frozen 0
          have hM_c1 := hM.cell 1 rfl
          have hM_f1 := hM.frozen 1
          have hM_c2 := hM.cell 2 rfl
          have hM_f2 := hM.frozen 2
          have hM_c3 := hM.cell 3 rfl
          have hM_f3 := hM.frozen 3
          have hM_c4 := hM.cell 4 rfl
          have hM_f4 := hM.frozen 4
          have hM_c5 := hM.cell 5 rfl
          have hM_f5 := hM.frozen 5
          have hM_c6 := hM.cell 6 rfl
          have hM_f6 := hM.frozen 6
          have hM_c7 := hM.cell 7 rfl
          have hM_f7 := hM.frozen 7
          have hM_c8 := hM.cell 8 rfl
          have hM_f8 := hM.frozen 8
          have hM_c9 := hM.cell 9 rfl
          have hM_f9 := hM.frozen 9
          have hM_c10 := hM.cell 10 rfl
          have hM_f10 := hM.frozen 10
          have hM_c11 := hM.cell 11 rfl
          have hM_f11 := hM.frozen 11
          have hM_c12 := hM.cell 12 rfl
          have hM_f12 := hM.frozen 12
          have hM_c13 := hM.cell 13 rfl
          have hM_f13 := hM.frozen 13
          have qq_c0 := qq.cell 0 rfl
          have qq_f0 := qq.frozen 0
          have qq_c1 := qq.cell 1 rfl
          have qq_f1 := qq.frozen 1
          have qq_c2 := qq.cell 2 rfl
          have qq_f2 := qq.frozen 2
          have qq_c3 := qq.cell 3 rfl
          have qq_f3 := qq.frozen 3
          have qq_c4 := qq.cell 4 rfl
          have qq_f4 := qq.frozen 4
          have qq_c5 := qq.cell 5 rfl
          have qq_f5 := qq.frozen 5
          have qq_c6 := qq.cell 6 rfl
          have qq_f6 := qq.frozen 6
          have qq_c7 := qq.cell 7 rfl
          have qq_f7 := qq.frozen 7
          have qq_c8 := qq.cell 8 rfl
          have qq_f8 := qq.frozen 8
          have qq_c9 := qq.cell 9 rfl
          have qq_f9 := qq.frozen 9
          have qq_c10 := qq.cell 10 rfl
          have qq_f10 := qq.frozen 10
          have qq_c11 := qq.cell 11 rfl
          have qq_f11 := qq.frozen 11
          have qq_c12 := qq.cell 12 rfl
          have qq_f12 := qq.frozen 12
          have qq_c13 := qq.cell 13 rfl
          have qq_f13 := qq.frozen 13
          have qq_c14 := qq.cell 14 rfl
          have qq_f14 := qq.frozen 14
          have qq_c15 := qq.cell 15 rfl
          have qq_f15 := qq.frozen 15
          have qe_c0 := qe.cell 0 rfl
          have qe_f0 := qe.frozen 0
          have qe_c1 := qe.cell 1 rfl
          have qe_f1 := qe.frozen 1
          have qe_c2 := qe.cell 2 rfl
          have qe_f2 := qe.frozen 2
          have qe_c3 := qe.cell 3 rfl
          have qe_f3 := qe.frozen 3
          have qe_c4 := qe.cell 4 rfl
          have qe_f4 := qe.frozen 4
          have qe_c5 := qe.cell 5 rfl
          have qe_f5 := qe.frozen 5
          have qe_c6 := qe.cell 6 rfl
          have qe_f6 := qe.frozen 6
          have qe_c7 := qe.cell 7 rfl
          have qe_f7 := qe.frozen 7
          have qe_c8 := qe.cell 8 rfl
          have qe_f8 := qe.frozen 8
          have qe_c9 := qe.cell 9 rfl
          have qe_f9 := qe.frozen 9
          have qe_c10 := qe.cell 10 rfl
          have qe_f10 := qe.frozen 10
          go_upto_region 39 with fail
          cases cr
          · skip
            refine wp_region_held_drew (S := (fun w' => (∀ qA : Addr, qA.block < (wr).heap.size → w'.cell? qA = (wr).cell? qA) ∧ Below (wr).heap.size (wr) w')) (by kernel_rfl) ?hS27 (fun hHeld => ?rest27)
            case hS27 => ((try dsimp only); (((try go_split_ands); refine sn_of ?_; repeat' (first | with_reducible assumption | with_reducible exact Below.refl _ _ | with_reducible apply below_alloc | with_reducible apply below_drew1 | with_reducible apply below_drewN | (with_reducible apply below_step; with_reducible assumption) | (with_reducible apply below_sg2; (first | exact Nat.le_refl _ | (simp; done) | omega))))))
            case' rest27 => skip
            refine wpAnyH_take (i := 0) (oi := _) (v := ?v28) rfl (by kernel_rfl) (by kernel_rfl) (by kernel_rfl) (fun _ _ _ h => h) (Or.inl ⟨by rfl, ?hy28⟩) (by assumption) ?rest28
            case hy28 => ((intro w hSw; (try dsimp only at hSw); go_simp) <;> with_reducible rfl)
            case' rest28 => try simp only [List.getElem_toArray, List.getElem_cons_zero, List.getElem_cons_succ, Act.put, List.setIfInBounds_toArray, List.set_cons_zero, List.set_cons_succ]
            refine wpAnyH_take (i := 1) (oi := _) (v := ?v29) rfl (by kernel_rfl) (by kernel_rfl) (by kernel_rfl) (fun _ _ _ h => h) (Or.inl ⟨by rfl, ?hy29⟩) (by assumption) ?rest29
            case hy29 => ((intro w hSw; (try dsimp only at hSw); go_simp) <;> with_reducible rfl)
            case' rest29 => try simp only [List.getElem_toArray, List.getElem_cons_zero, List.getElem_cons_succ, Act.put, List.setIfInBounds_toArray, List.set_cons_zero, List.set_cons_succ]
            refine wpAnyH_take (i := 2) (oi := _) (v := ?v30) rfl (by kernel_rfl) (by kernel_rfl) (by kernel_rfl) (fun _ _ _ h => h) (Or.inl ⟨by rfl, ?hy30⟩) (by assumption) ?rest30
            case hy30 => ((intro w hSw; (try dsimp only at hSw); go_simp) <;> with_reducible rfl)
            case' rest30 => try simp only [List.getElem_toArray, List.getElem_cons_zero, List.getElem_cons_succ, Act.put, List.setIfInBounds_toArray, List.set_cons_zero, List.set_cons_succ]
            refine wpAnyH_take (i := 3) (oi := _) (v := undef) rfl (by kernel_rfl) (by kernel_rfl) (by kernel_rfl) (fun _ _ _ h => h) (Or.inr ⟨by rfl, rfl⟩) (by assumption) ?rest31
            case' rest31 => try simp only [List.getElem_toArray, List.getElem_cons_zero, List.getElem_cons_succ, Act.put, List.setIfInBounds_toArray, List.set_cons_zero, List.set_cons_succ]
            refine wpAnyH_take (i := 4) (oi := _) (v := undef) rfl (by kernel_rfl) (by kernel_rfl) (by kernel_rfl) (fun _ _ _ h => h) (Or.inr ⟨by rfl, rfl⟩) (by assumption) ?rest32
            case' rest32 => try simp only [List.getElem_toArray, List.getElem_cons_zero, List.getElem_cons_succ, Act.put, List.setIfInBounds_toArray, List.set_cons_zero, List.set_cons_succ]
            refine wpAnyH_take (i := 5) (oi := _) (v := undef) rfl (by kernel_rfl) (by kernel_rfl) (by kernel_rfl) (fun _ _ _ h => h) (Or.inr ⟨by rfl, rfl⟩) (by assumption) ?rest33
            case' rest33 => try simp only [List.getElem_toArray, List.getElem_cons_zero, List.getElem_cons_succ, Act.put, List.setIfInBounds_toArray, List.set_cons_zero, List.set_cons_succ]
            refine wpAnyH_take (i := 6) (oi := _) (v := undef) rfl (by kernel_rfl) (by kernel_rfl) (by kernel_rfl) (fun _ _ _ h => h) (Or.inr ⟨by rfl, rfl⟩) (by assumption) ?rest34
            case' rest34 => try simp only [List.getElem_toArray, List.getElem_cons_zero, List.getElem_cons_succ, Act.put, List.setIfInBounds_toArray, List.set_cons_zero, List.set_cons_succ]
            refine wpAnyH_take (i := 7) (oi := _) (v := undef) rfl (by kernel_rfl) (by kernel_rfl) (by kernel_rfl) (fun _ _ _ h => h) (Or.inr ⟨by rfl, rfl⟩) (by assumption) ?rest35
            case' rest35 => try simp only [List.getElem_toArray, List.getElem_cons_zero, List.getElem_cons_succ, Act.put, List.setIfInBounds_toArray, List.set_cons_zero, List.set_cons_succ]
            refine wpAnyH_take (i := 8) (oi := _) (v := undef) rfl (by kernel_rfl) (by kernel_rfl) (by kernel_rfl) (fun _ _ _ h => h) (Or.inr ⟨by rfl, rfl⟩) (by assumption) ?rest36
            case' rest36 => try simp only [List.getElem_toArray, List.getElem_cons_zero, List.getElem_cons_succ, Act.put, List.setIfInBounds_toArray, List.set_cons_zero, List.set_cons_succ]
            refine wpAnyH_take (i := 9) (oi := _) (v := undef) rfl (by kernel_rfl) (by kernel_rfl) (by kernel_rfl) (fun _ _ _ h => h) (Or.inr ⟨by rfl, rfl⟩) (by assumption) ?rest37
            case' rest37 => try simp only [List.getElem_toArray, List.getElem_cons_zero, List.getElem_cons_succ, Act.put, List.setIfInBounds_toArray, List.set_cons_zero, List.set_cons_succ]
            refine wpAnyH_take (i := 10) (oi := _) (v := undef) rfl (by kernel_rfl) (by kernel_rfl) (by kernel_rfl) (fun _ _ _ h => h) (Or.inr ⟨by rfl, rfl⟩) (by assumption) ?rest38
            case' rest38 => try simp only [List.getElem_toArray, List.getElem_cons_zero, List.getElem_cons_succ, Act.put, List.setIfInBounds_toArray, List.set_cons_zero, List.set_cons_succ]
            refine wpAnyH_take (i := 11) (oi := _) (v := ?v39) rfl (by kernel_rfl) (by kernel_rfl) (by kernel_rfl) (fun _ _ _ h => h) (Or.inl ⟨by rfl, ?hy39⟩) (by assumption) ?rest39
            case hy39 => ((intro w hSw; (try dsimp only at hSw); go_simp) <;> with_reducible rfl)
            case' rest39 => try simp only [List.getElem_toArray, List.getElem_cons_zero, List.getElem_cons_succ, Act.put, List.setIfInBounds_toArray, List.set_cons_zero, List.set_cons_succ]
            refine wpAnyH_done (by kernel_rfl) ?_ _
            have hEnd := hHeld.2
            repeat (clear hHeld)
            have HEND := hide hEnd
            clear hEnd
            go_wp2_with fail
            refine (blk_recv11 p pd 0 0 0 (t2 : Nat) ro E.ix E.sub E.df false h (fun _ => True) 0 0 false false false false 0 0 [] 0 0 0 0 none 0 0 _ (HK0.out.2.1.keep (fun q _ hlt => HEND.out.block q hlt) HEND.out.size (fun _ _ h => h))).mono ?_
            rintro e w4 ⟨X4, As4, ns4, cs4, Ao4, no4, co4, rfl, hm4, hO4, hX4, hS4, ho4⟩
            obtain ⟨rfl, rfl, rfl⟩ := ms_none hm4
            have ho := (HOr.out.step HEND.out).trans ho4 (fun _ _ h => h)
            have HBL := hide (below_only ho HBW2.out (fun i (e : i = p) => by omega))
            have HQE4 := hide (blk_only HE4.out ho (show w.heap.size + 1 ≠ p by omega))
            have HSL4 := hide (sl_blk (HS2.out.below HEND.out) (fun ad e => ho4.block _ (by injection e with e; subst e; exact Nat.lt_of_lt_of_le zgq HEND.out.size) (by injection e with e; subst e; show gq ≠ p; omega)))
            have HSE4 := hide (HS.out.below HBL.out)
            obtain ⟨A4', n4', c4', hB4, _⟩ := hS4
            have HB4 := hide hB4
            clear hm4 hO4 hX4 ho4 ho hB4
            unfold outV outZ
            dsimp only
            clear hK_c0 hK_f0 hK_c1 hK_f1 hK_c2 hK_f2 hK_c3 hK_f3 hK_c4 hK_f4
            clear hM_c0 hM_f0 hM_c1 hM_f1 hM_c2 hM_f2 hM_c3 hM_f3 hM_c4 hM_f4 hM_c5 hM_f5 hM_c6 hM_f6 hM_c7 hM_f7 hM_c8 hM_f8 hM_c9 hM_f9 hM_c10 hM_f10 hM_c11 hM_f11 hM_c12 hM_f12 hM_c13 hM_f13
            clear qq_c0 qq_f0 qq_c1 qq_f1 qq_c2 qq_f2 qq_c3 qq_f3 qq_c4 qq_f4 qq_c5 qq_f5 qq_c6 qq_f6 qq_c7 qq_f7 qq_c8 qq_f8 qq_c9 qq_f9 qq_c10 qq_f10 qq_c11 qq_f11 qq_c12 qq_f12 qq_c13 qq_f13 qq_c14 qq_f14 qq_c15 qq_f15
            clear qe_c0 qe_f0 qe_c1 qe_f1 qe_c2 qe_f2 qe_c3 qe_f3 qe_c4 qe_f4 qe_c5 qe_f5 qe_c6 qe_f6 qe_c7 qe_f7 qe_c8 qe_f8 qe_c9 qe_f9 qe_c10 qe_f10
            go_upto_region 42 with fail
            refine wp_gen (P := fun W => Below w4.heap.size w4 W ∧ Blk W w4.heap.size 44 (outV none 0 0 outZ Ao4 no4 co4)) ⟨below_alloc (Below.refl _ _) _, Blk.new w4 44 (outV none 0 0 outZ Ao4 no4 co4)⟩ (fun W5 hW5 => ?_)
            obtain ⟨hb5, hy5⟩ := hW5
            have qe5 := HQE4.out.below hb5 HQE4.out.lt
            have zqe5 := qe5.lt
            have zy5 := hy5.lt
            have s1 : (convert 22 9 (.slice (some ⟨gq, 0, none⟩) n cg)).run Try.prog W5 = .ok (.string ⟨E.df.toArray⟩) W5 := str_b cg HN.out (HSL4.out.below hb5)
            have s2 : (convert 22 9 (.slice A n c)).run Try.prog W5 = .ok (.string ⟨E.df.toArray⟩) W5 := str_b c HN.out (HSE4.out.below hb5)
            have HB5 := hide (HB4.out.below hb5 HB4.out.lt)
            have HBL5 := hide (below_step hb5 HBL.out)
            unfold outV outZ at hy5
            unfold entV at qe5
            have qe5_c0 := qe5.cell 0 rfl
            have qe5_f0 := qe5.frozen 0
            have qe5_c1 := qe5.cell 1 rfl
            have qe5_f1 := qe5.frozen 1
            have qe5_c2 := qe5.cell 2 rfl
            have qe5_f2 := qe5.frozen 2
            have qe5_c3 := qe5.cell 3 rfl
            have qe5_f3 := qe5.frozen 3
            have qe5_c4 := qe5.cell 4 rfl
            have qe5_f4 := qe5.frozen 4
            have qe5_c5 := qe5.cell 5 rfl
            have qe5_f5 := qe5.frozen 5
            have qe5_c6 := qe5.cell 6 rfl
            have qe5_f6 := qe5.frozen 6
            have qe5_c7 := qe5.cell 7 rfl
            have qe5_f7 := qe5.frozen 7
            have qe5_c8 := qe5.cell 8 rfl
            have qe5_f8 := qe5.frozen 8
            have qe5_c9 := qe5.cell 9 rfl
            have qe5_f9 := qe5.frozen 9
            have qe5_c10 := qe5.cell 10 rfl
            have qe5_f10 := qe5.frozen 10
            have hy5_c0 := hy5.cell 0 rfl
            have hy5_f0 := hy5.frozen 0
            have hy5_c1 := hy5.cell 1 rfl
            have hy5_f1 := hy5.frozen 1
            have hy5_c2 := hy5.cell 2 rfl
            have hy5_f2 := hy5.frozen 2
            have hy5_c3 := hy5.cell 3 rfl
            have hy5_f3 := hy5.frozen 3
            have hy5_c4 := hy5.cell 4 rfl
            have hy5_f4 := hy5.frozen 4
            clear hb5
            go_wp2_with fail
            refine (blk_busy p pd (blkIdle (⟨0, 0, 0, ((h : Nat) : Int), ((t2 : Nat) : Int), ro, 6, E.ix, E.sub, E.df, false⟩ : BlkS)) A4' n4' c4' _ HB5.out).mono ?_
            rintro e w6 ⟨rfl, hw6⟩
            subst hw6
            rw [show ((blkIdle (⟨0, 0, 0, ((h : Nat) : Int), ((t2 : Nat) : Int), ro, 6, E.ix, E.sub, E.df, false⟩ : BlkS)).st != 0) = false from rfl]
            go_wp2_with fail
            refine (known_22 _).mono ?_
            rintro e w7 ⟨rfl, hb7⟩
            go_wp2_with fail
            go_ret
            exact (⟨rfl, below_step hb7 HBL5.out⟩ : TrueB w _ _)
          · skip
            have hsv : sumv = sum16L E.df := by have h1 := HSV.out; simpa using h1
            subst hsv
            refine wp_region_held_drew (S := (fun w' => (∀ qA : Addr, qA.block < (wr).heap.size → w'.cell? qA = (wr).cell? qA) ∧ Below (wr).heap.size (wr) w')) (by kernel_rfl) ?hS41 (fun hHeld => ?rest41)
            case hS41 => ((try dsimp only); (((try go_split_ands); refine sn_of ?_; repeat' (first | with_reducible assumption | with_reducible exact Below.refl _ _ | with_reducible apply below_alloc | with_reducible apply below_drew1 | with_reducible apply below_drewN | (with_reducible apply below_step; with_reducible assumption) | (with_reducible apply below_sg2; (first | exact Nat.le_refl _ | (simp; done) | omega))))))
            case' rest41 => skip
            refine wpAnyH_take (i := 0) (oi := _) (v := ?v42) rfl (by kernel_rfl) (by kernel_rfl) (by kernel_rfl) (fun _ _ _ h => h) (Or.inl ⟨by rfl, ?hy42⟩) (by assumption) ?rest42
            case hy42 => ((intro w hSw; (try dsimp only at hSw); go_simp) <;> with_reducible rfl)
            case' rest42 => try simp only [List.getElem_toArray, List.getElem_cons_zero, List.getElem_cons_succ, Act.put, List.setIfInBounds_toArray, List.set_cons_zero, List.set_cons_succ]
            refine wpAnyH_take (i := 1) (oi := _) (v := ?v43) rfl (by kernel_rfl) (by kernel_rfl) (by kernel_rfl) (fun _ _ _ h => h) (Or.inl ⟨by rfl, ?hy43⟩) (by assumption) ?rest43
            case hy43 => ((intro w hSw; (try dsimp only at hSw); go_simp) <;> with_reducible rfl)
            case' rest43 => try simp only [List.getElem_toArray, List.getElem_cons_zero, List.getElem_cons_succ, Act.put, List.setIfInBounds_toArray, List.set_cons_zero, List.set_cons_succ]
            refine wpAnyH_take (i := 2) (oi := _) (v := ?v44) rfl (by kernel_rfl) (by kernel_rfl) (by kernel_rfl) (fun _ _ _ h => h) (Or.inl ⟨by rfl, ?hy44⟩) (by assumption) ?rest44
            case hy44 => ((intro w hSw; (try dsimp only at hSw); go_simp) <;> with_reducible rfl)
            case' rest44 => try simp only [List.getElem_toArray, List.getElem_cons_zero, List.getElem_cons_succ, Act.put, List.setIfInBounds_toArray, List.set_cons_zero, List.set_cons_succ]
            refine wpAnyH_take (i := 3) (oi := _) (v := ?v45) rfl (by kernel_rfl) (by kernel_rfl) (by kernel_rfl) (fun _ _ _ h => h) (Or.inl ⟨by rfl, ?hy45⟩) (by assumption) ?rest45
            case hy45 => ((intro w hSw; (try dsimp only at hSw); go_simp) <;> with_reducible rfl)
            case' rest45 => try simp only [List.getElem_toArray, List.getElem_cons_zero, List.getElem_cons_succ, Act.put, List.setIfInBounds_toArray, List.set_cons_zero, List.set_cons_succ]
            refine wpAnyH_take (i := 4) (oi := _) (v := ?v46) rfl (by kernel_rfl) (by kernel_rfl) (by kernel_rfl) (fun _ _ _ h => h) (Or.inl ⟨by rfl, ?hy46⟩) (by assumption) ?rest46
            case hy46 => ((intro w hSw; (try dsimp only at hSw); go_simp) <;> with_reducible rfl)
            case' rest46 => try simp only [List.getElem_toArray, List.getElem_cons_zero, List.getElem_cons_succ, Act.put, List.setIfInBounds_toArray, List.set_cons_zero, List.set_cons_succ]
            refine wpAnyH_take (i := 5) (oi := _) (v := ?v47) rfl (by kernel_rfl) (by kernel_rfl) (by kernel_rfl) (fun _ _ _ h => h) (Or.inl ⟨by rfl, ?hy47⟩) (by assumption) ?rest47
            case hy47 => ((intro w hSw; (try dsimp only at hSw); go_simp) <;> with_reducible rfl)
            case' rest47 => try simp only [List.getElem_toArray, List.getElem_cons_zero, List.getElem_cons_succ, Act.put, List.setIfInBounds_toArray, List.set_cons_zero, List.set_cons_succ]
            refine wpAnyH_take (i := 6) (oi := _) (v := ?v48) rfl (by kernel_rfl) (by kernel_rfl) (by kernel_rfl) (fun _ _ _ h => h) (Or.inl ⟨by rfl, ?hy48⟩) (by assumption) ?rest48
            case hy48 => ((intro w hSw; (try dsimp only at hSw); go_simp) <;> with_reducible rfl)
            case' rest48 => try simp only [List.getElem_toArray, List.getElem_cons_zero, List.getElem_cons_succ, Act.put, List.setIfInBounds_toArray, List.set_cons_zero, List.set_cons_succ]
            refine wpAnyH_take (i := 7) (oi := _) (v := ?v49) rfl (by kernel_rfl) (by kernel_rfl) (by kernel_rfl) (fun _ _ _ h => h) (Or.inl ⟨by rfl, ?hy49⟩) (by assumption) ?rest49
            case hy49 => ((intro w hSw; (try dsimp only at hSw); go_simp) <;> with_reducible rfl)
            case' rest49 => try simp only [List.getElem_toArray, List.getElem_cons_zero, List.getElem_cons_succ, Act.put, List.setIfInBounds_toArray, List.set_cons_zero, List.set_cons_succ]
            refine wpAnyH_take (i := 8) (oi := _) (v := ?v50) rfl (by kernel_rfl) (by kernel_rfl) (by kernel_rfl) (fun _ _ _ h => h) (Or.inl ⟨by rfl, ?hy50⟩) (by assumption) ?rest50
            case hy50 => ((intro w hSw; (try dsimp only at hSw); go_simp) <;> with_reducible rfl)
            case' rest50 => try simp only [List.getElem_toArray, List.getElem_cons_zero, List.getElem_cons_succ, Act.put, List.setIfInBounds_toArray, List.set_cons_zero, List.set_cons_succ]
            refine wpAnyH_ready (rs := [9]) (by kernel_rfl) (by simp) ?_
            refine AllReadyH.cons (o := _) rfl (fun K hK => ?_) AllReadyH.nil
            go_simp
            refine (sum16_sum (some ⟨gq, 0, none⟩) n cg E.df _ HN.out (by omega) (HS2.out.below (by repeat' (first | with_reducible assumption | with_reducible exact Below.refl _ _ | with_reducible apply below_alloc | with_reducible apply below_drew1 | with_reducible apply below_drewN | (with_reducible apply below_step; with_reducible assumption) | (with_reducible apply below_sg2; (first | exact Nat.le_refl _ | (simp; done) | omega)))))).mono ?_
            rintro e w3 ⟨rfl, hb3⟩
            dsimp only
            refine hK.out _ _ ?hS53 (fun hHeld => ?rest53)
            case hS53 => ((try dsimp only); (((try go_split_ands); refine sn_of ?_; repeat' (first | with_reducible assumption | with_reducible exact Below.refl _ _ | with_reducible apply below_alloc | with_reducible apply below_drew1 | with_reducible apply below_drewN | (with_reducible apply below_step; with_reducible assumption) | (with_reducible apply below_sg2; (first | exact Nat.le_refl _ | (simp; done) | omega))))))
            case' rest53 => (clear hK K; try simp only [List.getElem_toArray, List.getElem_cons_zero, List.getElem_cons_succ, Act.put, List.setIfInBounds_toArray, List.set_cons_zero, List.set_cons_succ])
            refine wpAnyH_take (i := 10) (oi := _) (v := ?v54) rfl (by kernel_rfl) (by kernel_rfl) (by kernel_rfl) (fun _ _ _ h => h) (Or.inl ⟨by rfl, ?hy54⟩) (by assumption) ?rest54
            case hy54 => ((intro w hSw; (try dsimp only at hSw); go_simp) <;> with_reducible rfl)
            case' rest54 => try simp only [List.getElem_toArray, List.getElem_cons_zero, List.getElem_cons_succ, Act.put, List.setIfInBounds_toArray, List.set_cons_zero, List.set_cons_succ]
            refine wpAnyH_take (i := 11) (oi := _) (v := ?v55) rfl (by kernel_rfl) (by kernel_rfl) (by kernel_rfl) (fun _ _ _ h => h) (Or.inl ⟨by rfl, ?hy55⟩) (by assumption) ?rest55
            case hy55 => ((intro w hSw; (try dsimp only at hSw); go_simp) <;> with_reducible rfl)
            case' rest55 => try simp only [List.getElem_toArray, List.getElem_cons_zero, List.getElem_cons_succ, Act.put, List.setIfInBounds_toArray, List.set_cons_zero, List.set_cons_succ]
            refine wpAnyH_done (by kernel_rfl) ?_ _
            have hEnd := hHeld.2
            repeat (clear hHeld)
            have HEND := hide hEnd
            clear hEnd
            go_wp2_with fail
            refine (blk_recv11 p pd 0 0 0 (t2 : Nat) ro E.ix E.sub E.df true h (fun _ => True) 0 0 false false false false 0 0 [] 0 0 0 0 none 0 0 _ (HK0.out.2.1.keep (fun q _ hlt => HEND.out.block q hlt) HEND.out.size (fun _ _ h => h))).mono ?_
            rintro e w4 ⟨X4, As4, ns4, cs4, Ao4, no4, co4, rfl, hm4, hO4, hX4, hS4, ho4⟩
            obtain ⟨rfl, rfl, rfl⟩ := ms_none hm4
            have ho := (HOr.out.step HEND.out).trans ho4 (fun _ _ h => h)
            have HBL := hide (below_only ho HBW2.out (fun i (e : i = p) => by omega))
            have HQE4 := hide (blk_only HE4.out ho (show w.heap.size + 1 ≠ p by omega))
            have HSL4 := hide (sl_blk (HS2.out.below HEND.out) (fun ad e => ho4.block _ (by injection e with e; subst e; exact Nat.lt_of_lt_of_le zgq HEND.out.size) (by injection e with e; subst e; show gq ≠ p; omega)))
            have HSE4 := hide (HS.out.below HBL.out)
            obtain ⟨A4', n4', c4', hB4, _⟩ := hS4
            have HB4 := hide hB4
            clear hm4 hO4 hX4 ho4 ho hB4
            unfold outV outZ
            dsimp only
            clear hK_c0 hK_f0 hK_c1 hK_f1 hK_c2 hK_f2 hK_c3 hK_f3 hK_c4 hK_f4
            clear hM_c0 hM_f0 hM_c1 hM_f1 hM_c2 hM_f2 hM_c3 hM_f3 hM_c4 hM_f4 hM_c5 hM_f5 hM_c6 hM_f6 hM_c7 hM_f7 hM_c8 hM_f8 hM_c9 hM_f9 hM_c10 hM_f10 hM_c11 hM_f11 hM_c12 hM_f12 hM_c13 hM_f13
            clear qq_c0 qq_f0 qq_c1 qq_f1 qq_c2 qq_f2 qq_c3 qq_f3 qq_c4 qq_f4 qq_c5 qq_f5 qq_c6 qq_f6 qq_c7 qq_f7 qq_c8 qq_f8 qq_c9 qq_f9 qq_c10 qq_f10 qq_c11 qq_f11 qq_c12 qq_f12 qq_c13 qq_f13 qq_c14 qq_f14 qq_c15 qq_f15
            clear qe_c0 qe_f0 qe_c1 qe_f1 qe_c2 qe_f2 qe_c3 qe_f3 qe_c4 qe_f4 qe_c5 qe_f5 qe_c6 qe_f6 qe_c7 qe_f7 qe_c8 qe_f8 qe_c9 qe_f9 qe_c10 qe_f10
            go_upto_region 42 with fail
            refine wp_gen (P := fun W => Below w4.heap.size w4 W ∧ Blk W w4.heap.size 44 (outV none 0 0 outZ Ao4 no4 co4)) ⟨below_alloc (Below.refl _ _) _, Blk.new w4 44 (outV none 0 0 outZ Ao4 no4 co4)⟩ (fun W5 hW5 => ?_)
            obtain ⟨hb5, hy5⟩ := hW5
            have qe5 := HQE4.out.below hb5 HQE4.out.lt
            have zqe5 := qe5.lt
            have zy5 := hy5.lt
            have s1 : (convert 22 9 (.slice (some ⟨gq, 0, none⟩) n cg)).run Try.prog W5 = .ok (.string ⟨E.df.toArray⟩) W5 := str_b cg HN.out (HSL4.out.below hb5)
            have s2 : (convert 22 9 (.slice A n c)).run Try.prog W5 = .ok (.string ⟨E.df.toArray⟩) W5 := str_b c HN.out (HSE4.out.below hb5)
            have HB5 := hide (HB4.out.below hb5 HB4.out.lt)
            have HBL5 := hide (below_step hb5 HBL.out)
            unfold outV outZ at hy5
            unfold entV at qe5
            have qe5_c0 := qe5.cell 0 rfl
            have qe5_f0 := qe5.frozen 0
            have qe5_c1 := qe5.cell 1 rfl
            have qe5_f1 := qe5.frozen 1
            have qe5_c2 := qe5.cell 2 rfl
            have qe5_f2 := qe5.frozen 2
            have qe5_c3 := qe5.cell 3 rfl
            have qe5_f3 := qe5.frozen 3
            have qe5_c4 := qe5.cell 4 rfl
            have qe5_f4 := qe5.frozen 4
            have qe5_c5 := qe5.cell 5 rfl
            have qe5_f5 := qe5.frozen 5
            have qe5_c6 := qe5.cell 6 rfl
            have qe5_f6 := qe5.frozen 6
            have qe5_c7 := qe5.cell 7 rfl
            have qe5_f7 := qe5.frozen 7
            have qe5_c8 := qe5.cell 8 rfl
            have qe5_f8 := qe5.frozen 8
            have qe5_c9 := qe5.cell 9 rfl
            have qe5_f9 := qe5.frozen 9
            have qe5_c10 := qe5.cell 10 rfl
            have qe5_f10 := qe5.frozen 10
            have hy5_c0 := hy5.cell 0 rfl
            have hy5_f0 := hy5.frozen 0
            have hy5_c1 := hy5.cell 1 rfl
            have hy5_f1 := hy5.frozen 1
            have hy5_c2 := hy5.cell 2 rfl
            have hy5_f2 := hy5.frozen 2
            have hy5_c3 := hy5.cell 3 rfl
            have hy5_f3 := hy5.frozen 3
            have hy5_c4 := hy5.cell 4 rfl
            have hy5_f4 := hy5.frozen 4
            clear hb5
            go_wp2_with fail
            refine (blk_busy p pd (blkIdle (⟨0, 0, 0, ((h : Nat) : Int), ((t2 : Nat) : Int), ro, 6, E.ix, E.sub, E.df, true⟩ : BlkS)) A4' n4' c4' _ HB5.out).mono ?_
            rintro e w6 ⟨rfl, hw6⟩
            subst hw6
            rw [show ((blkIdle (⟨0, 0, 0, ((h : Nat) : Int), ((t2 : Nat) : Int), ro, 6, E.ix, E.sub, E.df, true⟩ : BlkS)).st != 0) = false from rfl]
            go_wp2_with fail
            refine (known_22 _).mono ?_
            rintro e w7 ⟨rfl, hb7⟩
            go_wp2_with fail
            go_ret
            exact (⟨rfl, below_step hb7 HBL5.out⟩ : TrueB w _ _)
  · have herq : (er != 0) = true := by simp [her]
    clear h0 hv0
    go_wp2_with fail
    refine (known_22 _).mono ?_
    rintro e w2 ⟨rfl, hb2⟩
    go_wp2_with fail
    go_ret
    exact (⟨rfl, below_step hb2 HBW1.out⟩ : TrueB w _ _)
end Go.Proofs.Ytimdmhhgomfijaa
namespace Go.Proofs.Ytimdmhhgomfijaa.lawBlockUp
open Go.ChangeShapes Go.WideShapes Go.ChangeAt Go.RowKit Go.Joins
set_option linter.unusedVariables false

theorem own : ownKnob Try.prog.godebug = none := by kernel_rfl
theorem laidOut : laidOutB Try.prog = true := by kernel_rfl

set_option maxRecDepth 100000 in
theorem lifted (os : Os) (started : os.Started) (H : Type) (enc : TypeId × Value → H) :
    ReturnsInHanded {} Try.checked os 7 .any (Rows.blockUpSpec.pre6 enc Try.prog Try.f7 Rows.blockUpRow.domain false) (Rows.blockUpSpec.post enc Try.prog Try.f7 false true false false) := by
  refine returnsInHanded_of_change (C := Try.checked) own started (by kernel_rfl) Try.func7
    (ChangeSpec.witness6 (enc := enc) (C := Try.checked) false ⟨#[], #[.agg #[.int .i64 0, .int .i64 0, .string ⟨#[]⟩, .int .i64 0, .int .i64 0, .bool false, .bool false, .int .i64 0, .int .i64 0, .int .i64 0, .slice none 0 0, .slice none 0 0, .slice none 0 0, .bool false, .bool false, .slice none 0 0]], []⟩ 8 (by kernel_rfl) (by kernel_rfl) (by kernel_rfl) (by kernel_rfl)) ?_
  intro W base args ds gs before hval0 hW hcnd _
  have hval : ∀ (j : Nat) t v, Try.f7.params[j]? = some t → args[j]? = some v → Value.okWide Try.prog W .any base t v := hval0
  have hW' := hW
  obtain ⟨p, q, hA0, hV, rfl, hfz, hnd⟩ := hW
  have hA : DataW.TrodAll enc Try.prog W 0 (fun _ => true) true Try.f7.params.toList args.toList ds p := hA0
  rw [Try.params7] at hA hval
  obtain ⟨v0, vs0, d0, ds0, p0, q0, hargs, rfl, rfl, h0, r0⟩ := trodAll_cons hA
  obtain ⟨rfl, rfl, rfl⟩ := trodAll_nil r0
  obtain rfl : args = #[v0] := by cases args; simp_all
  obtain ⟨rfl, rfl⟩ := trodVars_none hV
  have k0 := h0
  have lt0 : ∀ x ∈ p0, x.block < W.heap.size := by obtain ⟨m, hm⟩ := k0; exact DataW.trod_lt m _ _ _ hm
  obtain ⟨E0, A0, c0, B0, Ab0, cb0, L0, Al0, cl0, cr0, s0, T0, At0, ct0, rfl, hc0, hs0, hz0, hcb0, hsb0, hcl0, hsl0, hct0, hst0⟩ := open_bsenu (hval 0 59 v0 rfl rfl) h0
  clear hA0 hval0
  refine (blockUp_walk E0 A0 _ c0 Ab0 _ cb0 Al0 _ cl0 cr0 s0 T0 At0 _ ct0 _ rfl hc0 hz0 hs0 rfl hst0).mono fun e W' hTB => ?_
  obtain ⟨he, bel⟩ := hTB
  subst he
  exact ⟨_, rfl, _, _, _, [], _, [], hW', trodAll_mk1 (shut_bool Try.underlying4 _), (trodAll_cons_mk (Below.trod laidOut (by kernel_rfl) (of_decide_eq_true (by kernel_rfl)) k0 bel lt0) trodAll_mk0), rfl, bel.frame _, fun h => by cases h⟩

theorem over : Rows.blockUpRow.holds Try.pinned (OpenSpec.ofChange Rows.blockUpSpec) :=
  OpenClaim.holds_of_wide 7 Try.f7 rfl rfl rfl rfl rfl rfl rfl ⟨rfl, rfl, rfl, rfl, rfl⟩ rfl rfl rfl rfl rfl (by kernel_rfl) Try.func7 (by kernel_rfl)
    (of_decide_eq_true (by kernel_rfl)) (by unfold Func.isWrapper; first | (rw [if_pos (by decide +kernel)]; kernel_rfl) | (rw [if_neg (by decide +kernel)]; exact ⟨rfl, rfl⟩))
    (fun os started H enc _ => lifted os started H enc)

theorem proved : Rows.BlockUpSaid := over
#print axioms proved
end Go.Proofs.Ytimdmhhgomfijaa.lawBlockUp

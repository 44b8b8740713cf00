/- The walk of SegUp. -/
import Derived.Test.YtimdmhhgomfijaaSegN
import Derived.Test.YtimdmhhgomfijaaSegU
namespace Go.Proofs.Ytimdmhhgomfijaa
set_option linter.unusedVariables false
set_option linter.unusedSimpArgs false
set_option linter.unnecessarySimpa false
open Go.RowKit
set_option maxRecDepth 100000
set_option maxHeartbeats 4000000
theorem sle_one {w : World} {g : Nat} {E : Ent} {A : Option Addr} {n c : Nat} (hB : Blk w g 24 (entV E A n c)) (hn : n = E.df.length) (hc : n ≤ c) (hs : Sl w A (E.df.map bv)) : SlE w (some ⟨g, 0, none⟩) [E] := by
  intro j E' hj
  have hj0 : j = 0 := by
    have := (List.getElem?_eq_some_iff.1 hj).1
    simp at this
    exact this
  subst hj0
  injection hj with hj
  subst hj
  subst hn
  exact ⟨g, 0, A, c, rfl, ⟨hB.cell 0 rfl, hB.cell 1 rfl, hB.cell 2 rfl, hB.cell 3 rfl, hB.cell 4 rfl, hB.cell 5 rfl, hB.cell 6 rfl, hB.cell 7 rfl, hB.cell 8 rfl, hB.cell 9 rfl, hB.cell 10 rfl⟩, hc, hs⟩
theorem Only.far {F : Nat → Prop} {a b c : World} {N : Nat} (h : Only F a b) (k : Below N b c) (hN : a.heap.size ≤ N) : Only F a c := ⟨k.os.trans h.os, k.tape.trans h.tape, k.output.trans h.output, Nat.le_trans h.size k.size, fun i hi hF => (k.block i (by omega)).trans (h.block i hi hF)⟩
/-- blocks that a server's bytes may lie in: not the row, not the answer -/
def GL (Ag : Option Addr) (x0 q : Nat) : Prop := Ag ≠ some ⟨q, 0, none⟩ ∧ q ≠ x0
/-- behind an answer of one message -/
def UpR (w2 : World) (p pd x0 : Nat) (S : SegS) (M : Ms) (g : Nat) (Ao : Option Addr) (no co : Nat) (Ad : Option Addr) (nd cd : Nat) (W : World) : Prop :=
  Only (fun q => q = p) w2 W ∧ SV_ W (GL none x0) p pd S ∧ Blk W x0 44 (outV (some ⟨g, 0, none⟩) 1 1 (outM M) Ao no co) ∧ Blk W g 39 (msV M Ad nd cd) ∧ OwnB W w2.heap.size Ad nd cd M.data ∧ W.heap.size = x0 + 1 ∧ w2.heap.size ≤ x0
theorem upR_mk {w2 w3 : World} {p pd : Nat} {S : SegS} {M : Ms} {g : Nat} {Ao : Option Addr} {no co : Nat} {Ad : Option Addr} {nd cd : Nat} {G : Nat → Prop} (h1 : Only (fun q => q = p) w2 w3) (h2 : SV_ w3 G p pd S) (h3 : Blk w3 g 39 (msV M Ad nd cd)) (h4 : OwnB w3 w2.heap.size Ad nd cd M.data) :
    UpR w2 p pd w3.heap.size S M g Ao no co Ad nd cd (w3.alloc (.cells (outV (some ⟨g, 0, none⟩) 1 1 (outM M) Ao no co) 44)) :=
  ⟨h1.new _, h2.keep (fun q _ hq => Below.heap_alloc _ _ _ hq) (by simp) (fun q hq _ => ⟨by simp, by omega⟩), Blk.new w3 44 _, h3.alloc _, h4.alloc _, by simp, h1.size⟩
/-- behind a segment's answer -/
def UpB (w2 : World) (p pd x0 : Nat) (S : SegS) (M : Ms) (g : Nat) (Ao : Option Addr) (no co : Nat) (Ad : Option Addr) (nd cd : Nat) (Ag : Option Addr) (ng cg : Nat) (l : List UInt8) (W : World) : Prop :=
  Only (fun q => q = p) w2 W ∧ SV_ W (GL Ag x0) p pd S ∧ Blk W x0 44 (outV (some ⟨g, 0, none⟩) 1 1 (outM M) Ao no co) ∧ Blk W g 39 (msV M Ad nd cd) ∧ OwnB W (x0 + 1) Ad nd cd M.data ∧ OwnB W (x0 + 1) Ag ng cg l
theorem upB_mk {w2 wr w3 : World} {p pd x0 : Nat} {S : SegS} {M : Ms} {g : Nat} {As : Option Addr} {ns cs : Nat} {O : SegO} {A : Option Addr} {n c : Nat} {Ao : Option Addr} {no co : Nat} {Ad : Option Addr} {nd cd : Nat} {X : Nat → Prop} {Ag : Option Addr} {ng cg : Nat} {l : List UInt8}
    (h0 : Only (fun q => q = p) w2 wr) (h1 : Only (fun q => q = p) wr w3) (hx : w2.heap.size ≤ x0) (hp : p < w2.heap.size) (hK : Blk wr x0 44 (outV As ns cs O A n c)) (h2 : SV_ w3 (fun q => (GL Ag x0 q ∨ wr.heap.size ≤ q) ∧ ¬ X q) p pd S)
    (hg : wr.heap.size ≤ g) (h3 : Blk w3 g 39 (msV M Ad nd cd)) (h4 : OwnB w3 wr.heap.size Ad nd cd M.data) (h5 : OwnB wr (x0 + 1) Ag ng cg l) :
    Blk w3 x0 44 (outV As ns cs O A n c) ∧ UpB w2 p pd x0 S M g Ao no co Ad nd cd Ag ng cg l (putO w3 x0 (some ⟨g, 0, none⟩) 1 1 (outM M) Ao no co) := by
  have hz := hK.lt
  have hb := blk_only hK h1 (show x0 ≠ p by omega)
  have hG : ∀ q, (GL Ag x0 q ∨ wr.heap.size ≤ q) ∧ ¬ X q → GL Ag x0 q := by
    rintro q ⟨h | h, _⟩
    · exact h
    · refine ⟨?_, by omega⟩
      rintro rfl
      rcases h5.own.shape with ⟨h', _⟩ | ⟨q', h', h1', h2'⟩
      · cases h'
      · injection h' with h'
        injection h' with h'
        omega
  refine ⟨hb, putO_only (h0.trans h1 (fun _ _ h => h)) hx _ _ _ _ _ _ _, ?_, putO_blk hb, putO_far h3 (by omega) _ _ _ _ _ _ _, (putO_own h4 (by omega) _ _ _ _ _ _ _).mono (by omega), putO_own (ownB_only h5 h1 (fun q h _ e => by omega)) (by omega) _ _ _ _ _ _ _⟩
  exact h2.keep (fun q hq _ => putO_heap (by rcases hq with rfl | hq; omega; exact (hG q hq).2) _ _ _ _ _ _ _) (by rw [putO_size]; exact Nat.le_refl _) (fun q _ hq => hG q hq)
/-- the loop's beginning -/
def UpL (w2 : World) (E : Ent) (p pd x0 : Nat) (vg vt vi : Value) (W : World) : Prop :=
  ∃ (j : Nat) (S : SegS) (Ag : Option Addr) (ng cg : Nat) (b : Bool) (As : Option Addr) (ns cs : Nat) (O : SegO) (Ao : Option Addr) (no co : Nat),
    vi = .int .i64 (j : Nat) ∧ vg = .slice Ag ng cg ∧ vt = .bool b ∧ j ≤ 40 ∧ ((S = givS E (E.df.drop (7 * j)) b ∧ (j = 0 ∨ 7 * j < E.df.length)) ∨ (S = doneS E b ∧ E.df.length ≤ 7 * j)) ∧
    Only (fun q => q = p) w2 W ∧ SV_ W (GL Ag x0) p pd S ∧ Blk W x0 44 (outV As ns cs O Ao no co) ∧ OwnB W (x0 + 1) Ag ng cg (E.df.take (7 * j)) ∧ w2.heap.size ≤ x0
theorem upL_mk {w2 W : World} {E : Ent} {p pd x0 : Nat} {M : Ms} {g : Nat} {Ao : Option Addr} {no co : Nat} {Ad : Option Addr} {nd cd : Nat} (h : UpR w2 p pd x0 (givS E E.df false) M g Ao no co Ad nd cd W) : UpL w2 E p pd x0 (.slice none 0 0) (.bool false) (.int .i64 0) W := by
  obtain ⟨h1, h2, h3, h4, h5, h6, h7⟩ := h
  exact ⟨0, givS E E.df false, none, 0, 0, false, _, _, _, _, _, _, _, rfl, rfl, rfl, by omega, .inl ⟨rfl, .inl rfl⟩, h1, h2, h3, OwnB.nil _ _, h7⟩
/-- the row has grown: the next round -/
theorem upL_next {w2 W W6 : World} {E : Ent} {p pd x0 : Nat} {S : SegS} {M : Ms} {g : Nat} {Ao : Option Addr} {no co : Nat} {Ad : Option Addr} {nd cd : Nat} {Ag : Option Addr} {ng cg : Nat} {j : Nat} {l : List UInt8} {A6 : Option Addr} {n6 c6 : Nat} {b : Bool} (h : UpB w2 p pd x0 S M g Ao no co Ad nd cd Ag ng cg l W) (hx : w2.heap.size ≤ x0) (hp : p < w2.heap.size)
    (h6 : OwnB W6 (x0 + 1) A6 n6 c6 (E.df.take (7 * (j + 1)))) (hg : W.grownBy W6 (Value.ownBlock (.slice Ag ng cg))) (hA : A6 = Ag ∨ A6 = some ⟨W.heap.size, 0, none⟩) (hb6 : Below (x0 + 1) W W6) (hj : j + 1 ≤ 40) (hS : (S = givS E (E.df.drop (7 * (j + 1))) b ∧ (j + 1 = 0 ∨ 7 * (j + 1) < E.df.length)) ∨ (S = doneS E b ∧ E.df.length ≤ 7 * (j + 1))) (vi : Value) (hvi : vi = .int .i64 ((j + 1 : Nat) : Int)) :
    UpL w2 E p pd x0 (.slice A6 n6 c6) (.bool b) vi W6 := by
  obtain ⟨h1, h2, h3, h4, h5, h7⟩ := h
  have ho : Only (fun q => Ag = some ⟨q, 0, none⟩) W W6 := Only.of_grown hg (fun q hq => by
    rcases h7.own.shape with ⟨rfl, _, _⟩ | ⟨q', rfl, _, _⟩
    · simp [Value.ownBlock] at hq
    · simp [Value.ownBlock] at hq
      subst hq
      rfl)
  refine ⟨j + 1, S, A6, n6, c6, b, _, _, _, _, _, _, _, hvi, rfl, rfl, hj, hS, h1.far hb6 (by omega), ?_, (hb6.block _ (Nat.lt_succ_self _)).trans h3, h6, hx⟩
  refine h2.keep (fun q hq hlt => ?_) ho.size (fun q hlt hq => ⟨?_, hq.2⟩)
  · rcases hq with rfl | hq
    · exact hb6.block _ (by omega)
    · exact ho.block q hlt hq.1
  · rcases hA with rfl | rfl
    · exact hq.1
    · intro e
      injection e with e
      injection e with e
      omega
theorem upB_drew {w2 W : World} {p pd x0 : Nat} {S : SegS} {M : Ms} {g : Nat} {Ao : Option Addr} {no co : Nat} {Ad : Option Addr} {nd cd : Nat} {Ag : Option Addr} {ng cg : Nat} {l : List UInt8} (h : UpB w2 p pd x0 S M g Ao no co Ad nd cd Ag ng cg l W) : UpB w2 p pd x0 S M g Ao no co Ad nd cd Ag ng cg l W.drew :=
  ⟨h.1.drew, h.2.1, h.2.2.1, h.2.2.2.1, h.2.2.2.2.1.drew, h.2.2.2.2.2.drew⟩
theorem segUp_walk (E : Ent) (A : Option Addr) (n c : Nat) (w : World) (hn : n = E.df.length) (hc : n ≤ c) (hx : E.nm.size ≤ 9223372036854775807) (hs : Sl w A (E.df.map bv)) : Calls Try.prog 4 #[.agg (entV E A n c)] w (TrueB w) := by
  have q := blk_one w 24 (entV E A n c)
  have hbw := below_alloc (Below.refl w.heap.size w) (.cells (entV E A n c) 24)
  obtain ⟨q1, q2⟩ := blk_two w 24 24 (entV E A n c) (entV E A n c)
  have hbw2 := below_alloc hbw (.cells (entV E A n c) 24)
  have HSE := hide (sle_one q2 hn hc (hs.below hbw2))
  have HQ := hide q
  have HB := hide hbw
  have HQ2 := hide q1
  have HB2 := hide hbw2
  have HN := hide hn
  have HS := hide hs
  clear hn q1 q2 hbw hbw2 hs
  unfold entV at q HSE HB HB2 ⊢
  have q_c0 := q.cell 0 rfl
  have q_f0 := q.frozen 0
  have q_c1 := q.cell 1 rfl
  have q_f1 := q.frozen 1
  have q_c2 := q.cell 2 rfl
  have q_f2 := q.frozen 2
  have q_c3 := q.cell 3 rfl
  have q_f3 := q.frozen 3
  have q_c4 := q.cell 4 rfl
  have q_f4 := q.frozen 4
  have q_c5 := q.cell 5 rfl
  have q_f5 := q.frozen 5
  have q_c6 := q.cell 6 rfl
  have q_f6 := q.frozen 6
  have q_c7 := q.cell 7 rfl
  have q_f7 := q.frozen 7
  have q_c8 := q.cell 8 rfl
  have q_f8 := q.frozen 8
  have q_c9 := q.cell 9 rfl
  have q_f9 := q.frozen 9
  have q_c10 := q.cell 10 rfl
  have q_f10 := q.frozen 10
  by_cases h1000 : 1000 < n
  · go_enter Try.func4, Try.ntmps4
    go_wp2_with fail
    refine (known_21 _).mono ?_
    rintro e w1 ⟨rfl, hb1⟩
    go_wp2_with fail
    go_ret
    exact (⟨rfl, below_step hb1 HB.out⟩ : TrueB w _ _)
  · go_enter Try.func4, Try.ntmps4
    go_wp2_with fail
    refine (dict_new _ 1 1 [E] _ rfl HSE.out (by intro E' h; simp at h; subst h; exact ⟨by have := HN.out; omega, hx⟩)).mono ?_
    rintro e w1 ⟨v, er, at_, rfl, hnp, hv0, h0, hb1⟩
    have HNP := hide hnp
    have HBW1 := hide (below_step hb1 HB2.out)
    have HQ3 := hide (HQ2.out.below hb1 HQ2.out.lt)
    have qq := HQ3.out
    unfold entV at qq
    clear q_c0 q_f0 q_c1 q_f1 q_c2 q_f2 q_c3 q_f3 q_c4 q_f4 q_c5 q_f5 q_c6 q_f6 q_c7 q_f7 q_c8 q_f8 q_c9 q_f9 q_c10 q_f10
    clear q hnp hb1
    have qq_c0 := qq.cell 0 rfl
    have qq_f0 := qq.frozen 0
    have qq_c1 := qq.cell 1 rfl
    have qq_f1 := qq.frozen 1
    have qq_c2 := qq.cell 2 rfl
    have qq_f2 := qq.frozen 2
    have qq_c3 := qq.cell 3 rfl
    have qq_f3 := qq.frozen 3
    have qq_c4 := qq.cell 4 rfl
    have qq_f4 := qq.frozen 4
    have qq_c5 := qq.cell 5 rfl
    have qq_f5 := qq.frozen 5
    have qq_c6 := qq.cell 6 rfl
    have qq_f6 := qq.frozen 6
    have qq_c7 := qq.cell 7 rfl
    have qq_f7 := qq.frozen 7
    have qq_c8 := qq.cell 8 rfl
    have qq_f8 := qq.frozen 8
    have qq_c9 := qq.cell 9 rfl
    have qq_f9 := qq.frozen 9
    have qq_c10 := qq.cell 10 rfl
    have qq_f10 := qq.frozen 10
    by_cases her : er = 0
    · obtain ⟨pd, gl, nn, cl, Av, cv, ds, es, rfl, hnn, hD⟩ := h0 her
      by_cases hac : E.acc = 3
      · go_wp2_with fail
        refine (known_21 _).mono ?_
        rintro e w2 ⟨rfl, hb2⟩
        go_wp2_with fail
        go_ret
        exact (⟨rfl, below_step hb2 HBW1.out⟩ : TrueB w _ _)
      · have hacq : (E.acc == 3) = false := by simp [hac]
        have HAC := hide hac
        subst her
        have HRT : Hid (ValsP1 E) := hide (right_one HNP.out)
        have HD : Hid (DB 75 w1 (fun g => g < w1.heap.size) pd (some ⟨gl, 0, none⟩) nn cl Av cv [E] [E.df] ds es) := hide (hD.mono (fun g h _ => h))
        have H1 : Hid (nn ≤ 1000) := hide (by rw [hnn]; simp)
        clear hD hnn h0 hv0 hac
        go_wp2_with fail
        refine (seg_new pd _).mono ?_
        rintro e w2 ⟨rfl, hB2, hb2, hz2⟩
        obtain ⟨p, hpp⟩ : ∃ p, p = w1.heap.size := ⟨_, rfl⟩
        rw [← hpp] at hB2 ⊢
        have HPP := hide hpp
        have HBW2 := hide (below_step hb2 HBW1.out)
        have HD2 := hide (HD.out.below hb2)
        have HQ4 := hide (HQ3.out.below hb2 HQ3.out.lt)
        have HS2 : Hid (SV_ w2 (fun _ => True) p pd segZ) := hide ⟨none, 0, 0, hB2, fun h => absurd h (by decide)⟩
        have zp2 := hB2.lt
        have hwp : w.heap.size < p := by rw [hpp]; exact HQ3.out.lt
        clear qq_c0 qq_f0 qq_c1 qq_f1 qq_c2 qq_f2 qq_c3 qq_f3 qq_c4 qq_f4 qq_c5 qq_f5 qq_c6 qq_f6 qq_c7 qq_f7 qq_c8 qq_f8 qq_c9 qq_f9 qq_c10 qq_f10
        clear hb2 hz2 hB2 hpp qq
        have qq := HQ4.out
        unfold entV at qq
        have qq_c0 := qq.cell 0 rfl
        have qq_f0 := qq.frozen 0
        have qq_c1 := qq.cell 1 rfl
        have qq_f1 := qq.frozen 1
        have qq_c2 := qq.cell 2 rfl
        have qq_f2 := qq.frozen 2
        have qq_c3 := qq.cell 3 rfl
        have qq_f3 := qq.frozen 3
        have qq_c4 := qq.cell 4 rfl
        have qq_f4 := qq.frozen 4
        have qq_c5 := qq.cell 5 rfl
        have qq_f5 := qq.frozen 5
        have qq_c6 := qq.cell 6 rfl
        have qq_f6 := qq.frozen 6
        have qq_c7 := qq.cell 7 rfl
        have qq_f7 := qq.frozen 7
        have qq_c8 := qq.cell 8 rfl
        have qq_f8 := qq.frozen 8
        have qq_c9 := qq.cell 9 rfl
        have qq_f9 := qq.frozen 9
        have qq_c10 := qq.cell 10 rfl
        have qq_f10 := qq.frozen 10
        have hR := hide (fun W S M G (h : Only (fun q => q = p) w2 W) (hs : SV_ W G p pd S) (hm : M.data = []) (hz : M.size ≤ 4294967295) (hb : S.st = 1 ∨ S.st = 2 → S.b.length ≤ 256) => seg_recv (V := [E.df]) p S G M none 0 0 W (HD2.out.keep (w' := W) (fun g (hg : g < w1.heap.size) hlt => h.block g hlt (fun e => by have := HPP.out; omega))) (List.pairwise_singleton _ _) H1.out (by intro v h; simp at h; subst h; exact HRT.out.2) (by rw [HPP.out]; simp) hs (by rw [hm]; rfl) (by decide) (fun W _ => by rw [hm]; intro j u hu; simp at hu) hz hb)
        go_wp2_with fail
        refine (hR.out w2 segZ (upMsg E) _ (Only.refl _ _) HS2.out rfl (Nat.zero_le _) (by decide)).mono ?_
        rintro e w3 ⟨X3, As3, ns3, cs3, A3, n3, c3, rfl, hm3, hO3, hX3, hS3, ho3⟩
        by_cases hsh : 0 < E.df.length ∧ E.df.length ≤ 4
        · obtain ⟨u1, u2⟩ := up_short E HAC.out hsh.1 hsh.2
          rw [u1] at hS3
          rw [u2] at hm3 hO3 ⊢
          obtain ⟨g3, Ad3, nd3, cd3, rfl, rfl, rfl, hg3, hM3, hOd3⟩ := ms_one hm3
          unfold outV outM
          dsimp only
          have HX : Hid (UpR w2 p pd w3.heap.size segZ (upM E.ix E.sub 0 E.df) g3 A3 n3 c3 Ad3 nd3 cd3 (w3.alloc (.cells (outV (some ⟨g3, 0, none⟩) 1 1 (outM (upM E.ix E.sub 0 E.df)) A3 n3 c3) 44))) := hide (upR_mk ho3 hS3 hM3 (hOd3.mono (Nat.le_refl _)))
          obtain ⟨x0, hx0⟩ : ∃ x0, x0 = w3.heap.size := ⟨_, rfl⟩
          have z3 := ho3.size
          clear hm3 hO3 hX3 hS3 hM3 hOd3 ho3
          go_upto_region 10 with fail
          refine wp_gen (P := UpR w2 p pd w3.heap.size segZ (upM E.ix E.sub 0 E.df) g3 A3 n3 c3 Ad3 nd3 cd3) HX.out (fun W hW => ?_)
          clear HX
          rw [← hx0] at hW ⊢
          obtain ⟨hO, hS, hK, hM, hD, hz, hx⟩ := id hW
          have HW := hide hW
          have HO := hide hO
          have HSV := hide hS
          have HOD := hide hD
          have hbw : Below w.heap.size w W := below_only hO HBW2.out (fun i (e : i = p) => by omega)
          have HBL := hide hbw
          have qe := blk_only HQ4.out hO (show w.heap.size ≠ p by omega)
          have zz2 : w.heap.size < w2.heap.size := HQ4.out.lt
          have HSE2 := hide (HS.out.below hbw)
          unfold entV at qe
          unfold outV outM at hK
          unfold msV upM at hM
          have qe_c0 := qe.cell 0 rfl
          have qe_f0 := qe.frozen 0
          have qe_c1 := qe.cell 1 rfl
          have qe_f1 := qe.frozen 1
          have qe_c2 := qe.cell 2 rfl
          have qe_f2 := qe.frozen 2
          have qe_c3 := qe.cell 3 rfl
          have qe_f3 := qe.frozen 3
          have qe_c4 := qe.cell 4 rfl
          have qe_f4 := qe.frozen 4
          have qe_c5 := qe.cell 5 rfl
          have qe_f5 := qe.frozen 5
          have qe_c6 := qe.cell 6 rfl
          have qe_f6 := qe.frozen 6
          have qe_c7 := qe.cell 7 rfl
          have qe_f7 := qe.frozen 7
          have qe_c8 := qe.cell 8 rfl
          have qe_f8 := qe.frozen 8
          have qe_c9 := qe.cell 9 rfl
          have qe_f9 := qe.frozen 9
          have qe_c10 := qe.cell 10 rfl
          have qe_f10 := qe.frozen 10
          have hK_c0 := hK.cell 0 rfl
          have hK_f0 := hK.frozen 0
          have hK_c1 := hK.cell 1 rfl
          have hK_f1 := hK.frozen 1
          have hK_c2 := hK.cell 2 rfl
          have hK_f2 := hK.frozen 2
          have hK_c3 := hK.cell 3 rfl
          have hK_f3 := hK.frozen 3
          have hK_c4 := hK.cell 4 rfl
          have hK_f4 := hK.frozen 4
          have hM_c0 := hM.cell 0 rfl
          have hM_f0 := hM.frozen 0
          have hM_c1 := hM.cell 1 rfl
          have hM_f1 := hM.frozen 1
          have hM_c2 := hM.cell 2 rfl
          have hM_f2 := hM.frozen 2
          have hM_c3 := hM.cell 3 rfl
          have hM_f3 := hM.frozen 3
          have hM_c4 := hM.cell 4 rfl
          have hM_f4 := hM.frozen 4
          have hM_c5 := hM.cell 5 rfl
          have hM_f5 := hM.frozen 5
          have hM_c6 := hM.cell 6 rfl
          have hM_f6 := hM.frozen 6
          have hM_c7 := hM.cell 7 rfl
          have hM_f7 := hM.frozen 7
          have hM_c8 := hM.cell 8 rfl
          have hM_f8 := hM.frozen 8
          have hM_c9 := hM.cell 9 rfl
          have hM_f9 := hM.frozen 9
          have hM_c10 := hM.cell 10 rfl
          have hM_f10 := hM.frozen 10
          have hM_c11 := hM.cell 11 rfl
          have hM_f11 := hM.frozen 11
          have hM_c12 := hM.cell 12 rfl
          have hM_f12 := hM.frozen 12
          have hM_c13 := hM.cell 13 rfl
          have hM_f13 := hM.frozen 13
          have zW : x0 < W.heap.size := hK.lt
          have zew : w.heap.size < W.heap.size := qe.lt
          have zg : g3 < W.heap.size := hM.lt
          clear hW hO hS hD hbw hz hx0 z3
          have n1 : (1 : Int) ≤ (n : Int) := by have := HN.out; omega
          have n4 : (n : Int) ≤ 4 := by have := HN.out; omega
          obtain ⟨A8, n8, c8, hB8, _⟩ := HSV.out
          have HB8 := hide hB8
          have s1 : ∀ W', Below W.heap.size W W' → (convert 22 9 (.slice Ad3 nd3 cd3)).run Try.prog W' = .ok (.string ⟨E.df.toArray⟩) W' := fun W' h => str_b cd3 HOD.out.hn (HOD.out.sl.below h)
          have s2 : ∀ W', Below W.heap.size W W' → (convert 22 9 (.slice A n c)).run Try.prog W' = .ok (.string ⟨E.df.toArray⟩) W' := fun W' h => str_b c HN.out (HSE2.out.below h)
          clear hB8
          go_wp2_with fail
          refine wp_region_held_drew (S := (fun w' => (∀ qA : Addr, qA.block < (W).heap.size → w'.cell? qA = (W).cell? qA) ∧ Below (W).heap.size (W) w')) (by kernel_rfl) ?hS1 (fun hHeld => ?rest1)
          case hS1 => ((try dsimp only); (((try go_split_ands); refine sn_of ?_; repeat' (first | with_reducible assumption | with_reducible exact Below.refl _ _ | with_reducible apply below_alloc | with_reducible apply below_drew1 | with_reducible apply below_drewN | (with_reducible apply below_step; with_reducible assumption) | (with_reducible apply below_sg2; (first | exact Nat.le_refl _ | (simp; done) | omega))))))
          case' rest1 => skip
          refine wpAnyH_take (i := 0) (oi := _) (v := ?v2) rfl (by kernel_rfl) (by kernel_rfl) (by kernel_rfl) (fun _ _ _ h => h) (Or.inl ⟨by rfl, ?hy2⟩) (by assumption) ?rest2
          case hy2 => ((intro w hSw; (try dsimp only at hSw); go_simp) <;> with_reducible rfl)
          case' rest2 => try simp only [List.getElem_toArray, List.getElem_cons_zero, List.getElem_cons_succ, Act.put, List.setIfInBounds_toArray, List.set_cons_zero, List.set_cons_succ]
          refine wpAnyH_take (i := 1) (oi := _) (v := ?v3) rfl (by kernel_rfl) (by kernel_rfl) (by kernel_rfl) (fun _ _ _ h => h) (Or.inl ⟨by rfl, ?hy3⟩) (by assumption) ?rest3
          case hy3 => ((intro w hSw; (try dsimp only at hSw); go_simp) <;> with_reducible rfl)
          case' rest3 => try simp only [List.getElem_toArray, List.getElem_cons_zero, List.getElem_cons_succ, Act.put, List.setIfInBounds_toArray, List.set_cons_zero, List.set_cons_succ]
          refine wpAnyH_take (i := 2) (oi := _) (v := ?v4) rfl (by kernel_rfl) (by kernel_rfl) (by kernel_rfl) (fun _ _ _ h => h) (Or.inl ⟨by rfl, ?hy4⟩) (by assumption) ?rest4
          case hy4 => ((intro w hSw; (try dsimp only at hSw); go_simp) <;> with_reducible rfl)
          case' rest4 => try simp only [List.getElem_toArray, List.getElem_cons_zero, List.getElem_cons_succ, Act.put, List.setIfInBounds_toArray, List.set_cons_zero, List.set_cons_succ]
          refine wpAnyH_take (i := 3) (oi := _) (v := ?v5) rfl (by kernel_rfl) (by kernel_rfl) (by kernel_rfl) (fun _ _ _ h => h) (Or.inl ⟨by rfl, ?hy5⟩) (by assumption) ?rest5
          case hy5 => ((intro w hSw; (try dsimp only at hSw); go_simp) <;> with_reducible rfl)
          case' rest5 => try simp only [List.getElem_toArray, List.getElem_cons_zero, List.getElem_cons_succ, Act.put, List.setIfInBounds_toArray, List.set_cons_zero, List.set_cons_succ]
          refine wpAnyH_take (i := 4) (oi := _) (v := ?v6) rfl (by kernel_rfl) (by kernel_rfl) (by kernel_rfl) (fun _ _ _ h => h) (Or.inl ⟨by rfl, ?hy6⟩) (by assumption) ?rest6
          case hy6 => ((intro w hSw; (try dsimp only at hSw); go_simp) <;> with_reducible rfl)
          case' rest6 => try simp only [List.getElem_toArray, List.getElem_cons_zero, List.getElem_cons_succ, Act.put, List.setIfInBounds_toArray, List.set_cons_zero, List.set_cons_succ]
          refine wpAnyH_take (i := 5) (oi := _) (v := ?v7) rfl (by kernel_rfl) (by kernel_rfl) (by kernel_rfl) (fun _ _ _ h => h) (Or.inl ⟨by rfl, ?hy7⟩) (by assumption) ?rest7
          case hy7 => ((intro w hSw; (try dsimp only at hSw); go_simp) <;> with_reducible rfl)
          case' rest7 => try simp only [List.getElem_toArray, List.getElem_cons_zero, List.getElem_cons_succ, Act.put, List.setIfInBounds_toArray, List.set_cons_zero, List.set_cons_succ]
          refine wpAnyH_take (i := 6) (oi := _) (v := ?v8) rfl (by kernel_rfl) (by kernel_rfl) (by kernel_rfl) (fun _ _ _ h => h) (Or.inl ⟨by rfl, ?hy8⟩) (by assumption) ?rest8
          case hy8 => ((intro w hSw; (try dsimp only at hSw); go_simp) <;> with_reducible rfl)
          case' rest8 => try simp only [List.getElem_toArray, List.getElem_cons_zero, List.getElem_cons_succ, Act.put, List.setIfInBounds_toArray, List.set_cons_zero, List.set_cons_succ]
          refine wpAnyH_take (i := 7) (oi := _) (v := ?v9) rfl (by kernel_rfl) (by kernel_rfl) (by kernel_rfl) (fun _ _ _ h => h) (Or.inl ⟨by rfl, ?hy9⟩) (by assumption) ?rest9
          case hy9 => ((intro w hSw; (try dsimp only at hSw); go_simp) <;> with_reducible rfl)
          case' rest9 => try simp only [List.getElem_toArray, List.getElem_cons_zero, List.getElem_cons_succ, Act.put, List.setIfInBounds_toArray, List.set_cons_zero, List.set_cons_succ]
          refine wpAnyH_take (i := 8) (oi := _) (v := ?v10) rfl (by kernel_rfl) (by kernel_rfl) (by kernel_rfl) (fun _ _ _ h => h) (Or.inl ⟨by rfl, ?hy10⟩) (by assumption) ?rest10
          case hy10 => ((intro w hSw; (try dsimp only at hSw); go_simp) <;> with_reducible rfl)
          case' rest10 => try simp only [List.getElem_toArray, List.getElem_cons_zero, List.getElem_cons_succ, Act.put, List.setIfInBounds_toArray, List.set_cons_zero, List.set_cons_succ]
          refine wpAnyH_take (i := 9) (oi := _) (v := ?v11) rfl (by kernel_rfl) (by kernel_rfl) (by kernel_rfl) (fun _ _ _ h => h) (Or.inl ⟨by rfl, ?hy11⟩) (by assumption) ?rest11
          case hy11 => ((intro w hSw; (try dsimp only at hSw); go_simp) <;> with_reducible rfl)
          case' rest11 => try simp only [List.getElem_toArray, List.getElem_cons_zero, List.getElem_cons_succ, Act.put, List.setIfInBounds_toArray, List.set_cons_zero, List.set_cons_succ]
          refine wpAnyH_take (i := 10) (oi := _) (v := ?v12) rfl (by kernel_rfl) (by kernel_rfl) (by kernel_rfl) (fun _ _ _ h => h) (Or.inl ⟨by rfl, ?hy12⟩) (by assumption) ?rest12
          case hy12 => ((intro w hSw; (try dsimp only at hSw); go_simp) <;> with_reducible rfl)
          case' rest12 => try simp only [List.getElem_toArray, List.getElem_cons_zero, List.getElem_cons_succ, Act.put, List.setIfInBounds_toArray, List.set_cons_zero, List.set_cons_succ]
          refine wpAnyH_take (i := 11) (oi := _) (v := ?v13) rfl (by kernel_rfl) (by kernel_rfl) (by kernel_rfl) (fun _ _ _ h => h) (Or.inl ⟨by rfl, ?hy13⟩) (by assumption) ?rest13
          case hy13 => ((intro w hSw; (try dsimp only at hSw); go_simp) <;> with_reducible rfl)
          case' rest13 => try simp only [List.getElem_toArray, List.getElem_cons_zero, List.getElem_cons_succ, Act.put, List.setIfInBounds_toArray, List.set_cons_zero, List.set_cons_succ]
          refine wpAnyH_ready (rs := [12]) (by kernel_rfl) (by simp) ?_
          refine AllReadyH.cons (o := _) rfl (fun K hK => ?_) AllReadyH.nil
          go_simp
          refine (seg_busy p pd segZ A8 n8 c8 W.drew HB8.out).mono ?_
          rintro e w8 ⟨rfl, hw8⟩
          subst hw8
          rw [show (segZ.st != 0) = false from rfl]
          dsimp only
          refine hK.out _ _ ?hS16 (fun hHeld => ?rest16)
          case hS16 => ((try dsimp only); (((try go_split_ands); refine sn_of ?_; repeat' (first | with_reducible assumption | with_reducible exact Below.refl _ _ | with_reducible apply below_alloc | with_reducible apply below_drew1 | with_reducible apply below_drewN | (with_reducible apply below_step; with_reducible assumption) | (with_reducible apply below_sg2; (first | exact Nat.le_refl _ | (simp; done) | omega))))))
          case' rest16 => (clear hK K; try simp only [List.getElem_toArray, List.getElem_cons_zero, List.getElem_cons_succ, Act.put, List.setIfInBounds_toArray, List.set_cons_zero, List.set_cons_succ])
          refine wpAnyH_take (i := 13) (oi := _) (v := ?v17) rfl (by kernel_rfl) (by kernel_rfl) (by kernel_rfl) (fun _ _ _ h => h) (Or.inl ⟨by rfl, ?hy17⟩) (by assumption) ?rest17
          case hy17 => ((intro w hSw; (try dsimp only at hSw); go_simp) <;> with_reducible rfl)
          case' rest17 => try simp only [List.getElem_toArray, List.getElem_cons_zero, List.getElem_cons_succ, Act.put, List.setIfInBounds_toArray, List.set_cons_zero, List.set_cons_succ]
          refine wpAnyH_take (i := 14) (oi := _) (v := ?v18) rfl (by kernel_rfl) (by kernel_rfl) (by kernel_rfl) (fun _ _ _ h => h) (Or.inl ⟨by rfl, ?hy18⟩) (by assumption) ?rest18
          case hy18 => ((intro w hSw; (try dsimp only at hSw); go_simp) <;> with_reducible rfl)
          case' rest18 => try simp only [List.getElem_toArray, List.getElem_cons_zero, List.getElem_cons_succ, Act.put, List.setIfInBounds_toArray, List.set_cons_zero, List.set_cons_succ]
          refine wpAnyH_take (i := 15) (oi := _) (v := ?v19) rfl (by kernel_rfl) (by kernel_rfl) (by kernel_rfl) (fun _ _ _ h => h) (Or.inl ⟨by rfl, ?hy19⟩) (by assumption) ?rest19
          case hy19 => ((intro w hSw; (try dsimp only at hSw); go_simp) <;> with_reducible rfl)
          case' rest19 => try simp only [List.getElem_toArray, List.getElem_cons_zero, List.getElem_cons_succ, Act.put, List.setIfInBounds_toArray, List.set_cons_zero, List.set_cons_succ]
          refine wpAnyH_ready (rs := [16]) (by kernel_rfl) (by simp) ?_
          refine AllReadyH.cons (o := _) rfl (fun K hK => ?_) AllReadyH.nil
          go_simp
          refine (known_21 _).mono ?_
          rintro e w9 ⟨rfl, hb9⟩
          dsimp only
          refine hK.out _ _ ?hS22 (fun hHeld => ?rest22)
          case hS22 => ((try dsimp only); (((try go_split_ands); refine sn_of ?_; repeat' (first | with_reducible assumption | with_reducible exact Below.refl _ _ | with_reducible apply below_alloc | with_reducible apply below_drew1 | with_reducible apply below_drewN | (with_reducible apply below_step; with_reducible assumption) | (with_reducible apply below_sg2; (first | exact Nat.le_refl _ | (simp; done) | omega))))))
          case' rest22 => (clear hK K; try simp only [List.getElem_toArray, List.getElem_cons_zero, List.getElem_cons_succ, Act.put, List.setIfInBounds_toArray, List.set_cons_zero, List.set_cons_succ])
          refine wpAnyH_take (i := 17) (oi := _) (v := ?v23) rfl (by kernel_rfl) (by kernel_rfl) (by kernel_rfl) (fun _ _ _ h => h) (Or.inl ⟨by rfl, ?hy23⟩) (by assumption) ?rest23
          case hy23 => ((intro w hSw; (try dsimp only at hSw); go_simp) <;> with_reducible rfl)
          case' rest23 => try simp only [List.getElem_toArray, List.getElem_cons_zero, List.getElem_cons_succ, Act.put, List.setIfInBounds_toArray, List.set_cons_zero, List.set_cons_succ]
          refine wpAnyH_take (i := 18) (oi := _) (v := ?v24) rfl (by kernel_rfl) (by kernel_rfl) (by kernel_rfl) (fun _ _ _ h => h) (Or.inl ⟨by rfl, ?hy24⟩) (by assumption) ?rest24
          case hy24 => ((intro w hSw; (try dsimp only at hSw); go_simp) <;> with_reducible rfl)
          case' rest24 => try simp only [List.getElem_toArray, List.getElem_cons_zero, List.getElem_cons_succ, Act.put, List.setIfInBounds_toArray, List.set_cons_zero, List.set_cons_succ]
          refine wpAnyH_done (by kernel_rfl) ?_ _
          have hEnd := hHeld.2
          repeat (clear hHeld)
          go_wp2_with fail
          go_ret
          exact (⟨rfl, below_step hEnd HBL.out⟩ : TrueB w _ _)
        · obtain ⟨u1, u2⟩ := up_long E HAC.out hsh
          rw [← HN.out] at u2
          rw [u1] at hS3
          rw [u2] at hm3 hO3 ⊢
          obtain ⟨g3, Ad3, nd3, cd3, rfl, rfl, rfl, hg3, hM3, hOd3⟩ := ms_one hm3
          unfold outV outM
          dsimp only
          have HX : Hid (UpR w2 p pd w3.heap.size (givS E E.df false) (upM E.ix E.sub n []) g3 A3 n3 c3 Ad3 nd3 cd3 (w3.alloc (.cells (outV (some ⟨g3, 0, none⟩) 1 1 (outM (upM E.ix E.sub n [])) A3 n3 c3) 44))) := hide (upR_mk ho3 hS3 hM3 (hOd3.mono (Nat.le_refl _)))
          obtain ⟨x0, hx0⟩ : ∃ x0, x0 = w3.heap.size := ⟨_, rfl⟩
          have z3 := ho3.size
          clear hm3 hO3 hX3 hS3 hM3 hOd3 ho3
          go_upto_region 10 with fail
          refine wp_gen (P := UpR w2 p pd w3.heap.size (givS E E.df false) (upM E.ix E.sub n []) g3 A3 n3 c3 Ad3 nd3 cd3) HX.out (fun W hW => ?_)
          clear HX
          rw [← hx0] at hW ⊢
          obtain ⟨hO, hS, hK, hM, hD, hz, hx⟩ := id hW
          have HW := hide hW
          have HO := hide hO
          have HSV := hide hS
          have HOD := hide hD
          have hbw : Below w.heap.size w W := below_only hO HBW2.out (fun i (e : i = p) => by omega)
          have HBL := hide hbw
          have qe := blk_only HQ4.out hO (show w.heap.size ≠ p by omega)
          have zz2 : w.heap.size < w2.heap.size := HQ4.out.lt
          have HSE2 := hide (HS.out.below hbw)
          unfold entV at qe
          unfold outV outM at hK
          unfold msV upM at hM
          have qe_c0 := qe.cell 0 rfl
          have qe_f0 := qe.frozen 0
          have qe_c1 := qe.cell 1 rfl
          have qe_f1 := qe.frozen 1
          have qe_c2 := qe.cell 2 rfl
          have qe_f2 := qe.frozen 2
          have qe_c3 := qe.cell 3 rfl
          have qe_f3 := qe.frozen 3
          have qe_c4 := qe.cell 4 rfl
          have qe_f4 := qe.frozen 4
          have qe_c5 := qe.cell 5 rfl
          have qe_f5 := qe.frozen 5
          have qe_c6 := qe.cell 6 rfl
          have qe_f6 := qe.frozen 6
          have qe_c7 := qe.cell 7 rfl
          have qe_f7 := qe.frozen 7
          have qe_c8 := qe.cell 8 rfl
          have qe_f8 := qe.frozen 8
          have qe_c9 := qe.cell 9 rfl
          have qe_f9 := qe.frozen 9
          have qe_c10 := qe.cell 10 rfl
          have qe_f10 := qe.frozen 10
          have hK_c0 := hK.cell 0 rfl
          have hK_f0 := hK.frozen 0
          have hK_c1 := hK.cell 1 rfl
          have hK_f1 := hK.frozen 1
          have hK_c2 := hK.cell 2 rfl
          have hK_f2 := hK.frozen 2
          have hK_c3 := hK.cell 3 rfl
          have hK_f3 := hK.frozen 3
          have hK_c4 := hK.cell 4 rfl
          have hK_f4 := hK.frozen 4
          have hM_c0 := hM.cell 0 rfl
          have hM_f0 := hM.frozen 0
          have hM_c1 := hM.cell 1 rfl
          have hM_f1 := hM.frozen 1
          have hM_c2 := hM.cell 2 rfl
          have hM_f2 := hM.frozen 2
          have hM_c3 := hM.cell 3 rfl
          have hM_f3 := hM.frozen 3
          have hM_c4 := hM.cell 4 rfl
          have hM_f4 := hM.frozen 4
          have hM_c5 := hM.cell 5 rfl
          have hM_f5 := hM.frozen 5
          have hM_c6 := hM.cell 6 rfl
          have hM_f6 := hM.frozen 6
          have hM_c7 := hM.cell 7 rfl
          have hM_f7 := hM.frozen 7
          have hM_c8 := hM.cell 8 rfl
          have hM_f8 := hM.frozen 8
          have hM_c9 := hM.cell 9 rfl
          have hM_f9 := hM.frozen 9
          have hM_c10 := hM.cell 10 rfl
          have hM_f10 := hM.frozen 10
          have hM_c11 := hM.cell 11 rfl
          have hM_f11 := hM.frozen 11
          have hM_c12 := hM.cell 12 rfl
          have hM_f12 := hM.frozen 12
          have hM_c13 := hM.cell 13 rfl
          have hM_f13 := hM.frozen 13
          have zW : x0 < W.heap.size := hK.lt
          have zew : w.heap.size < W.heap.size := qe.lt
          have zg : g3 < W.heap.size := hM.lt
          clear hW hO hS hD hbw hz hx0 z3
          have hnn := HN.out
          have h256 : E.df.length ≤ 256 := HRT.out.2
          have HN256 := hide h256
          have hnd : nd3 = 0 := by simpa [upM] using HOD.out.hn
          subst hnd
          have nn1 : (n : Int) % 4294967296 = (n : Int) := by omega
          have HPW : Hid (p < w2.heap.size) := hide zp2
          rcases (show n = 0 ∨ 4 < n by omega) with hcs | hcs
          · have hcs2 : ¬ (1 : Int) ≤ (n : Int) := by omega
            clear hcs hsh hnn h256
            go_wp2_with fail
            go_loopw [9, 10, 11] (fun vg vt vi wr => UpL w2 E p pd x0 vg vt vi wr) (fun _ _ vi _ => 60 - (intOf vi).toNat)
            case atStart => exact upL_mk HW.out
            case round =>
              obtain ⟨j, S, Ag, ng, cg, b, As, ns, cs, O, Ao, no, co, rfl, rfl, rfl, hj, hst, hOr, hSr, hKr, hGr, hx⟩ := hrel
              obtain ⟨A8, n8, c8, hB8, _⟩ := id hSr
              have HB8 := hide hB8
              have HOr := hide hOr
              have HSr := hide hSr
              have HNG := hide hGr.hn
              have HBr := hide (below_only hOr HBW2.out (fun i (e : i = p) => by omega))
              rcases hst with ⟨rfl, hjj⟩ | ⟨rfl, hjj⟩
              · have h256 := HN256.out
                have hj40 : (j : Int) < 60 := by omega
                have hj39 : j + 1 ≤ 40 := by omega
                have HJJ := hide hjj
                have HDL : Hid ((E.df.drop (7 * j)).length ≤ 256) := hide (by simp; omega)
                clear hjj h256 hB8 hSr
                go_wp2_with fail
                refine (seg_busy p pd (givS E (E.df.drop (7 * j)) b) A8 n8 c8 _ HB8.out).mono ?_
                rintro e w8 ⟨rfl, hw8⟩
                subst hw8
                rw [show ((givS E (E.df.drop (7 * j)) b).st != 0) = true from rfl]
                go_wp2_with fail
                refine (hR.out wr (givS E (E.df.drop (7 * j)) b) (nxMsg b) _ HOr.out HSr.out rfl (Nat.zero_le _) (fun _ => HDL.out)).mono ?_
                rintro e w5 ⟨X5, As5, ns5, cs5, A5, n5, c5, rfl, hm5, hO5, hX5, hS5, ho5⟩
                by_cases hl : (E.df.drop (7 * j)).length ≤ 7
                · obtain ⟨u1, u2⟩ := next_last [E] [E.df] E (E.df.drop (7 * j)) b hl
                  rw [u1] at hS5
                  rw [u2] at hm5 hO5 ⊢
                  obtain ⟨g5, Ad5, nd5, cd5, rfl, rfl, rfl, hg5, hM5, hOd5⟩ := ms_one hm5
                  obtain ⟨hK5, hX5'⟩ := upB_mk (Ao := A5) (no := n5) (co := c5) hOr ho5 hx HPW.out hKr hS5 hg5 hM5 hOd5 hGr
                  have HX := hide hX5'
                  unfold putO at HX
                  have hK5 := hK5
                  unfold outV at hKr hK5
                  clear hKr
                  have hK5_c0 := hK5.cell 0 rfl
                  have hK5_f0 := hK5.frozen 0
                  have hK5_c1 := hK5.cell 1 rfl
                  have hK5_f1 := hK5.frozen 1
                  have hK5_c2 := hK5.cell 2 rfl
                  have hK5_f2 := hK5.frozen 2
                  have hK5_c3 := hK5.cell 3 rfl
                  have hK5_f3 := hK5.frozen 3
                  have hK5_c4 := hK5.cell 4 rfl
                  have hK5_f4 := hK5.frozen 4
                  have zx5 : x0 < w5.heap.size := hK5.lt
                  clear hm5 hO5 hX5 hX5' hS5 hM5 hOd5 hg5 u1 u2
                  unfold outV outM
                  dsimp only
                  go_upto_region 23 with fail
                  refine wp_gen (P := UpB w2 p pd x0 (doneS E (!b)) (segM b true (E.df.drop (7 * j))) g5 A5 n5 c5 Ad5 nd5 cd5 Ag ng cg (E.df.take (7 * j))) HX.out (fun W5 hW5 => ?_)
                  clear HX
                  obtain ⟨hO6, hS6, hK6, hM6, hD6, hG6⟩ := id hW5
                  have HW5 := hide hW5
                  have HD6 := hide hD6
                  have HG6 := hide hG6
                  clear hK5_c0 hK5_f0 hK5_c1 hK5_f1 hK5_c2 hK5_f2 hK5_c3 hK5_f3 hK5_c4 hK5_f4
                  unfold outV outM at hK6
                  unfold msV segM at hM6
                  have hK6_c0 := hK6.cell 0 rfl
                  have hK6_f0 := hK6.frozen 0
                  have hK6_c1 := hK6.cell 1 rfl
                  have hK6_f1 := hK6.frozen 1
                  have hK6_c2 := hK6.cell 2 rfl
                  have hK6_f2 := hK6.frozen 2
                  have hK6_c3 := hK6.cell 3 rfl
                  have hK6_f3 := hK6.frozen 3
                  have hK6_c4 := hK6.cell 4 rfl
                  have hK6_f4 := hK6.frozen 4
                  have hM6_c0 := hM6.cell 0 rfl
                  have hM6_f0 := hM6.frozen 0
                  have hM6_c1 := hM6.cell 1 rfl
                  have hM6_f1 := hM6.frozen 1
                  have hM6_c2 := hM6.cell 2 rfl
                  have hM6_f2 := hM6.frozen 2
                  have hM6_c3 := hM6.cell 3 rfl
                  have hM6_f3 := hM6.frozen 3
                  have hM6_c4 := hM6.cell 4 rfl
                  have hM6_f4 := hM6.frozen 4
                  have hM6_c5 := hM6.cell 5 rfl
                  have hM6_f5 := hM6.frozen 5
                  have hM6_c6 := hM6.cell 6 rfl
                  have hM6_f6 := hM6.frozen 6
                  have hM6_c7 := hM6.cell 7 rfl
                  have hM6_f7 := hM6.frozen 7
                  have hM6_c8 := hM6.cell 8 rfl
                  have hM6_f8 := hM6.frozen 8
                  have hM6_c9 := hM6.cell 9 rfl
                  have hM6_f9 := hM6.frozen 9
                  have hM6_c10 := hM6.cell 10 rfl
                  have hM6_f10 := hM6.frozen 10
                  have hM6_c11 := hM6.cell 11 rfl
                  have hM6_f11 := hM6.frozen 11
                  have hM6_c12 := hM6.cell 12 rfl
                  have hM6_f12 := hM6.frozen 12
                  have hM6_c13 := hM6.cell 13 rfl
                  have hM6_f13 := hM6.frozen 13
                  have zx6 : x0 < W5.heap.size := hK6.lt
                  have zg6 : g5 < W5.heap.size := hM6.lt
                  obtain ⟨A9, n9, c9, hB9, _⟩ := hS6
                  have HB9 := hide hB9
                  have HL7 := hide hl
                  clear hW5 hO6 hD6 hG6 hB9 hK5 zx5 hl
                  go_wp2_with fail
                  refine wp_region_held_drew (S := (fun w' => (∀ qA : Addr, qA.block < (W5).heap.size → w'.cell? qA = (W5).cell? qA) ∧ Below (W5).heap.size (W5) w')) (by kernel_rfl) ?hS26 (fun hHeld => ?rest26)
                  case hS26 => ((try dsimp only); (((try go_split_ands); refine sn_of ?_; repeat' (first | with_reducible assumption | with_reducible exact Below.refl _ _ | with_reducible apply below_alloc | with_reducible apply below_drew1 | with_reducible apply below_drewN | (with_reducible apply below_step; with_reducible assumption) | (with_reducible apply below_sg2; (first | exact Nat.le_refl _ | (simp; done) | omega))))))
                  case' rest26 => skip
                  refine wpAnyH_take (i := 0) (oi := _) (v := ?v27) rfl (by kernel_rfl) (by kernel_rfl) (by kernel_rfl) (fun _ _ _ h => h) (Or.inl ⟨by rfl, ?hy27⟩) (by assumption) ?rest27
                  case hy27 => ((intro w hSw; (try dsimp only at hSw); go_simp) <;> with_reducible rfl)
                  case' rest27 => try simp only [List.getElem_toArray, List.getElem_cons_zero, List.getElem_cons_succ, Act.put, List.setIfInBounds_toArray, List.set_cons_zero, List.set_cons_succ]
                  refine wpAnyH_take (i := 1) (oi := _) (v := ?v28) rfl (by kernel_rfl) (by kernel_rfl) (by kernel_rfl) (fun _ _ _ h => h) (Or.inl ⟨by rfl, ?hy28⟩) (by assumption) ?rest28
                  case hy28 => ((intro w hSw; (try dsimp only at hSw); go_simp) <;> with_reducible rfl)
                  case' rest28 => try simp only [List.getElem_toArray, List.getElem_cons_zero, List.getElem_cons_succ, Act.put, List.setIfInBounds_toArray, List.set_cons_zero, List.set_cons_succ]
                  refine wpAnyH_take (i := 2) (oi := _) (v := ?v29) rfl (by kernel_rfl) (by kernel_rfl) (by kernel_rfl) (fun _ _ _ h => h) (Or.inl ⟨by rfl, ?hy29⟩) (by assumption) ?rest29
                  case hy29 => ((intro w hSw; (try dsimp only at hSw); go_simp) <;> with_reducible rfl)
                  case' rest29 => try simp only [List.getElem_toArray, List.getElem_cons_zero, List.getElem_cons_succ, Act.put, List.setIfInBounds_toArray, List.set_cons_zero, List.set_cons_succ]
                  refine wpAnyH_take (i := 3) (oi := _) (v := ?v30) rfl (by kernel_rfl) (by kernel_rfl) (by kernel_rfl) (fun _ _ _ h => h) (Or.inl ⟨by rfl, ?hy30⟩) (by assumption) ?rest30
                  case hy30 => ((intro w hSw; (try dsimp only at hSw); go_simp) <;> with_reducible rfl)
                  case' rest30 => try simp only [List.getElem_toArray, List.getElem_cons_zero, List.getElem_cons_succ, Act.put, List.setIfInBounds_toArray, List.set_cons_zero, List.set_cons_succ]
                  refine wpAnyH_take (i := 4) (oi := _) (v := ?v31) rfl (by kernel_rfl) (by kernel_rfl) (by kernel_rfl) (fun _ _ _ h => h) (Or.inl ⟨by rfl, ?hy31⟩) (by assumption) ?rest31
                  case hy31 => ((intro w hSw; (try dsimp only at hSw); go_simp) <;> with_reducible rfl)
                  case' rest31 => try simp only [List.getElem_toArray, List.getElem_cons_zero, List.getElem_cons_succ, Act.put, List.setIfInBounds_toArray, List.set_cons_zero, List.set_cons_succ]
                  refine wpAnyH_take (i := 5) (oi := _) (v := ?v32) rfl (by kernel_rfl) (by kernel_rfl) (by kernel_rfl) (fun _ _ _ h => h) (Or.inl ⟨by rfl, ?hy32⟩) (by assumption) ?rest32
                  case hy32 => ((intro w hSw; (try dsimp only at hSw); go_simp) <;> with_reducible rfl)
                  case' rest32 => try simp only [List.getElem_toArray, List.getElem_cons_zero, List.getElem_cons_succ, Act.put, List.setIfInBounds_toArray, List.set_cons_zero, List.set_cons_succ]
                  refine wpAnyH_take (i := 6) (oi := _) (v := ?v33) rfl (by kernel_rfl) (by kernel_rfl) (by kernel_rfl) (fun _ _ _ h => h) (Or.inl ⟨by rfl, ?hy33⟩) (by assumption) ?rest33
                  case hy33 => ((intro w hSw; (try dsimp only at hSw); go_simp) <;> with_reducible rfl)
                  case' rest33 => try simp only [List.getElem_toArray, List.getElem_cons_zero, List.getElem_cons_succ, Act.put, List.setIfInBounds_toArray, List.set_cons_zero, List.set_cons_succ]
                  refine wpAnyH_take (i := 7) (oi := _) (v := ?v34) rfl (by kernel_rfl) (by kernel_rfl) (by kernel_rfl) (fun _ _ _ h => h) (Or.inl ⟨by rfl, ?hy34⟩) (by assumption) ?rest34
                  case hy34 => ((intro w hSw; (try dsimp only at hSw); go_simp) <;> with_reducible rfl)
                  case' rest34 => try simp only [List.getElem_toArray, List.getElem_cons_zero, List.getElem_cons_succ, Act.put, List.setIfInBounds_toArray, List.set_cons_zero, List.set_cons_succ]
                  refine wpAnyH_take (i := 8) (oi := _) (v := ?v35) rfl (by kernel_rfl) (by kernel_rfl) (by kernel_rfl) (fun _ _ _ h => h) (Or.inl ⟨by rfl, ?hy35⟩) (by assumption) ?rest35
                  case hy35 => ((intro w hSw; (try dsimp only at hSw); go_simp) <;> with_reducible rfl)
                  case' rest35 => try simp only [List.getElem_toArray, List.getElem_cons_zero, List.getElem_cons_succ, Act.put, List.setIfInBounds_toArray, List.set_cons_zero, List.set_cons_succ]
                  refine wpAnyH_take (i := 9) (oi := _) (v := ?v36) rfl (by kernel_rfl) (by kernel_rfl) (by kernel_rfl) (fun _ _ _ h => h) (Or.inl ⟨by rfl, ?hy36⟩) (by assumption) ?rest36
                  case hy36 => ((intro w hSw; (try dsimp only at hSw); go_simp) <;> with_reducible rfl)
                  case' rest36 => try simp only [List.getElem_toArray, List.getElem_cons_zero, List.getElem_cons_succ, Act.put, List.setIfInBounds_toArray, List.set_cons_zero, List.set_cons_succ]
                  refine wpAnyH_take (i := 10) (oi := _) (v := ?v37) rfl (by kernel_rfl) (by kernel_rfl) (by kernel_rfl) (fun _ _ _ h => h) (Or.inl ⟨by rfl, ?hy37⟩) (by assumption) ?rest37
                  case hy37 => ((intro w hSw; (try dsimp only at hSw); go_simp) <;> with_reducible rfl)
                  case' rest37 => try simp only [List.getElem_toArray, List.getElem_cons_zero, List.getElem_cons_succ, Act.put, List.setIfInBounds_toArray, List.set_cons_zero, List.set_cons_succ]
                  refine wpAnyH_take (i := 11) (oi := _) (v := ?v38) rfl (by kernel_rfl) (by kernel_rfl) (by kernel_rfl) (fun _ _ _ h => h) (Or.inl ⟨by rfl, ?hy38⟩) (by assumption) ?rest38
                  case hy38 => ((intro w hSw; (try dsimp only at hSw); go_simp) <;> with_reducible rfl)
                  case' rest38 => try simp only [List.getElem_toArray, List.getElem_cons_zero, List.getElem_cons_succ, Act.put, List.setIfInBounds_toArray, List.set_cons_zero, List.set_cons_succ]
                  refine wpAnyH_take (i := 12) (oi := _) (v := ?v39) rfl (by kernel_rfl) (by kernel_rfl) (by kernel_rfl) (fun _ _ _ h => h) (Or.inl ⟨by rfl, ?hy39⟩) (by assumption) ?rest39
                  case hy39 => ((intro w hSw; (try dsimp only at hSw); go_simp) <;> with_reducible rfl)
                  case' rest39 => try simp only [List.getElem_toArray, List.getElem_cons_zero, List.getElem_cons_succ, Act.put, List.setIfInBounds_toArray, List.set_cons_zero, List.set_cons_succ]
                  refine wpAnyH_take (i := 13) (oi := _) (v := ?v40) rfl (by kernel_rfl) (by kernel_rfl) (by kernel_rfl) (fun _ _ _ h => h) (Or.inl ⟨by rfl, ?hy40⟩) (by assumption) ?rest40
                  case hy40 => ((intro w hSw; (try dsimp only at hSw); go_simp) <;> with_reducible rfl)
                  case' rest40 => try simp only [List.getElem_toArray, List.getElem_cons_zero, List.getElem_cons_succ, Act.put, List.setIfInBounds_toArray, List.set_cons_zero, List.set_cons_succ]
                  refine wpAnyH_take (i := 14) (oi := _) (v := ?v41) rfl (by kernel_rfl) (by kernel_rfl) (by kernel_rfl) (fun _ _ _ h => h) (Or.inl ⟨by rfl, ?hy41⟩) (by assumption) ?rest41
                  case hy41 => ((intro w hSw; (try dsimp only at hSw); go_simp) <;> with_reducible rfl)
                  case' rest41 => try simp only [List.getElem_toArray, List.getElem_cons_zero, List.getElem_cons_succ, Act.put, List.setIfInBounds_toArray, List.set_cons_zero, List.set_cons_succ]
                  refine wpAnyH_take (i := 15) (oi := _) (v := ?v42) rfl (by kernel_rfl) (by kernel_rfl) (by kernel_rfl) (fun _ _ _ h => h) (Or.inl ⟨by rfl, ?hy42⟩) (by assumption) ?rest42
                  case hy42 => ((intro w hSw; (try dsimp only at hSw); go_simp) <;> with_reducible rfl)
                  case' rest42 => try simp only [List.getElem_toArray, List.getElem_cons_zero, List.getElem_cons_succ, Act.put, List.setIfInBounds_toArray, List.set_cons_zero, List.set_cons_succ]
                  refine wpAnyH_take (i := 16) (oi := _) (v := ?v43) rfl (by kernel_rfl) (by kernel_rfl) (by kernel_rfl) (fun _ _ _ h => h) (Or.inl ⟨by rfl, ?hy43⟩) (by assumption) ?rest43
                  case hy43 => ((intro w hSw; (try dsimp only at hSw); go_simp) <;> with_reducible rfl)
                  case' rest43 => try simp only [List.getElem_toArray, List.getElem_cons_zero, List.getElem_cons_succ, Act.put, List.setIfInBounds_toArray, List.set_cons_zero, List.set_cons_succ]
                  refine wpAnyH_take (i := 17) (oi := _) (v := ?v44) rfl (by kernel_rfl) (by kernel_rfl) (by kernel_rfl) (fun _ _ _ h => h) (Or.inl ⟨by rfl, ?hy44⟩) (by assumption) ?rest44
                  case hy44 => ((intro w hSw; (try dsimp only at hSw); go_simp) <;> with_reducible rfl)
                  case' rest44 => try simp only [List.getElem_toArray, List.getElem_cons_zero, List.getElem_cons_succ, Act.put, List.setIfInBounds_toArray, List.set_cons_zero, List.set_cons_succ]
                  refine wpAnyH_take (i := 18) (oi := _) (v := ?v45) rfl (by kernel_rfl) (by kernel_rfl) (by kernel_rfl) (fun _ _ _ h => h) (Or.inl ⟨by rfl, ?hy45⟩) (by assumption) ?rest45
                  case hy45 => ((intro w hSw; (try dsimp only at hSw); go_simp) <;> with_reducible rfl)
                  case' rest45 => try simp only [List.getElem_toArray, List.getElem_cons_zero, List.getElem_cons_succ, Act.put, List.setIfInBounds_toArray, List.set_cons_zero, List.set_cons_succ]
                  refine wpAnyH_take (i := 19) (oi := _) (v := ?v46) rfl (by kernel_rfl) (by kernel_rfl) (by kernel_rfl) (fun _ _ _ h => h) (Or.inl ⟨by rfl, ?hy46⟩) (by assumption) ?rest46
                  case hy46 => ((intro w hSw; (try dsimp only at hSw); go_simp) <;> with_reducible rfl)
                  case' rest46 => try simp only [List.getElem_toArray, List.getElem_cons_zero, List.getElem_cons_succ, Act.put, List.setIfInBounds_toArray, List.set_cons_zero, List.set_cons_succ]
                  refine wpAnyH_take (i := 20) (oi := _) (v := ?v47) rfl (by kernel_rfl) (by kernel_rfl) (by kernel_rfl) (fun _ _ _ h => h) (Or.inl ⟨by rfl, ?hy47⟩) (by assumption) ?rest47
                  case hy47 => ((intro w hSw; (try dsimp only at hSw); go_simp) <;> with_reducible rfl)
                  case' rest47 => try simp only [List.getElem_toArray, List.getElem_cons_zero, List.getElem_cons_succ, Act.put, List.setIfInBounds_toArray, List.set_cons_zero, List.set_cons_succ]
                  refine wpAnyH_take (i := 21) (oi := _) (v := ?v48) rfl (by kernel_rfl) (by kernel_rfl) (by kernel_rfl) (fun _ _ _ h => h) (Or.inl ⟨by rfl, ?hy48⟩) (by assumption) ?rest48
                  case hy48 => ((intro w hSw; (try dsimp only at hSw); go_simp) <;> with_reducible rfl)
                  case' rest48 => try simp only [List.getElem_toArray, List.getElem_cons_zero, List.getElem_cons_succ, Act.put, List.setIfInBounds_toArray, List.set_cons_zero, List.set_cons_succ]
                  refine wpAnyH_take (i := 22) (oi := _) (v := ?v49) rfl (by kernel_rfl) (by kernel_rfl) (by kernel_rfl) (fun _ _ _ h => h) (Or.inl ⟨by rfl, ?hy49⟩) (by assumption) ?rest49
                  case hy49 => ((intro w hSw; (try dsimp only at hSw); go_simp) <;> with_reducible rfl)
                  case' rest49 => try simp only [List.getElem_toArray, List.getElem_cons_zero, List.getElem_cons_succ, Act.put, List.setIfInBounds_toArray, List.set_cons_zero, List.set_cons_succ]
                  refine wpAnyH_take (i := 23) (oi := _) (v := ?v50) rfl (by kernel_rfl) (by kernel_rfl) (by kernel_rfl) (fun _ _ _ h => h) (Or.inl ⟨by rfl, ?hy50⟩) (by assumption) ?rest50
                  case hy50 => ((intro w hSw; (try dsimp only at hSw); go_simp) <;> with_reducible rfl)
                  case' rest50 => try simp only [List.getElem_toArray, List.getElem_cons_zero, List.getElem_cons_succ, Act.put, List.setIfInBounds_toArray, List.set_cons_zero, List.set_cons_succ]
                  refine wpAnyH_take (i := 24) (oi := _) (v := ?v51) rfl (by kernel_rfl) (by kernel_rfl) (by kernel_rfl) (fun _ _ _ h => h) (Or.inl ⟨by rfl, ?hy51⟩) (by assumption) ?rest51
                  case hy51 => ((intro w hSw; (try dsimp only at hSw); go_simp) <;> with_reducible rfl)
                  case' rest51 => try simp only [List.getElem_toArray, List.getElem_cons_zero, List.getElem_cons_succ, Act.put, List.setIfInBounds_toArray, List.set_cons_zero, List.set_cons_succ]
                  refine wpAnyH_take (i := 25) (oi := _) (v := ?v52) rfl (by kernel_rfl) (by kernel_rfl) (by kernel_rfl) (fun _ _ _ h => h) (Or.inl ⟨by rfl, ?hy52⟩) (by assumption) ?rest52
                  case hy52 => ((intro w hSw; (try dsimp only at hSw); go_simp) <;> with_reducible rfl)
                  case' rest52 => try simp only [List.getElem_toArray, List.getElem_cons_zero, List.getElem_cons_succ, Act.put, List.setIfInBounds_toArray, List.set_cons_zero, List.set_cons_succ]
                  refine wpAnyH_take (i := 26) (oi := _) (v := ?v53) rfl (by kernel_rfl) (by kernel_rfl) (by kernel_rfl) (fun _ _ _ h => h) (Or.inl ⟨by rfl, ?hy53⟩) (by assumption) ?rest53
                  case hy53 => ((intro w hSw; (try dsimp only at hSw); go_simp) <;> with_reducible rfl)
                  case' rest53 => try simp only [List.getElem_toArray, List.getElem_cons_zero, List.getElem_cons_succ, Act.put, List.setIfInBounds_toArray, List.set_cons_zero, List.set_cons_succ]
                  refine wpAnyH_take (i := 27) (oi := _) (v := ?v54) rfl (by kernel_rfl) (by kernel_rfl) (by kernel_rfl) (fun _ _ _ h => h) (Or.inl ⟨by rfl, ?hy54⟩) (by assumption) ?rest54
                  case hy54 => ((intro w hSw; (try dsimp only at hSw); go_simp) <;> with_reducible rfl)
                  case' rest54 => try simp only [List.getElem_toArray, List.getElem_cons_zero, List.getElem_cons_succ, Act.put, List.setIfInBounds_toArray, List.set_cons_zero, List.set_cons_succ]
                  refine wpAnyH_ready (rs := [28]) (by kernel_rfl) (by simp) ?_
                  refine AllReadyH.cons (o := _) rfl (fun K hK => ?_) AllReadyH.nil
                  go_simp
                  refine (seg_busy p pd (doneS E (!b)) A9 n9 c9 W5.drew HB9.out).mono ?_
                  rintro e w8 ⟨rfl, hw8⟩
                  subst hw8
                  rw [show (SegS.st (doneS E (!b)) != 0) = false from rfl]
                  dsimp only
                  refine hK.out _ _ ?hS57 (fun hHeld => ?rest57)
                  case hS57 => ((try dsimp only); (((try go_split_ands); refine sn_of ?_; repeat' (first | with_reducible assumption | with_reducible exact Below.refl _ _ | with_reducible apply below_alloc | with_reducible apply below_drew1 | with_reducible apply below_drewN | (with_reducible apply below_step; with_reducible assumption) | (with_reducible apply below_sg2; (first | exact Nat.le_refl _ | (simp; done) | omega))))))
                  case' rest57 => (clear hK K; try simp only [List.getElem_toArray, List.getElem_cons_zero, List.getElem_cons_succ, Act.put, List.setIfInBounds_toArray, List.set_cons_zero, List.set_cons_succ])
                  refine wpAnyH_take (i := 29) (oi := _) (v := ?v58) rfl (by kernel_rfl) (by kernel_rfl) (by kernel_rfl) (fun _ _ _ h => h) (Or.inl ⟨by rfl, ?hy58⟩) (by assumption) ?rest58
                  case hy58 => ((intro w hSw; (try dsimp only at hSw); go_simp) <;> with_reducible rfl)
                  case' rest58 => try simp only [List.getElem_toArray, List.getElem_cons_zero, List.getElem_cons_succ, Act.put, List.setIfInBounds_toArray, List.set_cons_zero, List.set_cons_succ]
                  refine wpAnyH_take (i := 30) (oi := _) (v := ?v59) rfl (by kernel_rfl) (by kernel_rfl) (by kernel_rfl) (fun _ _ _ h => h) (Or.inl ⟨by rfl, ?hy59⟩) (by assumption) ?rest59
                  case hy59 => ((intro w hSw; (try dsimp only at hSw); go_simp) <;> with_reducible rfl)
                  case' rest59 => try simp only [List.getElem_toArray, List.getElem_cons_zero, List.getElem_cons_succ, Act.put, List.setIfInBounds_toArray, List.set_cons_zero, List.set_cons_succ]
                  refine wpAnyH_done (by kernel_rfl) ?_ _
                  have hEnd := hHeld.2
                  repeat (clear hHeld)
                  have hb1 : ng ≤ 1000 := by have := HNG.out; rw [List.length_take] at this; have := HN256.out; omega
                  have hb2 : nd5 ≤ 1000 := by have := HD6.out.hn; have := HDL.out; simp only [segM] at *; omega
                  go_wp2_with (at_builtin; refine app_b _ rfl _ _ rfl (x0 + 1) _ _ _ _ rfl (HG6.out.below hEnd) _ _ _ (E.df.drop (7 * j)) rfl HD6.out.hn (HD6.out.sl.below hEnd) (by omega) (show x0 + 1 ≤ W5.heap.size by omega) (ng + nd5) rfl ?_; intro A6 c6 w6 hO6 hg6 hA6 hb6)
                  go_roundw
                  case rel =>
                    refine upL_next (j := j) (upB_drew HW5.out) hx HPW.out ?_ hg6 hA6 hb6 hj39 ?_ _ (by go_num)
                    · have hll := HL7.out
                      rw [List.length_drop] at hll
                      rw [List.take_append_drop] at hO6
                      rw [List.take_of_length_le (by omega)]
                      exact hO6
                    · have hll := HL7.out
                      rw [List.length_drop] at hll
                      exact .inr ⟨rfl, by omega⟩
                  case measure => simp [intOf]; omega
                · obtain ⟨u1, u2⟩ := next_more [E] [E.df] E (E.df.drop (7 * j)) b hl
                  rw [u1] at hS5
                  rw [u2] at hm5 hO5 ⊢
                  obtain ⟨g5, Ad5, nd5, cd5, rfl, rfl, rfl, hg5, hM5, hOd5⟩ := ms_one hm5
                  obtain ⟨hK5, hX5'⟩ := upB_mk (Ao := A5) (no := n5) (co := c5) hOr ho5 hx HPW.out hKr hS5 hg5 hM5 hOd5 hGr
                  have HX := hide hX5'
                  unfold putO at HX
                  have hK5 := hK5
                  unfold outV at hKr hK5
                  clear hKr
                  have hK5_c0 := hK5.cell 0 rfl
                  have hK5_f0 := hK5.frozen 0
                  have hK5_c1 := hK5.cell 1 rfl
                  have hK5_f1 := hK5.frozen 1
                  have hK5_c2 := hK5.cell 2 rfl
                  have hK5_f2 := hK5.frozen 2
                  have hK5_c3 := hK5.cell 3 rfl
                  have hK5_f3 := hK5.frozen 3
                  have hK5_c4 := hK5.cell 4 rfl
                  have hK5_f4 := hK5.frozen 4
                  have zx5 : x0 < w5.heap.size := hK5.lt
                  clear hm5 hO5 hX5 hX5' hS5 hM5 hOd5 hg5 u1 u2
                  unfold outV outM
                  dsimp only
                  go_upto_region 23 with fail
                  refine wp_gen (P := UpB w2 p pd x0 (givS E ((E.df.drop (7 * j)).drop 7) (!b)) (segM b false ((E.df.drop (7 * j)).take 7)) g5 A5 n5 c5 Ad5 nd5 cd5 Ag ng cg (E.df.take (7 * j))) HX.out (fun W5 hW5 => ?_)
                  clear HX
                  obtain ⟨hO6, hS6, hK6, hM6, hD6, hG6⟩ := id hW5
                  have HW5 := hide hW5
                  have HD6 := hide hD6
                  have HG6 := hide hG6
                  clear hK5_c0 hK5_f0 hK5_c1 hK5_f1 hK5_c2 hK5_f2 hK5_c3 hK5_f3 hK5_c4 hK5_f4
                  unfold outV outM at hK6
                  unfold msV segM at hM6
                  have hK6_c0 := hK6.cell 0 rfl
                  have hK6_f0 := hK6.frozen 0
                  have hK6_c1 := hK6.cell 1 rfl
                  have hK6_f1 := hK6.frozen 1
                  have hK6_c2 := hK6.cell 2 rfl
                  have hK6_f2 := hK6.frozen 2
                  have hK6_c3 := hK6.cell 3 rfl
                  have hK6_f3 := hK6.frozen 3
                  have hK6_c4 := hK6.cell 4 rfl
                  have hK6_f4 := hK6.frozen 4
                  have hM6_c0 := hM6.cell 0 rfl
                  have hM6_f0 := hM6.frozen 0
                  have hM6_c1 := hM6.cell 1 rfl
                  have hM6_f1 := hM6.frozen 1
                  have hM6_c2 := hM6.cell 2 rfl
                  have hM6_f2 := hM6.frozen 2
                  have hM6_c3 := hM6.cell 3 rfl
                  have hM6_f3 := hM6.frozen 3
                  have hM6_c4 := hM6.cell 4 rfl
                  have hM6_f4 := hM6.frozen 4
                  have hM6_c5 := hM6.cell 5 rfl
                  have hM6_f5 := hM6.frozen 5
                  have hM6_c6 := hM6.cell 6 rfl
                  have hM6_f6 := hM6.frozen 6
                  have hM6_c7 := hM6.cell 7 rfl
                  have hM6_f7 := hM6.frozen 7
                  have hM6_c8 := hM6.cell 8 rfl
                  have hM6_f8 := hM6.frozen 8
                  have hM6_c9 := hM6.cell 9 rfl
                  have hM6_f9 := hM6.frozen 9
                  have hM6_c10 := hM6.cell 10 rfl
                  have hM6_f10 := hM6.frozen 10
                  have hM6_c11 := hM6.cell 11 rfl
                  have hM6_f11 := hM6.frozen 11
                  have hM6_c12 := hM6.cell 12 rfl
                  have hM6_f12 := hM6.frozen 12
                  have hM6_c13 := hM6.cell 13 rfl
                  have hM6_f13 := hM6.frozen 13
                  have zx6 : x0 < W5.heap.size := hK6.lt
                  have zg6 : g5 < W5.heap.size := hM6.lt
                  obtain ⟨A9, n9, c9, hB9, _⟩ := hS6
                  have HB9 := hide hB9
                  have HL7 := hide hl
                  clear hW5 hO6 hD6 hG6 hB9 hK5 zx5 hl
                  go_wp2_with fail
                  refine wp_region_held_drew (S := (fun w' => (∀ qA : Addr, qA.block < (W5).heap.size → w'.cell? qA = (W5).cell? qA) ∧ Below (W5).heap.size (W5) w')) (by kernel_rfl) ?hS61 (fun hHeld => ?rest61)
                  case hS61 => ((try dsimp only); (((try go_split_ands); refine sn_of ?_; repeat' (first | with_reducible assumption | with_reducible exact Below.refl _ _ | with_reducible apply below_alloc | with_reducible apply below_drew1 | with_reducible apply below_drewN | (with_reducible apply below_step; with_reducible assumption) | (with_reducible apply below_sg2; (first | exact Nat.le_refl _ | (simp; done) | omega))))))
                  case' rest61 => skip
                  refine wpAnyH_take (i := 0) (oi := _) (v := ?v62) rfl (by kernel_rfl) (by kernel_rfl) (by kernel_rfl) (fun _ _ _ h => h) (Or.inl ⟨by rfl, ?hy62⟩) (by assumption) ?rest62
                  case hy62 => ((intro w hSw; (try dsimp only at hSw); go_simp) <;> with_reducible rfl)
                  case' rest62 => try simp only [List.getElem_toArray, List.getElem_cons_zero, List.getElem_cons_succ, Act.put, List.setIfInBounds_toArray, List.set_cons_zero, List.set_cons_succ]
                  refine wpAnyH_take (i := 1) (oi := _) (v := ?v63) rfl (by kernel_rfl) (by kernel_rfl) (by kernel_rfl) (fun _ _ _ h => h) (Or.inl ⟨by rfl, ?hy63⟩) (by assumption) ?rest63
                  case hy63 => ((intro w hSw; (try dsimp only at hSw); go_simp) <;> with_reducible rfl)
                  case' rest63 => try simp only [List.getElem_toArray, List.getElem_cons_zero, List.getElem_cons_succ, Act.put, List.setIfInBounds_toArray, List.set_cons_zero, List.set_cons_succ]
                  refine wpAnyH_take (i := 2) (oi := _) (v := ?v64) rfl (by kernel_rfl) (by kernel_rfl) (by kernel_rfl) (fun _ _ _ h => h) (Or.inl ⟨by rfl, ?hy64⟩) (by assumption) ?rest64
                  case hy64 => ((intro w hSw; (try dsimp only at hSw); go_simp) <;> with_reducible rfl)
                  case' rest64 => try simp only [List.getElem_toArray, List.getElem_cons_zero, List.getElem_cons_succ, Act.put, List.setIfInBounds_toArray, List.set_cons_zero, List.set_cons_succ]
                  refine wpAnyH_take (i := 3) (oi := _) (v := ?v65) rfl (by kernel_rfl) (by kernel_rfl) (by kernel_rfl) (fun _ _ _ h => h) (Or.inl ⟨by rfl, ?hy65⟩) (by assumption) ?rest65
                  case hy65 => ((intro w hSw; (try dsimp only at hSw); go_simp) <;> with_reducible rfl)
                  case' rest65 => try simp only [List.getElem_toArray, List.getElem_cons_zero, List.getElem_cons_succ, Act.put, List.setIfInBounds_toArray, List.set_cons_zero, List.set_cons_succ]
                  refine wpAnyH_take (i := 4) (oi := _) (v := ?v66) rfl (by kernel_rfl) (by kernel_rfl) (by kernel_rfl) (fun _ _ _ h => h) (Or.inl ⟨by rfl, ?hy66⟩) (by assumption) ?rest66
                  case hy66 => ((intro w hSw; (try dsimp only at hSw); go_simp) <;> with_reducible rfl)
                  case' rest66 => try simp only [List.getElem_toArray, List.getElem_cons_zero, List.getElem_cons_succ, Act.put, List.setIfInBounds_toArray, List.set_cons_zero, List.set_cons_succ]
                  refine wpAnyH_take (i := 5) (oi := _) (v := ?v67) rfl (by kernel_rfl) (by kernel_rfl) (by kernel_rfl) (fun _ _ _ h => h) (Or.inl ⟨by rfl, ?hy67⟩) (by assumption) ?rest67
                  case hy67 => ((intro w hSw; (try dsimp only at hSw); go_simp) <;> with_reducible rfl)
                  case' rest67 => try simp only [List.getElem_toArray, List.getElem_cons_zero, List.getElem_cons_succ, Act.put, List.setIfInBounds_toArray, List.set_cons_zero, List.set_cons_succ]
                  refine wpAnyH_take (i := 6) (oi := _) (v := ?v68) rfl (by kernel_rfl) (by kernel_rfl) (by kernel_rfl) (fun _ _ _ h => h) (Or.inl ⟨by rfl, ?hy68⟩) (by assumption) ?rest68
                  case hy68 => ((intro w hSw; (try dsimp only at hSw); go_simp) <;> with_reducible rfl)
                  case' rest68 => try simp only [List.getElem_toArray, List.getElem_cons_zero, List.getElem_cons_succ, Act.put, List.setIfInBounds_toArray, List.set_cons_zero, List.set_cons_succ]
                  refine wpAnyH_take (i := 7) (oi := _) (v := ?v69) rfl (by kernel_rfl) (by kernel_rfl) (by kernel_rfl) (fun _ _ _ h => h) (Or.inl ⟨by rfl, ?hy69⟩) (by assumption) ?rest69
                  case hy69 => ((intro w hSw; (try dsimp only at hSw); go_simp) <;> with_reducible rfl)
                  case' rest69 => try simp only [List.getElem_toArray, List.getElem_cons_zero, List.getElem_cons_succ, Act.put, List.setIfInBounds_toArray, List.set_cons_zero, List.set_cons_succ]
                  refine wpAnyH_take (i := 8) (oi := _) (v := ?v70) rfl (by kernel_rfl) (by kernel_rfl) (by kernel_rfl) (fun _ _ _ h => h) (Or.inl ⟨by rfl, ?hy70⟩) (by assumption) ?rest70
                  case hy70 => ((intro w hSw; (try dsimp only at hSw); go_simp) <;> with_reducible rfl)
                  case' rest70 => try simp only [List.getElem_toArray, List.getElem_cons_zero, List.getElem_cons_succ, Act.put, List.setIfInBounds_toArray, List.set_cons_zero, List.set_cons_succ]
                  refine wpAnyH_take (i := 9) (oi := _) (v := ?v71) rfl (by kernel_rfl) (by kernel_rfl) (by kernel_rfl) (fun _ _ _ h => h) (Or.inl ⟨by rfl, ?hy71⟩) (by assumption) ?rest71
                  case hy71 => ((intro w hSw; (try dsimp only at hSw); go_simp) <;> with_reducible rfl)
                  case' rest71 => try simp only [List.getElem_toArray, List.getElem_cons_zero, List.getElem_cons_succ, Act.put, List.setIfInBounds_toArray, List.set_cons_zero, List.set_cons_succ]
                  refine wpAnyH_take (i := 10) (oi := _) (v := ?v72) rfl (by kernel_rfl) (by kernel_rfl) (by kernel_rfl) (fun _ _ _ h => h) (Or.inl ⟨by rfl, ?hy72⟩) (by assumption) ?rest72
                  case hy72 => ((intro w hSw; (try dsimp only at hSw); go_simp) <;> with_reducible rfl)
                  case' rest72 => try simp only [List.getElem_toArray, List.getElem_cons_zero, List.getElem_cons_succ, Act.put, List.setIfInBounds_toArray, List.set_cons_zero, List.set_cons_succ]
                  refine wpAnyH_take (i := 11) (oi := _) (v := ?v73) rfl (by kernel_rfl) (by kernel_rfl) (by kernel_rfl) (fun _ _ _ h => h) (Or.inl ⟨by rfl, ?hy73⟩) (by assumption) ?rest73
                  case hy73 => ((intro w hSw; (try dsimp only at hSw); go_simp) <;> with_reducible rfl)
                  case' rest73 => try simp only [List.getElem_toArray, List.getElem_cons_zero, List.getElem_cons_succ, Act.put, List.setIfInBounds_toArray, List.set_cons_zero, List.set_cons_succ]
                  refine wpAnyH_take (i := 12) (oi := _) (v := ?v74) rfl (by kernel_rfl) (by kernel_rfl) (by kernel_rfl) (fun _ _ _ h => h) (Or.inl ⟨by rfl, ?hy74⟩) (by assumption) ?rest74
                  case hy74 => ((intro w hSw; (try dsimp only at hSw); go_simp) <;> with_reducible rfl)
                  case' rest74 => try simp only [List.getElem_toArray, List.getElem_cons_zero, List.getElem_cons_succ, Act.put, List.setIfInBounds_toArray, List.set_cons_zero, List.set_cons_succ]
                  refine wpAnyH_take (i := 13) (oi := _) (v := ?v75) rfl (by kernel_rfl) (by kernel_rfl) (by kernel_rfl) (fun _ _ _ h => h) (Or.inl ⟨by rfl, ?hy75⟩) (by assumption) ?rest75
                  case hy75 => ((intro w hSw; (try dsimp only at hSw); go_simp) <;> with_reducible rfl)
                  case' rest75 => try simp only [List.getElem_toArray, List.getElem_cons_zero, List.getElem_cons_succ, Act.put, List.setIfInBounds_toArray, List.set_cons_zero, List.set_cons_succ]
                  refine wpAnyH_take (i := 14) (oi := _) (v := ?v76) rfl (by kernel_rfl) (by kernel_rfl) (by kernel_rfl) (fun _ _ _ h => h) (Or.inl ⟨by rfl, ?hy76⟩) (by assumption) ?rest76
                  case hy76 => ((intro w hSw; (try dsimp only at hSw); go_simp) <;> with_reducible rfl)
                  case' rest76 => try simp only [List.getElem_toArray, List.getElem_cons_zero, List.getElem_cons_succ, Act.put, List.setIfInBounds_toArray, List.set_cons_zero, List.set_cons_succ]
                  refine wpAnyH_take (i := 15) (oi := _) (v := ?v77) rfl (by kernel_rfl) (by kernel_rfl) (by kernel_rfl) (fun _ _ _ h => h) (Or.inl ⟨by rfl, ?hy77⟩) (by assumption) ?rest77
                  case hy77 => ((intro w hSw; (try dsimp only at hSw); go_simp) <;> with_reducible rfl)
                  case' rest77 => try simp only [List.getElem_toArray, List.getElem_cons_zero, List.getElem_cons_succ, Act.put, List.setIfInBounds_toArray, List.set_cons_zero, List.set_cons_succ]
                  refine wpAnyH_take (i := 16) (oi := _) (v := ?v78) rfl (by kernel_rfl) (by kernel_rfl) (by kernel_rfl) (fun _ _ _ h => h) (Or.inl ⟨by rfl, ?hy78⟩) (by assumption) ?rest78
                  case hy78 => ((intro w hSw; (try dsimp only at hSw); go_simp) <;> with_reducible rfl)
                  case' rest78 => try simp only [List.getElem_toArray, List.getElem_cons_zero, List.getElem_cons_succ, Act.put, List.setIfInBounds_toArray, List.set_cons_zero, List.set_cons_succ]
                  refine wpAnyH_take (i := 17) (oi := _) (v := ?v79) rfl (by kernel_rfl) (by kernel_rfl) (by kernel_rfl) (fun _ _ _ h => h) (Or.inl ⟨by rfl, ?hy79⟩) (by assumption) ?rest79
                  case hy79 => ((intro w hSw; (try dsimp only at hSw); go_simp) <;> with_reducible rfl)
                  case' rest79 => try simp only [List.getElem_toArray, List.getElem_cons_zero, List.getElem_cons_succ, Act.put, List.setIfInBounds_toArray, List.set_cons_zero, List.set_cons_succ]
                  refine wpAnyH_take (i := 18) (oi := _) (v := ?v80) rfl (by kernel_rfl) (by kernel_rfl) (by kernel_rfl) (fun _ _ _ h => h) (Or.inl ⟨by rfl, ?hy80⟩) (by assumption) ?rest80
                  case hy80 => ((intro w hSw; (try dsimp only at hSw); go_simp) <;> with_reducible rfl)
                  case' rest80 => try simp only [List.getElem_toArray, List.getElem_cons_zero, List.getElem_cons_succ, Act.put, List.setIfInBounds_toArray, List.set_cons_zero, List.set_cons_succ]
                  refine wpAnyH_take (i := 19) (oi := _) (v := ?v81) rfl (by kernel_rfl) (by kernel_rfl) (by kernel_rfl) (fun _ _ _ h => h) (Or.inl ⟨by rfl, ?hy81⟩) (by assumption) ?rest81
                  case hy81 => ((intro w hSw; (try dsimp only at hSw); go_simp) <;> with_reducible rfl)
                  case' rest81 => try simp only [List.getElem_toArray, List.getElem_cons_zero, List.getElem_cons_succ, Act.put, List.setIfInBounds_toArray, List.set_cons_zero, List.set_cons_succ]
                  refine wpAnyH_take (i := 20) (oi := _) (v := ?v82) rfl (by kernel_rfl) (by kernel_rfl) (by kernel_rfl) (fun _ _ _ h => h) (Or.inl ⟨by rfl, ?hy82⟩) (by assumption) ?rest82
                  case hy82 => ((intro w hSw; (try dsimp only at hSw); go_simp) <;> with_reducible rfl)
                  case' rest82 => try simp only [List.getElem_toArray, List.getElem_cons_zero, List.getElem_cons_succ, Act.put, List.setIfInBounds_toArray, List.set_cons_zero, List.set_cons_succ]
                  refine wpAnyH_take (i := 21) (oi := _) (v := ?v83) rfl (by kernel_rfl) (by kernel_rfl) (by kernel_rfl) (fun _ _ _ h => h) (Or.inl ⟨by rfl, ?hy83⟩) (by assumption) ?rest83
                  case hy83 => ((intro w hSw; (try dsimp only at hSw); go_simp) <;> with_reducible rfl)
                  case' rest83 => try simp only [List.getElem_toArray, List.getElem_cons_zero, List.getElem_cons_succ, Act.put, List.setIfInBounds_toArray, List.set_cons_zero, List.set_cons_succ]
                  refine wpAnyH_take (i := 22) (oi := _) (v := ?v84) rfl (by kernel_rfl) (by kernel_rfl) (by kernel_rfl) (fun _ _ _ h => h) (Or.inl ⟨by rfl, ?hy84⟩) (by assumption) ?rest84
                  case hy84 => ((intro w hSw; (try dsimp only at hSw); go_simp) <;> with_reducible rfl)
                  case' rest84 => try simp only [List.getElem_toArray, List.getElem_cons_zero, List.getElem_cons_succ, Act.put, List.setIfInBounds_toArray, List.set_cons_zero, List.set_cons_succ]
                  refine wpAnyH_take (i := 23) (oi := _) (v := ?v85) rfl (by kernel_rfl) (by kernel_rfl) (by kernel_rfl) (fun _ _ _ h => h) (Or.inl ⟨by rfl, ?hy85⟩) (by assumption) ?rest85
                  case hy85 => ((intro w hSw; (try dsimp only at hSw); go_simp) <;> with_reducible rfl)
                  case' rest85 => try simp only [List.getElem_toArray, List.getElem_cons_zero, List.getElem_cons_succ, Act.put, List.setIfInBounds_toArray, List.set_cons_zero, List.set_cons_succ]
                  refine wpAnyH_take (i := 24) (oi := _) (v := ?v86) rfl (by kernel_rfl) (by kernel_rfl) (by kernel_rfl) (fun _ _ _ h => h) (Or.inl ⟨by rfl, ?hy86⟩) (by assumption) ?rest86
                  case hy86 => ((intro w hSw; (try dsimp only at hSw); go_simp) <;> with_reducible rfl)
                  case' rest86 => try simp only [List.getElem_toArray, List.getElem_cons_zero, List.getElem_cons_succ, Act.put, List.setIfInBounds_toArray, List.set_cons_zero, List.set_cons_succ]
                  refine wpAnyH_take (i := 25) (oi := _) (v := ?v87) rfl (by kernel_rfl) (by kernel_rfl) (by kernel_rfl) (fun _ _ _ h => h) (Or.inl ⟨by rfl, ?hy87⟩) (by assumption) ?rest87
                  case hy87 => ((intro w hSw; (try dsimp only at hSw); go_simp) <;> with_reducible rfl)
                  case' rest87 => try simp only [List.getElem_toArray, List.getElem_cons_zero, List.getElem_cons_succ, Act.put, List.setIfInBounds_toArray, List.set_cons_zero, List.set_cons_succ]
                  refine wpAnyH_take (i := 26) (oi := _) (v := ?v88) rfl (by kernel_rfl) (by kernel_rfl) (by kernel_rfl) (fun _ _ _ h => h) (Or.inl ⟨by rfl, ?hy88⟩) (by assumption) ?rest88
                  case hy88 => ((intro w hSw; (try dsimp only at hSw); go_simp) <;> with_reducible rfl)
                  case' rest88 => try simp only [List.getElem_toArray, List.getElem_cons_zero, List.getElem_cons_succ, Act.put, List.setIfInBounds_toArray, List.set_cons_zero, List.set_cons_succ]
                  refine wpAnyH_take (i := 27) (oi := _) (v := ?v89) rfl (by kernel_rfl) (by kernel_rfl) (by kernel_rfl) (fun _ _ _ h => h) (Or.inl ⟨by rfl, ?hy89⟩) (by assumption) ?rest89
                  case hy89 => ((intro w hSw; (try dsimp only at hSw); go_simp) <;> with_reducible rfl)
                  case' rest89 => try simp only [List.getElem_toArray, List.getElem_cons_zero, List.getElem_cons_succ, Act.put, List.setIfInBounds_toArray, List.set_cons_zero, List.set_cons_succ]
                  refine wpAnyH_ready (rs := [28]) (by kernel_rfl) (by simp) ?_
                  refine AllReadyH.cons (o := _) rfl (fun K hK => ?_) AllReadyH.nil
                  go_simp
                  refine (seg_busy p pd (givS E ((E.df.drop (7 * j)).drop 7) (!b)) A9 n9 c9 W5.drew HB9.out).mono ?_
                  rintro e w8 ⟨rfl, hw8⟩
                  subst hw8
                  rw [show (SegS.st (givS E ((E.df.drop (7 * j)).drop 7) (!b)) != 0) = true from rfl]
                  dsimp only
                  refine hK.out _ _ ?hS92 (fun hHeld => ?rest92)
                  case hS92 => ((try dsimp only); (((try go_split_ands); refine sn_of ?_; repeat' (first | with_reducible assumption | with_reducible exact Below.refl _ _ | with_reducible apply below_alloc | with_reducible apply below_drew1 | with_reducible apply below_drewN | (with_reducible apply below_step; with_reducible assumption) | (with_reducible apply below_sg2; (first | exact Nat.le_refl _ | (simp; done) | omega))))))
                  case' rest92 => (clear hK K; try simp only [List.getElem_toArray, List.getElem_cons_zero, List.getElem_cons_succ, Act.put, List.setIfInBounds_toArray, List.set_cons_zero, List.set_cons_succ])
                  refine wpAnyH_take (i := 29) (oi := _) (v := ?v93) rfl (by kernel_rfl) (by kernel_rfl) (by kernel_rfl) (fun _ _ _ h => h) (Or.inl ⟨by rfl, ?hy93⟩) (by assumption) ?rest93
                  case hy93 => ((intro w hSw; (try dsimp only at hSw); go_simp) <;> with_reducible rfl)
                  case' rest93 => try simp only [List.getElem_toArray, List.getElem_cons_zero, List.getElem_cons_succ, Act.put, List.setIfInBounds_toArray, List.set_cons_zero, List.set_cons_succ]
                  refine wpAnyH_take (i := 30) (oi := _) (v := ?v94) rfl (by kernel_rfl) (by kernel_rfl) (by kernel_rfl) (fun _ _ _ h => h) (Or.inl ⟨by rfl, ?hy94⟩) (by assumption) ?rest94
                  case hy94 => ((intro w hSw; (try dsimp only at hSw); go_simp) <;> with_reducible rfl)
                  case' rest94 => try simp only [List.getElem_toArray, List.getElem_cons_zero, List.getElem_cons_succ, Act.put, List.setIfInBounds_toArray, List.set_cons_zero, List.set_cons_succ]
                  refine wpAnyH_done (by kernel_rfl) ?_ _
                  have hEnd := hHeld.2
                  repeat (clear hHeld)
                  have hb1 : ng ≤ 1000 := by have := HNG.out; rw [List.length_take] at this; have := HN256.out; omega
                  have hb2 : nd5 ≤ 1000 := by have h7 := HD6.out.hn; simp only [segM] at h7; rw [List.length_take] at h7; omega
                  go_wp2_with (at_builtin; refine app_b _ rfl _ _ rfl (x0 + 1) _ _ _ _ rfl (HG6.out.below hEnd) _ _ _ ((E.df.drop (7 * j)).take 7) rfl HD6.out.hn (HD6.out.sl.below hEnd) (by omega) (show x0 + 1 ≤ W5.heap.size by omega) (ng + nd5) rfl ?_; intro A6 c6 w6 hO6 hg6 hA6 hb6)
                  go_roundw
                  case rel =>
                    refine upL_next (j := j) (upB_drew HW5.out) hx HPW.out ?_ hg6 hA6 hb6 hj39 ?_ _ (by go_num)
                    · rw [show 7 * (j + 1) = 7 * j + 7 by omega, List.take_add]
                      exact hO6
                    · have hll := HL7.out
                      rw [List.length_drop] at hll
                      exact .inl ⟨by rw [List.drop_drop, show 7 * j + 7 = 7 * (j + 1) by omega], .inr (by omega)⟩
                  case measure => simp [intOf]; omega
              · have qe := blk_only HQ4.out HOr.out (show w.heap.size ≠ p by omega)
                unfold entV at qe
                have qe_c0 := qe.cell 0 rfl
                have qe_f0 := qe.frozen 0
                have qe_c1 := qe.cell 1 rfl
                have qe_f1 := qe.frozen 1
                have qe_c2 := qe.cell 2 rfl
                have qe_f2 := qe.frozen 2
                have qe_c3 := qe.cell 3 rfl
                have qe_f3 := qe.frozen 3
                have qe_c4 := qe.cell 4 rfl
                have qe_f4 := qe.frozen 4
                have qe_c5 := qe.cell 5 rfl
                have qe_f5 := qe.frozen 5
                have qe_c6 := qe.cell 6 rfl
                have qe_f6 := qe.frozen 6
                have qe_c7 := qe.cell 7 rfl
                have qe_f7 := qe.frozen 7
                have qe_c8 := qe.cell 8 rfl
                have qe_f8 := qe.frozen 8
                have qe_c9 := qe.cell 9 rfl
                have qe_f9 := qe.frozen 9
                have qe_c10 := qe.cell 10 rfl
                have qe_f10 := qe.frozen 10
                have zew : w.heap.size < wr.heap.size := qe.lt
                have s1 : (convert 22 9 (.slice Ag ng cg)).run Try.prog wr = .ok (.string ⟨E.df.toArray⟩) wr := str_b cg (by rw [HNG.out, List.take_of_length_le hjj]) (by have := hGr.sl; rwa [List.take_of_length_le hjj] at this)
                have s2 : (convert 22 9 (.slice A n c)).run Try.prog wr = .ok (.string ⟨E.df.toArray⟩) wr := str_b c HN.out (HS.out.below HBr.out)
                have hj60 : (j : Int) < 60 := by omega
                clear hjj hB8 hSr hGr hKr hOr
                go_wp2_with fail
                refine (seg_busy p pd (doneS E b) A8 n8 c8 _ HB8.out).mono ?_
                rintro e w8 ⟨rfl, hw8⟩
                subst hw8
                rw [show ((doneS E b).st != 0) = false from rfl]
                go_wp2_with fail
                refine (seg_busy p pd (doneS E b) A8 n8 c8 _ HB8.out).mono ?_
                rintro e w8 ⟨rfl, hw8⟩
                subst hw8
                rw [show ((doneS E b).st != 0) = false from rfl]
                go_wp2_with fail
                refine (known_21 _).mono ?_
                rintro e w9 ⟨rfl, hb9⟩
                go_wp2_with fail
                go_ret
                exact (⟨rfl, below_step hb9 HBr.out⟩ : TrueB w _ _)
          · clear hsh hnn h256
            go_wp2_with fail
            go_loopw [9, 10, 11] (fun vg vt vi wr => UpL w2 E p pd x0 vg vt vi wr) (fun _ _ vi _ => 60 - (intOf vi).toNat)
            case atStart => exact upL_mk HW.out
            case round =>
              obtain ⟨j, S, Ag, ng, cg, b, As, ns, cs, O, Ao, no, co, rfl, rfl, rfl, hj, hst, hOr, hSr, hKr, hGr, hx⟩ := hrel
              obtain ⟨A8, n8, c8, hB8, _⟩ := id hSr
              have HB8 := hide hB8
              have HOr := hide hOr
              have HSr := hide hSr
              have HNG := hide hGr.hn
              have HBr := hide (below_only hOr HBW2.out (fun i (e : i = p) => by omega))
              rcases hst with ⟨rfl, hjj⟩ | ⟨rfl, hjj⟩
              · have h256 := HN256.out
                have hj40 : (j : Int) < 60 := by omega
                have hj39 : j + 1 ≤ 40 := by omega
                have HJJ := hide hjj
                have HDL : Hid ((E.df.drop (7 * j)).length ≤ 256) := hide (by simp; omega)
                clear hjj h256 hB8 hSr
                go_wp2_with fail
                refine (seg_busy p pd (givS E (E.df.drop (7 * j)) b) A8 n8 c8 _ HB8.out).mono ?_
                rintro e w8 ⟨rfl, hw8⟩
                subst hw8
                rw [show ((givS E (E.df.drop (7 * j)) b).st != 0) = true from rfl]
                go_wp2_with fail
                refine (hR.out wr (givS E (E.df.drop (7 * j)) b) (nxMsg b) _ HOr.out HSr.out rfl (Nat.zero_le _) (fun _ => HDL.out)).mono ?_
                rintro e w5 ⟨X5, As5, ns5, cs5, A5, n5, c5, rfl, hm5, hO5, hX5, hS5, ho5⟩
                by_cases hl : (E.df.drop (7 * j)).length ≤ 7
                · obtain ⟨u1, u2⟩ := next_last [E] [E.df] E (E.df.drop (7 * j)) b hl
                  rw [u1] at hS5
                  rw [u2] at hm5 hO5 ⊢
                  obtain ⟨g5, Ad5, nd5, cd5, rfl, rfl, rfl, hg5, hM5, hOd5⟩ := ms_one hm5
                  obtain ⟨hK5, hX5'⟩ := upB_mk (Ao := A5) (no := n5) (co := c5) hOr ho5 hx HPW.out hKr hS5 hg5 hM5 hOd5 hGr
                  have HX := hide hX5'
                  unfold putO at HX
                  have hK5 := hK5
                  unfold outV at hKr hK5
                  clear hKr
                  have hK5_c0 := hK5.cell 0 rfl
                  have hK5_f0 := hK5.frozen 0
                  have hK5_c1 := hK5.cell 1 rfl
                  have hK5_f1 := hK5.frozen 1
                  have hK5_c2 := hK5.cell 2 rfl
                  have hK5_f2 := hK5.frozen 2
                  have hK5_c3 := hK5.cell 3 rfl
                  have hK5_f3 := hK5.frozen 3
                  have hK5_c4 := hK5.cell 4 rfl
                  have hK5_f4 := hK5.frozen 4
                  have zx5 : x0 < w5.heap.size := hK5.lt
                  clear hm5 hO5 hX5 hX5' hS5 hM5 hOd5 hg5 u1 u2
                  unfold outV outM
                  dsimp only
                  go_upto_region 23 with fail
                  refine wp_gen (P := UpB w2 p pd x0 (doneS E (!b)) (segM b true (E.df.drop (7 * j))) g5 A5 n5 c5 Ad5 nd5 cd5 Ag ng cg (E.df.take (7 * j))) HX.out (fun W5 hW5 => ?_)
                  clear HX
                  obtain ⟨hO6, hS6, hK6, hM6, hD6, hG6⟩ := id hW5
                  have HW5 := hide hW5
                  have HD6 := hide hD6
                  have HG6 := hide hG6
                  clear hK5_c0 hK5_f0 hK5_c1 hK5_f1 hK5_c2 hK5_f2 hK5_c3 hK5_f3 hK5_c4 hK5_f4
                  unfold outV outM at hK6
                  unfold msV segM at hM6
                  have hK6_c0 := hK6.cell 0 rfl
                  have hK6_f0 := hK6.frozen 0
                  have hK6_c1 := hK6.cell 1 rfl
                  have hK6_f1 := hK6.frozen 1
                  have hK6_c2 := hK6.cell 2 rfl
                  have hK6_f2 := hK6.frozen 2
                  have hK6_c3 := hK6.cell 3 rfl
                  have hK6_f3 := hK6.frozen 3
                  have hK6_c4 := hK6.cell 4 rfl
                  have hK6_f4 := hK6.frozen 4
                  have hM6_c0 := hM6.cell 0 rfl
                  have hM6_f0 := hM6.frozen 0
                  have hM6_c1 := hM6.cell 1 rfl
                  have hM6_f1 := hM6.frozen 1
                  have hM6_c2 := hM6.cell 2 rfl
                  have hM6_f2 := hM6.frozen 2
                  have hM6_c3 := hM6.cell 3 rfl
                  have hM6_f3 := hM6.frozen 3
                  have hM6_c4 := hM6.cell 4 rfl
                  have hM6_f4 := hM6.frozen 4
                  have hM6_c5 := hM6.cell 5 rfl
                  have hM6_f5 := hM6.frozen 5
                  have hM6_c6 := hM6.cell 6 rfl
                  have hM6_f6 := hM6.frozen 6
                  have hM6_c7 := hM6.cell 7 rfl
                  have hM6_f7 := hM6.frozen 7
                  have hM6_c8 := hM6.cell 8 rfl
                  have hM6_f8 := hM6.frozen 8
                  have hM6_c9 := hM6.cell 9 rfl
                  have hM6_f9 := hM6.frozen 9
                  have hM6_c10 := hM6.cell 10 rfl
                  have hM6_f10 := hM6.frozen 10
                  have hM6_c11 := hM6.cell 11 rfl
                  have hM6_f11 := hM6.frozen 11
                  have hM6_c12 := hM6.cell 12 rfl
                  have hM6_f12 := hM6.frozen 12
                  have hM6_c13 := hM6.cell 13 rfl
                  have hM6_f13 := hM6.frozen 13
                  have zx6 : x0 < W5.heap.size := hK6.lt
                  have zg6 : g5 < W5.heap.size := hM6.lt
                  obtain ⟨A9, n9, c9, hB9, _⟩ := hS6
                  have HB9 := hide hB9
                  have HL7 := hide hl
                  clear hW5 hO6 hD6 hG6 hB9 hK5 zx5 hl
                  go_wp2_with fail
                  refine wp_region_held_drew (S := (fun w' => (∀ qA : Addr, qA.block < (W5).heap.size → w'.cell? qA = (W5).cell? qA) ∧ Below (W5).heap.size (W5) w')) (by kernel_rfl) ?hS96 (fun hHeld => ?rest96)
                  case hS96 => ((try dsimp only); (((try go_split_ands); refine sn_of ?_; repeat' (first | with_reducible assumption | with_reducible exact Below.refl _ _ | with_reducible apply below_alloc | with_reducible apply below_drew1 | with_reducible apply below_drewN | (with_reducible apply below_step; with_reducible assumption) | (with_reducible apply below_sg2; (first | exact Nat.le_refl _ | (simp; done) | omega))))))
                  case' rest96 => skip
                  refine wpAnyH_take (i := 0) (oi := _) (v := ?v97) rfl (by kernel_rfl) (by kernel_rfl) (by kernel_rfl) (fun _ _ _ h => h) (Or.inl ⟨by rfl, ?hy97⟩) (by assumption) ?rest97
                  case hy97 => ((intro w hSw; (try dsimp only at hSw); go_simp) <;> with_reducible rfl)
                  case' rest97 => try simp only [List.getElem_toArray, List.getElem_cons_zero, List.getElem_cons_succ, Act.put, List.setIfInBounds_toArray, List.set_cons_zero, List.set_cons_succ]
                  refine wpAnyH_take (i := 1) (oi := _) (v := ?v98) rfl (by kernel_rfl) (by kernel_rfl) (by kernel_rfl) (fun _ _ _ h => h) (Or.inl ⟨by rfl, ?hy98⟩) (by assumption) ?rest98
                  case hy98 => ((intro w hSw; (try dsimp only at hSw); go_simp) <;> with_reducible rfl)
                  case' rest98 => try simp only [List.getElem_toArray, List.getElem_cons_zero, List.getElem_cons_succ, Act.put, List.setIfInBounds_toArray, List.set_cons_zero, List.set_cons_succ]
                  refine wpAnyH_take (i := 2) (oi := _) (v := ?v99) rfl (by kernel_rfl) (by kernel_rfl) (by kernel_rfl) (fun _ _ _ h => h) (Or.inl ⟨by rfl, ?hy99⟩) (by assumption) ?rest99
                  case hy99 => ((intro w hSw; (try dsimp only at hSw); go_simp) <;> with_reducible rfl)
                  case' rest99 => try simp only [List.getElem_toArray, List.getElem_cons_zero, List.getElem_cons_succ, Act.put, List.setIfInBounds_toArray, List.set_cons_zero, List.set_cons_succ]
                  refine wpAnyH_take (i := 3) (oi := _) (v := ?v100) rfl (by kernel_rfl) (by kernel_rfl) (by kernel_rfl) (fun _ _ _ h => h) (Or.inl ⟨by rfl, ?hy100⟩) (by assumption) ?rest100
                  case hy100 => ((intro w hSw; (try dsimp only at hSw); go_simp) <;> with_reducible rfl)
                  case' rest100 => try simp only [List.getElem_toArray, List.getElem_cons_zero, List.getElem_cons_succ, Act.put, List.setIfInBounds_toArray, List.set_cons_zero, List.set_cons_succ]
                  refine wpAnyH_take (i := 4) (oi := _) (v := ?v101) rfl (by kernel_rfl) (by kernel_rfl) (by kernel_rfl) (fun _ _ _ h => h) (Or.inl ⟨by rfl, ?hy101⟩) (by assumption) ?rest101
                  case hy101 => ((intro w hSw; (try dsimp only at hSw); go_simp) <;> with_reducible rfl)
                  case' rest101 => try simp only [List.getElem_toArray, List.getElem_cons_zero, List.getElem_cons_succ, Act.put, List.setIfInBounds_toArray, List.set_cons_zero, List.set_cons_succ]
                  refine wpAnyH_take (i := 5) (oi := _) (v := ?v102) rfl (by kernel_rfl) (by kernel_rfl) (by kernel_rfl) (fun _ _ _ h => h) (Or.inl ⟨by rfl, ?hy102⟩) (by assumption) ?rest102
                  case hy102 => ((intro w hSw; (try dsimp only at hSw); go_simp) <;> with_reducible rfl)
                  case' rest102 => try simp only [List.getElem_toArray, List.getElem_cons_zero, List.getElem_cons_succ, Act.put, List.setIfInBounds_toArray, List.set_cons_zero, List.set_cons_succ]
                  refine wpAnyH_take (i := 6) (oi := _) (v := ?v103) rfl (by kernel_rfl) (by kernel_rfl) (by kernel_rfl) (fun _ _ _ h => h) (Or.inl ⟨by rfl, ?hy103⟩) (by assumption) ?rest103
                  case hy103 => ((intro w hSw; (try dsimp only at hSw); go_simp) <;> with_reducible rfl)
                  case' rest103 => try simp only [List.getElem_toArray, List.getElem_cons_zero, List.getElem_cons_succ, Act.put, List.setIfInBounds_toArray, List.set_cons_zero, List.set_cons_succ]
                  refine wpAnyH_take (i := 7) (oi := _) (v := ?v104) rfl (by kernel_rfl) (by kernel_rfl) (by kernel_rfl) (fun _ _ _ h => h) (Or.inl ⟨by rfl, ?hy104⟩) (by assumption) ?rest104
                  case hy104 => ((intro w hSw; (try dsimp only at hSw); go_simp) <;> with_reducible rfl)
                  case' rest104 => try simp only [List.getElem_toArray, List.getElem_cons_zero, List.getElem_cons_succ, Act.put, List.setIfInBounds_toArray, List.set_cons_zero, List.set_cons_succ]
                  refine wpAnyH_take (i := 8) (oi := _) (v := ?v105) rfl (by kernel_rfl) (by kernel_rfl) (by kernel_rfl) (fun _ _ _ h => h) (Or.inl ⟨by rfl, ?hy105⟩) (by assumption) ?rest105
                  case hy105 => ((intro w hSw; (try dsimp only at hSw); go_simp) <;> with_reducible rfl)
                  case' rest105 => try simp only [List.getElem_toArray, List.getElem_cons_zero, List.getElem_cons_succ, Act.put, List.setIfInBounds_toArray, List.set_cons_zero, List.set_cons_succ]
                  refine wpAnyH_take (i := 9) (oi := _) (v := ?v106) rfl (by kernel_rfl) (by kernel_rfl) (by kernel_rfl) (fun _ _ _ h => h) (Or.inl ⟨by rfl, ?hy106⟩) (by assumption) ?rest106
                  case hy106 => ((intro w hSw; (try dsimp only at hSw); go_simp) <;> with_reducible rfl)
                  case' rest106 => try simp only [List.getElem_toArray, List.getElem_cons_zero, List.getElem_cons_succ, Act.put, List.setIfInBounds_toArray, List.set_cons_zero, List.set_cons_succ]
                  refine wpAnyH_take (i := 10) (oi := _) (v := ?v107) rfl (by kernel_rfl) (by kernel_rfl) (by kernel_rfl) (fun _ _ _ h => h) (Or.inl ⟨by rfl, ?hy107⟩) (by assumption) ?rest107
                  case hy107 => ((intro w hSw; (try dsimp only at hSw); go_simp) <;> with_reducible rfl)
                  case' rest107 => try simp only [List.getElem_toArray, List.getElem_cons_zero, List.getElem_cons_succ, Act.put, List.setIfInBounds_toArray, List.set_cons_zero, List.set_cons_succ]
                  refine wpAnyH_take (i := 11) (oi := _) (v := ?v108) rfl (by kernel_rfl) (by kernel_rfl) (by kernel_rfl) (fun _ _ _ h => h) (Or.inl ⟨by rfl, ?hy108⟩) (by assumption) ?rest108
                  case hy108 => ((intro w hSw; (try dsimp only at hSw); go_simp) <;> with_reducible rfl)
                  case' rest108 => try simp only [List.getElem_toArray, List.getElem_cons_zero, List.getElem_cons_succ, Act.put, List.setIfInBounds_toArray, List.set_cons_zero, List.set_cons_succ]
                  refine wpAnyH_take (i := 12) (oi := _) (v := ?v109) rfl (by kernel_rfl) (by kernel_rfl) (by kernel_rfl) (fun _ _ _ h => h) (Or.inl ⟨by rfl, ?hy109⟩) (by assumption) ?rest109
                  case hy109 => ((intro w hSw; (try dsimp only at hSw); go_simp) <;> with_reducible rfl)
                  case' rest109 => try simp only [List.getElem_toArray, List.getElem_cons_zero, List.getElem_cons_succ, Act.put, List.setIfInBounds_toArray, List.set_cons_zero, List.set_cons_succ]
                  refine wpAnyH_take (i := 13) (oi := _) (v := ?v110) rfl (by kernel_rfl) (by kernel_rfl) (by kernel_rfl) (fun _ _ _ h => h) (Or.inl ⟨by rfl, ?hy110⟩) (by assumption) ?rest110
                  case hy110 => ((intro w hSw; (try dsimp only at hSw); go_simp) <;> with_reducible rfl)
                  case' rest110 => try simp only [List.getElem_toArray, List.getElem_cons_zero, List.getElem_cons_succ, Act.put, List.setIfInBounds_toArray, List.set_cons_zero, List.set_cons_succ]
                  refine wpAnyH_take (i := 14) (oi := _) (v := ?v111) rfl (by kernel_rfl) (by kernel_rfl) (by kernel_rfl) (fun _ _ _ h => h) (Or.inl ⟨by rfl, ?hy111⟩) (by assumption) ?rest111
                  case hy111 => ((intro w hSw; (try dsimp only at hSw); go_simp) <;> with_reducible rfl)
                  case' rest111 => try simp only [List.getElem_toArray, List.getElem_cons_zero, List.getElem_cons_succ, Act.put, List.setIfInBounds_toArray, List.set_cons_zero, List.set_cons_succ]
                  refine wpAnyH_take (i := 15) (oi := _) (v := ?v112) rfl (by kernel_rfl) (by kernel_rfl) (by kernel_rfl) (fun _ _ _ h => h) (Or.inl ⟨by rfl, ?hy112⟩) (by assumption) ?rest112
                  case hy112 => ((intro w hSw; (try dsimp only at hSw); go_simp) <;> with_reducible rfl)
                  case' rest112 => try simp only [List.getElem_toArray, List.getElem_cons_zero, List.getElem_cons_succ, Act.put, List.setIfInBounds_toArray, List.set_cons_zero, List.set_cons_succ]
                  refine wpAnyH_take (i := 16) (oi := _) (v := ?v113) rfl (by kernel_rfl) (by kernel_rfl) (by kernel_rfl) (fun _ _ _ h => h) (Or.inl ⟨by rfl, ?hy113⟩) (by assumption) ?rest113
                  case hy113 => ((intro w hSw; (try dsimp only at hSw); go_simp) <;> with_reducible rfl)
                  case' rest113 => try simp only [List.getElem_toArray, List.getElem_cons_zero, List.getElem_cons_succ, Act.put, List.setIfInBounds_toArray, List.set_cons_zero, List.set_cons_succ]
                  refine wpAnyH_take (i := 17) (oi := _) (v := ?v114) rfl (by kernel_rfl) (by kernel_rfl) (by kernel_rfl) (fun _ _ _ h => h) (Or.inl ⟨by rfl, ?hy114⟩) (by assumption) ?rest114
                  case hy114 => ((intro w hSw; (try dsimp only at hSw); go_simp) <;> with_reducible rfl)
                  case' rest114 => try simp only [List.getElem_toArray, List.getElem_cons_zero, List.getElem_cons_succ, Act.put, List.setIfInBounds_toArray, List.set_cons_zero, List.set_cons_succ]
                  refine wpAnyH_take (i := 18) (oi := _) (v := ?v115) rfl (by kernel_rfl) (by kernel_rfl) (by kernel_rfl) (fun _ _ _ h => h) (Or.inl ⟨by rfl, ?hy115⟩) (by assumption) ?rest115
                  case hy115 => ((intro w hSw; (try dsimp only at hSw); go_simp) <;> with_reducible rfl)
                  case' rest115 => try simp only [List.getElem_toArray, List.getElem_cons_zero, List.getElem_cons_succ, Act.put, List.setIfInBounds_toArray, List.set_cons_zero, List.set_cons_succ]
                  refine wpAnyH_take (i := 19) (oi := _) (v := ?v116) rfl (by kernel_rfl) (by kernel_rfl) (by kernel_rfl) (fun _ _ _ h => h) (Or.inl ⟨by rfl, ?hy116⟩) (by assumption) ?rest116
                  case hy116 => ((intro w hSw; (try dsimp only at hSw); go_simp) <;> with_reducible rfl)
                  case' rest116 => try simp only [List.getElem_toArray, List.getElem_cons_zero, List.getElem_cons_succ, Act.put, List.setIfInBounds_toArray, List.set_cons_zero, List.set_cons_succ]
                  refine wpAnyH_take (i := 20) (oi := _) (v := ?v117) rfl (by kernel_rfl) (by kernel_rfl) (by kernel_rfl) (fun _ _ _ h => h) (Or.inl ⟨by rfl, ?hy117⟩) (by assumption) ?rest117
                  case hy117 => ((intro w hSw; (try dsimp only at hSw); go_simp) <;> with_reducible rfl)
                  case' rest117 => try simp only [List.getElem_toArray, List.getElem_cons_zero, List.getElem_cons_succ, Act.put, List.setIfInBounds_toArray, List.set_cons_zero, List.set_cons_succ]
                  refine wpAnyH_take (i := 21) (oi := _) (v := ?v118) rfl (by kernel_rfl) (by kernel_rfl) (by kernel_rfl) (fun _ _ _ h => h) (Or.inl ⟨by rfl, ?hy118⟩) (by assumption) ?rest118
                  case hy118 => ((intro w hSw; (try dsimp only at hSw); go_simp) <;> with_reducible rfl)
                  case' rest118 => try simp only [List.getElem_toArray, List.getElem_cons_zero, List.getElem_cons_succ, Act.put, List.setIfInBounds_toArray, List.set_cons_zero, List.set_cons_succ]
                  refine wpAnyH_take (i := 22) (oi := _) (v := ?v119) rfl (by kernel_rfl) (by kernel_rfl) (by kernel_rfl) (fun _ _ _ h => h) (Or.inl ⟨by rfl, ?hy119⟩) (by assumption) ?rest119
                  case hy119 => ((intro w hSw; (try dsimp only at hSw); go_simp) <;> with_reducible rfl)
                  case' rest119 => try simp only [List.getElem_toArray, List.getElem_cons_zero, List.getElem_cons_succ, Act.put, List.setIfInBounds_toArray, List.set_cons_zero, List.set_cons_succ]
                  refine wpAnyH_take (i := 23) (oi := _) (v := ?v120) rfl (by kernel_rfl) (by kernel_rfl) (by kernel_rfl) (fun _ _ _ h => h) (Or.inl ⟨by rfl, ?hy120⟩) (by assumption) ?rest120
                  case hy120 => ((intro w hSw; (try dsimp only at hSw); go_simp) <;> with_reducible rfl)
                  case' rest120 => try simp only [List.getElem_toArray, List.getElem_cons_zero, List.getElem_cons_succ, Act.put, List.setIfInBounds_toArray, List.set_cons_zero, List.set_cons_succ]
                  refine wpAnyH_take (i := 24) (oi := _) (v := ?v121) rfl (by kernel_rfl) (by kernel_rfl) (by kernel_rfl) (fun _ _ _ h => h) (Or.inl ⟨by rfl, ?hy121⟩) (by assumption) ?rest121
                  case hy121 => ((intro w hSw; (try dsimp only at hSw); go_simp) <;> with_reducible rfl)
                  case' rest121 => try simp only [List.getElem_toArray, List.getElem_cons_zero, List.getElem_cons_succ, Act.put, List.setIfInBounds_toArray, List.set_cons_zero, List.set_cons_succ]
                  refine wpAnyH_take (i := 25) (oi := _) (v := ?v122) rfl (by kernel_rfl) (by kernel_rfl) (by kernel_rfl) (fun _ _ _ h => h) (Or.inl ⟨by rfl, ?hy122⟩) (by assumption) ?rest122
                  case hy122 => ((intro w hSw; (try dsimp only at hSw); go_simp) <;> with_reducible rfl)
                  case' rest122 => try simp only [List.getElem_toArray, List.getElem_cons_zero, List.getElem_cons_succ, Act.put, List.setIfInBounds_toArray, List.set_cons_zero, List.set_cons_succ]
                  refine wpAnyH_take (i := 26) (oi := _) (v := ?v123) rfl (by kernel_rfl) (by kernel_rfl) (by kernel_rfl) (fun _ _ _ h => h) (Or.inl ⟨by rfl, ?hy123⟩) (by assumption) ?rest123
                  case hy123 => ((intro w hSw; (try dsimp only at hSw); go_simp) <;> with_reducible rfl)
                  case' rest123 => try simp only [List.getElem_toArray, List.getElem_cons_zero, List.getElem_cons_succ, Act.put, List.setIfInBounds_toArray, List.set_cons_zero, List.set_cons_succ]
                  refine wpAnyH_take (i := 27) (oi := _) (v := ?v124) rfl (by kernel_rfl) (by kernel_rfl) (by kernel_rfl) (fun _ _ _ h => h) (Or.inl ⟨by rfl, ?hy124⟩) (by assumption) ?rest124
                  case hy124 => ((intro w hSw; (try dsimp only at hSw); go_simp) <;> with_reducible rfl)
                  case' rest124 => try simp only [List.getElem_toArray, List.getElem_cons_zero, List.getElem_cons_succ, Act.put, List.setIfInBounds_toArray, List.set_cons_zero, List.set_cons_succ]
                  refine wpAnyH_ready (rs := [28]) (by kernel_rfl) (by simp) ?_
                  refine AllReadyH.cons (o := _) rfl (fun K hK => ?_) AllReadyH.nil
                  go_simp
                  refine (seg_busy p pd (doneS E (!b)) A9 n9 c9 W5.drew HB9.out).mono ?_
                  rintro e w8 ⟨rfl, hw8⟩
                  subst hw8
                  rw [show (SegS.st (doneS E (!b)) != 0) = false from rfl]
                  dsimp only
                  refine hK.out _ _ ?hS127 (fun hHeld => ?rest127)
                  case hS127 => ((try dsimp only); (((try go_split_ands); refine sn_of ?_; repeat' (first | with_reducible assumption | with_reducible exact Below.refl _ _ | with_reducible apply below_alloc | with_reducible apply below_drew1 | with_reducible apply below_drewN | (with_reducible apply below_step; with_reducible assumption) | (with_reducible apply below_sg2; (first | exact Nat.le_refl _ | (simp; done) | omega))))))
                  case' rest127 => (clear hK K; try simp only [List.getElem_toArray, List.getElem_cons_zero, List.getElem_cons_succ, Act.put, List.setIfInBounds_toArray, List.set_cons_zero, List.set_cons_succ])
                  refine wpAnyH_take (i := 29) (oi := _) (v := ?v128) rfl (by kernel_rfl) (by kernel_rfl) (by kernel_rfl) (fun _ _ _ h => h) (Or.inl ⟨by rfl, ?hy128⟩) (by assumption) ?rest128
                  case hy128 => ((intro w hSw; (try dsimp only at hSw); go_simp) <;> with_reducible rfl)
                  case' rest128 => try simp only [List.getElem_toArray, List.getElem_cons_zero, List.getElem_cons_succ, Act.put, List.setIfInBounds_toArray, List.set_cons_zero, List.set_cons_succ]
                  refine wpAnyH_take (i := 30) (oi := _) (v := ?v129) rfl (by kernel_rfl) (by kernel_rfl) (by kernel_rfl) (fun _ _ _ h => h) (Or.inl ⟨by rfl, ?hy129⟩) (by assumption) ?rest129
                  case hy129 => ((intro w hSw; (try dsimp only at hSw); go_simp) <;> with_reducible rfl)
                  case' rest129 => try simp only [List.getElem_toArray, List.getElem_cons_zero, List.getElem_cons_succ, Act.put, List.setIfInBounds_toArray, List.set_cons_zero, List.set_cons_succ]
                  refine wpAnyH_done (by kernel_rfl) ?_ _
                  have hEnd := hHeld.2
                  repeat (clear hHeld)
                  have hb1 : ng ≤ 1000 := by have := HNG.out; rw [List.length_take] at this; have := HN256.out; omega
                  have hb2 : nd5 ≤ 1000 := by have := HD6.out.hn; have := HDL.out; simp only [segM] at *; omega
                  go_wp2_with (at_builtin; refine app_b _ rfl _ _ rfl (x0 + 1) _ _ _ _ rfl (HG6.out.below hEnd) _ _ _ (E.df.drop (7 * j)) rfl HD6.out.hn (HD6.out.sl.below hEnd) (by omega) (show x0 + 1 ≤ W5.heap.size by omega) (ng + nd5) rfl ?_; intro A6 c6 w6 hO6 hg6 hA6 hb6)
                  go_roundw
                  case rel =>
                    refine upL_next (j := j) (upB_drew HW5.out) hx HPW.out ?_ hg6 hA6 hb6 hj39 ?_ _ (by go_num)
                    · have hll := HL7.out
                      rw [List.length_drop] at hll
                      rw [List.take_append_drop] at hO6
                      rw [List.take_of_length_le (by omega)]
                      exact hO6
                    · have hll := HL7.out
                      rw [List.length_drop] at hll
                      exact .inr ⟨rfl, by omega⟩
                  case measure => simp [intOf]; omega
                · obtain ⟨u1, u2⟩ := next_more [E] [E.df] E (E.df.drop (7 * j)) b hl
                  rw [u1] at hS5
                  rw [u2] at hm5 hO5 ⊢
                  obtain ⟨g5, Ad5, nd5, cd5, rfl, rfl, rfl, hg5, hM5, hOd5⟩ := ms_one hm5
                  obtain ⟨hK5, hX5'⟩ := upB_mk (Ao := A5) (no := n5) (co := c5) hOr ho5 hx HPW.out hKr hS5 hg5 hM5 hOd5 hGr
                  have HX := hide hX5'
                  unfold putO at HX
                  have hK5 := hK5
                  unfold outV at hKr hK5
                  clear hKr
                  have hK5_c0 := hK5.cell 0 rfl
                  have hK5_f0 := hK5.frozen 0
                  have hK5_c1 := hK5.cell 1 rfl
                  have hK5_f1 := hK5.frozen 1
                  have hK5_c2 := hK5.cell 2 rfl
                  have hK5_f2 := hK5.frozen 2
                  have hK5_c3 := hK5.cell 3 rfl
                  have hK5_f3 := hK5.frozen 3
                  have hK5_c4 := hK5.cell 4 rfl
                  have hK5_f4 := hK5.frozen 4
                  have zx5 : x0 < w5.heap.size := hK5.lt
                  clear hm5 hO5 hX5 hX5' hS5 hM5 hOd5 hg5 u1 u2
                  unfold outV outM
                  dsimp only
                  go_upto_region 23 with fail
                  refine wp_gen (P := UpB w2 p pd x0 (givS E ((E.df.drop (7 * j)).drop 7) (!b)) (segM b false ((E.df.drop (7 * j)).take 7)) g5 A5 n5 c5 Ad5 nd5 cd5 Ag ng cg (E.df.take (7 * j))) HX.out (fun W5 hW5 => ?_)
                  clear HX
                  obtain ⟨hO6, hS6, hK6, hM6, hD6, hG6⟩ := id hW5
                  have HW5 := hide hW5
                  have HD6 := hide hD6
                  have HG6 := hide hG6
                  clear hK5_c0 hK5_f0 hK5_c1 hK5_f1 hK5_c2 hK5_f2 hK5_c3 hK5_f3 hK5_c4 hK5_f4
                  unfold outV outM at hK6
                  unfold msV segM at hM6
                  have hK6_c0 := hK6.cell 0 rfl
                  have hK6_f0 := hK6.frozen 0
                  have hK6_c1 := hK6.cell 1 rfl
                  have hK6_f1 := hK6.frozen 1
                  have hK6_c2 := hK6.cell 2 rfl
                  have hK6_f2 := hK6.frozen 2
                  have hK6_c3 := hK6.cell 3 rfl
                  have hK6_f3 := hK6.frozen 3
                  have hK6_c4 := hK6.cell 4 rfl
                  have hK6_f4 := hK6.frozen 4
                  have hM6_c0 := hM6.cell 0 rfl
                  have hM6_f0 := hM6.frozen 0
                  have hM6_c1 := hM6.cell 1 rfl
                  have hM6_f1 := hM6.frozen 1
                  have hM6_c2 := hM6.cell 2 rfl
                  have hM6_f2 := hM6.frozen 2
                  have hM6_c3 := hM6.cell 3 rfl
                  have hM6_f3 := hM6.frozen 3
                  have hM6_c4 := hM6.cell 4 rfl
                  have hM6_f4 := hM6.frozen 4
                  have hM6_c5 := hM6.cell 5 rfl
                  have hM6_f5 := hM6.frozen 5
                  have hM6_c6 := hM6.cell 6 rfl
                  have hM6_f6 := hM6.frozen 6
                  have hM6_c7 := hM6.cell 7 rfl
                  have hM6_f7 := hM6.frozen 7
                  have hM6_c8 := hM6.cell 8 rfl
                  have hM6_f8 := hM6.frozen 8
                  have hM6_c9 := hM6.cell 9 rfl
                  have hM6_f9 := hM6.frozen 9
                  have hM6_c10 := hM6.cell 10 rfl
                  have hM6_f10 := hM6.frozen 10
                  have hM6_c11 := hM6.cell 11 rfl
                  have hM6_f11 := hM6.frozen 11
                  have hM6_c12 := hM6.cell 12 rfl
                  have hM6_f12 := hM6.frozen 12
                  have hM6_c13 := hM6.cell 13 rfl
                  have hM6_f13 := hM6.frozen 13
                  have zx6 : x0 < W5.heap.size := hK6.lt
                  have zg6 : g5 < W5.heap.size := hM6.lt
                  obtain ⟨A9, n9, c9, hB9, _⟩ := hS6
                  have HB9 := hide hB9
                  have HL7 := hide hl
                  clear hW5 hO6 hD6 hG6 hB9 hK5 zx5 hl
                  go_wp2_with fail
                  refine wp_region_held_drew (S := (fun w' => (∀ qA : Addr, qA.block < (W5).heap.size → w'.cell? qA = (W5).cell? qA) ∧ Below (W5).heap.size (W5) w')) (by kernel_rfl) ?hS131 (fun hHeld => ?rest131)
                  case hS131 => ((try dsimp only); (((try go_split_ands); refine sn_of ?_; repeat' (first | with_reducible assumption | with_reducible exact Below.refl _ _ | with_reducible apply below_alloc | with_reducible apply below_drew1 | with_reducible apply below_drewN | (with_reducible apply below_step; with_reducible assumption) | (with_reducible apply below_sg2; (first | exact Nat.le_refl _ | (simp; done) | omega))))))
                  case' rest131 => skip
                  refine wpAnyH_take (i := 0) (oi := _) (v := ?v132) rfl (by kernel_rfl) (by kernel_rfl) (by kernel_rfl) (fun _ _ _ h => h) (Or.inl ⟨by rfl, ?hy132⟩) (by assumption) ?rest132
                  case hy132 => ((intro w hSw; (try dsimp only at hSw); go_simp) <;> with_reducible rfl)
                  case' rest132 => try simp only [List.getElem_toArray, List.getElem_cons_zero, List.getElem_cons_succ, Act.put, List.setIfInBounds_toArray, List.set_cons_zero, List.set_cons_succ]
                  refine wpAnyH_take (i := 1) (oi := _) (v := ?v133) rfl (by kernel_rfl) (by kernel_rfl) (by kernel_rfl) (fun _ _ _ h => h) (Or.inl ⟨by rfl, ?hy133⟩) (by assumption) ?rest133
                  case hy133 => ((intro w hSw; (try dsimp only at hSw); go_simp) <;> with_reducible rfl)
                  case' rest133 => try simp only [List.getElem_toArray, List.getElem_cons_zero, List.getElem_cons_succ, Act.put, List.setIfInBounds_toArray, List.set_cons_zero, List.set_cons_succ]
                  refine wpAnyH_take (i := 2) (oi := _) (v := ?v134) rfl (by kernel_rfl) (by kernel_rfl) (by kernel_rfl) (fun _ _ _ h => h) (Or.inl ⟨by rfl, ?hy134⟩) (by assumption) ?rest134
                  case hy134 => ((intro w hSw; (try dsimp only at hSw); go_simp) <;> with_reducible rfl)
                  case' rest134 => try simp only [List.getElem_toArray, List.getElem_cons_zero, List.getElem_cons_succ, Act.put, List.setIfInBounds_toArray, List.set_cons_zero, List.set_cons_succ]
                  refine wpAnyH_take (i := 3) (oi := _) (v := ?v135) rfl (by kernel_rfl) (by kernel_rfl) (by kernel_rfl) (fun _ _ _ h => h) (Or.inl ⟨by rfl, ?hy135⟩) (by assumption) ?rest135
                  case hy135 => ((intro w hSw; (try dsimp only at hSw); go_simp) <;> with_reducible rfl)
                  case' rest135 => try simp only [List.getElem_toArray, List.getElem_cons_zero, List.getElem_cons_succ, Act.put, List.setIfInBounds_toArray, List.set_cons_zero, List.set_cons_succ]
                  refine wpAnyH_take (i := 4) (oi := _) (v := ?v136) rfl (by kernel_rfl) (by kernel_rfl) (by kernel_rfl) (fun _ _ _ h => h) (Or.inl ⟨by rfl, ?hy136⟩) (by assumption) ?rest136
                  case hy136 => ((intro w hSw; (try dsimp only at hSw); go_simp) <;> with_reducible rfl)
                  case' rest136 => try simp only [List.getElem_toArray, List.getElem_cons_zero, List.getElem_cons_succ, Act.put, List.setIfInBounds_toArray, List.set_cons_zero, List.set_cons_succ]
                  refine wpAnyH_take (i := 5) (oi := _) (v := ?v137) rfl (by kernel_rfl) (by kernel_rfl) (by kernel_rfl) (fun _ _ _ h => h) (Or.inl ⟨by rfl, ?hy137⟩) (by assumption) ?rest137
                  case hy137 => ((intro w hSw; (try dsimp only at hSw); go_simp) <;> with_reducible rfl)
                  case' rest137 => try simp only [List.getElem_toArray, List.getElem_cons_zero, List.getElem_cons_succ, Act.put, List.setIfInBounds_toArray, List.set_cons_zero, List.set_cons_succ]
                  refine wpAnyH_take (i := 6) (oi := _) (v := ?v138) rfl (by kernel_rfl) (by kernel_rfl) (by kernel_rfl) (fun _ _ _ h => h) (Or.inl ⟨by rfl, ?hy138⟩) (by assumption) ?rest138
                  case hy138 => ((intro w hSw; (try dsimp only at hSw); go_simp) <;> with_reducible rfl)
                  case' rest138 => try simp only [List.getElem_toArray, List.getElem_cons_zero, List.getElem_cons_succ, Act.put, List.setIfInBounds_toArray, List.set_cons_zero, List.set_cons_succ]
                  refine wpAnyH_take (i := 7) (oi := _) (v := ?v139) rfl (by kernel_rfl) (by kernel_rfl) (by kernel_rfl) (fun _ _ _ h => h) (Or.inl ⟨by rfl, ?hy139⟩) (by assumption) ?rest139
                  case hy139 => ((intro w hSw; (try dsimp only at hSw); go_simp) <;> with_reducible rfl)
                  case' rest139 => try simp only [List.getElem_toArray, List.getElem_cons_zero, List.getElem_cons_succ, Act.put, List.setIfInBounds_toArray, List.set_cons_zero, List.set_cons_succ]
                  refine wpAnyH_take (i := 8) (oi := _) (v := ?v140) rfl (by kernel_rfl) (by kernel_rfl) (by kernel_rfl) (fun _ _ _ h => h) (Or.inl ⟨by rfl, ?hy140⟩) (by assumption) ?rest140
                  case hy140 => ((intro w hSw; (try dsimp only at hSw); go_simp) <;> with_reducible rfl)
                  case' rest140 => try simp only [List.getElem_toArray, List.getElem_cons_zero, List.getElem_cons_succ, Act.put, List.setIfInBounds_toArray, List.set_cons_zero, List.set_cons_succ]
                  refine wpAnyH_take (i := 9) (oi := _) (v := ?v141) rfl (by kernel_rfl) (by kernel_rfl) (by kernel_rfl) (fun _ _ _ h => h) (Or.inl ⟨by rfl, ?hy141⟩) (by assumption) ?rest141
                  case hy141 => ((intro w hSw; (try dsimp only at hSw); go_simp) <;> with_reducible rfl)
                  case' rest141 => try simp only [List.getElem_toArray, List.getElem_cons_zero, List.getElem_cons_succ, Act.put, List.setIfInBounds_toArray, List.set_cons_zero, List.set_cons_succ]
                  refine wpAnyH_take (i := 10) (oi := _) (v := ?v142) rfl (by kernel_rfl) (by kernel_rfl) (by kernel_rfl) (fun _ _ _ h => h) (Or.inl ⟨by rfl, ?hy142⟩) (by assumption) ?rest142
                  case hy142 => ((intro w hSw; (try dsimp only at hSw); go_simp) <;> with_reducible rfl)
                  case' rest142 => try simp only [List.getElem_toArray, List.getElem_cons_zero, List.getElem_cons_succ, Act.put, List.setIfInBounds_toArray, List.set_cons_zero, List.set_cons_succ]
                  refine wpAnyH_take (i := 11) (oi := _) (v := ?v143) rfl (by kernel_rfl) (by kernel_rfl) (by kernel_rfl) (fun _ _ _ h => h) (Or.inl ⟨by rfl, ?hy143⟩) (by assumption) ?rest143
                  case hy143 => ((intro w hSw; (try dsimp only at hSw); go_simp) <;> with_reducible rfl)
                  case' rest143 => try simp only [List.getElem_toArray, List.getElem_cons_zero, List.getElem_cons_succ, Act.put, List.setIfInBounds_toArray, List.set_cons_zero, List.set_cons_succ]
                  refine wpAnyH_take (i := 12) (oi := _) (v := ?v144) rfl (by kernel_rfl) (by kernel_rfl) (by kernel_rfl) (fun _ _ _ h => h) (Or.inl ⟨by rfl, ?hy144⟩) (by assumption) ?rest144
                  case hy144 => ((intro w hSw; (try dsimp only at hSw); go_simp) <;> with_reducible rfl)
                  case' rest144 => try simp only [List.getElem_toArray, List.getElem_cons_zero, List.getElem_cons_succ, Act.put, List.setIfInBounds_toArray, List.set_cons_zero, List.set_cons_succ]
                  refine wpAnyH_take (i := 13) (oi := _) (v := ?v145) rfl (by kernel_rfl) (by kernel_rfl) (by kernel_rfl) (fun _ _ _ h => h) (Or.inl ⟨by rfl, ?hy145⟩) (by assumption) ?rest145
                  case hy145 => ((intro w hSw; (try dsimp only at hSw); go_simp) <;> with_reducible rfl)
                  case' rest145 => try simp only [List.getElem_toArray, List.getElem_cons_zero, List.getElem_cons_succ, Act.put, List.setIfInBounds_toArray, List.set_cons_zero, List.set_cons_succ]
                  refine wpAnyH_take (i := 14) (oi := _) (v := ?v146) rfl (by kernel_rfl) (by kernel_rfl) (by kernel_rfl) (fun _ _ _ h => h) (Or.inl ⟨by rfl, ?hy146⟩) (by assumption) ?rest146
                  case hy146 => ((intro w hSw; (try dsimp only at hSw); go_simp) <;> with_reducible rfl)
                  case' rest146 => try simp only [List.getElem_toArray, List.getElem_cons_zero, List.getElem_cons_succ, Act.put, List.setIfInBounds_toArray, List.set_cons_zero, List.set_cons_succ]
                  refine wpAnyH_take (i := 15) (oi := _) (v := ?v147) rfl (by kernel_rfl) (by kernel_rfl) (by kernel_rfl) (fun _ _ _ h => h) (Or.inl ⟨by rfl, ?hy147⟩) (by assumption) ?rest147
                  case hy147 => ((intro w hSw; (try dsimp only at hSw); go_simp) <;> with_reducible rfl)
                  case' rest147 => try simp only [List.getElem_toArray, List.getElem_cons_zero, List.getElem_cons_succ, Act.put, List.setIfInBounds_toArray, List.set_cons_zero, List.set_cons_succ]
                  refine wpAnyH_take (i := 16) (oi := _) (v := ?v148) rfl (by kernel_rfl) (by kernel_rfl) (by kernel_rfl) (fun _ _ _ h => h) (Or.inl ⟨by rfl, ?hy148⟩) (by assumption) ?rest148
                  case hy148 => ((intro w hSw; (try dsimp only at hSw); go_simp) <;> with_reducible rfl)
                  case' rest148 => try simp only [List.getElem_toArray, List.getElem_cons_zero, List.getElem_cons_succ, Act.put, List.setIfInBounds_toArray, List.set_cons_zero, List.set_cons_succ]
                  refine wpAnyH_take (i := 17) (oi := _) (v := ?v149) rfl (by kernel_rfl) (by kernel_rfl) (by kernel_rfl) (fun _ _ _ h => h) (Or.inl ⟨by rfl, ?hy149⟩) (by assumption) ?rest149
                  case hy149 => ((intro w hSw; (try dsimp only at hSw); go_simp) <;> with_reducible rfl)
                  case' rest149 => try simp only [List.getElem_toArray, List.getElem_cons_zero, List.getElem_cons_succ, Act.put, List.setIfInBounds_toArray, List.set_cons_zero, List.set_cons_succ]
                  refine wpAnyH_take (i := 18) (oi := _) (v := ?v150) rfl (by kernel_rfl) (by kernel_rfl) (by kernel_rfl) (fun _ _ _ h => h) (Or.inl ⟨by rfl, ?hy150⟩) (by assumption) ?rest150
                  case hy150 => ((intro w hSw; (try dsimp only at hSw); go_simp) <;> with_reducible rfl)
                  case' rest150 => try simp only [List.getElem_toArray, List.getElem_cons_zero, List.getElem_cons_succ, Act.put, List.setIfInBounds_toArray, List.set_cons_zero, List.set_cons_succ]
                  refine wpAnyH_take (i := 19) (oi := _) (v := ?v151) rfl (by kernel_rfl) (by kernel_rfl) (by kernel_rfl) (fun _ _ _ h => h) (Or.inl ⟨by rfl, ?hy151⟩) (by assumption) ?rest151
                  case hy151 => ((intro w hSw; (try dsimp only at hSw); go_simp) <;> with_reducible rfl)
                  case' rest151 => try simp only [List.getElem_toArray, List.getElem_cons_zero, List.getElem_cons_succ, Act.put, List.setIfInBounds_toArray, List.set_cons_zero, List.set_cons_succ]
                  refine wpAnyH_take (i := 20) (oi := _) (v := ?v152) rfl (by kernel_rfl) (by kernel_rfl) (by kernel_rfl) (fun _ _ _ h => h) (Or.inl ⟨by rfl, ?hy152⟩) (by assumption) ?rest152
                  case hy152 => ((intro w hSw; (try dsimp only at hSw); go_simp) <;> with_reducible rfl)
                  case' rest152 => try simp only [List.getElem_toArray, List.getElem_cons_zero, List.getElem_cons_succ, Act.put, List.setIfInBounds_toArray, List.set_cons_zero, List.set_cons_succ]
                  refine wpAnyH_take (i := 21) (oi := _) (v := ?v153) rfl (by kernel_rfl) (by kernel_rfl) (by kernel_rfl) (fun _ _ _ h => h) (Or.inl ⟨by rfl, ?hy153⟩) (by assumption) ?rest153
                  case hy153 => ((intro w hSw; (try dsimp only at hSw); go_simp) <;> with_reducible rfl)
                  case' rest153 => try simp only [List.getElem_toArray, List.getElem_cons_zero, List.getElem_cons_succ, Act.put, List.setIfInBounds_toArray, List.set_cons_zero, List.set_cons_succ]
                  refine wpAnyH_take (i := 22) (oi := _) (v := ?v154) rfl (by kernel_rfl) (by kernel_rfl) (by kernel_rfl) (fun _ _ _ h => h) (Or.inl ⟨by rfl, ?hy154⟩) (by assumption) ?rest154
                  case hy154 => ((intro w hSw; (try dsimp only at hSw); go_simp) <;> with_reducible rfl)
                  case' rest154 => try simp only [List.getElem_toArray, List.getElem_cons_zero, List.getElem_cons_succ, Act.put, List.setIfInBounds_toArray, List.set_cons_zero, List.set_cons_succ]
                  refine wpAnyH_take (i := 23) (oi := _) (v := ?v155) rfl (by kernel_rfl) (by kernel_rfl) (by kernel_rfl) (fun _ _ _ h => h) (Or.inl ⟨by rfl, ?hy155⟩) (by assumption) ?rest155
                  case hy155 => ((intro w hSw; (try dsimp only at hSw); go_simp) <;> with_reducible rfl)
                  case' rest155 => try simp only [List.getElem_toArray, List.getElem_cons_zero, List.getElem_cons_succ, Act.put, List.setIfInBounds_toArray, List.set_cons_zero, List.set_cons_succ]
                  refine wpAnyH_take (i := 24) (oi := _) (v := ?v156) rfl (by kernel_rfl) (by kernel_rfl) (by kernel_rfl) (fun _ _ _ h => h) (Or.inl ⟨by rfl, ?hy156⟩) (by assumption) ?rest156
                  case hy156 => ((intro w hSw; (try dsimp only at hSw); go_simp) <;> with_reducible rfl)
                  case' rest156 => try simp only [List.getElem_toArray, List.getElem_cons_zero, List.getElem_cons_succ, Act.put, List.setIfInBounds_toArray, List.set_cons_zero, List.set_cons_succ]
                  refine wpAnyH_take (i := 25) (oi := _) (v := ?v157) rfl (by kernel_rfl) (by kernel_rfl) (by kernel_rfl) (fun _ _ _ h => h) (Or.inl ⟨by rfl, ?hy157⟩) (by assumption) ?rest157
                  case hy157 => ((intro w hSw; (try dsimp only at hSw); go_simp) <;> with_reducible rfl)
                  case' rest157 => try simp only [List.getElem_toArray, List.getElem_cons_zero, List.getElem_cons_succ, Act.put, List.setIfInBounds_toArray, List.set_cons_zero, List.set_cons_succ]
                  refine wpAnyH_take (i := 26) (oi := _) (v := ?v158) rfl (by kernel_rfl) (by kernel_rfl) (by kernel_rfl) (fun _ _ _ h => h) (Or.inl ⟨by rfl, ?hy158⟩) (by assumption) ?rest158
                  case hy158 => ((intro w hSw; (try dsimp only at hSw); go_simp) <;> with_reducible rfl)
                  case' rest158 => try simp only [List.getElem_toArray, List.getElem_cons_zero, List.getElem_cons_succ, Act.put, List.setIfInBounds_toArray, List.set_cons_zero, List.set_cons_succ]
                  refine wpAnyH_take (i := 27) (oi := _) (v := ?v159) rfl (by kernel_rfl) (by kernel_rfl) (by kernel_rfl) (fun _ _ _ h => h) (Or.inl ⟨by rfl, ?hy159⟩) (by assumption) ?rest159
                  case hy159 => ((intro w hSw; (try dsimp only at hSw); go_simp) <;> with_reducible rfl)
                  case' rest159 => try simp only [List.getElem_toArray, List.getElem_cons_zero, List.getElem_cons_succ, Act.put, List.setIfInBounds_toArray, List.set_cons_zero, List.set_cons_succ]
                  refine wpAnyH_ready (rs := [28]) (by kernel_rfl) (by simp) ?_
                  refine AllReadyH.cons (o := _) rfl (fun K hK => ?_) AllReadyH.nil
                  go_simp
                  refine (seg_busy p pd (givS E ((E.df.drop (7 * j)).drop 7) (!b)) A9 n9 c9 W5.drew HB9.out).mono ?_
                  rintro e w8 ⟨rfl, hw8⟩
                  subst hw8
                  rw [show (SegS.st (givS E ((E.df.drop (7 * j)).drop 7) (!b)) != 0) = true from rfl]
                  dsimp only
                  refine hK.out _ _ ?hS162 (fun hHeld => ?rest162)
                  case hS162 => ((try dsimp only); (((try go_split_ands); refine sn_of ?_; repeat' (first | with_reducible assumption | with_reducible exact Below.refl _ _ | with_reducible apply below_alloc | with_reducible apply below_drew1 | with_reducible apply below_drewN | (with_reducible apply below_step; with_reducible assumption) | (with_reducible apply below_sg2; (first | exact Nat.le_refl _ | (simp; done) | omega))))))
                  case' rest162 => (clear hK K; try simp only [List.getElem_toArray, List.getElem_cons_zero, List.getElem_cons_succ, Act.put, List.setIfInBounds_toArray, List.set_cons_zero, List.set_cons_succ])
                  refine wpAnyH_take (i := 29) (oi := _) (v := ?v163) rfl (by kernel_rfl) (by kernel_rfl) (by kernel_rfl) (fun _ _ _ h => h) (Or.inl ⟨by rfl, ?hy163⟩) (by assumption) ?rest163
                  case hy163 => ((intro w hSw; (try dsimp only at hSw); go_simp) <;> with_reducible rfl)
                  case' rest163 => try simp only [List.getElem_toArray, List.getElem_cons_zero, List.getElem_cons_succ, Act.put, List.setIfInBounds_toArray, List.set_cons_zero, List.set_cons_succ]
                  refine wpAnyH_take (i := 30) (oi := _) (v := ?v164) rfl (by kernel_rfl) (by kernel_rfl) (by kernel_rfl) (fun _ _ _ h => h) (Or.inl ⟨by rfl, ?hy164⟩) (by assumption) ?rest164
                  case hy164 => ((intro w hSw; (try dsimp only at hSw); go_simp) <;> with_reducible rfl)
                  case' rest164 => try simp only [List.getElem_toArray, List.getElem_cons_zero, List.getElem_cons_succ, Act.put, List.setIfInBounds_toArray, List.set_cons_zero, List.set_cons_succ]
                  refine wpAnyH_done (by kernel_rfl) ?_ _
                  have hEnd := hHeld.2
                  repeat (clear hHeld)
                  have hb1 : ng ≤ 1000 := by have := HNG.out; rw [List.length_take] at this; have := HN256.out; omega
                  have hb2 : nd5 ≤ 1000 := by have h7 := HD6.out.hn; simp only [segM] at h7; rw [List.length_take] at h7; omega
                  go_wp2_with (at_builtin; refine app_b _ rfl _ _ rfl (x0 + 1) _ _ _ _ rfl (HG6.out.below hEnd) _ _ _ ((E.df.drop (7 * j)).take 7) rfl HD6.out.hn (HD6.out.sl.below hEnd) (by omega) (show x0 + 1 ≤ W5.heap.size by omega) (ng + nd5) rfl ?_; intro A6 c6 w6 hO6 hg6 hA6 hb6)
                  go_roundw
                  case rel =>
                    refine upL_next (j := j) (upB_drew HW5.out) hx HPW.out ?_ hg6 hA6 hb6 hj39 ?_ _ (by go_num)
                    · rw [show 7 * (j + 1) = 7 * j + 7 by omega, List.take_add]
                      exact hO6
                    · have hll := HL7.out
                      rw [List.length_drop] at hll
                      exact .inl ⟨by rw [List.drop_drop, show 7 * j + 7 = 7 * (j + 1) by omega], .inr (by omega)⟩
                  case measure => simp [intOf]; omega
              · have qe := blk_only HQ4.out HOr.out (show w.heap.size ≠ p by omega)
                unfold entV at qe
                have qe_c0 := qe.cell 0 rfl
                have qe_f0 := qe.frozen 0
                have qe_c1 := qe.cell 1 rfl
                have qe_f1 := qe.frozen 1
                have qe_c2 := qe.cell 2 rfl
                have qe_f2 := qe.frozen 2
                have qe_c3 := qe.cell 3 rfl
                have qe_f3 := qe.frozen 3
                have qe_c4 := qe.cell 4 rfl
                have qe_f4 := qe.frozen 4
                have qe_c5 := qe.cell 5 rfl
                have qe_f5 := qe.frozen 5
                have qe_c6 := qe.cell 6 rfl
                have qe_f6 := qe.frozen 6
                have qe_c7 := qe.cell 7 rfl
                have qe_f7 := qe.frozen 7
                have qe_c8 := qe.cell 8 rfl
                have qe_f8 := qe.frozen 8
                have qe_c9 := qe.cell 9 rfl
                have qe_f9 := qe.frozen 9
                have qe_c10 := qe.cell 10 rfl
                have qe_f10 := qe.frozen 10
                have zew : w.heap.size < wr.heap.size := qe.lt
                have s1 : (convert 22 9 (.slice Ag ng cg)).run Try.prog wr = .ok (.string ⟨E.df.toArray⟩) wr := str_b cg (by rw [HNG.out, List.take_of_length_le hjj]) (by have := hGr.sl; rwa [List.take_of_length_le hjj] at this)
                have s2 : (convert 22 9 (.slice A n c)).run Try.prog wr = .ok (.string ⟨E.df.toArray⟩) wr := str_b c HN.out (HS.out.below HBr.out)
                have hj60 : (j : Int) < 60 := by omega
                clear hjj hB8 hSr hGr hKr hOr
                go_wp2_with fail
                refine (seg_busy p pd (doneS E b) A8 n8 c8 _ HB8.out).mono ?_
                rintro e w8 ⟨rfl, hw8⟩
                subst hw8
                rw [show ((doneS E b).st != 0) = false from rfl]
                go_wp2_with fail
                refine (seg_busy p pd (doneS E b) A8 n8 c8 _ HB8.out).mono ?_
                rintro e w8 ⟨rfl, hw8⟩
                subst hw8
                rw [show ((doneS E b).st != 0) = false from rfl]
                go_wp2_with fail
                refine (known_21 _).mono ?_
                rintro e w9 ⟨rfl, hb9⟩
                go_wp2_with fail
                go_ret
                exact (⟨rfl, below_step hb9 HBr.out⟩ : TrueB w _ _)
    · have herq : (er != 0) = true := by simp [her]
      clear h0 hv0
      go_wp2_with fail
      refine (known_21 _).mono ?_
      rintro e w2 ⟨rfl, hb2⟩
      go_wp2_with fail
      go_ret
      exact (⟨rfl, below_step hb2 HBW1.out⟩ : TrueB w _ _)
end Go.Proofs.Ytimdmhhgomfijaa

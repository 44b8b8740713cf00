/- The walk of SegDown. -/
import Derived.Test.YtimdmhhgomfijaaSegUpW
import Derived.Test.YtimdmhhgomfijaaSegV
import Derived.Test.YtimdmhhgomfijaaSegP
import Derived.Test.YtimdmhhgomfijaaOpenS
namespace Go.Proofs.Ytimdmhhgomfijaa
set_option linter.unusedVariables false
set_option linter.unusedSimpArgs false
set_option linter.unnecessarySimpa false
open Go.RowKit
set_option maxRecDepth 100000
set_option maxHeartbeats 4000000
theorem most_le (E : Ent) : mostE E ≤ 256 := by
  have := size_le E.ty
  unfold mostE
  (repeat' split) <;> omega
theorem fits_le {E : Ent} {k : Nat} (h : fitsC E k = 0) : (k : Int) ≤ mostE E := by
  unfold fitsC at h
  split at h
  · omega
  · omega
/-- behind an answer, or at the loop's beginning -/
def DnB (w2 : World) (p pd x0 : Nat) (S : SegS) (As : Option Addr) (ns cs : Nat) (O : SegO) (Ao : Option Addr) (no co : Nat) (Ax : Option Addr) (nx cx : Nat) (xs : List Ch) (W : World) : Prop :=
  Only (fun q => q = p) w2 W ∧ SV_ W (GL none x0) p pd S ∧ Blk W x0 44 (outV As ns cs O Ao no co) ∧ MsR W w2.heap.size (fun _ => True) As ns cs O.ms ∧ OwnB W w2.heap.size Ao no co O.b ∧ Own W (x0 + 1) 22 1 Ax nx cx (xs.map chV)
def DnL (w2 : World) (E : Ent) (B : List UInt8) (sz : Int) (p pd x0 : Nat) (Ax : Option Addr) (nx cx : Nat) (xs : List Ch) (vt vi : Value) (W : World) : Prop :=
  ∃ (j : Nat) (b : Bool) (S : SegS) (As : Option Addr) (ns cs : Nat) (O : SegO) (Ao : Option Addr) (no co : Nat),
    vi = .int .i64 (j : Nat) ∧ vt = .bool b ∧ j ≤ nx ∧
    ((j < nx ∧ S = tkS E sz (chB (xs.take j)) b) ∨ (j = nx ∧ S = wtS E sz B (!b) ∧ O = ⟨[], true, E.ix, E.sub, B⟩)) ∧
    DnB w2 p pd x0 S As ns cs O Ao no co Ax nx cx xs W
theorem dnB_start {w2 W w5 : World} {p pd x0 : Nat} {S : SegS} {M : Ms} {g : Nat} {Ao : Option Addr} {no co : Nat} {Ad : Option Addr} {nd cd : Nat} {Ax : Option Addr} {nx cx : Nat} {xs : List Ch} (h : UpR w2 p pd x0 S M g Ao no co Ad nd cd W) (hg : w2.heap.size ≤ g) (ho : OwnB W w2.heap.size Ao no co []) (hb : Below W.heap.size W w5)
    (hX : Own w5 W.heap.size 22 1 Ax nx cx (xs.map chV)) : DnB w2 p pd x0 S (some ⟨g, 0, none⟩) 1 1 (outM M) Ao no co Ax nx cx xs w5 := by
  obtain ⟨h1, h2, h3, h4, h5, h6, h7⟩ := h
  refine ⟨h1.step hb, h2.keep (fun q _ hq => hb.block q hq) hb.size (fun _ _ h => h), h3.below hb h3.lt, .inr ⟨M, g, Ad, nd, cd, rfl, rfl, rfl, rfl, hg, h4.below hb h4.lt, h5.below hb, fun _ _ => trivial⟩, ho.below hb, by rw [← h6]; exact hX⟩
theorem msr_putO {w3 : World} {N N' x0 : Nat} {X : Nat → Prop} {As : Option Addr} {ns cs : Nat} {l : List Ms} (h : MsR w3 N X As ns cs l) (hx : x0 < N) (hN : N' ≤ N) (As' : Option Addr) (ns' cs' : Nat) (O : SegO) (Ao : Option Addr) (no co : Nat) : MsR (putO w3 x0 As' ns' cs' O Ao no co) N' (fun _ => True) As ns cs l := by
  rcases h with ⟨h1, h2, h3, h4⟩ | ⟨M, g, A, n, c, h1, h2, h3, h4, h5, h6, h7, h8⟩
  · exact .inl ⟨h1, h2, h3, h4⟩
  · exact .inr ⟨M, g, A, n, c, h1, h2, h3, h4, by omega, putO_far h6 (by omega) _ _ _ _ _ _ _, (putO_own h7 (by omega) _ _ _ _ _ _ _).mono (by omega), fun _ _ => trivial⟩
theorem dnB_mk {w2 wr w3 : World} {p pd x0 : Nat} {S : SegS} {As0 : Option Addr} {ns0 cs0 : Nat} {O0 : SegO} {A0 : Option Addr} {n0 c0 : Nat} {As : Option Addr} {ns cs : Nat} {O : SegO} {Ao : Option Addr} {no co : Nat} {X : Nat → Prop} {Ax : Option Addr} {nx cx : Nat} {xs : List Ch}
    (h0 : Only (fun q => q = p) w2 wr) (h1 : Only (fun q => q = p) wr w3) (hx : w2.heap.size ≤ x0) (hp : p < w2.heap.size) (hK : Blk wr x0 44 (outV As0 ns0 cs0 O0 A0 n0 c0)) (h2 : SV_ w3 (fun q => (GL none x0 q ∨ wr.heap.size ≤ q) ∧ ¬ X q) p pd S)
    (hm : MsR w3 wr.heap.size X As ns cs O.ms) (ho : OwnB w3 wr.heap.size Ao no co O.b) (hX : Own wr (x0 + 1) 22 1 Ax nx cx (xs.map chV)) :
    Blk w3 x0 44 (outV As0 ns0 cs0 O0 A0 n0 c0) ∧ DnB w2 p pd x0 S As ns cs O Ao no co Ax nx cx xs (putO w3 x0 As ns cs O Ao no co) := by
  have hz := hK.lt
  have hb := blk_only hK h1 (show x0 ≠ p by omega)
  have hG : ∀ q, (GL none x0 q ∨ wr.heap.size ≤ q) ∧ ¬ X q → GL none x0 q := by
    rintro q ⟨h | h, _⟩
    · exact h
    · exact ⟨by simp, by omega⟩
  refine ⟨hb, putO_only (h0.trans h1 (fun _ _ h => h)) hx _ _ _ _ _ _ _, ?_, putO_blk hb, msr_putO hm hz (by omega) _ _ _ _ _ _ _, (putO_own ho (by omega) _ _ _ _ _ _ _).mono (by omega), (hX.keep (fun g hg hlt _ => h1.block g hlt (by omega))).keep (fun g hg _ _ => putO_heap (by omega) _ _ _ _ _ _ _)⟩
  exact h2.keep (fun q hq _ => putO_heap (by rcases hq with rfl | hq; omega; exact (hG q hq).2) _ _ _ _ _ _ _) (by rw [putO_size]; exact Nat.le_refl _) (fun q _ hq => hG q hq)
theorem chB_take {xs : List Ch} {j : Nat} {x : Ch} (h : xs[j]? = some x) : chB (xs.take (j + 1)) = chB (xs.take j) ++ x.2.2.2 := by
  rw [List.take_add_one, h, Option.toList_some, chB_snoc]
theorem chB_le (xs : List Ch) (j : Nat) : (chB (xs.take j)).length ≤ (chB xs).length := by
  conv => rhs; rw [← List.take_append_drop j xs]
  unfold chB
  rw [List.flatMap_append, List.length_append]
  omega
def DnM (w2 : World) (p pd x1 : Nat) (M : Ms) (W : World) : Prop := Only (fun q => q = p) w2 W ∧ SV_ W (fun _ => True) p pd segZ ∧ Blk W x1 39 (msV M none 0 0) ∧ W.heap.size = x1 + 1
theorem dnM_mk {w2 : World} {p pd : Nat} (M : Ms) (h : SV_ w2 (fun _ => True) p pd segZ) : DnM w2 p pd w2.heap.size M (w2.alloc (.cells (msV M none 0 0) 39)) :=
  ⟨(Only.refl _ _).new _, h.keep (fun q _ hq => Below.heap_alloc _ _ _ hq) (by simp) (fun _ _ _ => trivial), Blk.new _ _ _, by simp⟩
theorem segDown_walk (E : Ent) (A : Option Addr) (n c : Nat) (B : List UInt8) (A2 : Option Addr) (n2 c2 : Nat) (lens : List UInt8) (A3 : Option Addr) (n3 c3 : Nat) (s : Bool) (w : World) (hn : n = E.df.length) (hc : n ≤ c) (hx : E.nm.size ≤ 9223372036854775807) (hs : Sl w A (E.df.map bv))
    (hn2 : n2 = B.length) (hc2 : n2 ≤ c2) (hs2 : Sl w A2 (B.map bv)) (hn3 : n3 = lens.length) (hc3 : n3 ≤ c3) (hs3 : Sl w A3 (lens.map bv)) : Calls Try.prog 3 #[.agg (sentV E A n c A2 n2 c2 A3 n3 c3 s)] w (TrueB w) := by
  have q0 := blk_one w 26 (sentV E A n c A2 n2 c2 A3 n3 c3 s)
  have hbw0 := below_alloc (Below.refl w.heap.size w) (.cells (sentV E A n c A2 n2 c2 A3 n3 c3 s) 26)
  obtain ⟨q1, q2⟩ := blk_two w 26 24 (sentV E A n c A2 n2 c2 A3 n3 c3 s) (entV E A n c)
  have hbw2 := below_alloc hbw0 (.cells (entV E A n c) 24)
  have q3 := Blk.new ((w.alloc (.cells (sentV E A n c A2 n2 c2 A3 n3 c3 s) 26)).alloc (.cells (entV E A n c) 24)) 24 (entV E A n c)
  rw [show ((w.alloc (.cells (sentV E A n c A2 n2 c2 A3 n3 c3 s) 26)).alloc (.cells (entV E A n c) 24)).heap.size = w.heap.size + 2 by simp] at q3
  have hbw3 := below_alloc hbw2 (.cells (entV E A n c) 24)
  have HSE := hide (sle_one q3 hn hc (hs.below hbw3))
  have HQ2 := hide (q2.alloc (.cells (entV E A n c) 24))
  have HB2 := hide hbw2
  have HB3 := hide hbw3
  have HN := hide hn
  have HS := hide hs
  have HN2 := hide hn2
  have HS2 := hide hs2
  have HC2 := hide hc2
  have HN3 := hide hn3
  have HS3 := hide hs3
  have HC3 := hide hc3
  clear hn q0 q1 q3 hbw0 hbw2 hbw3 hs hn2 hs2 hc2 hn3 hs3 hc3
  unfold sentV entV at q2 HB2 HB3 HSE HQ2
  unfold sentV
  have q2_c0 := q2.cell 0 rfl
  have q2_f0 := q2.frozen 0
  have q2_c1 := q2.cell 1 rfl
  have q2_f1 := q2.frozen 1
  have q2_c2 := q2.cell 2 rfl
  have q2_f2 := q2.frozen 2
  have q2_c3 := q2.cell 3 rfl
  have q2_f3 := q2.frozen 3
  have q2_c4 := q2.cell 4 rfl
  have q2_f4 := q2.frozen 4
  have q2_c5 := q2.cell 5 rfl
  have q2_f5 := q2.frozen 5
  have q2_c6 := q2.cell 6 rfl
  have q2_f6 := q2.frozen 6
  have q2_c7 := q2.cell 7 rfl
  have q2_f7 := q2.frozen 7
  have q2_c8 := q2.cell 8 rfl
  have q2_f8 := q2.frozen 8
  have q2_c9 := q2.cell 9 rfl
  have q2_f9 := q2.frozen 9
  have q2_c10 := q2.cell 10 rfl
  have q2_f10 := q2.frozen 10
  by_cases h1000 : 1000 < n
  · go_enter Try.func3, Try.ntmps3
    go_wp2_with fail
    refine (known_21 _).mono ?_
    rintro e w1 ⟨rfl, hb1⟩
    go_wp2_with fail
    go_ret
    exact (⟨rfl, below_step hb1 HB2.out⟩ : TrueB w _ _)
  by_cases h1001 : 1000 < n2
  · go_enter Try.func3, Try.ntmps3
    go_wp2_with fail
    refine (known_21 _).mono ?_
    rintro e w1 ⟨rfl, hb1⟩
    go_wp2_with fail
    go_ret
    exact (⟨rfl, below_step hb1 HB2.out⟩ : TrueB w _ _)
  by_cases h200 : 200 < n3
  · go_enter Try.func3, Try.ntmps3
    go_wp2_with fail
    refine (known_21 _).mono ?_
    rintro e w1 ⟨rfl, hb1⟩
    go_wp2_with fail
    go_ret
    exact (⟨rfl, below_step hb1 HB2.out⟩ : TrueB w _ _)
  · go_enter Try.func3, Try.ntmps3
    go_wp2_with fail
    refine (dict_new _ 1 1 [E] _ rfl HSE.out (by intro E' h; simp at h; subst h; exact ⟨by have := HN.out; omega, hx⟩)).mono ?_
    rintro e w1 ⟨v, er, at_, rfl, hnp, hv0, h0, hb1⟩
    have HNP := hide hnp
    have HBW1 := hide (below_step hb1 HB3.out)
    have HQ3 := hide (HQ2.out.below hb1 HQ2.out.lt)
    have qq := HQ3.out
    clear q2_c0 q2_f0 q2_c1 q2_f1 q2_c2 q2_f2 q2_c3 q2_f3 q2_c4 q2_f4 q2_c5 q2_f5 q2_c6 q2_f6 q2_c7 q2_f7 q2_c8 q2_f8 q2_c9 q2_f9 q2_c10 q2_f10
    clear q2 hnp hb1
    have qq_c0 := qq.cell 0 rfl
    have qq_f0 := qq.frozen 0
    have qq_c1 := qq.cell 1 rfl
    have qq_f1 := qq.frozen 1
    have qq_c2 := qq.cell 2 rfl
    have qq_f2 := qq.frozen 2
    have qq_c3 := qq.cell 3 rfl
    have qq_f3 := qq.frozen 3
    have qq_c4 := qq.cell 4 rfl
    have qq_f4 := qq.frozen 4
    have qq_c5 := qq.cell 5 rfl
    have qq_f5 := qq.frozen 5
    have qq_c6 := qq.cell 6 rfl
    have qq_f6 := qq.frozen 6
    have qq_c7 := qq.cell 7 rfl
    have qq_f7 := qq.frozen 7
    have qq_c8 := qq.cell 8 rfl
    have qq_f8 := qq.frozen 8
    have qq_c9 := qq.cell 9 rfl
    have qq_f9 := qq.frozen 9
    have qq_c10 := qq.cell 10 rfl
    have qq_f10 := qq.frozen 10
    by_cases her : er = 0
    · obtain ⟨pd, gl, nn, cl, Av, cv, ds, es, rfl, hnn, hD⟩ := h0 her
      subst her
      have HRT : Hid (ValsP1 E) := hide (right_one HNP.out)
      have HD : Hid (DB 75 w1 (fun g => g < w1.heap.size) pd (some ⟨gl, 0, none⟩) nn cl Av cv [E] [E.df] ds es) := hide (hD.mono (fun g h _ => h))
      have H1 : Hid (nn ≤ 1000) := hide (by rw [hnn]; simp)
      clear hD hnn h0 hv0
      go_wp2_with fail
      refine (seg_fits E n2 A n c _).mono ?_
      rintro e w1b ⟨rfl, hbf⟩
      have HBWf := hide (below_step hbf HBW1.out)
      have HDf := hide (HD.out.below hbf)
      have HQf := hide (HQ3.out.below hbf HQ3.out.lt)
      have hzf := hbf.size
      have HZF := hide hzf
      clear qq_c0 qq_f0 qq_c1 qq_f1 qq_c2 qq_f2 qq_c3 qq_f3 qq_c4 qq_f4 qq_c5 qq_f5 qq_c6 qq_f6 qq_c7 qq_f7 qq_c8 qq_f8 qq_c9 qq_f9 qq_c10 qq_f10
      clear qq hbf hzf
      have qq := HQf.out
      have qq_c0 := qq.cell 0 rfl
      have qq_f0 := qq.frozen 0
      have qq_c1 := qq.cell 1 rfl
      have qq_f1 := qq.frozen 1
      have qq_c2 := qq.cell 2 rfl
      have qq_f2 := qq.frozen 2
      have qq_c3 := qq.cell 3 rfl
      have qq_f3 := qq.frozen 3
      have qq_c4 := qq.cell 4 rfl
      have qq_f4 := qq.frozen 4
      have qq_c5 := qq.cell 5 rfl
      have qq_f5 := qq.frozen 5
      have qq_c6 := qq.cell 6 rfl
      have qq_f6 := qq.frozen 6
      have qq_c7 := qq.cell 7 rfl
      have qq_f7 := qq.frozen 7
      have qq_c8 := qq.cell 8 rfl
      have qq_f8 := qq.frozen 8
      have qq_c9 := qq.cell 9 rfl
      have qq_f9 := qq.frozen 9
      have qq_c10 := qq.cell 10 rfl
      have qq_f10 := qq.frozen 10
      obtain ⟨fc, hfc⟩ : ∃ fc, fc = fitsC E n2 := ⟨_, rfl⟩
      rw [← hfc]
      have HFC := hide hfc
      clear hfc
      by_cases hf0 : fc = 0
      · subst hf0
        by_cases hac : E.acc < 3
        · go_wp2_with fail
          refine (known_21 _).mono ?_
          rintro e w2 ⟨rfl, hb2⟩
          go_wp2_with fail
          go_ret
          exact (⟨rfl, below_step hb2 HBWf.out⟩ : TrueB w _ _)
        · have HAC := hide hac
          go_wp2_with fail
          refine (seg_new pd _).mono ?_
          rintro e w2 ⟨rfl, hB2, hb2, hz2⟩
          obtain ⟨p, hpp⟩ : ∃ p, p = w1b.heap.size := ⟨_, rfl⟩
          rw [← hpp] at hB2 ⊢
          have HPP := hide hpp
          have HBW2 := hide (below_step hb2 HBWf.out)
          have HD2 := hide (HDf.out.below hb2)
          have HQ4 := hide (HQf.out.below hb2 HQf.out.lt)
          have HSv : Hid (SV_ w2 (fun _ => True) p pd segZ) := hide ⟨none, 0, 0, hB2, fun h => absurd h (by decide)⟩
          have zp2 := hB2.lt
          have hwp : w.heap.size + 1 < p := by rw [hpp]; exact HQf.out.lt
          clear qq_c0 qq_f0 qq_c1 qq_f1 qq_c2 qq_f2 qq_c3 qq_f3 qq_c4 qq_f4 qq_c5 qq_f5 qq_c6 qq_f6 qq_c7 qq_f7 qq_c8 qq_f8 qq_c9 qq_f9 qq_c10 qq_f10
          clear hb2 hz2 hB2 hpp qq hac
          have qq := HQ4.out
          have qq_c0 := qq.cell 0 rfl
          have qq_f0 := qq.frozen 0
          have qq_c1 := qq.cell 1 rfl
          have qq_f1 := qq.frozen 1
          have qq_c2 := qq.cell 2 rfl
          have qq_f2 := qq.frozen 2
          have qq_c3 := qq.cell 3 rfl
          have qq_f3 := qq.frozen 3
          have qq_c4 := qq.cell 4 rfl
          have qq_f4 := qq.frozen 4
          have qq_c5 := qq.cell 5 rfl
          have qq_f5 := qq.frozen 5
          have qq_c6 := qq.cell 6 rfl
          have qq_f6 := qq.frozen 6
          have qq_c7 := qq.cell 7 rfl
          have qq_f7 := qq.frozen 7
          have qq_c8 := qq.cell 8 rfl
          have qq_f8 := qq.frozen 8
          have qq_c9 := qq.cell 9 rfl
          have qq_f9 := qq.frozen 9
          have qq_c10 := qq.cell 10 rfl
          have qq_f10 := qq.frozen 10
          obtain ⟨sz0, hsz0⟩ : ∃ z : Nat, z = if s = true then n2 else 0 := ⟨_, rfl⟩
          have HSZ := hide hsz0
          have HD0 := hide (dnM_mk ⟨2, E.ix, E.sub, false, false, false, s, 0, 0, [], 0, 0, 0, 0⟩ HSv.out)
          have HDs := hide (dnM_mk ⟨2, E.ix, E.sub, false, false, false, s, n2, 0, [], 0, 0, 0, 0⟩ HSv.out)
          have hw2 : (n2 : Int) % 4294967296 = (n2 : Int) := by omega
          unfold msV at HD0 HDs
          dsimp only at HD0 HDs
          clear hsz0
          go_upto_if 72 with fail
          go_cut [] (fun wx => DnM w2 p pd w2.heap.size ⟨2, E.ix, E.sub, false, false, false, s, sz0, 0, [], 0, 0, 0, 0⟩ wx)
          case first =>
            cases s
            · go_wp2_with fail
              go_meet
              rw [HSZ.out, if_neg (by simp)]
              exact HD0.out
            · go_wp2_with fail
              go_meet
              rw [HSZ.out, if_pos trivial]
              exact HDs.out
          case rest =>
            obtain ⟨hO, hSv, hM, hz⟩ := hcut
            have HM0 : Hid ((⟨2, E.ix, E.sub, false, false, false, s, sz0, 0, [], 0, 0, 0, 0⟩ : Ms) = dnMsg E n2 s) := hide (by rw [HSZ.out]; rfl)
            have HCO := hide hO
            have HCS := hide hSv
            have hsz : sz0 ≤ 4294967295 := by rw [HSZ.out]; split <;> omega
            have zxw : w2.heap.size < wc.heap.size := by omega
            have HW2 : Hid (writeE E.acc = 0) := hide (by unfold writeE; rw [if_neg (by have := HAC.out; omega)])
            have hR := hide (fun W S M G A n c (h : Only (fun q => q = p) w2 W) (hs : SV_ W G p pd S) (hm : n = M.data.length) (hm1 : n ≤ 100000) (hMd : ∀ W', Only (fun q => q = p) W W' → Sl W' A (M.data.map bv)) (hz : M.size ≤ 4294967295) (hb : S.st = 1 ∨ S.st = 2 → S.b.length ≤ 256) => seg_recv (V := [E.df]) p S G M A n c W (HD2.out.keep (w' := W) (fun g (hg : g < w1.heap.size) hlt => h.block g hlt (fun e => by have := HPP.out; have := HZF.out; omega))) (List.pairwise_singleton _ _) H1.out (by intro v h; simp at h; subst h; exact HRT.out.2) (by rw [HPP.out]; have := HZF.out; omega) hs hm hm1 hMd hz hb)
            have qm := hM
            unfold msV at qm
            have qm_c0 := qm.cell 0 rfl
            have qm_f0 := qm.frozen 0
            have qm_c1 := qm.cell 1 rfl
            have qm_f1 := qm.frozen 1
            have qm_c2 := qm.cell 2 rfl
            have qm_f2 := qm.frozen 2
            have qm_c3 := qm.cell 3 rfl
            have qm_f3 := qm.frozen 3
            have qm_c4 := qm.cell 4 rfl
            have qm_f4 := qm.frozen 4
            have qm_c5 := qm.cell 5 rfl
            have qm_f5 := qm.frozen 5
            have qm_c6 := qm.cell 6 rfl
            have qm_f6 := qm.frozen 6
            have qm_c7 := qm.cell 7 rfl
            have qm_f7 := qm.frozen 7
            have qm_c8 := qm.cell 8 rfl
            have qm_f8 := qm.frozen 8
            have qm_c9 := qm.cell 9 rfl
            have qm_f9 := qm.frozen 9
            have qm_c10 := qm.cell 10 rfl
            have qm_f10 := qm.frozen 10
            have qm_c11 := qm.cell 11 rfl
            have qm_f11 := qm.frozen 11
            have qm_c12 := qm.cell 12 rfl
            have qm_f12 := qm.frozen 12
            have qm_c13 := qm.cell 13 rfl
            have qm_f13 := qm.frozen 13
            clear qq_c0 qq_f0 qq_c1 qq_f1 qq_c2 qq_f2 qq_c3 qq_f3 qq_c4 qq_f4 qq_c5 qq_f5 qq_c6 qq_f6 qq_c7 qq_f7 qq_c8 qq_f8 qq_c9 qq_f9 qq_c10 qq_f10
            clear qq
            have qq := blk_only HQ4.out hO (show w.heap.size + 1 ≠ p by omega)
            unfold entV at qq
            have qq_c0 := qq.cell 0 rfl
            have qq_f0 := qq.frozen 0
            have qq_c1 := qq.cell 1 rfl
            have qq_f1 := qq.frozen 1
            have qq_c2 := qq.cell 2 rfl
            have qq_f2 := qq.frozen 2
            have qq_c3 := qq.cell 3 rfl
            have qq_f3 := qq.frozen 3
            have qq_c4 := qq.cell 4 rfl
            have qq_f4 := qq.frozen 4
            have qq_c5 := qq.cell 5 rfl
            have qq_f5 := qq.frozen 5
            have qq_c6 := qq.cell 6 rfl
            have qq_f6 := qq.frozen 6
            have qq_c7 := qq.cell 7 rfl
            have qq_f7 := qq.frozen 7
            have qq_c8 := qq.cell 8 rfl
            have qq_f8 := qq.frozen 8
            have qq_c9 := qq.cell 9 rfl
            have qq_f9 := qq.frozen 9
            have qq_c10 := qq.cell 10 rfl
            have qq_f10 := qq.frozen 10
            clear HD0 HDs hO hSv hM
            go_wp2_with fail
            have hrun := hR.out wc segZ ⟨2, E.ix, E.sub, false, false, false, s, sz0, 0, [], 0, 0, 0, 0⟩ _ none 0 0 HCO.out HCS.out rfl (Nat.zero_le _) (fun W' _ => by intro j u hu; simp at hu) hsz (by decide)
            refine hrun.mono ?_
            rintro e w3 ⟨X3, As3, ns3, cs3, Ao3, no3, co3, rfl, hm3, hO3, hX3, hS3, ho3⟩
            clear hrun
            obtain ⟨u1, u2⟩ := dn_first [E.df] E n2 s HW2.out HFC.out.symm
            rw [HM0.out] at hS3 hm3 hO3 ⊢
            rw [u1] at hS3
            rw [u2] at hm3 hO3 ⊢
            obtain ⟨g3, Ad3, nd3, cd3, rfl, rfl, rfl, hg3, hM3, hOd3⟩ := ms_one hm3
            have zwc : w2.heap.size ≤ wc.heap.size := by omega
            have HX := hide (And.intro (upR_mk (Ao := Ao3) (no := no3) (co := co3) (HCO.out.trans ho3 (fun _ _ h => h)) hS3 hM3 (hOd3.mono zwc)) ((hO3.mono zwc).alloc (.cells (outV (some ⟨g3, 0, none⟩) 1 1 (outM (okM 12 E.ix E.sub false)) Ao3 no3 co3) 44)))
            obtain ⟨x0, hx0⟩ : ∃ x0, x0 = w3.heap.size := ⟨_, rfl⟩
            have zg3 : w2.heap.size ≤ g3 := by omega
            clear qq_c0 qq_f0 qq_c1 qq_f1 qq_c2 qq_f2 qq_c3 qq_f3 qq_c4 qq_f4 qq_c5 qq_f5 qq_c6 qq_f6 qq_c7 qq_f7 qq_c8 qq_f8 qq_c9 qq_f9 qq_c10 qq_f10
            clear qm_c0 qm_f0 qm_c1 qm_f1 qm_c2 qm_f2 qm_c3 qm_f3 qm_c4 qm_f4 qm_c5 qm_f5 qm_c6 qm_f6 qm_c7 qm_f7 qm_c8 qm_f8 qm_c9 qm_f9 qm_c10 qm_f10 qm_c11 qm_f11 qm_c12 qm_f12 qm_c13 qm_f13
            clear hm3 hO3 hX3 hS3 hM3 hOd3 ho3 hg3 u1 u2 qq qm
            unfold outV outM
            dsimp only
            go_upto_region 17 with fail
            refine wp_gen (P := fun W => UpR w2 p pd w3.heap.size (tkS E (szD s n2) [] false) (okM 12 E.ix E.sub false) g3 Ao3 no3 co3 Ad3 nd3 cd3 W ∧ OwnB W w2.heap.size Ao3 no3 co3 []) HX.out (fun W hW => ?_)
            clear HX
            rw [← hx0] at hW ⊢
            obtain ⟨hWa, hWb⟩ := hW
            obtain ⟨hO, hS, hK, hM, hD, hz4, hx⟩ := id hWa
            have HWA := hide hWa
            have HWB := hide hWb
            have HOW := hide hO
            obtain ⟨A8, n8, c8, hB8, _⟩ := hS
            have HB8 := hide hB8
            have hbw : Below w.heap.size w W := below_only hO HBW2.out (fun i (e : i = p) => by omega)
            have HBL := hide hbw
            unfold outV outM at hK
            unfold msV okM at hM
            have hK_c0 := hK.cell 0 rfl
            have hK_f0 := hK.frozen 0
            have hK_c1 := hK.cell 1 rfl
            have hK_f1 := hK.frozen 1
            have hK_c2 := hK.cell 2 rfl
            have hK_f2 := hK.frozen 2
            have hK_c3 := hK.cell 3 rfl
            have hK_f3 := hK.frozen 3
            have hK_c4 := hK.cell 4 rfl
            have hK_f4 := hK.frozen 4
            have hM_c0 := hM.cell 0 rfl
            have hM_f0 := hM.frozen 0
            have hM_c1 := hM.cell 1 rfl
            have hM_f1 := hM.frozen 1
            have hM_c2 := hM.cell 2 rfl
            have hM_f2 := hM.frozen 2
            have hM_c3 := hM.cell 3 rfl
            have hM_f3 := hM.frozen 3
            have hM_c4 := hM.cell 4 rfl
            have hM_f4 := hM.frozen 4
            have hM_c5 := hM.cell 5 rfl
            have hM_f5 := hM.frozen 5
            have hM_c6 := hM.cell 6 rfl
            have hM_f6 := hM.frozen 6
            have hM_c7 := hM.cell 7 rfl
            have hM_f7 := hM.frozen 7
            have hM_c8 := hM.cell 8 rfl
            have hM_f8 := hM.frozen 8
            have hM_c9 := hM.cell 9 rfl
            have hM_f9 := hM.frozen 9
            have hM_c10 := hM.cell 10 rfl
            have hM_f10 := hM.frozen 10
            have hM_c11 := hM.cell 11 rfl
            have hM_f11 := hM.frozen 11
            have hM_c12 := hM.cell 12 rfl
            have hM_f12 := hM.frozen 12
            have hM_c13 := hM.cell 13 rfl
            have hM_f13 := hM.frozen 13
            have zW : x0 < W.heap.size := hK.lt
            have zg : g3 < W.heap.size := hM.lt
            have HPW : Hid (p < w2.heap.size) := hide zp2
            clear hWa hWb hO hB8 hD hbw hz4 hx0
            go_wp2_with fail
            refine (seg_busy p pd (tkS E (szD s n2) [] false) A8 n8 c8 _ HB8.out).mono ?_
            rintro e w8 ⟨rfl, hw8⟩
            subst hw8
            rw [show ((tkS E (szD s n2) [] false).st != 0) = true from rfl]
            go_wp2_with fail
            refine (parts_21 A2 n2 c2 B A3 n3 c3 lens w W HN2.out HC2.out (by omega) (fun W' h => HS2.out.below h) HN3.out (by omega) (HS3.out.below HBL.out)).mono ?_
            rintro e w5 ⟨Ax, nx, cx, xs, rfl, hnx, hnx0, hnx1, hOx, hxs, hxB, hb5⟩
            have HST := hide (dnB_start HWA.out zg3 HWB.out hb5 hOx)
            have HNX := hide hnx
            have HXS := hide hxs
            have HXB := hide hxB
            have HMO : Hid (((chB xs).length : Int) ≤ mostE E) := hide (by rw [hxB, ← HN2.out]; exact fits_le HFC.out.symm)
            have HX0 := hide hx
            clear hK_c0 hK_f0 hK_c1 hK_f1 hK_c2 hK_f2 hK_c3 hK_f3 hK_c4 hK_f4
            clear hM_c0 hM_f0 hM_c1 hM_f1 hM_c2 hM_f2 hM_c3 hM_f3 hM_c4 hM_f4 hM_c5 hM_f5 hM_c6 hM_f6 hM_c7 hM_f7 hM_c8 hM_f8 hM_c9 hM_f9 hM_c10 hM_f10 hM_c11 hM_f11 hM_c12 hM_f12 hM_c13 hM_f13
            clear hnx hxs hxB hOx hb5 hK hM zW zg hx
            go_wp2_with fail
            go_loopw [14, 15] (fun vt vi wr => DnL w2 E B (szD s n2) p pd x0 Ax nx cx xs vt vi wr) (fun _ vi _ => nx - (intOf vi).toNat)
            case atStart => exact ⟨0, false, _, _, _, _, _, _, _, _, rfl, rfl, Nat.zero_le _, .inl ⟨hnx0, rfl⟩, HST.out⟩
            case round =>
              obtain ⟨j, b, S, As, ns, cs, O, Ao, no, co, rfl, rfl, hj, hst, hDB⟩ := hrel
              obtain ⟨hOr, hSr, hKr, hMr, hBr, hXr⟩ := id hDB
              have HDB := hide hDB
              have HOr := hide hOr
              have HSr := hide hSr
              have HXr := hide hXr
              have HBr := hide (below_only hOr HBW2.out (fun i (e : i = p) => by omega))
              rcases hst with ⟨hlt, rfl⟩ | ⟨hjn, rfl, rfl⟩
              · obtain ⟨x, hx⟩ : ∃ x, xs[j]? = some x := ⟨xs[j]'(by rw [← HNX.out]; exact hlt), List.getElem?_eq_getElem _⟩
                have hck := HXS.out x (List.mem_of_getElem? hx)
                obtain ⟨g, u, hAx, hg1, hg2, hu, hcell, _⟩ := hXr.cell hlt
                have hux : u = chV x := by rw [List.getElem?_map, hx] at hu; injection hu with hu; exact hu.symm
                subst hux
                subst hAx
                have htk := chB_take hx
                obtain ⟨xa, xn, xc, xb⟩ := x
                replace hcell : wr.cell? ⟨g, j, none⟩ = some (.slice xa xn xc) := hcell
                have htk : chB (xs.take (j + 1)) = chB (xs.take j) ++ xb := htk
                have HLE : Hid (((chB (xs.take j) ++ xb).length : Int) ≤ mostE E) := hide (by rw [← htk]; have := chB_le xs (j + 1); have := HMO.out; omega)
                have HLB : Hid ((chB (xs.take j) ++ xb).length ≤ n2) := hide (by rw [← htk, HN2.out, ← HXB.out]; exact chB_le xs (j + 1))
                have HTK := hide htk
                have HCK := hide hck
                have hxn : xn ≤ 1000 := by have h1 := hck.1; have h2 := HLB.out; simp only [List.length_append] at h2; simp only at h1; omega
                clear hx hck hu htk hDB hSr hMr hBr hXr
                obtain ⟨i1, i2, i3⟩ := idx_at hlt
                have hsub : IntKind.i64.wrap ((nx : Int) - 1) = (nx : Int) - 1 := by unfold IntKind.wrap; simp [IntKind.signed, IntKind.bits]; omega
                by_cases hl : j + 1 = nx
                · have hq1 : ((j : Int) == (nx : Int) - 1) = true := by simp; omega
                  have hq2 : ¬ (j : Int) < (nx : Int) - 1 := by omega
                  go_wp2_with fail
                  have hrun := hR.out wr (tkS E (szD s n2) (chB (xs.take j)) b) (dsMsg b true xb) (GL none x0) xa xn xc HOr.out HSr.out HCK.out.1 (by omega) (fun W' h => HCK.out.2.2 W' (below_only h HBr.out (fun i (e : i = p) => by omega))) (Nat.zero_le _) (fun _ => by have := HLB.out; have := HLE.out; have := most_le E; simp only [List.length_append] at *; show (chB (xs.take j)).length ≤ 256; omega)
                  refine hrun.mono ?_
                  rintro e w6 ⟨X6, As6, ns6, cs6, A6, n6, c6, rfl, hm6, hO6, hX6, hS6, ho6⟩
                  clear hrun
                  have hszd : szD s n2 = -1 ∨ ((chB (xs.take j) ++ xb).length : Int) = szD s n2 := by
                    unfold szD
                    split
                    · right; have := HLB.out; have h1 := HTK.out; rw [hl, List.take_of_length_le (by rw [HNX.out]; exact Nat.le_refl _), HXB.out] at h1; rw [← h1, ← HN2.out]
                    · left; rfl
                  obtain ⟨u1, u2⟩ := dn_last [E] [E.df] E (szD s n2) (chB (xs.take j)) xb b HLE.out hszd
                  have hBB : chB (xs.take j) ++ xb = B := by have h1 := HTK.out; rw [hl, List.take_of_length_le (by rw [HNX.out]; exact Nat.le_refl _), HXB.out] at h1; exact h1.symm
                  rw [hBB] at u1 u2
                  rw [u1] at hS6
                  rw [u2] at hm6 hO6 ⊢
                  have HBS := hide (below_only ho6 HBr.out (fun i (e : i = p) => by omega))
                  obtain ⟨hK6, hD6⟩ := dnB_mk HOr.out ho6 HX0.out HPW.out hKr hS6 hm6 hO6 HXr.out
                  have HX6 := hide hD6
                  unfold putO at HX6
                  unfold outV at hKr hK6
                  clear hKr
                  have hK6_c0 := hK6.cell 0 rfl
                  have hK6_f0 := hK6.frozen 0
                  have hK6_c1 := hK6.cell 1 rfl
                  have hK6_f1 := hK6.frozen 1
                  have hK6_c2 := hK6.cell 2 rfl
                  have hK6_f2 := hK6.frozen 2
                  have hK6_c3 := hK6.cell 3 rfl
                  have hK6_f3 := hK6.frozen 3
                  have hK6_c4 := hK6.cell 4 rfl
                  have hK6_f4 := hK6.frozen 4
                  have zx6 : x0 < w6.heap.size := hK6.lt
                  clear hm6 hO6 hX6 hD6 hS6 ho6 u1 u2 hszd
                  unfold outV
                  dsimp only
                  go_upto_region 25 with fail
                  refine wp_gen (P := DnB w2 p pd x0 (wtS E (szD s n2) B b) As6 ns6 cs6 ⟨[], true, E.ix, E.sub, B⟩ A6 n6 c6 (some ⟨g, 0, none⟩) nx cx xs) HX6.out (fun W7 hW7 => ?_)
                  clear HX6
                  obtain ⟨hO7, hS7, hK7, hM7, hB7, hX7⟩ := id hW7
                  have HW7 := hide hW7
                  clear hK6_c0 hK6_f0 hK6_c1 hK6_f1 hK6_c2 hK6_f2 hK6_c3 hK6_f3 hK6_c4 hK6_f4
                  clear hK6 zx6
                  unfold outV at hK7
                  have hK7_c0 := hK7.cell 0 rfl
                  have hK7_f0 := hK7.frozen 0
                  have hK7_c1 := hK7.cell 1 rfl
                  have hK7_f1 := hK7.frozen 1
                  have hK7_c2 := hK7.cell 2 rfl
                  have hK7_f2 := hK7.frozen 2
                  have hK7_c3 := hK7.cell 3 rfl
                  have hK7_f3 := hK7.frozen 3
                  have hK7_c4 := hK7.cell 4 rfl
                  have hK7_f4 := hK7.frozen 4
                  have zx7 : x0 < W7.heap.size := hK7.lt
                  obtain ⟨rfl, rfl, rfl⟩ := ms_none hM7
                  clear hO7 hS7 hB7 hX7
                  go_wp2_with fail
                  go_roundw
                  case rel => exact ⟨j + 1, !b, _, _, _, _, _, _, _, _, by go_num, rfl, by omega, .inr ⟨hl, by rw [Bool.not_not], rfl⟩, HW7.out⟩
                  case measure => simp [intOf]; omega
                · have hq1 : ((j : Int) == (nx : Int) - 1) = false := by simp; omega
                  have hq2 : (j : Int) < (nx : Int) - 1 := by omega
                  go_wp2_with fail
                  have hrun := hR.out wr (tkS E (szD s n2) (chB (xs.take j)) b) (dsMsg b false xb) (GL none x0) xa xn xc HOr.out HSr.out HCK.out.1 (by omega) (fun W' h => HCK.out.2.2 W' (below_only h HBr.out (fun i (e : i = p) => by omega))) (Nat.zero_le _) (fun _ => by have := HLB.out; have := HLE.out; have := most_le E; simp only [List.length_append] at *; show (chB (xs.take j)).length ≤ 256; omega)
                  refine hrun.mono ?_
                  rintro e w6 ⟨X6, As6, ns6, cs6, A6, n6, c6, rfl, hm6, hO6, hX6, hS6, ho6⟩
                  clear hrun
                  have hszd : szD s n2 = -1 ∨ ((chB (xs.take j) ++ xb).length : Int) ≤ szD s n2 := by
                    unfold szD
                    split
                    · right; have := HLB.out; omega
                    · left; rfl
                  obtain ⟨u1, u2⟩ := dn_more [E] [E.df] E (szD s n2) (chB (xs.take j)) xb b HLE.out hszd
                  rw [← HTK.out] at u1
                  rw [u1] at hS6
                  rw [u2] at hm6 hO6 ⊢
                  have HBS := hide (below_only ho6 HBr.out (fun i (e : i = p) => by omega))
                  obtain ⟨hK6, hD6⟩ := dnB_mk HOr.out ho6 HX0.out HPW.out hKr hS6 hm6 hO6 HXr.out
                  have HX6 := hide hD6
                  unfold putO at HX6
                  unfold outV at hKr hK6
                  clear hKr
                  have hK6_c0 := hK6.cell 0 rfl
                  have hK6_f0 := hK6.frozen 0
                  have hK6_c1 := hK6.cell 1 rfl
                  have hK6_f1 := hK6.frozen 1
                  have hK6_c2 := hK6.cell 2 rfl
                  have hK6_f2 := hK6.frozen 2
                  have hK6_c3 := hK6.cell 3 rfl
                  have hK6_f3 := hK6.frozen 3
                  have hK6_c4 := hK6.cell 4 rfl
                  have hK6_f4 := hK6.frozen 4
                  have zx6 : x0 < w6.heap.size := hK6.lt
                  clear hm6 hO6 hX6 hD6 hS6 ho6 u1 u2 hszd
                  unfold outV outM
                  dsimp only
                  go_upto_region 25 with fail
                  refine wp_gen (P := DnB w2 p pd x0 (tkS E (szD s n2) (chB (xs.take (j + 1))) (!b)) As6 ns6 cs6 (outM (okM 13 0 0 b)) A6 n6 c6 (some ⟨g, 0, none⟩) nx cx xs) HX6.out (fun W7 hW7 => ?_)
                  clear HX6
                  obtain ⟨hO7, hS7, hK7, hM7, hB7, hX7⟩ := id hW7
                  have HW7 := hide hW7
                  clear hK6_c0 hK6_f0 hK6_c1 hK6_f1 hK6_c2 hK6_f2 hK6_c3 hK6_f3 hK6_c4 hK6_f4
                  clear hK6 zx6
                  unfold outV outM at hK7
                  have hK7_c0 := hK7.cell 0 rfl
                  have hK7_f0 := hK7.frozen 0
                  have hK7_c1 := hK7.cell 1 rfl
                  have hK7_f1 := hK7.frozen 1
                  have hK7_c2 := hK7.cell 2 rfl
                  have hK7_f2 := hK7.frozen 2
                  have hK7_c3 := hK7.cell 3 rfl
                  have hK7_f3 := hK7.frozen 3
                  have hK7_c4 := hK7.cell 4 rfl
                  have hK7_f4 := hK7.frozen 4
                  have zx7 : x0 < W7.heap.size := hK7.lt
                  obtain ⟨g7, Ad7, nd7, cd7, rfl, rfl, rfl, hgN, hM8, hOd7⟩ := ms_one hM7
                  unfold msV okM at hM8
                  have hM8_c0 := hM8.cell 0 rfl
                  have hM8_f0 := hM8.frozen 0
                  have hM8_c1 := hM8.cell 1 rfl
                  have hM8_f1 := hM8.frozen 1
                  have hM8_c2 := hM8.cell 2 rfl
                  have hM8_f2 := hM8.frozen 2
                  have hM8_c3 := hM8.cell 3 rfl
                  have hM8_f3 := hM8.frozen 3
                  have hM8_c4 := hM8.cell 4 rfl
                  have hM8_f4 := hM8.frozen 4
                  have hM8_c5 := hM8.cell 5 rfl
                  have hM8_f5 := hM8.frozen 5
                  have hM8_c6 := hM8.cell 6 rfl
                  have hM8_f6 := hM8.frozen 6
                  have hM8_c7 := hM8.cell 7 rfl
                  have hM8_f7 := hM8.frozen 7
                  have hM8_c8 := hM8.cell 8 rfl
                  have hM8_f8 := hM8.frozen 8
                  have hM8_c9 := hM8.cell 9 rfl
                  have hM8_f9 := hM8.frozen 9
                  have hM8_c10 := hM8.cell 10 rfl
                  have hM8_f10 := hM8.frozen 10
                  have hM8_c11 := hM8.cell 11 rfl
                  have hM8_f11 := hM8.frozen 11
                  have hM8_c12 := hM8.cell 12 rfl
                  have hM8_f12 := hM8.frozen 12
                  have hM8_c13 := hM8.cell 13 rfl
                  have hM8_f13 := hM8.frozen 13
                  have zg7 : g7 < W7.heap.size := hM8.lt
                  clear hOd7 hgN hM7
                  clear hO7 hS7 hB7 hX7
                  go_wp2_with fail
                  go_roundw
                  case rel => exact ⟨j + 1, !b, _, _, _, _, _, _, _, _, by go_num, rfl, by omega, .inl ⟨by omega, rfl⟩, HW7.out⟩
                  case measure => simp [intOf]; omega
              · obtain ⟨rfl, rfl, rfl⟩ := ms_none hMr
                have qe0 := blk_only HQ4.out HOr.out (show w.heap.size + 1 ≠ p by omega)
                have HKr := hide hKr
                have HQE := hide qe0
                obtain ⟨A8, n8, c8, hB8, _⟩ := hSr
                have HB8' := hide hB8
                have hjn' : ¬ (j : Int) < (nx : Int) := by omega
                have hx0p : x0 ≠ p := by have := HX0.out; omega
                have HOB := hide hBr
                clear hDB hKr hMr hBr hXr hB8 qe0 hOr hjn hj
                go_wp2_with fail
                have hAN := seg_answer p pd (wtS E (szD s n2) B (!b)) 0 A8 n8 c8 _ HB8'.out
                refine hAN.mono ?_
                rintro e w9 ⟨_, h9⟩
                obtain ⟨g9, hg9, rfl, hM9, hB9, ho9⟩ := h9 rfl
                clear hAN h9
                rw [if_pos rfl] at hM9
                have qk := blk_only HKr.out ho9 hx0p
                have qe := blk_only HQE.out ho9 (show w.heap.size + 1 ≠ p by omega)
                have HBL9 := hide (below_only ho9 HBr.out (fun i (e : i = p) => by omega))
                have hOB9 := ownB_only HOB.out ho9 (fun g h1 _ (e : g = p) => by omega)
                have s1 : (convert 22 9 (.slice Ao no co)).run Try.prog w9 = .ok (.string ⟨B.toArray⟩) w9 := str_b co hOB9.hn hOB9.sl
                have s2 : (convert 22 9 (.slice A2 n2 c2)).run Try.prog w9 = .ok (.string ⟨B.toArray⟩) w9 := str_b c2 HN2.out (HS2.out.below HBL9.out)
                have HB9 := hide hB9
                have hbt : ((!b) != b) = true := by cases b <;> rfl
                unfold msV wellM okM wtS at hM9
                unfold outV at qk
                unfold entV at qe
                have qk_c0 := qk.cell 0 rfl
                have qk_f0 := qk.frozen 0
                have qk_c1 := qk.cell 1 rfl
                have qk_f1 := qk.frozen 1
                have qk_c2 := qk.cell 2 rfl
                have qk_f2 := qk.frozen 2
                have qk_c3 := qk.cell 3 rfl
                have qk_f3 := qk.frozen 3
                have qk_c4 := qk.cell 4 rfl
                have qk_f4 := qk.frozen 4
                have hM9_c0 := hM9.cell 0 rfl
                have hM9_f0 := hM9.frozen 0
                have hM9_c1 := hM9.cell 1 rfl
                have hM9_f1 := hM9.frozen 1
                have hM9_c2 := hM9.cell 2 rfl
                have hM9_f2 := hM9.frozen 2
                have hM9_c3 := hM9.cell 3 rfl
                have hM9_f3 := hM9.frozen 3
                have hM9_c4 := hM9.cell 4 rfl
                have hM9_f4 := hM9.frozen 4
                have hM9_c5 := hM9.cell 5 rfl
                have hM9_f5 := hM9.frozen 5
                have hM9_c6 := hM9.cell 6 rfl
                have hM9_f6 := hM9.frozen 6
                have hM9_c7 := hM9.cell 7 rfl
                have hM9_f7 := hM9.frozen 7
                have hM9_c8 := hM9.cell 8 rfl
                have hM9_f8 := hM9.frozen 8
                have hM9_c9 := hM9.cell 9 rfl
                have hM9_f9 := hM9.frozen 9
                have hM9_c10 := hM9.cell 10 rfl
                have hM9_f10 := hM9.frozen 10
                have hM9_c11 := hM9.cell 11 rfl
                have hM9_f11 := hM9.frozen 11
                have hM9_c12 := hM9.cell 12 rfl
                have hM9_f12 := hM9.frozen 12
                have hM9_c13 := hM9.cell 13 rfl
                have hM9_f13 := hM9.frozen 13
                have qe_c0 := qe.cell 0 rfl
                have qe_f0 := qe.frozen 0
                have qe_c1 := qe.cell 1 rfl
                have qe_f1 := qe.frozen 1
                have qe_c2 := qe.cell 2 rfl
                have qe_f2 := qe.frozen 2
                have qe_c3 := qe.cell 3 rfl
                have qe_f3 := qe.frozen 3
                have qe_c4 := qe.cell 4 rfl
                have qe_f4 := qe.frozen 4
                have qe_c5 := qe.cell 5 rfl
                have qe_f5 := qe.frozen 5
                have qe_c6 := qe.cell 6 rfl
                have qe_f6 := qe.frozen 6
                have qe_c7 := qe.cell 7 rfl
                have qe_f7 := qe.frozen 7
                have qe_c8 := qe.cell 8 rfl
                have qe_f8 := qe.frozen 8
                have qe_c9 := qe.cell 9 rfl
                have qe_f9 := qe.frozen 9
                have qe_c10 := qe.cell 10 rfl
                have qe_f10 := qe.frozen 10
                clear hOB9 hB9 ho9
                go_wp2_with fail
                refine (seg_busy p pd (segIdle (wtS E (szD s n2) B (!b))) A8 n8 c8 _ HB9.out).mono ?_
                rintro e w10 ⟨rfl, hw10⟩
                subst hw10
                rw [show ((segIdle (wtS E (szD s n2) B (!b))).st != 0) = false from rfl]
                go_wp2_with fail
                refine (known_21 _).mono ?_
                rintro e w11 ⟨rfl, hb11⟩
                go_wp2_with fail
                go_ret
                exact (⟨rfl, below_step hb11 HBL9.out⟩ : TrueB w _ _)
      · have hfn : (fc != 0) = true := by simp [hf0]
        go_wp2_with fail
        refine (known_21 _).mono ?_
        rintro e w2 ⟨rfl, hb2⟩
        go_wp2_with fail
        go_ret
        exact (⟨rfl, below_step hb2 HBWf.out⟩ : TrueB w _ _)
    · have herq : (er != 0) = true := by simp [her]
      clear h0 hv0
      go_wp2_with fail
      refine (known_21 _).mono ?_
      rintro e w2 ⟨rfl, hb2⟩
      go_wp2_with fail
      go_ret
      exact (⟨rfl, below_step hb2 HBW1.out⟩ : TrueB w _ _)
end Go.Proofs.Ytimdmhhgomfijaa

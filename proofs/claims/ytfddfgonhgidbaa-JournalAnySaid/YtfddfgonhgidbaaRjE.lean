/- The reference of package journal: looks, tell, Open. -/
import Derived.Test.YtfddfgonhgidbaaRjA
import Derived.Test.YtfddfgonhgidbaaRjB
import Derived.Test.YtfddfgonhgidbaaSecB
import Derived.Test.YtfddfgonhgidbaaJouF
namespace Go.Proofs.Ytfddfgonhgidbaa
set_option linter.unusedVariables false
set_option linter.unusedSimpArgs false
set_option linter.unnecessarySimpa false
section
open Go.RowKit
set_option maxRecDepth 20000
set_option maxHeartbeats 4000000

theorem infoRLk : (Try.prog.info? 144).map (fun i => (i.zero, i.size, i.bytes)) = some (some (.agg #[.int .i64 0, .int .u32 0, .slice none 0 0, .int .i64 0, .int .i64 0, .bool false]), 6, 64) := by kernel_rfl
abbrev OwnRLk (w : World) (F : Nat → Prop) (A : Option Addr) (n c : Nat) (L : List LK) (ds : List (Option Addr × Nat)) : Prop := OwnF lkF 6 144 LK.d w F A n c L ds
theorem OwnF.rslk {w : World} {F : Nat → Prop} {A : Option Addr} {n c : Nat} {L : List LK} {ds : List (Option Addr × Nat)} (h : OwnRLk w F A n c L ds) : SlK w A (kvs L ds) := by
  intro j v hv
  obtain ⟨x, d, hx, hd, rfl⟩ := kvs_at _ _ _ _ hv
  obtain ⟨g, hA, hlt, hc⟩ := h.cells lkF_len hx hd (by omega)
  exact ⟨g, 0, hA, by rw [Nat.zero_add]; exact hc 0 _ rfl, by rw [Nat.zero_add]; exact hc 1 _ rfl, by rw [Nat.zero_add]; exact hc 2 _ rfl, by rw [Nat.zero_add]; exact hc 3 _ rfl, by rw [Nat.zero_add]; exact hc 4 _ rfl, by rw [Nat.zero_add]; exact hc 5 _ rfl⟩
/-- look k's cells -/
theorem rlk_at {w : World} {F : Nat → Prop} {A : Option Addr} {n c : Nat} {L : List LK} {ds : List (Option Addr × Nat)} (h : OwnRLk w F A n c L ds) {k : Nat} {x : LK} (hx : L[k]? = some x) : ∃ g d, A = some ⟨g, 0, none⟩ ∧ g < w.heap.size ∧ ds[k]? = some d ∧ OwnB w 0 d.1 x.d.length d.2 x.d ∧ k < n ∧
    (w.cell? ⟨g, k * 6, none⟩ = some (.int .i64 x.k) ∧ w.cell? ⟨g, k * 6 + 1, none⟩ = some (.int .u32 (x.m : Nat)) ∧ w.cell? ⟨g, k * 6 + 2, none⟩ = some (.slice d.1 x.d.length d.2) ∧
    w.cell? ⟨g, k * 6 + 3, none⟩ = some (.int .i64 (x.cnt : Nat)) ∧ w.cell? ⟨g, k * 6 + 4, none⟩ = some (.int .i64 (x.en : Nat)) ∧ w.cell? ⟨g, k * 6 + 5, none⟩ = some (.bool x.cl)) ∧ F g ∧ FIn F d.1 := by
  obtain ⟨d, hd, hO, hFd⟩ := h.elem hx
  obtain ⟨g, hA, hlt, hc⟩ := h.cells lkF_len hx hd (by omega)
  exact ⟨g, d, hA, hlt, hd, hO, by rw [h.hn]; exact (List.getElem?_eq_some_iff.1 hx).1, ⟨hc 0 _ rfl, hc 1 _ rfl, hc 2 _ rfl, hc 3 _ rfl, hc 4 _ rfl, hc 5 _ rfl⟩, h.inF g hA, hFd⟩
def RLooksR (S : FS) (w : World) (e : Ending) (w' : World) : Prop := ∃ A c ds, e = .returned (.slice A S.wear.length c) ∧ OwnRLk w' (fun g => w.heap.size ≤ g) A S.wear.length c (looksF S) ds ∧ Below w.heap.size w w'
theorem rjo_looks (q : FP) (S : FS) (w : World) (hD : RF w q S) : Calls Try.prog 83 #[.pointer (some ⟨q.p, 0, none⟩)] w (RLooksR S w) := by
  have HD := hide hD
  have HFIT := hide hD.fit
  have h8 := hD.fit.wl8
  obtain ⟨ns, hns⟩ : ∃ ns, ns = S.wear.length := ⟨_, rfl⟩
  obtain ⟨nb, hnb⟩ : ∃ nb, nb = S.b.length := ⟨_, rfl⟩
  have hlen := hD.fit.len
  have HNS := hide hns
  have HNB := hide hnb
  rw [← hns] at h8
  have hnb2 : nb = 1024 * ns := by omega
  have hcb := hD.bs.le
  rw [← hnb] at hcb
  obtain ⟨⟨c0, c1, -⟩, -⟩ := hD.c
  rw [← hnb] at c0
  rw [← hns] at c1
  have zp : q.p < w.heap.size := hD.blk.lt
  obtain ⟨i0, hi0, hz0, hz1, hz2⟩ := info_parts infoRLk
  have HI := hide (And.intro hi0 (And.intro hz0 (And.intro hz1 hz2)))
  clear hD hns hnb hlen hi0 hz0 hz1 hz2
  go_enter Try.func83, Try.ntmps83
  go_wp2_with fail
  go_loopw [3, 4] (fun v i wr => ∃ k A c ds, k ≤ ns ∧ i = .int .i64 (k : Nat) ∧ v = .slice A k c ∧ Hid (OwnRLk wr (fun g => w.heap.size ≤ g) A k c ((looksF S).take k) ds) ∧ Hid (Below w.heap.size w wr)) (fun _ i _ => ns - (intOf i).toNat)
  case atStart => exact ⟨0, none, 0, [], by omega, rfl, rfl, hide (OwnF.nil _ _), hide (Below.refl _ _)⟩
  case round =>
    obtain ⟨k, A, c, ds, hk, rfl, rfl, HJ, HBr⟩ := hrel
    have d0 := (HBr.out.cell (p := ⟨q.p, 0, none⟩) zp).trans c0
    have d1 := (HBr.out.cell (p := ⟨q.p, 1, none⟩) zp).trans c1
    by_cases hlt : k < ns
    · have HSN := hide (looksF_snoc S (k := k) (by rw [← HNS.out]; exact hlt))
      have hcA : cutA (some ⟨q.gb, 0, none⟩) q.cb (1024 * k) 1 = some ⟨q.gb, 1024 * k, none⟩ := by
        unfold cutA
        rw [if_neg (by omega)]
        simp [Addr.add]
        intro h
        omega
      have hsl : Sl wr (some ⟨q.gb, 1024 * k, none⟩) ((secB S.b k).map bv) := by
        have h1 := ((HD.out.below HBr.out).bs.sl.cut1 (k := 1024 * k) (c := q.cb) (by rw [List.length_map, ← HNB.out]; exact hcb)).take 1024
        rw [← List.map_drop, ← List.map_take, hcA] at h1
        exact h1
      have hsec : (secB S.b k).length = 1024 := secB_len (by have := HNB.out; have := HFIT.out.len; have := HNS.out; omega)
      have hof := rsec_of (some ⟨q.gb, 1024 * k, none⟩) 1024 (q.cb - 1024 * k) (secB S.b k) wr hsec.symm (by omega) (by omega) hsl
      have HFX := hide (show (lookL (secB S.b k)).d.length ≤ 2000 from (look_fit (secB S.b k) (by omega)).d)
      obtain ⟨x, hx⟩ : ∃ x, x = lookL (secB S.b k) := ⟨_, rfl⟩
      rw [← hx] at hof HSN HFX
      have HOF := hide hof
      obtain ⟨fr, hfr⟩ : ∃ fr, fr = 1024 * k := ⟨_, rfl⟩
      have hcb2 : ¬ q.cb = fr := by omega
      rw [← hfr] at HOF
      have e1 : (k : Int) * 1024 = ((fr : Nat) : Int) := by omega
      have hfb : fr ≤ 8192 := by omega
      clear hx hsl hsec hof hfr hcA
      go_wp2_with fail
      refine HOF.out.mono ?_
      rintro e w2 ⟨A2, n2, c2, rfl, hO2, hb2⟩
      obtain rfl : n2 = x.d.length := hO2.hn
      have HO2 := hide hO2
      have HB2 := hide (below_step hb2 HBr.out)
      have HJ2 := hide (HJ.out.below hb2)
      have hz2 := hb2.size
      have hzr := HBr.out.size
      clear hO2 hb2
      go_wp2_with (at_builtin; refine app_f _ rfl _ _ 141 rfl lkF_len lkF_one (by decide) i0 _ 64 Try.underlying141 HI.out.1 HI.out.2.1 HI.out.2.2.1 HI.out.2.2.2 rfl (by omega) (by omega) A k c ((looksF S).take k) ds rfl (HJ2.out.below (below_alloc (Below.refl _ _) _)) x (A2, c2) _ rfl (by exact (blk_one _ _ _).sl) ((HO2.out.alloc _).mono (Nat.zero_le _)) (HO2.out.own.fin.mono (fun g h => by have := h.1; omega)) (fun g h => by simp at h; omega) (by omega) (k + 1) rfl ?_; intro A4 c4 w4 hO4 hg4 hr4; have HH4 := hide (And.intro hO4 hg4); clear hO4 hg4 hr4)
      obtain ⟨hO4, hg4⟩ := HH4.out
      rw [← HSN.out] at hO4
      have HJN := hide hO4
      have hbA := below_alloc HB2.out (.cells #[.int .i64 x.k, .int .u32 (x.m : Nat), .slice A2 x.d.length c2, .int .i64 (x.cnt : Nat), .int .i64 (x.en : Nat), .bool x.cl] 144)
      have HBN := hide (hbA.grown hg4 hbA.size (fun g hg => by
        rcases HJ.out.own.shape with ⟨h1, _⟩ | ⟨g', h1, _, h2⟩
        · rw [h1] at hg; simp [Value.ownBlock] at hg
        · have h3 := HJ.out.inF g' h1
          rw [h1] at hg; simp [Value.ownBlock] at hg; omega))
      go_roundw
      case rel => exact ⟨k + 1, A4, c4, _, by omega, by go_num, rfl, HJN, HBN⟩
      case measure => simp [intOf]; omega
    · obtain rfl : k = ns := by omega
      have hfull : (looksF S).take k = looksF S := List.take_of_length_le (by rw [looksF_len, ← HNS.out]; exact Nat.le_refl _)
      have hJ := HJ.out
      rw [hfull] at hJ
      have HJF := hide hJ
      clear hfull hJ
      go_wp2_with fail
      go_ret
      have hns := HNS.out
      subst hns
      exact (⟨A, c, ds, rfl, HJF.out, HBr.out⟩ : RLooksR S w _ _)
end
section
open Go.RowKit
set_option maxRecDepth 20000
set_option maxHeartbeats 4000000

/-- a row whose block is known to be new -/
theorem own_up {w : World} {B e size n c : Nat} {A : Option Addr} {xs : List Value} (h : Own w 0 e size A n c xs) (hF : FIn (fun g => B ≤ g) A) : Own w B e size A n c xs := by
  obtain ⟨h1, h2⟩ := h
  refine ⟨h1, ?_⟩
  rcases h2 with h2 | ⟨g, k, cs, hA, _, h3⟩
  · exact .inl h2
  · refine .inr ⟨g, k, cs, hA, ?_, h3⟩
    injection hA with hA
    exact hF g hA
def rjC (pf : Nat) (kd : Int) (num : Nat) (A : Option Addr) (n c : Nat) (has : Bool) (sec : Nat) (dead : Bool) : List Value := [.pointer (some ⟨pf, 0, none⟩), .int .i64 kd, .int .u32 (num : Nat), .slice A n c, .bool has, .int .i64 (sec : Nat), .bool dead]
def rjS (pf : Nat) (S : FS) (A : Option Addr) (c : Nat) (dead : Bool) : List Value := rjC pf (recS S).1 (recS S).2.1 A (recS S).2.2.length c (newL (looksF S)).2 (newL (looksF S)).1 dead
def RTellR (q : FP) (S : FS) (r : Nat) (dead : Bool) (w : World) (e : Ending) (w' : World) : Prop :=
  ∃ A c, e = .returned (.tuple #[]) ∧ Blk w' r 79 (rjS q.p S A c dead).toArray ∧ OwnB w' w.heap.size A (recS S).2.2.length c (recS S).2.2 ∧ Only (fun g => g = r) w w'
theorem rjo_tell (q : FP) (S : FS) (r : Nat) (kd : Int) (num : Nat) (A : Option Addr) (n c : Nat) (has : Bool) (sec : Nat) (dead : Bool) (w : World) (hD : RF w q S) (hB : Blk w r 79 (rjC q.p kd num A n c has sec dead).toArray) :
    Calls Try.prog 45 #[.pointer (some ⟨r, 0, none⟩)] w (RTellR q S r dead w) := by
  have HLO := hide (rjo_looks q S w hD)
  have h8 := hD.fit.wl8
  obtain ⟨ns, hns⟩ : ∃ ns, ns = S.wear.length := ⟨_, rfl⟩
  have HNS := hide hns
  have HB := hide hB
  have z0 := hB.lt
  unfold rjC at hB
  have c0 := hB.cell 0 (u := .pointer (some ⟨q.p, 0, none⟩)) rfl
  rw [← hns] at h8
  clear hD hB hns
  go_enter Try.func45, Try.ntmps45
  go_wp2_with fail
  refine HLO.out.mono ?_
  rintro e w1 ⟨A1, c1, ds, rfl, hO1, hb1⟩
  rw [← HNS.out] at hO1 ⊢
  have hne := rsec_newest A1 ns c1 (kvs (looksF S) ds) w1 (by rw [kvs_len _ _ hO1.hd, ← hO1.hn]) (by omega) hO1.rslk
  have hnn := newest_kvs (looksF S) ds hO1.hd
  rw [show (looksF S).length = ns by rw [looksF_len, ← HNS.out]] at hnn
  rw [hnn] at hne
  have HNE := hide hne
  have HO1 := hide hO1
  have HB1 := hide hb1
  have HBK1 := hide (HB.out.below hb1 HB.out.lt)
  clear hne hnn hO1 hb1
  go_wp2_with fail
  refine HNE.out.mono ?_
  rintro e w2 ⟨rfl, hb2⟩
  have HBK2 := hide (HBK1.out.below hb2 HBK1.out.lt)
  have HO2 := hide (HO1.out.below hb2)
  have HB2 := hide (below_step hb2 HB1.out)
  have q2 := HBK2.out
  unfold rjC at q2
  obtain ⟨q2_c0, q2_c1, q2_c2, q2_c3, q2_c4, q2_c5, q2_c6⟩ := cel7 q2
  have q2_f := q2.frozen
  clear hb2 q2
  cases hh : (newL (looksF S)).2
  · have hz : (newL (looksF S)).1 = 0 := by
      rcases newL_cases (looksF S) with ⟨a, ha⟩ | ha
      · rw [ha] at hh; cases hh
      · rw [ha]
    have hr : recS S = (0, 0, []) := by unfold recS; rw [hh]; rfl
    rw [hz]
    have HX := hide (And.intro hh (And.intro hz hr))
    clear hh hz hr
    go_wp2_with fail
    go_end0
    unfold RTellR
    refine ⟨none, 0, rfl, ?_, by rw [HX.out.2.2]; exact OwnB.nil _ _, ?_⟩
    · unfold rjS
      rw [HX.out.2.2, HX.out.1, HX.out.2.1]
      exact blk_setL (blk_setL (blk_setL (blk_setL (blk_setL HBK2.out 4 (.bool false)) 5 (.int .i64 0)) 1 (.int .i64 0)) 2 (.int .u32 0)) 3 (.slice none 0 0)
    · exact (Only.of_below (F := fun g => g = r) HB2.out).trans (Only.set (fun g => g = r) (Only.set (fun g => g = r) (Only.set (fun g => g = r) (Only.set (fun g => g = r) (Only.set (fun g => g = r) (Only.refl _ _) rfl _) rfl _) rfl _) rfl _) rfl _) (fun _ _ h => h)
  · obtain ⟨a, ha⟩ : ∃ a, a = (newL (looksF S)).1 := ⟨_, rfl⟩
    have hat : newL (looksF S) = (a, true) := Prod.ext ha.symm hh
    have hna := newL_at.1 hat
    obtain ⟨x, hx⟩ : ∃ x, (looksF S)[a]? = some x := ⟨_, List.getElem?_eq_getElem hna.1⟩
    have hgx : (looksF S).getD a lookZ = x := by rw [List.getD_eq_getElem?_getD, hx]; rfl
    have hr : recS S = (x.k, x.m, x.d) := by unfold recS; rw [hat]; simp only [if_true]; rw [hgx]
    obtain ⟨g, d, hA, hg, hd, hO, hlt, ⟨e0, e1, e2, e3, e4, e5⟩, hF, hFd⟩ := rlk_at HO2.out hx
    rw [← ha]
    subst hA
    obtain ⟨i1, i2, i3⟩ := idx_at hlt
    have n1 : ¬ g = r := by intro e; omega
    have n2 : ¬ r = g := by intro e; omega
    have HX := hide (And.intro hat hr)
    have HO := hide hO
    have HFD := hide hFd
    obtain ⟨xk, xm, xd, xcnt, xen, xcl⟩ := x
    dsimp only at e0 e1 e2 e3 e4 e5 HX HO
    clear hh ha hat hna hx hgx hr hO hFd hF hd
    go_wp2_with fail
    go_end0
    have hob : Only (fun g => g = r) w2 ((((((((w2.setCell ⟨r, 4, none⟩ (.bool true)).setCell ⟨r, 5, none⟩ (.int .i64 (a : Nat))).setCell ⟨r, 1, none⟩ (.int .i64 0)).setCell ⟨r, 2, none⟩ (.int .u32 0)).setCell ⟨r, 3, none⟩ (.slice none 0 0)).setCell ⟨r, 1, none⟩ (.int .i64 xk)).setCell ⟨r, 2, none⟩ (.int .u32 (xm : Nat))).setCell ⟨r, 3, none⟩ (.slice d.1 xd.length d.2)) :=
      Only.set (fun g => g = r) (Only.set (fun g => g = r) (Only.set (fun g => g = r) (Only.set (fun g => g = r) (Only.set (fun g => g = r) (Only.set (fun g => g = r) (Only.set (fun g => g = r) (Only.set (fun g => g = r) (Only.refl _ _) rfl _) rfl _) rfl _) rfl _) rfl _) rfl _) rfl _) rfl _
    unfold RTellR
    refine ⟨d.1, d.2, rfl, ?_, ?_, (Only.of_below (F := fun g => g = r) HB2.out).trans hob (fun _ _ h => h)⟩
    · unfold rjS
      rw [HX.out.2, HX.out.1]
      exact blk_setL (blk_setL (blk_setL (blk_setL (blk_setL (blk_setL (blk_setL (blk_setL HBK2.out 4 (.bool true)) 5 (.int .i64 (a : Nat))) 1 (.int .i64 0)) 2 (.int .u32 0)) 3 (.slice none 0 0)) 1 (.int .i64 xk)) 2 (.int .u32 (xm : Nat))) 3 (.slice d.1 xd.length d.2)
    · rw [HX.out.2]
      refine ⟨HO.out.hn, own_up (HO.out.own.keep (fun g' _ hlt' hA' => hob.block g' hlt' (fun e => ?_))) HFD.out⟩
      have := HFD.out g' hA'
      omega
def ROpenR (q : FP) (S : FS) (w : World) (e : Ending) (w' : World) : Prop :=
  ∃ r A c, e = .returned (.tuple #[.pointer (some ⟨r, 0, none⟩), .int .i64 0]) ∧ Blk w' r 79 (rjS q.p S A c false).toArray ∧ OwnB w' w.heap.size A (recS S).2.2.length c (recS S).2.2 ∧ w.heap.size ≤ r ∧ Below w.heap.size w w'
theorem rjo_Open (q : FP) (S : FS) (w : World) (hD : RF w q S) (hoff : S.off = false) (h3 : 3 ≤ S.wear.length) :
    Calls Try.prog 31 #[.pointer (some ⟨q.p, 0, none⟩)] w (ROpenR q S w) := by
  have q0 := blk_one w 79 #[.pointer (some ⟨q.p, 0, none⟩), .int .i64 0, .int .u32 0, .slice none 0 0, .bool false, .int .i64 0, .bool true]
  have q1 := blk_one w 79 #[.pointer (some ⟨q.p, 0, none⟩), .int .i64 0, .int .u32 0, .slice none 0 0, .bool false, .int .i64 0, .bool false]
  have hb0 := below_alloc (Below.refl w.heap.size w) (.cells #[.pointer (some ⟨q.p, 0, none⟩), .int .i64 0, .int .u32 0, .slice none 0 0, .bool false, .int .i64 0, .bool true] 79)
  have hb1 := below_alloc (Below.refl w.heap.size w) (.cells #[.pointer (some ⟨q.p, 0, none⟩), .int .i64 0, .int .u32 0, .slice none 0 0, .bool false, .int .i64 0, .bool false] 79)
  have HB1 := hide hb1
  have HTL := hide (rjo_tell q S w.heap.size 0 0 none 0 0 false 0 false _ (hD.below hb1) q1)
  obtain ⟨⟨-, c1, -, c3, -⟩, -⟩ := (hD.below hb0).c
  rw [hoff] at c3
  obtain ⟨⟨-, d1, -, d3, -⟩, -⟩ := hD.c
  rw [hoff] at d3
  obtain ⟨ns, hns⟩ : ∃ ns, ns = S.wear.length := ⟨_, rfl⟩
  rw [← hns] at c1 h3 d1
  have h3' : (3 : Int) ≤ (ns : Int) := by omega
  obtain ⟨q0_c0, q0_c1, q0_c2, q0_c3, q0_c4, q0_c5, q0_c6⟩ := cel7 q0
  have q0_f := q0.frozen
  clear hD hoff hns q0 hb0 q1 hb1
  go_enter Try.func31, Try.ntmps31
  go_wp2_with fail
  refine HTL.out.mono ?_
  rintro e w1 ⟨A, c, rfl, hB, hO, hbo⟩
  have HH := hide (And.intro hB (And.intro hO hbo))
  clear hB hO hbo
  go_wp2_with fail
  go_ret2
  obtain ⟨hB, hO, hbo⟩ := HH.out
  exact (⟨w.heap.size, A, c, rfl, hB, hO.mono (by simp), Nat.le_refl _, below_only hbo HB1.out (fun i hi => by omega)⟩ : ROpenR q S w _ _)
theorem rjo_Open_few (q : FP) (S : FS) (w : World) (hD : RF w q S) (hoff : S.off = false) (h3 : S.wear.length < 3) :
    Calls Try.prog 31 #[.pointer (some ⟨q.p, 0, none⟩)] w fun e w' => ∃ p, e = .returned (.tuple #[.pointer (some p), .int .i64 9]) ∧ Below w.heap.size w w' := by
  have hb0 := below_alloc (Below.refl w.heap.size w) (.cells #[.pointer (some ⟨q.p, 0, none⟩), .int .i64 0, .int .u32 0, .slice none 0 0, .bool false, .int .i64 0, .bool true] 79)
  obtain ⟨⟨-, c1, -, c3, -⟩, -⟩ := (hD.below hb0).c
  rw [hoff] at c3
  obtain ⟨ns, hns⟩ : ∃ ns, ns = S.wear.length := ⟨_, rfl⟩
  rw [← hns] at c1 h3
  have h3' : (ns : Int) < 3 := by omega
  have HB := hide hb0
  clear hD hoff hns hb0
  go_enter Try.func31, Try.ntmps31
  go_wp2_with fail
  go_ret2
  exact ⟨_, rfl, HB.out⟩
end
end Go.Proofs.Ytfddfgonhgidbaa

/- The reference's snap: Parse. -/
import Derived.Test.YtapfadaplncpeaaSnapP
import Derived.Test.YtapfadaplncpeaaRef18
namespace Go.Proofs.Ytapfadaplncpeaa
open Go.RowKit
set_option maxRecDepth 20000
set_option maxHeartbeats 1000000

theorem oneS_short (r : List UInt8) (h : r.length < 5) : oneS r = (⟨0, 0, []⟩, [], 2) := by rw [oneS, if_pos h]
theorem oneS_big (r : List UInt8) (h : 5 ≤ r.length) (hb : r.length - 5 < leN ((r.drop 3).take 2)) : oneS r = (⟨0, 0, []⟩, [], 2) := by rw [oneS, if_neg (by omega), if_pos hb]
theorem thereB_bytes (x b : Nat) (hx : x ≤ 65535) (hb : b ≤ 255) : thereB x b = decide (x ≠ 0) := by
  rw [Bool.eq_iff_iff]; simp [thereB]; omega
theorem oneS_range (r : List UInt8) (h : 5 ≤ r.length) (hb : ¬ r.length - 5 < leN ((r.drop 3).take 2)) (h0 : leN (r.take 2) = 0) : oneS r = (⟨0, 0, []⟩, [], 9) := by
  rw [oneS, if_neg (by omega), if_neg hb, if_pos]
  rw [thereB_bytes _ _ (by omega) (by have := (r.getD 2 0).toNat_lt; omega), h0]; rfl
theorem oneS_ok (r : List UInt8) (h : 5 ≤ r.length) (hb : ¬ r.length - 5 < leN ((r.drop 3).take 2)) (h0 : leN (r.take 2) ≠ 0) :
    oneS r = (⟨leN (r.take 2), (r.getD 2 0).toNat, (r.drop 5).take (leN ((r.drop 3).take 2))⟩, (r.drop 5).drop (leN ((r.drop 3).take 2)), 0) := by
  rw [oneS, if_neg (by omega), if_neg hb, if_neg]
  rw [thereB_bytes _ _ (leN2_lt _ (by simp; omega)) (by have := (r.getD 2 0).toNat_lt; omega)]; simp [h0]

theorem rsnap_parse (A : Option Addr) (n c : Nat) (l : List UInt8) (w : World) (hn : n = l.length) (hc : n ≤ c) (hs : Sl w A (l.map bv)) :
    Calls Try.prog 23 #[.slice A n c] w fun e w' => ∃ A' n' c' L ds er, e = .returned (.tuple #[.slice A' n' c', .int .i64 er]) ∧ OwnV w' w.heap.size A' n' c' L ds ∧ parseS l = (L, er) ∧ Below w.heap.size w w' := by
  by_cases hbig : 960 < n
  · have HP := hide (show parseS l = ([], 3) by rw [parseS, if_pos (by omega)])
    clear hn
    go_enter Try.func23, Try.ntmps23
    go_wp2_with fail
    go_ret2
    exact ⟨_, _, _, _, [], _, rfl, OwnV.nil _ _, HP.out, Below.refl _ _⟩
  · have HP := hide (show parseS l = parseF (l.length + 1) [] l by rw [parseS, if_neg (by omega)])
    have HN := hide hn
    clear hn
    have hn960 : n ≤ 960 := by omega
    clear hbig
    go_enter Try.func23, Try.ntmps23
    go_wp2_with fail
    go_loopw [4, 5] (fun v4 v5 wr => ∃ k L ds A' m c' f, v5 = .int .i64 (k : Nat) ∧ k ≤ n ∧ v4 = .slice A' m c' ∧ OwnV wr w.heap.size A' m c' L ds ∧ Hid (parseS l = parseF (f + 1) L (l.drop k)) ∧ n - k ≤ f ∧ m ≤ k ∧ Below w.heap.size w wr)
      (fun _ v5 _ => n - (intOf v5).toNat)
    case atStart => exact ⟨0, [], [], _, _, _, l.length, rfl, by omega, rfl, OwnV.nil _ _, hide (by rw [HP.out]; rfl), by have := HN.out; omega, by omega, Below.refl _ _⟩
    case round =>
      obtain ⟨k, L, ds, A', m, c', f, rfl, hk, rfl, hO, HF, hf, hmb, hbr⟩ := hrel
      clear HP
      by_cases h0 : k < n
      · have hrl : (l.drop k).length = n - k := by have := HN.out; simp; omega
        obtain ⟨r, hr⟩ : ∃ r, r = l.drop k := ⟨_, rfl⟩
        rw [← hr] at hrl HF
        have hsr := hs.below hbr
        have HRL := hide hrl
        have hrne := hide (show r ≠ [] by intro h; rw [h] at hrl; simp at hrl; omega)
        by_cases h5 : n - k < 5
        · have HO := hide (oneS_short r (by omega))
          clear hrl hr
          have h5' : (n : Int) - k < 5 := by omega
          go_wp2_with fail
          go_ret2
          exact ⟨_, _, _, [], _, _, rfl, OwnV.nil _ _, by rw [HF.out, parseF_err _ _ _ _ _ _ hrne.out HO.out (by decide)], hbr⟩
        · obtain ⟨x0, hx0⟩ : ∃ x0, x0 = leN (r.take 2) := ⟨_, rfl⟩
          obtain ⟨q, hq⟩ : ∃ q, q = leN ((r.drop 3).take 2) := ⟨_, rfl⟩
          have lx : x0 ≤ 65535 := by rw [hx0]; exact leN2_lt _ (by simp; omega)
          have lq : q ≤ 65535 := by rw [hq]; exact leN2_lt _ (by simp; omega)
          have HG1 := hide (show ∀ W, Sl W A (l.map bv) → Calls Try.prog 67 #[.slice A n c, .int .i64 k, .int .i64 2] W fun e w' => e = .returned (.tuple #[.int .u64 x0, .int .i64 0]) ∧ W = w' from
            fun W h => (rget_ok A n c l k 2 W HN.out hc (by omega) (by omega) (by omega) (by omega) (by omega) h).mono fun e w' h => by rw [hx0, hr]; exact h)
          have HG2 := hide (show ∀ W, Sl W A (l.map bv) → Calls Try.prog 67 #[.slice A n c, .int .i64 (k + 3), .int .i64 2] W fun e w' => e = .returned (.tuple #[.int .u64 q, .int .i64 0]) ∧ W = w' from
            fun W h => (rget_ok A n c l (k + 3) 2 W HN.out hc (by omega) (by omega) (by omega) (by omega) (by omega) h).mono fun e w' h => by
              rw [hq, hr, List.drop_drop]
              have e1 : ((k : Int) + 3).toNat = k + 3 := by omega
              rw [e1] at h
              exact h)
          have h5i : (5 : Int) ≤ (n : Int) - k := by omega
          by_cases hbg : n - k - 5 < q
          · have HO := hide (oneS_big r (by omega) (by rw [← hq]; omega))
            clear hrl hr hx0 hq
            have hbi : (n : Int) - k - 5 < q := by omega
            go_wp2_with fail
            refine (HG1.out _ hsr).mono ?_
            rintro e w' ⟨rfl, rfl⟩
            go_wp2_with fail
            refine (HG2.out _ hsr).mono ?_
            rintro e w' ⟨rfl, rfl⟩
            go_wp2_with fail
            go_ret2
            exact ⟨_, _, _, [], _, _, rfl, OwnV.nil _ _, by rw [HF.out, parseF_err _ _ _ _ _ _ hrne.out HO.out (by decide)], hbr⟩
          · have hbi : (q : Int) ≤ (n : Int) - k - 5 := by omega
            obtain ⟨bk, off, rfl, hcell⟩ := hsr.byte_ (j := k + 2) (by have := HN.out; omega)
            obtain ⟨b, hb⟩ : ∃ b, b = (l[k + 2]'(by have := HN.out; omega)).toNat := ⟨_, rfl⟩
            have lb : b ≤ 255 := by rw [hb]; have := (l[k + 2]'(by have := HN.out; omega)).toNat_lt; omega
            rw [← hb] at hcell
            have hg2 := hide (show (r.getD 2 0).toNat = b by rw [hb, hr, List.getD_eq_getElem?_getD, List.getElem?_drop, List.getElem?_eq_getElem (by have := HN.out; omega)]; rfl)
            have hdat := hide (show ((l.drop (k + 5)).take q).length = q by have := HN.out; simp; omega)
            have hcut := fun W => cut2_b (some ⟨bk, off, none⟩) n c (k + 5) (k + 5 + q) ((k : Int) + 5) ((k : Int) + 5 + q) .i64 .i64 (by omega) (by omega) (by omega) (by omega) W
            have hql : k + 5 + q - (k + 5) = q := by omega
            rw [hql] at hcut
            have hsd : Sl wr (cutA (some ⟨bk, off, none⟩) c (k + 5) 1) (((l.drop (k + 5)).take q).map bv) := by
              rw [List.map_take, List.map_drop]
              exact (hsr.cut1 (by have := HN.out; simp; omega)).take q
            have zb := lt_of_cell hcell
            simp only [] at zb
            have HJ := hide (show ∀ W, Sl W (cutA (some ⟨bk, off, none⟩) c (k + 5) 1) (((l.drop (k + 5)).take q).map bv) → _ from fun W hW => join_any none (cutA (some ⟨bk, off, none⟩) c (k + 5) 1) 0 q 0 (c - (k + 5)) [] ((l.drop (k + 5)).take q) W rfl hdat.out.symm (by omega) (by omega) (Sl.nil _ _) hW)
            have i1 : (0 : Int) ≤ (k : Int) + 2 := by omega
            have i2 : (k : Int) + 2 < (n : Int) := by omega
            have i3 : ((k : Int) + 2).toNat = k + 2 := by omega
            have i4 : IntKind.i64.wrap ((k : Int) + 2) = (k : Int) + 2 := IntWalk.i64_in _ (by omega)
            have i5 : IntKind.i64.wrap ((k : Int) + 5) = (k : Int) + 5 := IntWalk.i64_in _ (by omega)
            have i6 : IntKind.i64.wrap ((k : Int) + 5 + q) = (k : Int) + 5 + q := IntWalk.i64_in _ (by omega)
            have i7 : IntKind.i64.wrap (q : Int) = q := IntWalk.i64_in _ (by omega)
            have i8 : IntKind.i64.wrap (x0 : Int) = x0 := IntWalk.i64_in _ (by omega)
            have i9 : IntKind.i64.wrap (b : Int) = b := IntWalk.i64_in _ (by omega)
            have j1 : (0 : Int) ≤ (k : Int) + 5 := by omega
            have j2 : (k : Int) + 5 ≤ (k : Int) + 5 + q := by omega
            have j3 : (k : Int) + 5 + q ≤ (c : Int) := by omega
            have j4 : (0 : Int) ≤ (q : Int) := by omega
            have hone := hide (show x0 ≠ 0 → oneS r = (⟨x0, b, (l.drop (k + 5)).take q⟩, l.drop (k + 5 + q), 0) from fun h => by
              rw [oneS_ok r (by omega) (by rw [← hq]; omega) (by rw [← hx0]; exact h), ← hx0, ← hq, hg2.out, hr, List.drop_drop, List.drop_drop])
            have honer := hide (show x0 = 0 → oneS r = (⟨0, 0, []⟩, [], 9) from fun h => oneS_range r (by omega) (by rw [← hq]; omega) (by rw [← hx0]; exact h))
            clear hrl hr hx0 hq hb hql
            go_wp2_with fail
            refine (HG1.out _ hsr).mono ?_
            rintro e w' ⟨rfl, rfl⟩
            go_wp2_with fail
            refine (HG2.out _ hsr).mono ?_
            rintro e w' ⟨rfl, rfl⟩
            go_wp2_with fail
            have kq0 : Blk (wr.alloc (.cells #[.int .i64 0, .int .i64 0, .slice none 0 0] 35)).drew wr.heap.size 35 #[.int .i64 0, .int .i64 0, .slice none 0 0] := (Blk.new wr _ _).drew
            have zq0 := kq0.lt
            go_region_held3 (fun w' => (∀ p : Addr, p.block < (wr).heap.size → w'.cell? p = (wr).cell? p) ∧ Below (wr).heap.size (wr) w') (((try go_split_ands); refine sn_of ?_; repeat' (first | with_reducible assumption | with_reducible exact Below.refl _ _ | with_reducible apply below_alloc | with_reducible apply below_drew1 | with_reducible apply below_drewN | (with_reducible apply below_step; with_reducible assumption) | (with_reducible apply below_sg2; (first | exact Nat.le_refl _ | (simp; done) | omega))))) (first
                | (go_at_call 37; (with_reducible refine (HJ.out _ (hsd.below (by repeat' (first | with_reducible assumption | with_reducible exact Below.refl _ _ | with_reducible apply below_alloc | with_reducible apply below_drew1 | with_reducible apply below_drewN | (with_reducible apply below_step; with_reducible assumption) | (with_reducible apply below_sg2; (first | exact Nat.le_refl _ | (simp; done) | omega)))))).mono ?_); rintro e w1 ⟨A1, n1, c1, rfl, hO1, hb1⟩; (try (have kq := Blk.below kq0 hb1 zq0; have q0 := kq.cell 0 rfl; have q1 := kq.cell 1 rfl; have q2 := kq.cell 2 rfl; have f0 := kq.frozen 0; have f1 := kq.frozen 1; have f2 := kq.frozen 2)); dsimp only))
            all_goals
              first
              | (have kf := Blk.new w1 35 #[.int .i64 x0, .int .i64 b, .slice A1 n1 c1]
                 have hbf : Below wr.heap.size wr (w1.alloc (Obj.cells #[.int .i64 x0, .int .i64 b, .slice A1 n1 c1] 35)) := (by assumption : _ ∧ Below _ wr (w1.alloc _)).2
                 have hOf := (hO1.alloc (Obj.cells #[.int .i64 x0, .int .i64 b, .slice A1 n1 c1] 35)).mono (B' := wr.heap.size) (Nat.le_refl _)
                 generalize w1.alloc (Obj.cells #[.int .i64 x0, .int .i64 b, .slice A1 n1 c1] 35) = Wf at *
                 generalize w1.heap.size = g at *)
              | (have kf : Blk (((w1.setCell ⟨wr.heap.size, 0, none⟩ (.int .i64 x0)).setCell ⟨wr.heap.size, 1, none⟩ (.int .i64 b)).setCell ⟨wr.heap.size, 2, none⟩ (.slice A1 n1 c1)) wr.heap.size 35 #[.int .i64 x0, .int .i64 b, .slice A1 n1 c1] := (((Blk.below kq0 hb1 zq0).set_ 0 _).set_ 1 _).set_ 2 _
                 have hbf : Below wr.heap.size wr (((w1.setCell ⟨wr.heap.size, 0, none⟩ (.int .i64 x0)).setCell ⟨wr.heap.size, 1, none⟩ (.int .i64 b)).setCell ⟨wr.heap.size, 2, none⟩ (.slice A1 n1 c1)) := (by assumption : _ ∧ Below _ wr (World.setCell _ _ _)).2
                 have hOf : OwnB (((w1.setCell ⟨wr.heap.size, 0, none⟩ (.int .i64 x0)).setCell ⟨wr.heap.size, 1, none⟩ (.int .i64 b)).setCell ⟨wr.heap.size, 2, none⟩ (.slice A1 n1 c1)) wr.heap.size A1 n1 c1 ([] ++ (l.drop (k + 5)).take q) := (((hO1.set_ (p := ⟨wr.heap.size, 0, none⟩) zq0 _).set_ (p := ⟨wr.heap.size, 1, none⟩) zq0 _).set_ (p := ⟨wr.heap.size, 2, none⟩) zq0 _).mono (Nat.le_of_lt zq0)
                 generalize (((w1.setCell ⟨wr.heap.size, 0, none⟩ (.int .i64 x0)).setCell ⟨wr.heap.size, 1, none⟩ (.int .i64 b)).setCell ⟨wr.heap.size, 2, none⟩ (.slice A1 n1 c1)) = Wf at *
                 generalize hgg : wr.heap.size = g at kf ⊢
                 have HGG := hide hgg
                 clear hgg)
              clear hcut i1 i2 i3 i4 i5 i6 i8 i9 j1 j2 j3 j4 HJ HG1 HG2 hcell hsd
              have hbrf : Below w.heap.size w Wf := below_step hbf hbr
              have hdl := hdat.out
              have hn1 : n1 = ((l.drop (k + 5)).take q).length := by have := hOf.hn; simpa using this
              have HN1 := hide hn1
              have c0 := kf.cell 0 rfl
              have c1' := kf.cell 1 rfl
              have c2' := kf.cell 2 rfl
              have zf := kf.lt
              clear hn1 hdl
              by_cases hx : x0 = 0
              · have hx' : ((x0 : Int) == 0) = true := by simp [hx]
                have HO := hide (honer.out hx)
                clear hx
                go_wp2_with fail
                go_ret2
                exact ⟨_, _, _, [], _, _, rfl, OwnV.nil _ _, by rw [HF.out, parseF_err _ _ _ _ _ _ hrne.out HO.out (by decide)], hbrf⟩
              · have hx' : ((x0 : Int) == 0) = false := by simpa using hx
                have HO := hide (hone.out hx)
                have hpair := hide (show ∀ d' ∈ ds, ∀ g, d'.1 = some (⟨g, 0, none⟩ : Addr) → A1 ≠ some ⟨g, 0, none⟩ from by
                  intro d' hd' g hg hA1
                  obtain ⟨j, hj, rfl⟩ := List.getElem_of_mem hd'
                  obtain ⟨u, hu⟩ : ∃ u, L[j]? = some u := ⟨L[j]'(by rw [← hO.hd]; exact hj), List.getElem?_eq_getElem _⟩
                  have hdat := hO.data j u _ hu (List.getElem?_eq_getElem hj)
                  rcases hdat.own.shape with ⟨h1, _⟩ | ⟨g1, h1, _, h3⟩
                  · rw [h1] at hg; cases hg
                  · rw [h1] at hg
                    injection hg with hg
                    injection hg with hg
                    subst hg
                    rcases hOf.own.shape with ⟨h4, _⟩ | ⟨g2, h4, h5, _⟩
                    · rw [h4] at hA1; cases hA1
                    · rw [h4] at hA1
                      injection hA1 with hA1
                      injection hA1 with hA1
                      omega)
                have HST := hide (show ∀ W, Below Wf.heap.size Wf W → OwnV W w.heap.size A' m c' L ds ∧ OwnB W w.heap.size A1 ((l.drop (k + 5)).take q).length c1 ((l.drop (k + 5)).take q) from
                  fun W hW => ⟨(hO.below hbf).below hW, by
                    have h1 := (hOf.below hW).mono (B' := w.heap.size) hbr.size
                    rw [HN1.out] at h1
                    simpa using h1⟩)
                clear hx
                have hm960 : m ≤ 960 := by omega
                have hm0 : m = 0 ∨ 1 ≤ m := by omega
                rcases hm0 with hm0 | hm0
                · have hd : decide ((0 : Int) < (m : Int)) = false := by simp; omega
                  have hd' : decide (0 < m) = false := by simp; omega
                  have hL0 := hide (show L = [] from List.eq_nil_of_length_eq_zero (by have := hO.hn; omega))
                  clear hm0
                  go_wp2_with fail
                  go_quiet (fail)
                  clear hd hd'
                  go_wp2_with (at_builtin; go_must (refine app_v _ rfl (.tmp 79) (.tmp 81) rfl w.heap.size _ _ _ _ _ rfl (HST.out _ (by repeat' (first | with_reducible assumption | with_reducible exact Below.refl _ _ | with_reducible apply below_alloc | with_reducible apply below_drew1 | with_reducible apply below_drewN | (with_reducible apply below_step; with_reducible assumption) | (with_reducible apply below_sg2; (first | exact Nat.le_refl _ | (simp; done) | omega))))).1 ⟨x0, b, (l.drop (k + 5)).take q⟩ (A1, c1) _ rfl (by rw [HN1.out]; exact (Blk.new _ _ _).sl) (HST.out _ (by repeat' (first | with_reducible assumption | with_reducible exact Below.refl _ _ | with_reducible apply below_alloc | with_reducible apply below_drew1 | with_reducible apply below_drewN | (with_reducible apply below_step; with_reducible assumption) | (with_reducible apply below_sg2; (first | exact Nat.le_refl _ | (simp; done) | omega))))).2 hpair.out (by omega) (by have := hbrf.size; simp; omega) (m + 1) rfl ?_); intro A4 c4 w4 hO4 hb4)
                  go_roundw
                  case measure => simp [intOf]; omega
                  case rel =>
                    obtain ⟨f, rfl⟩ : ∃ f', f = f' + 1 := ⟨f - 1, by omega⟩
                    exact ⟨k + 5 + q, _, _, _, _, _, f, by go_num, by omega, rfl, hO4, hide (by rw [HF.out, parseF_step _ _ _ _ _ hrne.out HO.out (.inl hL0.out)]), by omega, by omega, (below_step (by repeat' (first | with_reducible assumption | with_reducible exact Below.refl _ _ | with_reducible apply below_alloc | with_reducible apply below_drew1 | with_reducible apply below_drewN | (with_reducible apply below_step; with_reducible assumption) | (with_reducible apply below_sg2; (first | exact Nat.le_refl _ | (simp; done) | omega)))) hbrf).trans hb4⟩
                · obtain ⟨u, hu⟩ : ∃ u, L[m - 1]? = some u := ⟨L[m - 1]'(by have := hO.hn; omega), List.getElem?_eq_getElem _⟩
                  have hlast := hide (show lastV L = u by unfold lastV; rw [← hO.hn, List.getD_eq_getElem?_getD, hu]; rfl)
                  have hLne := hide (show L ≠ [] by intro h; have := hO.hn; rw [h] at this; simp at this; omega)
                  obtain ⟨b', off', Ap, cp, hA, g0, g1, g2, g4, g5⟩ := (HST.out Wf (Below.refl _ _)).1.slV (m - 1) u hu
                  subst hA
                  have z1 := lt_of_cell g0
                  simp only [] at z1
                  have HU := hide hu
                  clear hu
                  by_cases ha : aheadB u.ix u.sub x0 b = true
                  · obtain ⟨q1, q2, q3, q4, q5, q6, q7, q8, q9, q10, q11⟩ := idx_pred hm0 (Nat.le_refl m) (by omega)
                    go_wp2_with fail
                    go_region_held3 (fun w' => (∀ p : Addr, p.block < (Wf).heap.size → w'.cell? p = (Wf).cell? p) ∧ Below (Wf).heap.size (Wf) w') (((try go_split_ands); refine sn_of ?_; repeat' (first | with_reducible assumption | with_reducible exact Below.refl _ _ | with_reducible apply below_alloc | with_reducible apply below_drew1 | with_reducible apply below_drewN | (with_reducible apply below_step; with_reducible assumption) | (with_reducible apply below_sg2; (first | exact Nat.le_refl _ | (simp; done) | omega))))) (first
                      | (go_at_call 64; (with_reducible refine (rsnap_ahead _ _ _ _ _ _ _).mono ?_); rintro e w2 ⟨rfl, hw2⟩; dsimp only))
                    clear q1 q2 q3 q4 q5 q6 q7 q8 q9 q10 q11
                    have hbS : Below Wf.heap.size Wf w2 := (by assumption : _ ∧ Below _ _ w2).2
                    have k2 := kf.below hbS zf
                    have d0 := k2.cell 0 rfl
                    have d1 := k2.cell 1 rfl
                    have d2 := k2.cell 2 rfl
                    have hbr2 := below_step hbS hbrf
                    go_wp2_with (at_builtin; go_must (refine app_v _ rfl (.tmp 79) (.tmp 81) rfl w.heap.size _ _ _ _ _ rfl (HST.out _ (by exact below_alloc hbS _)).1 ⟨x0, b, (l.drop (k + 5)).take q⟩ (A1, c1) _ rfl (by rw [HN1.out]; exact (Blk.new _ _ _).sl) (HST.out _ (by exact below_alloc hbS _)).2 hpair.out (by omega) (by have := hbr2.size; simp; omega) (m + 1) rfl ?_); intro A4 c4 w4 hO4 hb4)
                    go_roundw
                    case measure => simp [intOf]; omega
                    case rel =>
                      obtain ⟨f, rfl⟩ : ∃ f', f = f' + 1 := ⟨f - 1, by omega⟩
                      exact ⟨k + 5 + q, _, _, _, _, _, f, by go_num, by omega, rfl, hO4, hide (by rw [HF.out, parseF_step _ _ _ _ _ hrne.out HO.out (.inr (by rw [hlast.out]; exact ha))]), by omega, by omega, (below_alloc hbr2 _).trans hb4⟩
                  · have ha : aheadB u.ix u.sub x0 b = false := by simpa using ha
                    obtain ⟨q1, q2, q3, q4, q5, q6, q7, q8, q9, q10, q11⟩ := idx_pred hm0 (Nat.le_refl m) (by omega)
                    go_wp2_with fail
                    go_region_held3 (fun w' => (∀ p : Addr, p.block < (Wf).heap.size → w'.cell? p = (Wf).cell? p) ∧ Below (Wf).heap.size (Wf) w') (((try go_split_ands); refine sn_of ?_; repeat' (first | with_reducible assumption | with_reducible exact Below.refl _ _ | with_reducible apply below_alloc | with_reducible apply below_drew1 | with_reducible apply below_drewN | (with_reducible apply below_step; with_reducible assumption) | (with_reducible apply below_sg2; (first | exact Nat.le_refl _ | (simp; done) | omega))))) (first
                      | (go_at_call 64; (with_reducible refine (rsnap_ahead _ _ _ _ _ _ _).mono ?_); rintro e w2 ⟨rfl, hw2⟩; dsimp only))
                    clear q1 q2 q3 q4 q5 q6 q7 q8 q9 q10 q11
                    have hbS : Below Wf.heap.size Wf w2 := (by assumption : _ ∧ Below _ _ w2).2
                    go_wp2_with fail
                    go_ret2
                    exact ⟨_, _, _, [], _, _, rfl, OwnV.nil _ _, by rw [HF.out, parseF_ord _ _ _ _ _ hrne.out HO.out hLne.out (by rw [hlast.out]; exact ha)], below_step hbS hbrf⟩
      · have hkn : k = n := by omega
        subst hkn
        go_wp2_with fail
        go_ret2
        have hr0 : l.drop k = [] := List.drop_eq_nil_of_le (by have := HN.out; omega)
        exact ⟨_, _, _, _, _, _, rfl, hO, by rw [HF.out, hr0, parseF_nil], hbr⟩
end Go.Proofs.Ytapfadaplncpeaa

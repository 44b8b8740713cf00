/- The reference of package journal: place. -/
import Derived.Test.YtfddfgonhgidbaaRjE
import Derived.Test.YtfddfgonhgidbaaJouH
namespace Go.Proofs.Ytfddfgonhgidbaa
set_option linter.unusedVariables false
set_option linter.unusedSimpArgs false
set_option linter.unnecessarySimpa false
section
open Go.RowKit
set_option maxRecDepth 20000
set_option maxHeartbeats 4000000

def rplaceJ (S : FS) (n : Nat) : Int × Bool :=
  if ((newL (looksF S)).2 && roomL ((looksF S).getD (newL (looksF S)).1 lookZ) n) = true then (((newL (looksF S)).1 : Int) * 1024 + (((looksF S).getD (newL (looksF S)).1 lookZ).en : Int), false)
  else if (nextL (looksF S) S.wear S.most).2 = true then (((nextL (looksF S) S.wear S.most).1 : Int) * 1024, begunL ((looksF S).getD (nextL (looksF S) S.wear S.most).1 lookZ)) else (-1, false)
def RPlaceR (r : Int × Bool) (w : World) (e : Ending) (w' : World) : Prop := e = .returned (.tuple #[.int .i64 r.1, .bool r.2]) ∧ Below w.heap.size w w'
theorem rjo_place (q : FP) (S : FS) (r : Nat) (A : Option Addr) (c d : Nat) (w : World) (hD : RF w q S) (hB : Blk w r 79 (rjS q.p S A c false).toArray) (hd : d ≤ 2000) :
    Calls Try.prog 42 #[.pointer (some ⟨r, 0, none⟩), .int .i64 (d : Nat)] w (RPlaceR (rplaceJ S d) w) := by
  have HLO := hide (rjo_looks q S w hD)
  have h8 := hD.fit.wl8
  obtain ⟨ns, hns⟩ : ∃ ns, ns = S.wear.length := ⟨_, rfl⟩
  have HNS := hide hns
  rw [← hns] at h8
  have HLF := hide (fun i W (hi : i < ns) (hb : Below w.heap.size w W) => rfl_Left q S i W (hD.below hb) (by rw [← hns]; exact hi))
  have HWS := hide (show Sl w (some ⟨q.gw, 0, none⟩) ((S.wear.map fun x => ((x : Nat) : Int)).map (Value.int .i64)) by have := hD.ws.sl; rw [List.map_map]; exact this)
  obtain ⟨⟨-, f1, -⟩, -⟩ := hD.c
  rw [← hns] at f1
  have zf := hD.blk.lt
  have HFIT := hide hD.fit
  unfold rjS rjC at hB
  have z0 := hB.lt
  have c0 := hB.cell 0 (u := .pointer (some ⟨q.p, 0, none⟩)) rfl
  have c4 := hB.cell 4 (u := .bool (newL (looksF S)).2) rfl
  have c5 := hB.cell 5 (u := .int .i64 ((newL (looksF S)).1 : Nat)) rfl
  obtain ⟨nw, hnw⟩ : ∃ nw, nw = newL (looksF S) := ⟨_, rfl⟩
  obtain ⟨nx, hnx⟩ : ∃ nx, nx = nextL (looksF S) S.wear S.most := ⟨_, rfl⟩
  obtain ⟨R, hR⟩ : ∃ R, R = rplaceJ S d := ⟨_, rfl⟩
  unfold rplaceJ at hR
  rw [← hnw] at c4 c5 hR
  rw [← hnx] at hR
  rw [show rplaceJ S d = R by rw [hR, hnw, hnx]; rfl]
  obtain ⟨na, nh⟩ := nw
  dsimp only at c4 c5 hR
  obtain ⟨b, hb⟩ : ∃ b, b = (nh && roomL ((looksF S).getD na lookZ) d) := ⟨_, rfl⟩
  rw [← hb] at hR
  have HBQ := hide hb
  have HNW := hide hnw
  have HNX := hide hnx
  have HR := hide hR
  clear hD hB hns hnw hnx hR hb
  go_enter Try.func42, Try.ntmps42
  go_wp2_with fail
  refine HLO.out.mono ?_
  rintro e w1 ⟨A1, c1, ds, rfl, hO1, hb1⟩
  rw [← HNS.out] at hO1 ⊢
  have HO1 := hide hO1
  have HB1 := hide hb1
  have g0 := (hb1.cell (p := ⟨r, 0, none⟩) z0).trans c0
  have g4 := (hb1.cell (p := ⟨r, 4, none⟩) z0).trans c4
  have g5 := (hb1.cell (p := ⟨r, 5, none⟩) z0).trans c5
  have HLL := hide (show (looksF S).length = ns by rw [looksF_len, ← HNS.out])
  clear hO1 hb1
  go_upto_region 2 with fail
  go_cut [30] (fun s wx => s = .bool b ∧ Hid (Below w1.heap.size w1 wx))
  case first =>
    cases nh
    · have hbf : b = false := by rw [HBQ.out]; rfl
      subst hbf
      go_wp2_with fail
      go_meet
      case rel => exact ⟨rfl, hide (Below.refl _ _)⟩
    · have hna := newL_at.1 HNW.out.symm
      obtain ⟨x, hx⟩ : ∃ x, (looksF S)[na]? = some x := ⟨_, List.getElem?_eq_getElem hna.1⟩
      have hgx : (looksF S).getD na lookZ = x := by rw [List.getD_eq_getElem?_getD, hx]; rfl
      obtain ⟨g, dd, hA, hg, hdd, hO, hlt, ⟨e0, e1, e2, e3, e4, e5⟩, hF, hFd⟩ := rlk_at HO1.out hx
      subst hA
      obtain ⟨i1, i2, i3⟩ := idx_at hlt
      have HB2 : Hid ((x.cl && decide ((0 : Int) ≤ (d : Int) ∧ (d : Int) ≤ 960 ∧ (0 : Int) ≤ (x.en : Int) ∧ (x.en : Int) ≤ 1011 - (d : Int))) = b) := hide (by rw [roomL_eq, HBQ.out, hgx]; rfl)
      clear hna hx hgx hO hF hFd hdd
      go_wp2_with fail
      refine (rsec_room x.k x.m dd.1 x.d.length dd.2 (x.cnt : Nat) (x.en : Nat) x.cl (d : Nat) _ (by omega) (by omega)).mono ?_
      rintro e w2 ⟨rfl, hb2⟩
      rw [HB2.out]
      go_wp2_with fail
      go_meet
      case rel => exact ⟨rfl, hide hb2⟩
  case rest =>
    obtain ⟨rfl, HBx⟩ := hcut
    have HBW := hide (below_step HBx.out HB1.out)
    have HOx := hide (HO1.out.below HBx.out)
    have k0 := (HBx.out.cell (p := ⟨r, 0, none⟩) (by have := HB1.out.size; simp only []; omega)).trans g0
    have k5 := (HBx.out.cell (p := ⟨r, 5, none⟩) (by have := HB1.out.size; simp only []; omega)).trans g5
    cases b
    · go_wp2_with fail
      go_loopw [7, 8] (fun v i wr => ∃ k A2 c2, k ≤ ns ∧ i = .int .i64 (k : Nat) ∧ v = .slice A2 k c2 ∧ Hid (Own wr w.heap.size 3 1 A2 k c2 (((S.wear.take k).map fun x => S.most - ((x : Nat) : Int)).map (Value.int .i64))) ∧ Hid (Below w.heap.size w wr) ∧ Hid (OwnRLk wr (fun g => w.heap.size ≤ g) A1 ns c1 (looksF S) ds)) (fun _ i _ => ns - (intOf i).toNat)
      case atStart => exact ⟨0, none, 0, by omega, rfl, rfl, hide (Own.nil _ _ _ _), HBW, HOx⟩
      case round =>
        obtain ⟨k, A2, c2, hk, rfl, rfl, HW2, HBr, HOr⟩ := hrel
        have m0 := (HBr.out.cell (p := ⟨r, 0, none⟩) z0).trans c0
        by_cases hlt : k < ns
        · have HTK : Hid ((S.wear.take (k + 1)).map (fun x => S.most - ((x : Nat) : Int)) = (S.wear.take k).map (fun x => S.most - ((x : Nat) : Int)) ++ [S.most - ((S.wear.getD k 0 : Nat) : Int)]) := hide (by
            have hk' : k < S.wear.length := by rw [← HNS.out]; exact hlt
            rw [List.take_succ_eq_append_getElem hk', List.map_append, List.getD_eq_getElem?_getD, List.getElem?_eq_getElem hk']
            rfl)
          have HLk := hide (HLF.out k wr hlt HBr.out)
          obtain ⟨y, hy⟩ : ∃ y, y = S.most - ((S.wear.getD k 0 : Nat) : Int) := ⟨_, rfl⟩
          rw [← hy] at HLk HTK
          clear hy
          go_wp2_with fail
          refine HLk.out.mono ?_
          rintro e w3 ⟨rfl, hb3⟩
          have HB3 := hide (below_step hb3 HBr.out)
          have HO3 := hide (HOr.out.below hb3)
          have HW3 := hide (HW2.out.below hb3)
          have hz3 := HB3.out.size
          clear hb3
          go_wp2_with (at_builtin; refine app_i _ rfl _ _ rfl w.heap.size A2 k c2 _ rfl (HW3.out.alloc _) _ 1 y rfl (Sl.one _ _ _) (by omega) (by simp; omega) ?_; intro A4 c4 w4 hO4 hg4 hr4 hb4; have HH4 := hide (And.intro hO4 (And.intro hg4 hb4)); clear hO4 hg4 hr4 hb4)
          obtain ⟨hO4, hg4, hb4⟩ := HH4.out
          have HW4 : Hid (Own w4 w.heap.size 3 1 A4 (k + 1) c4 (((S.wear.take (k + 1)).map fun x => S.most - ((x : Nat) : Int)).map (Value.int .i64))) := hide (by rw [HTK.out, List.map_append]; exact hO4)
          have HB4 := hide ((below_alloc HB3.out (.cells #[.int .i64 y] 3)).trans hb4)
          have HO4 : Hid (OwnRLk w4 (fun g => w.heap.size ≤ g) A1 ns c1 (looksF S) ds) := hide (by
            have h1 := HO3.out.below (below_alloc (Below.refl w3.heap.size w3) (.cells #[.int .i64 y] 3))
            refine ⟨h1.hn, h1.hd, h1.own.grown hg4 (own_ne' h1.own (HW3.out.alloc (.cells #[.int .i64 y] 3)) (by decide)), h1.inF, fun j v d e1 e2 => ⟨⟨(h1.data j v d e1 e2).1.hn, (h1.data j v d e1 e2).1.own.grown hg4 (own_ne' (h1.data j v d e1 e2).1.own (HW3.out.alloc (.cells #[.int .i64 y] 3)) (by decide))⟩, (h1.data j v d e1 e2).2⟩⟩)
          go_roundw
          case rel => exact ⟨k + 1, A4, c4, by omega, by go_num, rfl, HW4, HB4, HO4⟩
          case measure => simp [intOf]; omega
        · obtain rfl : k = ns := by omega
          have hfw : S.wear.take k = S.wear := List.take_of_length_le (by rw [← HNS.out]; exact Nat.le_refl _)
          have hsl2 := HW2.out.sl
          rw [hfw] at hsl2
          have hnk := next_kvs (looksF S) ds S.wear S.most HOr.out.hd
          rw [HLL.out] at hnk
          have hnc := rsec_next A1 (some ⟨q.gw, 0, none⟩) A2 k c1 k q.cw k c2 (kvs (looksF S) ds) _ _ wr (by rw [kvs_len _ _ HOr.out.hd, HLL.out]) (by omega) HOr.out.rslk (by rw [List.length_map]; exact HNS.out) (by omega) (HWS.out.below HBr.out) (by rw [List.length_map]; exact HNS.out) (by omega) hsl2
          rw [hnk, ← HNX.out] at hnc
          have HNC := hide hnc
          have p1 := (HBr.out.cell (p := ⟨q.p, 1, none⟩) zf).trans f1
          clear hfw hsl2 hnk hnc
          go_wp2_with fail
          refine HNC.out.mono ?_
          rintro e w5 ⟨rfl, hb5⟩
          have HB5 := hide (below_step hb5 HBr.out)
          have HO5 := hide (HOr.out.below hb5)
          clear hb5
          obtain ⟨a, ok⟩ := nx
          dsimp only
          cases ok
          · go_wp2_with fail
            go_ret2
            rw [HR.out]
            refine And.intro ?_ HB5.out
            rfl
          · have hsp := (nextL_spec (looksF S) S.wear S.most (looksF_len S).symm).1 (by rw [← HNX.out])
            rw [← HNX.out] at hsp
            have ha := hsp.1
            simp only [] at ha
            obtain ⟨x, hx⟩ : ∃ x, (looksF S)[a]? = some x := ⟨_, List.getElem?_eq_getElem ha⟩
            have hgx : (looksF S).getD a lookZ = x := by rw [List.getD_eq_getElem?_getD, hx]; rfl
            obtain ⟨g, dd, hA, hg, hdd, hO, hlt2, ⟨e0, e1, e2, e3, e4, e5⟩, hF, hFd⟩ := rlk_at HO5.out hx
            subst hA
            obtain ⟨i1, i2, i3⟩ := idx_at hlt2
            obtain ⟨xk, xm, xd, xcnt, xen, xcl⟩ := x
            dsimp only at e0 e1 e2 e3 e4 e5
            have HRR : Hid (R = ((a : Int) * 1024, begunL ⟨xk, xm, xd, xcnt, xen, xcl⟩)) := hide (by rw [HR.out]; simp only [if_true, Bool.false_eq_true, if_false]; rw [hgx])
            have ha8 : a ≤ 8 := by omega
            clear hsp ha hx hgx hO hdd hF hFd
            by_cases h0 : 0 < xcnt
            · have b1 : decide ((0 : Int) < (xcnt : Int)) = true := by simp; omega
              have b2 : decide (0 < xcnt) = true := by simp; omega
              have HBE := hide (show begunL ⟨xk, xm, xd, xcnt, xen, xcl⟩ = true by simp [begunL, h0])
              clear h0
              go_wp2_with fail
              go_quiet (fail)
              go_wp2_with fail
              go_ret2
              rw [HRR.out, HBE.out]
              refine And.intro ?_ ?_
              · rfl
              · have hbx := HB5.out
                repeat' (first | with_reducible assumption | with_reducible exact Below.refl _ _ | with_reducible apply below_alloc | with_reducible apply below_drew1 | with_reducible apply below_drewN | (with_reducible apply below_step; with_reducible assumption) | (with_reducible apply below_sg2; (first | exact Nat.le_refl _ | (simp; done) | omega)))
            · have b1 : decide ((0 : Int) < (xcnt : Int)) = false := by simp; omega
              have b2 : decide (0 < xcnt) = false := by simp; omega
              have HBE := hide (show begunL ⟨xk, xm, xd, xcnt, xen, xcl⟩ = !xcl by simp [begunL, h0])
              clear h0
              go_wp2_with fail
              go_quiet (fail)
              go_wp2_with fail
              go_ret2
              rw [HRR.out, HBE.out]
              refine And.intro ?_ ?_
              · rfl
              · have hbx := HB5.out
                repeat' (first | with_reducible assumption | with_reducible exact Below.refl _ _ | with_reducible apply below_alloc | with_reducible apply below_drew1 | with_reducible apply below_drewN | (with_reducible apply below_step; with_reducible assumption) | (with_reducible apply below_sg2; (first | exact Nat.le_refl _ | (simp; done) | omega)))
    · have hh : nh = true := by
        have h1 := HBQ.out
        cases nh
        · cases h1
        · rfl
      subst hh
      have hna := newL_at.1 HNW.out.symm
      obtain ⟨x, hx⟩ : ∃ x, (looksF S)[na]? = some x := ⟨_, List.getElem?_eq_getElem hna.1⟩
      have hgx : (looksF S).getD na lookZ = x := by rw [List.getD_eq_getElem?_getD, hx]; rfl
      obtain ⟨g, dd, hA, hg, hdd, hO, hlt, ⟨e0, e1, e2, e3, e4, e5⟩, hF, hFd⟩ := rlk_at HOx.out hx
      have hen : x.en ≤ 2000 := (looks_fit HFIT.out x (List.mem_of_getElem? hx)).en
      subst hA
      obtain ⟨i1, i2, i3⟩ := idx_at hlt
      have HRR : Hid (R = ((na : Int) * 1024 + (x.en : Int), false)) := hide (by rw [HR.out]; simp only [if_true]; rw [hgx])
      obtain ⟨xen, hxe⟩ : ∃ n, n = x.en := ⟨_, rfl⟩
      rw [← hxe] at e4 HRR hen
      have hn8 : na ≤ 8 := by omega
      clear hna hx hgx hO hdd hF hFd e0 e1 e2 e3 e5 hxe
      go_wp2_with fail
      go_quiet (fail)
      go_wp2_with fail
      go_ret2
      rw [HRR.out]
      refine And.intro ?_ ?_
      · rfl
      · have hbx := HBW.out
        repeat' (first | with_reducible assumption | with_reducible exact Below.refl _ _ | with_reducible apply below_alloc | with_reducible apply below_drew1 | with_reducible apply below_drewN | (with_reducible apply below_step; with_reducible assumption) | (with_reducible apply below_sg2; (first | exact Nat.le_refl _ | (simp; done) | omega)))
end
section
open Go.RowKit
set_option maxRecDepth 20000
set_option maxHeartbeats 8000000

/-- every sector may be erased -/
def FreeF (S : FS) : Prop := 3 ≤ S.wear.length ∧ ∀ i, i < S.wear.length → ((S.wear.getD i 0 : Nat) : Int) < S.most
theorem free_next {S : FS} (h : FreeF S) : (nextL (looksF S) S.wear S.most).2 = true := by
  cases hn : (nextL (looksF S) S.wear S.most).2
  · have hs := (nextL_spec (looksF S) S.wear S.most (looksF_len S).symm).2 hn
    exfalso
    have key : ∀ j, j < S.wear.length → (newL (looksF S)).1 = j := by
      intro j hj
      have h1 := hs.2 j (by rw [looksF_len]; exact hj)
      unfold skipL at h1
      have h2 := h.2 j hj
      have h3 : decide (S.most - ((S.wear.getD j 0 : Nat) : Int) ≤ 0) = false := by simp only [decide_eq_false_iff_not]; omega
      rw [h3] at h1
      simp only [Bool.and_false, Bool.or_false, Bool.and_eq_true, decide_eq_true_eq] at h1
      exact h1.2.symm
    have := h.1
    have h0 := key 0 (by omega)
    have h1 := key 1 (by omega)
    omega
  · rfl
theorem rplace_ok {S : FS} {m : Nat} (hl : S.b.length = 1024 * S.wear.length) (hf : FreeF S) (hm : m ≤ 960) : ∃ (i a : Nat) (er : Bool), rplaceJ S m = ((a : Int), er) ∧ i < S.wear.length ∧ 1024 * i ≤ a ∧ a + m + 13 ≤ 1024 * i + 1024 ∧ (er = true → a = 1024 * i) := by
  have hp : placeJ (openJ S) S m = ((placeJ (openJ S) S m).1, (placeJ (openJ S) S m).2.1, true) := by
    have h2 : (placeJ (openJ S) S m).2.2 = true := by
      unfold placeJ
      split
      · rfl
      · have h1 := free_next hf
        rw [show (openJ S).looks = looksF S from rfl, if_pos h1]
    rw [← h2]
  obtain ⟨h1, h2, h3⟩ := place_ok hl hp hm
  have hlooks : (openJ S).looks = looksF S := rfl
  have hlast : lastJ (openJ S) = (looksF S).getD (newL (looksF S)).1 lookZ := rfl
  have hhas : (openJ S).has = (newL (looksF S)).2 := rfl
  unfold placeJ at h1 h2
  rw [hlooks, hlast, hhas] at h1 h2
  unfold rplaceJ
  by_cases hb : ((newL (looksF S)).2 && roomL ((looksF S).getD (newL (looksF S)).1 lookZ) m) = true
  · rw [if_pos hb] at h1 h2 ⊢
    have h4 := h2 rfl
    dsimp only [openJ] at h1 h4
    refine ⟨(newL (looksF S)).1, 1024 * (newL (looksF S)).1 + ((looksF S).getD (newL (looksF S)).1 lookZ).en, false, ?_, h1, by omega, by omega, fun h => by cases h⟩
    congr 1
    omega
  · rw [if_neg hb, if_pos (free_next hf)] at h1 h2 ⊢
    dsimp only at h1 h2
    exact ⟨(nextL (looksF S) S.wear S.most).1, 1024 * (nextL (looksF S) S.wear S.most).1, _, by congr 1; omega, h1, Nat.le_refl _, by omega, fun _ => rfl⟩
theorem recS_u32 {S : FS} : U32 (recS S).2.1 := by
  unfold recS
  split
  · rename_i hh
    rcases newL_cases (looksF S) with ⟨a, ha⟩ | ha
    · have := (newL_at.1 ha).1
      rw [looksF_len] at this
      rw [ha, looksF_getD S this]
      exact look_u32
    · rw [ha] at hh; cases hh
  · show (0 : Nat) < _; decide
def rappE (S : FS) (kd : Int) (m : Nat) : Int := if (recS S).2.1 = 4294967295 then 6 else rightR kd ((recS S).2.1 + 1) m
def RAppR (q : FP) (r : Nat) (e0 : Int) (w : World) (e : Ending) (w' : World) : Prop := e = .returned (.int .i64 e0) ∧ Only (fun g => g = r ∨ q.F g) w w'
theorem rjo_Append (kd : Int) (q : FP) (S : FS) (r : Nat) (A : Option Addr) (c : Nat) (A2 : Option Addr) (m c2 : Nat) (d : List UInt8) (w : World) (hD : RF w q S) (hB : Blk w r 79 (rjS q.p S A c false).toArray) (hr : ¬ q.F r)
    (hoff : S.off = false) (ha : S.ahead = -1) (hf : FreeF S) (hm : m = d.length) (hml : m ≤ 1000) (hs : Sl w A2 (d.map bv)) (hops : S.ops + 2000 < 4611686018427387904) :
    Calls Try.prog 13 #[.pointer (some ⟨r, 0, none⟩), .int .i64 kd, .slice A2 m c2] w (RAppR q r (rappE S kd m) w) := by
  have HD := hide hD
  have HBK := hide hB
  have HOA := hide (And.intro hoff ha)
  have HR := hide hr
  have HOPS := hide hops
  have hlen := hD.fit.len
  have hu := recS_u32 (S := S)
  obtain ⟨num, hnum⟩ : ∃ n, n = (recS S).2.1 := ⟨_, rfl⟩
  have hz := hD.lt
  unfold rjS rjC at hB
  have z0 := hB.lt
  have c0 := hB.cell 0 (u := .pointer (some ⟨q.p, 0, none⟩)) rfl
  have c2' := hB.cell 2 (u := .int .u32 ((recS S).2.1 : Nat)) rfl
  have c6 := hB.cell 6 (u := .bool false) rfl
  rw [← hnum] at c2' hu
  obtain ⟨⟨-, -, -, f3, -⟩, -⟩ := hD.c
  rw [hoff] at f3
  obtain ⟨E, hE⟩ : ∃ E, E = rappE S kd m := ⟨_, rfl⟩
  rw [← hE]
  unfold rappE at hE
  rw [← hnum] at hE
  by_cases hx : num = 4294967295
  · have e1 : ((num : Int) == 4294967295) = true := by simp; omega
    rw [if_pos hx] at hE
    subst hE
    clear hD hB hnum hx hz hlen hoff ha hs hr hops hf hm
    go_enter Try.func13, Try.ntmps13
    go_wp2_with fail
    go_ret
    exact (⟨rfl, Only.refl _ _⟩ : RAppR q r 6 w _ _)
  rw [if_neg hx] at hE
  have e1 : ((num : Int) == 4294967295) = false := by simp; omega
  have hnu : num + 1 ≤ 4294967295 := by unfold U32 at hu; omega
  have hbu := rrec_build A2 kd (num + 1) m c2 d w hm hs (by unfold U32; omega)
  rw [← hE, show (((num + 1 : Nat)) : Int) = (num : Int) + 1 by omega] at hbu
  have HBU := hide hbu
  have HE := hide hE
  by_cases h0 : E = 0
  · subst h0
    obtain ⟨_, _, hd960, _, _⟩ := right_ok _ _ _ hE.symm
    obtain ⟨i, at_, er, hpl, hi, ha1, ha2, ha3⟩ := rplace_ok (m := m) hlen hf hd960
    have hPL := rjo_place q S r A c m
    rw [hpl] at hPL
    have HPL := hide hPL
    have hBl : (recB kd (num + 1) d).length = m + 13 := by rw [(build_parse_rec [] [] d kd (num + 1) (by rw [← hm]; exact hE.symm) (by unfold U32; omega)).2, hm]
    have HBL := hide hBl
    have HI := hide (And.intro hi (And.intro ha1 (And.intro ha2 (And.intro ha3 (And.intro hlen hf)))))
    have hi8 := hD.fit.wl8
    have HZ := hide hz
    have ha10 : at_ ≤ 10000 := by omega
    have HM := hide hm
    clear hD hB hnum hx hz hlen hoff ha hs hr hops hf hm hbu hE hpl hPL hBl ha1 ha2 ha3 hi hi8 hd960
    go_enter Try.func13, Try.ntmps13
    go_wp2_with fail
    refine HBU.out.mono ?_
    rintro e w1 ⟨A3, n3, c3, rfl, hO3, hb1⟩
    have HO3 := hide hO3
    have HB1 := hide hb1
    have HD1 := hide (HD.out.below hb1)
    have HBK1 := hide (HBK.out.below hb1 HBK.out.lt)
    have HN3 : Hid (n3 = m + 13) := hide (by rw [hO3.hn, HBL.out])
    have d0 := (hb1.cell (p := ⟨r, 0, none⟩) z0).trans c0
    clear hO3 hb1
    go_wp2_with fail
    refine (HPL.out w1 HD1.out HBK1.out (by omega)).mono ?_
    rintro e w2 ⟨rfl, hb2⟩
    dsimp only
    have HO32 := hide (HO3.out.below hb2)
    have HD2 := hide (HD1.out.below hb2)
    have HBK2 := hide (HBK1.out.below hb2 HBK1.out.lt)
    have HB2 := hide (below_step hb2 HB1.out)
    have e0 := (hb2.cell (p := ⟨r, 0, none⟩) HBK1.out.lt).trans d0
    clear hb2
    have hneg : decide ((at_ : Int) < 0) = false := by simp
    go_upto_region 12 with fail
    go_cut [68] (fun s wx => s = .bool false ∧ ∃ S', Hid (RF wx q S') ∧ Hid (Live S S' 1) ∧ Hid (Only q.F w2 wx))
    case first =>
      cases er
      · go_wp2_with fail
        go_meet
        case rel => exact ⟨rfl, S, HD2, hide ⟨rfl, rfl, rfl, HOA.out.1, HOA.out.2, Nat.le_succ _⟩, hide (Only.refl _ _)⟩
      · have hai := HI.out.2.2.2.1 rfl
        have e5 : (at_ : Int) / 1024 = (i : Int) := by omega
        have HER := hide (rfl_Erase q S i w2 HD2.out HOA.out.2 HOA.out.1 HI.out.1 (by have := HOPS.out; omega) (HI.out.2.2.2.2.2.2 i HI.out.1))
        clear hai
        go_wp2_with fail
        refine HER.out.mono ?_
        rintro e w3 ⟨rfl, ⟨S', hF3, hL3⟩, hO3⟩
        have HH := hide (And.intro hF3 (And.intro hL3 hO3))
        clear hF3 hL3 hO3
        go_wp2_with fail
        go_meet
        case rel => exact ⟨rfl, S', hide HH.out.1, hide HH.out.2.1, hide HH.out.2.2⟩
    case rest =>
      obtain ⟨rfl, S', HF3, HL3, HO3'⟩ := hcut
      have hbk : Blk wc r 79 (rjS q.p S A c false).toArray := (HO3'.out.block r HBK2.out.lt HR.out).trans HBK2.out
      have k0 := hbk.cell 0 (u := .pointer (some ⟨q.p, 0, none⟩)) rfl
      clear hbk
      have hap : at_ + n3 ≤ S'.b.length := by rw [HL3.out.len, HI.out.2.2.2.2.1]; have := HI.out.1; have := HI.out.2.2.1; have := HN3.out; omega
      have hsrc : ∀ W, Only q.F wc W → Sl W A3 ((recB kd (num + 1) d).map bv) := by
        intro W hW
        refine Own.sl (B := w.heap.size) (e := 5) (n := n3) (c := c3) (HO32.out.own.keep (fun g hg hlt _ => ?_))
        have hnF : ¬ q.F g := fun h => by have := HZ.out g h; omega
        rw [hW.block g (Nat.lt_of_lt_of_le hlt HO3'.out.size) hnF, HO3'.out.block g hlt hnF]
      have HPR := hide (rfl_Program q S' at_ A3 n3 c3 (recB kd (num + 1) d) wc HF3.out (by rw [HBL.out]; exact HN3.out) HL3.out.ah HL3.out.off hap hsrc (by have := HL3.out.ops; have := HOPS.out; have := HN3.out; omega))
      clear hap hsrc
      go_wp2_with fail
      refine HPR.out.mono ?_
      rintro e w4 ⟨rfl, ⟨S4, hF4, hL4⟩, hO4⟩
      have HO4 : Hid (Only q.F w2 w4) := hide (HO3'.out.trans hO4 (fun _ _ h => h))
      have hBK4 : Blk w4 r 79 (rjS q.p S A c false).toArray := (HO4.out.block r HBK2.out.lt HR.out).trans HBK2.out
      have HTL := hide (rjo_tell q S4 r _ _ _ _ _ _ _ _ w4 hF4 hBK4)
      clear hF4 hL4 hO4 hBK4
      go_wp2_with fail
      refine HTL.out.mono ?_
      rintro e w5 ⟨A5, c5, rfl, -, -, hO5⟩
      have HO5 := hide hO5
      clear hO5
      go_wp2_with fail
      go_ret
      refine (⟨rfl, ?_⟩ : RAppR q r 0 w _ _)
      exact ((Only.of_below (F := fun g => g = r ∨ q.F g) HB2.out).trans HO4.out (fun _ _ h => .inr h)).trans HO5.out (fun _ _ h => .inl h)
  · have h0' : (E != 0) = true := by simpa using h0
    clear hD hB hnum hx hz hlen hoff ha hs hr hops hf hm hbu hE h0
    go_enter Try.func13, Try.ntmps13
    go_wp2_with fail
    refine HBU.out.mono ?_
    rintro e w1 ⟨A3, n3, c3, rfl, hO3, hb1⟩
    have HB1 := hide hb1
    clear hO3 hb1
    go_wp2_with fail
    go_ret
    exact (⟨rfl, Only.of_below HB1.out⟩ : RAppR q r E w _ _)
end
end Go.Proofs.Ytfddfgonhgidbaa

/- The walk of SnapCarries. -/
import Derived.Test.YtabgdfbiocoimaaCarL
import Derived.Test.YtabgdfbiocoimaaRSm
import Derived.BigQuiet
import Derived.Deep.QuietTactic
namespace Go.Proofs.Ytabgdfbiocoimaa
set_option linter.unusedVariables false
set_option linter.unusedSimpArgs false
set_option linter.unnecessarySimpa false
open Go.RowKit
set_option maxRecDepth 100000
set_option maxHeartbeats 4000000
theorem snapCarries_walk (A : Option Addr) (n c : Nat) (L : List Ent) (A2 : Option Addr) (m c2 : Nat) (X : List SV) (A3 : Option Addr) (k3 c3 : Nat) (Y : List SV) (w : World) (hn : n = L.length) (hL : SlE w A L) (hm : m = X.length) (hc2 : m ≤ c2) (hX : SlV w A2 X) (hk3 : k3 = Y.length) (hc3 : k3 ≤ c3) (hY : SlV w A3 Y) :
    Calls Try.prog 11 #[.agg #[.slice A n c, .slice A2 m c2], .slice A3 k3 c3] w (TrueB w) := by
  have HMD := hide (fun W (h : Below w.heap.size w W) => made_any A n c L A2 m c2 X W hn (hL.below h) hm hc2 (hX.below h))
  have HME := hide (fun W (h : Below w.heap.size w W) => made_any A n c L A3 k3 c3 Y W hn (hL.below h) hk3 hc3 (hY.below h))
  have HN := hide hn
  have HK3 := hide hk3
  have HC3 := hide hc3
  have HY := hide hY
  have HL := hide hL
  clear hn hL hm hc2 hX hk3 hc3 hY
  have hbw := below_alloc (Below.refl w.heap.size w) (.cells #[.slice A n c, .slice A2 m c2] 72)
  have q := blk_one w 72 #[.slice A n c, .slice A2 m c2]
  cases hlx : lightB Y
  · have HLX := hide hlx
    clear hlx
    go_enter Try.func11, Try.ntmps11
    go_wp2_with fail
    refine (light_any A3 k3 c3 Y _ HK3.out HC3.out (HY.out.below hbw)).mono ?_
    rintro e w1 ⟨rfl, rfl⟩
    rw [HLX.out]
    go_wp2_with fail
    refine (known_18 _).mono ?_
    rintro e w2 ⟨rfl, hb2⟩
    go_wp2_with fail
    go_ret
    exact (⟨rfl, below_step hb2 hbw⟩ : TrueB w _ _)
  have HLX := hide hlx
  clear hlx
  have HQ := hide q
  have q_c0 := q.cell 0 rfl
  have q_f0 := q.frozen 0
  have q_c1 := q.cell 1 rfl
  have q_f1 := q.frozen 1
  go_enter Try.func11, Try.ntmps11
  go_wp2_with fail
  refine (light_any A3 k3 c3 Y _ HK3.out HC3.out (HY.out.below hbw)).mono ?_
  rintro e w1 ⟨rfl, rfl⟩
  rw [HLX.out]
  go_wp2_with fail
  refine (HMD.out _ hbw).mono ?_
  rintro e w1 ⟨vd, vr, ok, rfl, hok, hno, hb1⟩
  have z0 := hbw.size
  have z1 := hb1.size
  have hbw1 := below_step hb1 hbw
  have HQ1 := hide (HQ.out.below hb1 HQ.out.lt)
  have q1 := HQ1.out
  clear q_c0 q_f0 q_c1 q_f1
  have q1_c0 := q1.cell 0 rfl
  have q1_f0 := q1.frozen 0
  have q1_c1 := q1.cell 1 rfl
  have q1_f1 := q1.frozen 1
  go_wp2_with fail
  refine (HME.out _ hbw1).mono ?_
  rintro e w2 ⟨ve, vr2, ok2, rfl, hok2, hno2, hb2⟩
  have z2 := hb2.size
  have hbw2 := below_step hb2 hbw1
  have HQ2 := hide (HQ1.out.below hb2 HQ1.out.lt)
  have q2 := HQ2.out
  clear q1_c0 q1_f0 q1_c1 q1_f1
  cases ok
  · obtain ⟨rfl, rfl⟩ := hno rfl
    clear hok hno
    go_wp2_with fail
    refine (known_18 _).mono ?_
    rintro e w3 ⟨rfl, hb3⟩
    go_wp2_with fail
    go_ret
    exact (⟨rfl, below_step hb3 hbw2⟩ : TrueB w _ _)
  cases ok2
  · obtain ⟨rfl, rfl⟩ := hno2 rfl
    obtain ⟨p, pr, rfl, rfl, _⟩ := hok rfl
    clear hno hno2 hok2
    go_wp2_with fail
    refine (known_18 _).mono ?_
    rintro e w3 ⟨rfl, hb3⟩
    go_wp2_with fail
    go_ret
    exact (⟨rfl, below_step hb3 hbw2⟩ : TrueB w _ _)
  obtain ⟨p, pr, rfl, rfl, hT, hS, hli, _, hR⟩ := hok rfl
  obtain ⟨p2, pr2, rfl, rfl, hT2, _, _, _, _⟩ := hok2 rfl
  obtain ⟨V1, hV1⟩ : ∃ V, V = pokeAll L (L.map Ent.df) X := ⟨_, rfl⟩
  obtain ⟨V2, hV2⟩ : ∃ V, V = pokeAll L (L.map Ent.df) Y := ⟨_, rfl⟩
  rw [← hV1] at hT
  rw [← hV2] at hT2
  obtain ⟨Fd, Fr, gl, n1, cl, Av, cv, ds, es, Al2, cl2, Av2, cv2, ds2, es2, T⟩ := hT
  obtain ⟨Fe, Fr', gl', n1', cl', Av', cv', ds', es', Al2', cl2', Av2', cv2', ds2', es2', T'⟩ := hT2
  obtain rfl : n1 = n := T.hn.trans HN.out.symm
  obtain rfl : n1' = n1 := T'.hn.trans HN.out.symm
  have HS := hide hS
  have h200 : n1' ≤ 200 := by rw [HN.out]; exact light_len hli
  have H1 : Hid (n1' ≤ 1000) := hide (by omega)
  have HD := hide (T.d.below hb2)
  have HE := hide T'.d
  have HFe : Hid (∀ i, Fe i → w.heap.size ≤ i ∧ w1.heap.size ≤ i ∧ i < w2.heap.size) := hide (fun i hi => by have := T'.bd i hi; omega)
  have hC := poke_carry hS (V1 := V1) (V2 := V2) T.d.lenV T'.d.lenV (by rw [hV1]; exact vals_poke hS (by simp) (vals_df hR) X)
  obtain ⟨Z, hZ⟩ : ∃ Z, Z = ofV L V1 1 := ⟨_, rfl⟩
  obtain ⟨V3, hV3⟩ : ∃ V, V = pokeAll L V2 Z := ⟨_, rfl⟩
  rw [← hZ, ← hV3] at hC
  have HZ := hide hZ
  have HC := hide hC
  have HV3L : Hid (V3.length = L.length) := hide (by rw [hV3, poke_len]; exact T'.d.lenV)
  clear hok hno hok2 hno2 hV1 hV2 T T' hS hli hR hC hZ hV3
  go_wp2_with fail
  refine (dict_values _ HE.out H1.out).mono ?_
  rintro e w3 ⟨A4, n4, c4, ds4, rfl, hO4, _, hb3⟩
  have hn4 : n4 = n1' := by rw [hO4.hn, svL_len _ _ HE.out.lenV, HN.out]
  subst hn4
  have z3 := hb3.size
  have HO4 := hide hO4
  have hbw3 := below_step hb3 hbw2
  clear hO4
  go_wp2_with fail
  refine (snap_of 1 _ (HD.out.below hb3) H1.out).mono ?_
  rintro e w4 ⟨A5, n5, c5, ds5, rfl, hO5, hb4⟩
  rw [← HZ.out] at hO5
  have z4 := hb4.size
  have hn5 : n5 ≤ 1000 := by rw [hO5.hn, HZ.out]; have := of_len L V1 1; have := HN.out; omega
  have HO5 := hide hO5
  have hbw4 := below_step hb4 hbw3
  have HFZ : Hid (fitsV Z) := hide (by rw [HZ.out]; exact of_fits HD.out 1)
  clear hO5
  go_wp2_with fail
  refine (snap_apply A5 n5 c5 Z _ (HE.out.below (below_step hb4 hb3)) HS.out H1.out HO5.out.hn (by omega) (fun W h => (HO5.out.keep (fun g hg hlt => h.block g hlt (fun hf => by have := HFe.out g hf; have hg : w3.heap.size ≤ g := hg; omega))).slV) HFZ.out).mono ?_
  rintro e w5 ⟨V5, es5, rfl, hV5, hE5, ho5⟩
  have hbw5 := below_only ho5 hbw4 (fun i hi => (HFe.out i hi).1)
  rw [HC.out.1]
  rw [HC.out.2.1] at hV5
  subst hV5
  have z5 := ho5.size
  have HE5 := hide hE5
  have HO5' := hide (HO5.out.keep (fun g hg hlt => ho5.block g hlt (fun hf => by have := HFe.out g hf; have hg : w3.heap.size ≤ g := hg; omega)))
  have HO4' := hide ((HO4.out.below hb4).keep (fun g hg hlt => ho5.block g hlt (fun hf => by have := HFe.out g hf; have hg : w2.heap.size ≤ g := hg; omega)))
  have HQ5 := hide (blk_only ((HQ2.out.below hb3 HQ2.out.lt).below hb4 (by have := HQ2.out.lt; omega)) ho5 (fun hf => by have := HFe.out _ hf; have := HQ1.out.lt; omega))
  clear hE5 ho5
  go_wp2_with fail
  refine (snap_of 1 _ HE5.out H1.out).mono ?_
  rintro e w6 ⟨A6, n6, c6, ds6, rfl, hO6, hb6⟩
  rw [HC.out.2.2.1] at hO6
  obtain rfl : n6 = n5 := hO6.hn.trans HO5.out.hn.symm
  have HO6 := hide hO6
  have hbw6 := below_step hb6 hbw5
  clear hO6
  go_wp2_with fail
  refine (vals_same A6 A5 n6 n6 c6 c5 Z _ HO6.out.hn HO6.out.hn HO6.out.own.le HO5.out.own.le (by omega) HO6.out.slV (HO5'.out.below hb6).slV).mono ?_
  rintro e w7 ⟨rfl, hb7⟩
  have hb57 := below_step hb7 hb6
  have hbw7 := below_step hb7 hbw6
  have HQ7 := hide (HQ5.out.below hb57 HQ5.out.lt)
  go_wp2_with fail
  refine (dict_values _ (HE5.out.below hb57) H1.out).mono ?_
  rintro e w8 ⟨A8, n8, c8, ds8, rfl, hO8, _, hb8⟩
  have hn8 : n8 = n4 := by rw [hO8.hn, svL_len _ _ HV3L.out, HN.out]
  subst hn8
  have HO8 := hide hO8
  have hbw8 := below_step hb8 hbw7
  have hb58 := below_step hb8 hb57
  have HQ8 := hide (HQ7.out.below hb8 HQ7.out.lt)
  have q8 := HQ8.out
  have z8 := q8.lt
  have HO48 := hide (HO4'.out.below hb58)
  clear hO8 q2
  have q8_c0 := q8.cell 0 rfl
  have q8_f0 := q8.frozen 0
  have q8_c1 := q8.cell 1 rfl
  have q8_f1 := q8.frozen 1
  go_wp2_with fail
  go_loopw [14] (fun j wr => ∃ k, k ≤ n8 ∧ j = .int .i64 (k : Nat) ∧ Below w8.heap.size w8 wr) (fun j _ => n8 - (intOf j).toNat)
  case atStart => exact ⟨0, by omega, rfl, Below.refl _ _⟩
  case round =>
    obtain ⟨k, hk, rfl, hbr⟩ := hrel
    have hbwr := below_step hbr hbw8
    have qr := HQ8.out.below hbr HQ8.out.lt
    have zr := qr.lt
    clear q8_c0 q8_f0 q8_c1 q8_f1
    have qr_c0 := qr.cell 0 rfl
    have qr_f0 := qr.frozen 0
    have qr_c1 := qr.cell 1 rfl
    have qr_f1 := qr.frozen 1
    by_cases hlt : k < n8
    · obtain ⟨E, hE⟩ : ∃ E, L[k]? = some E := ⟨L[k]'(by rw [← HN.out]; exact hlt), List.getElem?_eq_getElem _⟩
      obtain ⟨v, hv⟩ : ∃ v, V5[k]? = some v := ⟨V5[k]'(by rw [HV3L.out, ← HN.out]; exact hlt), List.getElem?_eq_getElem _⟩
      obtain ⟨u, hu⟩ : ∃ u, V2[k]? = some u := ⟨V2[k]'(by rw [HE.out.lenV, ← HN.out]; exact hlt), List.getElem?_eq_getElem _⟩
      obtain ⟨b9, off9, Aj9, cj9, rfl, ⟨e0, e1, e2, e3, e4, e5, e6, e7, e8, e9, e10⟩, _, _⟩ := HL.out.two hbwr hE
      obtain ⟨i1, i2, i3⟩ := idx_at hlt
      cases hst : E.st
      · have huv : u = v := by
          have := HC.out.2.2.2 k E hE hst
          rw [hu, hv] at this
          injection this with this
          exact this.symm
        subst huv
        rw [hst] at e6
        obtain ⟨d8, hd8, hOd8, _⟩ := (HO8.out.below hbr).elem (svL_at hE hv)
        obtain ⟨g8, hA8, z8', hc8⟩ := (HO8.out.below hbr).cells svF_len (svL_at hE hv) hd8 (by omega)
        have c82 : wr.cell? ⟨g8, k * 3 + 2, none⟩ = some (.slice d8.1 u.length d8.2) := hc8 2 _ rfl
        obtain ⟨d4, hd4, hOd4, _⟩ := (HO48.out.below hbr).elem (svL_at hE hu)
        obtain ⟨g4, hA4, z4', hc4⟩ := (HO48.out.below hbr).cells svF_len (svL_at hE hu) hd4 (by omega)
        have c42 : wr.cell? ⟨g4, k * 3 + 2, none⟩ = some (.slice d4.1 u.length d4.2) := hc4 2 _ rfl
        subst hA8 hA4
        have k1 := fun nq => str_b (w := wr.drewN nq) d8.2 rfl (l := u) (show Sl (wr.drewN nq) d8.1 (u.map bv) from hOd8.sl)
        have k2 := fun nq => str_b (w := wr.drewN nq) d4.2 rfl (l := u) (show Sl (wr.drewN nq) d4.1 (u.map bv) from hOd4.sl)
        clear hE hv hu hst hd8 hOd8 hc8 hd4 hOd4 hc4 e0 e1 e2 e3 e4 e5 e7 e8 e9 e10
        go_wp2_with fail
        go_quiet (fail)
        go_wp2_with fail
        go_roundw
        case rel => exact ⟨k + 1, by omega, by go_num, below_drewN hbr _⟩
        case measure => simp [intOf]; omega
      · rw [hst] at e6
        clear hE hv hu hst e0 e1 e2 e3 e4 e5 e7 e8 e9 e10
        go_wp2_with fail
        go_quiet (fail)
        go_wp2_with fail
        go_roundw
        case rel => exact ⟨k + 1, by omega, by go_num, below_drewN hbr _⟩
        case measure => simp [intOf]; omega
    · go_wp2_with fail
      refine (known_18 _).mono ?_
      rintro e w9 ⟨rfl, hb9⟩
      go_wp2_with fail
      go_ret
      exact (⟨rfl, below_step hb9 hbwr⟩ : TrueB w _ _)
end Go.Proofs.Ytabgdfbiocoimaa

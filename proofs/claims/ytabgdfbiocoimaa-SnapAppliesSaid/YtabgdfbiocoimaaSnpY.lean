/- The walk of SnapApplies. -/
import Derived.Test.YtabgdfbiocoimaaSnpC
import Derived.Test.YtabgdfbiocoimaaRDicV
import Derived.Test.YtabgdfbiocoimaaDicV
import Derived.Test.YtabgdfbiocoimaaRSm
namespace Go.Proofs.Ytabgdfbiocoimaa
set_option linter.unusedVariables false
set_option linter.unusedSimpArgs false
set_option linter.unnecessarySimpa false
open Go.RowKit
set_option maxRecDepth 100000
set_option maxHeartbeats 4000000
theorem Two.below {N : Nat} {X : Nat → Prop} {L : List Ent} {V : List (List UInt8)} {pr p : Nat} {w w' : World} {Fd Fr : Nat → Prop} {gl n cl : Nat} {Av : Option Addr} {cv : Nat} {ds es : List (Option Addr × Nat)} {Al2 : Option Addr} {cl2 : Nat} {Av2 : Option Addr} {cv2 : Nat} {ds2 es2 : List (Option Addr × Nat)}
    (h : Two N X L V pr w p Fd Fr gl n cl Av cv ds es Al2 cl2 Av2 cv2 ds2 es2) (hb : Below w.heap.size w w') : Two N X L V pr w' p Fd Fr gl n cl Av cv ds es Al2 cl2 Av2 cv2 ds2 es2 := by
  have := hb.size
  exact ⟨h.hn, h.d.below hb, h.r.below hb, fun g hg => ⟨(h.bd g hg).1, by have := (h.bd g hg).2.1; omega, (h.bd g hg).2.2⟩, fun g hg => ⟨(h.br g hg).1, by have := (h.br g hg).2.1; omega, (h.br g hg).2.2⟩, h.dj⟩
theorem snapApplies_walk (A : Option Addr) (n c : Nat) (L : List Ent) (A2 : Option Addr) (m c2 : Nat) (X : List SV) (A3 : Option Addr) (k3 c3 : Nat) (Y : List SV) (w : World) (hn : n = L.length) (hL : SlE w A L) (hm : m = X.length) (hc2 : m ≤ c2) (hX : SlV w A2 X) (hk3 : k3 = Y.length) (hc3 : k3 ≤ c3) (hY : SlV w A3 Y) :
    Calls Try.prog 9 #[.agg #[.slice A n c, .slice A2 m c2], .slice A3 k3 c3] w (TrueB w) := by
  have HMD := hide (fun W (h : Below w.heap.size w W) => made_any A n c L A2 m c2 X W hn (hL.below h) hm hc2 (hX.below h))
  have HN := hide hn
  have HK3 := hide hk3
  have HC3 := hide hc3
  have HY := hide hY
  clear hn hL hm hc2 hX hk3 hc3 hY
  have hbw := below_alloc (Below.refl w.heap.size w) (.cells #[.slice A n c, .slice A2 m c2] 72)
  cases hlx : lightB Y
  · have HLX := hide hlx
    clear hlx
    go_enter Try.func9, Try.ntmps9
    go_wp2_with fail
    refine (light_any A3 k3 c3 Y _ HK3.out HC3.out (HY.out.below hbw)).mono ?_
    rintro e w1 ⟨rfl, rfl⟩
    rw [HLX.out]
    go_wp2_with fail
    refine (known_18 _).mono ?_
    rintro e w2 ⟨rfl, hb2⟩
    go_wp2_with fail
    go_ret
    exact (⟨rfl, below_step hb2 hbw⟩ : TrueB w _ _)
  have HLX := hide hlx
  have HFY := hide (lightB_fit hlx)
  have hk200 : k3 ≤ 200 := by rw [HK3.out]; exact HFY.out.1
  have HFV : Hid (fitsV Y) := hide (fun v hv => by have := HFY.out.2 v hv; omega)
  clear hlx
  go_enter Try.func9, Try.ntmps9
  go_wp2_with fail
  refine (light_any A3 k3 c3 Y _ HK3.out HC3.out (HY.out.below hbw)).mono ?_
  rintro e w1 ⟨rfl, rfl⟩
  rw [HLX.out]
  go_wp2_with fail
  refine (HMD.out _ hbw).mono ?_
  rintro e w1 ⟨vd, vr, ok, rfl, hok, hno, hb1⟩
  have z0 := hbw.size
  have z1 := hb1.size
  replace hb1 := below_step hb1 hbw
  obtain ⟨N0, hN0⟩ : ∃ N0, N0 = (w.alloc (.cells #[.slice A n c, .slice A2 m c2] 72)).heap.size := ⟨_, rfl⟩
  rw [← hN0] at z0 z1 hok
  clear hN0
  cases ok
  · obtain ⟨rfl, rfl⟩ := hno rfl
    clear hok hno
    go_wp2_with fail
    refine (known_18 _).mono ?_
    rintro e w2 ⟨rfl, hb2⟩
    go_wp2_with fail
    go_ret
    exact (⟨rfl, below_step hb2 hb1⟩ : TrueB w _ _)
  · obtain ⟨p, pr, rfl, rfl, hT, hS, hli, _, _⟩ := hok rfl
    obtain ⟨V, hV⟩ : ∃ V, V = pokeAll L (L.map Ent.df) X := ⟨_, rfl⟩
    rw [← hV] at hT
    obtain ⟨Fd, Fr, gl, n1, cl, Av, cv, ds, es, Al2, cl2, Av2, cv2, ds2, es2, T⟩ := hT
    have HT := hide T
    have HS := hide hS
    have h200 : n1 ≤ 200 := by rw [T.hn]; exact light_len hli
    have H1 : Hid (n1 ≤ 1000) := hide (by omega)
    clear hok hno hV T hS hli
    go_wp2_with fail
    refine (snap_check A3 k3 c3 Y _ HT.out.d HS.out H1.out HK3.out (by omega) (HY.out.below hb1) HFV.out).mono ?_
    rintro e w2 ⟨rfl, hb2⟩
    have hbw2 := below_step hb2 hb1
    obtain ⟨cc, hcc⟩ : ∃ cc, cc = checkL L Y := ⟨_, rfl⟩
    have HCC := hide hcc
    rw [← hcc]
    clear hcc
    go_wp2_with fail
    refine (rsnap_check A3 k3 c3 Y _ (HT.out.r.below hb2) H1.out HK3.out (by omega) (HY.out.below hbw2) HFV.out).mono ?_
    rintro e w3 ⟨rfl, hb3⟩
    rw [← HCC.out]
    have hbw3 := below_step hb3 hbw2
    have hb13 := below_step hb3 hb2
    have z13 := hb13.size
    have HT3 := hide (HT.out.below hb13)
    have HO3 : Hid (∀ i, Fd i → w.heap.size ≤ i) := hide (fun i hi => by have := (HT.out.bd i hi).1; omega)
    have HOR : Hid (∀ i, Fr i → w.heap.size ≤ i) := hide (fun i hi => by have := (HT.out.br i hi).1; omega)
    go_wp2_with fail
    refine (snap_apply A3 k3 c3 Y _ HT3.out.d HS.out H1.out HK3.out (by omega) (fun W h => HY.out.below (below_only h hbw3 HO3.out)) HFV.out).mono ?_
    rintro e w4 ⟨V4, es4, rfl, hV4, hD4, ho4⟩
    have hbw4 := below_only ho4 hbw3 HO3.out
    rw [← HCC.out]
    go_wp2_with fail
    refine (rsnap_apply A3 k3 c3 Y _ (HT3.out.other ho4) H1.out HK3.out (by omega) (fun W h => HY.out.below (below_only h hbw4 HOR.out)) HFV.out).mono ?_
    rintro e w5 ⟨V5, es5, rfl, hV5, hD5, ho5⟩
    have hbw5 := below_only ho5 hbw4 HOR.out
    rw [← HCC.out]
    obtain rfl : V5 = V4 := hV5.trans hV4.symm
    have hT5 := HT3.out.both ho4 hD4 ho5 hD5 (fun g hg => hg.elim) (by omega)
    obtain ⟨Fd5, Fr5, gl5, n5, cl5, Av5, cv5, ds5, es5', Al5, cl5', Av5', cv5', ds5', es5'', T5⟩ := hT5
    have HT5 := hide T5
    have h205 : n5 ≤ 1000 := by rw [T5.hn, ← HT.out.hn]; exact H1.out
    clear hV4 hD4 ho4 hV5 hD5 ho5 T5
    go_wp2_with fail
    refine (dict_values _ HT5.out.d h205).mono ?_
    rintro e w6 ⟨A6, n6, c6, ds6, rfl, hO6, _, hb6⟩
    have HO6 := hide hO6
    have hbw6 := below_step hb6 hbw5
    clear hO6
    go_wp2_with fail
    refine (rdic_values _ (HT5.out.r.below hb6) h205).mono ?_
    rintro e w7 ⟨A7, n7, c7, ds7, rfl, hO7, _, hb7⟩
    have HO7 := hide hO7
    have hbw7 := below_step hb7 hbw6
    obtain rfl : n7 = n6 := HO7.out.hn.trans HO6.out.hn.symm
    have hn6 : n7 ≤ 1000 := by rw [HO6.out.hn, svL_len _ _ HT5.out.d.lenV, ← HT5.out.hn]; exact h205
    clear hO7
    go_wp2_with fail
    refine (vals_same A6 A7 n7 n7 c6 c7 (svL L V5) _ HO6.out.hn HO7.out.hn HO6.out.own.le HO7.out.own.le (by omega) (HO6.out.below hb7).slV HO7.out.slV).mono ?_
    rintro e w8 ⟨rfl, hb8⟩
    have hbw8 := below_step hb8 hbw7
    go_wp2_with fail
    refine (snap_check0 _ _).mono ?_
    rintro e w9 ⟨rfl, rfl⟩
    go_wp2_with fail
    refine (snap_apply0 _ _).mono ?_
    rintro e w9 ⟨rfl, rfl⟩
    go_wp2_with fail
    refine (known_18 _).mono ?_
    rintro e w10 ⟨rfl, hb10⟩
    go_wp2_with fail
    go_ret
    exact (⟨rfl, below_step hb10 hbw8⟩ : TrueB w _ _)
end Go.Proofs.Ytabgdfbiocoimaa

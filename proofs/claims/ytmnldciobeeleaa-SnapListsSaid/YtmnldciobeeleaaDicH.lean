/- Package dict: held, Entry. -/
import Derived.Test.YtmnldciobeeleaaDicR
namespace Go.Proofs.Ytmnldciobeeleaa
set_option linter.unusedVariables false
set_option linter.unusedSimpArgs false
set_option linter.unnecessarySimpa false
open Go.RowKit
set_option maxRecDepth 100000
set_option maxHeartbeats 4000000
theorem dict_held (E : Ent) (A : Option Addr) (n c : Nat) (w : World) (hn : n = E.df.length) (hl : n ≤ 35184372088832) (hs : Sl w A (E.df.map bv)) :
    Calls Try.prog 39 #[.agg (entV E A n c)] w fun e w' => ∃ A' c', e = .returned (.agg (entV E A' n c')) ∧ OwnB w' w.heap.size A' n c' E.df ∧ Below w.heap.size w w' := by
  have HN := hide hn
  have HS := hide hs
  clear hn hs
  have K0 := blk_two w 56 56 (entV E A n c) (entV zeroE none 0 0)
  have hbw := below_alloc (below_alloc (Below.refl w.heap.size w) (.cells (entV E A n c) 56)) (.cells (entV zeroE none 0 0) 56)
  have HS1 := hide (HS.out.below hbw)
  have HQ : Hid (∀ w1 A1 c1, OwnB w1 (w.heap.size + 1 + 1) A1 n c1 E.df → Below w.heap.size w w1 → Blk w1 (w.heap.size + 1) 56 (entV zeroE none 0 0) → (Blk (put11 (w1.setCell ⟨w.heap.size, 10, none⟩ (.slice A1 n c1)) (w.heap.size + 1) E A1 n c1) (w.heap.size + 1) 56 (entV E A1 n c1) ∧
      OwnB (put11 (w1.setCell ⟨w.heap.size, 10, none⟩ (.slice A1 n c1)) (w.heap.size + 1) E A1 n c1) w.heap.size A1 n c1 E.df ∧ Below w.heap.size w (put11 (w1.setCell ⟨w.heap.size, 10, none⟩ (.slice A1 n c1)) (w.heap.size + 1) E A1 n c1))) := hide (by
    intro w1 A1 c1 hO hb hB
    have o1 : Only (fun k => k = w.heap.size ∨ k = w.heap.size + 1) w1 (put11 (w1.setCell ⟨w.heap.size, 10, none⟩ (.slice A1 n c1)) (w.heap.size + 1) E A1 n c1) :=
      (Only.of_set (F := fun k => k = w.heap.size ∨ k = w.heap.size + 1) (.inl rfl) _).trans (put11_only _ _ _ _ _ _) (fun i _ h => .inr h)
    refine ⟨put11_blk (hB.far (p := ⟨w.heap.size, 10, none⟩) (by simp) _) rfl E A1 n c1, (ownB_only hO o1 (fun g h1 _ h2 => by omega)).mono (by omega), hb.trans (o1.below hb.size (fun i h => by omega))⟩)
  unfold put11 at HQ
  have HQ' := hide HQ
  clear HQ
  unfold entV zeroE at K0 hbw
  unfold entV
  obtain ⟨K1, K2⟩ := K0
  go_enter Try.func39, Try.ntmps39
  go_wp2_with fail
  refine (dict_own A n c E.df _ HN.out hl HS1.out).mono ?_
  rintro e w1 ⟨A1, c1, rfl, hO1, hb1⟩
  have q1 := K1.below hb1 K1.lt
  have q2 := K2.below hb1 K2.lt
  replace hO1 := hO1.mono (B' := w.heap.size + 1 + 1) (by simp)
  have HO := hide hO1
  have HQ2 := hide q2
  have hbw2 := below_step hb1 hbw
  have hne : w.heap.size ≠ w.heap.size + 1 := by omega
  clear K1 K2 hO1
  obtain ⟨q1_c0, q1_c1, q1_c2, q1_c3, q1_c4, q1_c5, q1_c6, q1_c7, q1_c8, q1_c9, q1_c10⟩ := cel11 q1
  have q1_f := q1.frozen
  obtain ⟨q2_c0, q2_c1, q2_c2, q2_c3, q2_c4, q2_c5, q2_c6, q2_c7, q2_c8, q2_c9, q2_c10⟩ := cel11 q2
  have q2_f := q2.frozen
  go_wp2_with fail
  obtain ⟨r1, r2, r3⟩ := HQ'.out.out w1 A1 c1 HO.out hbw2 HQ2.out
  exact ret_ent (E := E) (A := A1) (n := n) (c := c1) rfl rfl rfl r1 ⟨A1, c1, rfl, r2, r3⟩
theorem dict_entry_no (k : Int) (w : World) (p gl n cl cv : Nat) (Av : Option Addr) (hB : Blk w p 76 #[.slice (some ⟨gl, 0, none⟩) n cl, .slice Av n cv]) (hk : k < 0 ∨ (0 ≤ k ∧ (n : Int) ≤ k)) :
    Calls Try.prog 24 #[.pointer (some ⟨p, 0, none⟩), .int .i64 k] w fun e w' => e = .returned (.tuple #[.agg (entV zeroE none 0 0), .bool false]) ∧ Below w.heap.size w w' := by
  have hL := hide (fun W (h : Blk W p 76 #[.slice (some ⟨gl, 0, none⟩) n cl, .slice Av n cv]) => dict_len W h)
  have q := blk_one w 56 (entV zeroE none 0 0)
  have hbw := below_alloc (Below.refl w.heap.size w) (.cells (entV zeroE none 0 0) 56)
  have HQ := hide q
  have hB1 := hide (hB.alloc (.cells (entV zeroE none 0 0) 56))
  unfold entV zeroE at q hbw hB1
  obtain ⟨q_c0, q_c1, q_c2, q_c3, q_c4, q_c5, q_c6, q_c7, q_c8, q_c9, q_c10⟩ := cel11 q
  have q_f := q.frozen
  rcases hk with hk | ⟨hk1, hk2⟩
  · go_enter Try.func24, Try.ntmps24
    go_wp2_with fail
    exact ret_ent_tmp (E := zeroE) (A := none) (n := 0) (c := 0) rfl rfl rfl HQ.out ⟨rfl, hbw⟩
  · go_enter Try.func24, Try.ntmps24
    go_wp2_with fail
    refine (hL.out _ hB1.out).mono ?_
    rintro e w1 ⟨rfl, rfl⟩
    go_wp2_with fail
    exact ret_ent_tmp (E := zeroE) (A := none) (n := 0) (c := 0) rfl rfl rfl HQ.out ⟨rfl, hbw⟩
theorem dict_entry0 (k : Int) (w : World) :
    Calls Try.prog 24 #[.pointer none, .int .i64 k] w fun e w' => e = .returned (.tuple #[.agg (entV zeroE none 0 0), .bool false]) ∧ Below w.heap.size w w' := by
  have q := blk_one w 56 (entV zeroE none 0 0)
  have hbw := below_alloc (Below.refl w.heap.size w) (.cells (entV zeroE none 0 0) 56)
  have HQ := hide q
  unfold entV zeroE at q hbw
  obtain ⟨q_c0, q_c1, q_c2, q_c3, q_c4, q_c5, q_c6, q_c7, q_c8, q_c9, q_c10⟩ := cel11 q
  have q_f := q.frozen
  rcases (show k < 0 ∨ 0 ≤ k by omega) with hk | hk
  · go_enter Try.func24, Try.ntmps24
    go_wp2_with fail
    exact ret_ent_tmp (E := zeroE) (A := none) (n := 0) (c := 0) rfl rfl rfl HQ.out ⟨rfl, hbw⟩
  · go_enter Try.func24, Try.ntmps24
    go_wp2_with fail
    refine (dict_len0 _).mono ?_
    rintro e w1 ⟨rfl, rfl⟩
    go_wp2_with fail
    exact ret_ent_tmp (E := zeroE) (A := none) (n := 0) (c := 0) rfl rfl rfl HQ.out ⟨rfl, hbw⟩
theorem dict_entry_yes (k : Nat) (E : Ent) (w : World) (F : Nat → Prop) (p gl n cl cv : Nat) (Av : Option Addr) (L : List Ent) (V : List (List UInt8)) (ds es : List (Option Addr × Nat))
    (hD : DB 76 w F p (some ⟨gl, 0, none⟩) n cl Av cv L V ds es) (hE : L[k]? = some E) :
    Calls Try.prog 24 #[.pointer (some ⟨p, 0, none⟩), .int .i64 k] w fun e w' => ∃ A c, e = .returned (.tuple #[.agg (entV E A E.df.length c), .bool true]) ∧ OwnB w' w.heap.size A E.df.length c E.df ∧ Below w.heap.size w w' := by
  have hbw := below_alloc (Below.refl w.heap.size w) (.cells (entV zeroE none 0 0) 56)
  have q := blk_one w 56 (entV zeroE none 0 0)
  have hk : k < n := by rw [hD.ents.hn]; exact (List.getElem?_eq_some_iff.1 hE).1
  have hD1 := hD.below hbw
  obtain ⟨g, d, hA, zg, _, hO, hfit, c0, c1, c2, c3, c4, c5, c6, c7, c8, c9, c10⟩ := hD1.ent hE
  injection hA with hA
  injection hA with hA
  subst hA
  have hBr := hD1.blk
  have HO := hide hO.sl
  have hf : E.df.length ≤ 35184372088832 := hfit.1
  have HQ : Hid (∀ w1 A1 c1, OwnB w1 (w.heap.size + 1) A1 E.df.length c1 E.df → Below w.heap.size w w1 → Blk w1 w.heap.size 56 (entV zeroE none 0 0) → (Blk (put11 w1 w.heap.size E A1 E.df.length c1) w.heap.size 56 (entV E A1 E.df.length c1) ∧
      OwnB (put11 w1 w.heap.size E A1 E.df.length c1) w.heap.size A1 E.df.length c1 E.df ∧ Below w.heap.size w (put11 w1 w.heap.size E A1 E.df.length c1))) := hide (by
    intro w1 A1 c1 hO hb hB
    have o1 := put11_only w1 w.heap.size E A1 E.df.length c1
    exact ⟨put11_blk hB rfl E A1 _ c1, (ownB_only hO o1 (fun g h1 _ h2 => by omega)).mono (by omega), hb.trans (o1.below hb.size (fun i h => by omega))⟩)
  unfold put11 at HQ
  have HQ' := hide HQ
  clear HQ hD hE hO hfit hD1
  unfold entV zeroE at q hbw hBr c0 c1 c2 c3 c4 c5 c6 c7 c8 c9 c10 zg
  have HB := hide hBr
  obtain ⟨hBr_c0, hBr_c1⟩ := cel2 hBr
  have hBr_f := hBr.frozen
  go_enter Try.func24, Try.ntmps24
  go_wp2_with fail
  refine (dict_len _ HB.out).mono ?_
  rintro e w1 ⟨rfl, rfl⟩
  go_wp2_with fail
  refine (dict_held E d.1 E.df.length d.2 _ rfl hf HO.out).mono ?_
  rintro e w2 ⟨A2, c2', rfl, hO2, hb2⟩
  clear c0 c1 c2 c3 c4 c5 c6 c7 c8 c9 c10
  clear hBr_c0 hBr_c1 hBr_f
  have q2 := q.below hb2 q.lt
  have HQ2 := hide q2
  replace hO2 := hO2.mono (B' := w.heap.size + 1) (by simp)
  have HO2 := hide hO2
  have hbw2 := below_step hb2 hbw
  unfold entV
  clear hO2
  obtain ⟨q2_c0, q2_c1, q2_c2, q2_c3, q2_c4, q2_c5, q2_c6, q2_c7, q2_c8, q2_c9, q2_c10⟩ := cel11 q2
  have q2_f := q2.frozen
  go_wp2_with fail
  obtain ⟨r1, r2, r3⟩ := HQ'.out.out w2 A2 c2' HO2.out hbw2 HQ2.out
  exact ret_ent_tmp (E := E) (A := A2) (n := E.df.length) (c := c2') rfl rfl rfl r1 ⟨A2, c2', rfl, r2, r3⟩
end Go.Proofs.Ytmnldciobeeleaa

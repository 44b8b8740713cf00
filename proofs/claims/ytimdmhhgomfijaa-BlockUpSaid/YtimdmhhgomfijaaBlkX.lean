/- Package block: Receive, of an upload's messages. -/
import Derived.Test.YtimdmhhgomfijaaBlkJ
namespace Go.Proofs.Ytimdmhhgomfijaa
set_option linter.unusedVariables false
set_option linter.unusedSimpArgs false
set_option linter.unnecessarySimpa false
open Go.RowKit
set_option maxRecDepth 100000
set_option maxHeartbeats 4000000
/-- an answer of many messages is handed on -/
theorem bfin_liftF {w W' w3 : World} {G G' : Nat → Prop} {p pd : Nat} {S' : BlkS} {L : List Ms} {As : Option Addr} {ns cs : Nat} {ds : List (Option Addr × Nat)} (hz : w.heap.size + 2 ≤ W'.heap.size) (hO : Only (fun q => q = p) w W') (hp : p < w.heap.size) (hK : Blk W' (w.heap.size + 1) 44 (outV none 0 0 outZ none 0 0)) (hG : ∀ q, G' q → G q ∧ q ≠ w.heap.size + 1)
    (h1 : OwnM w3 (fun g => W'.heap.size ≤ g) As ns cs L ds) (h4 : BV_ w3 G' p pd S') (h5 : Only (fun q => q = p) W' w3) :
    Blk (putO w3 (w.heap.size + 1) As ns cs outZ none 0 0) (w.heap.size + 1) 44 (outV As ns cs outZ none 0 0) ∧ BOutF w G p pd S' L (.returned (.agg (outV As ns cs outZ none 0 0))) (putO w3 (w.heap.size + 1) As ns cs outZ none 0 0) := by
  have hK3 := blk_only hK h5 (by omega)
  refine ⟨putO_blk hK3, As, ns, cs, ds, rfl, (h1.keep (fun g hg _ => putO_heap (show g ≠ w.heap.size + 1 by omega) _ _ _ _ _ _ _)).mono (fun g _ hg => by omega), h4.keep (fun q hq _ => putO_heap (by rcases hq with rfl | hq; omega; exact (hG q hq).2) _ _ _ _ _ _ _) (by rw [putO_size]; exact Nat.le_refl _) (fun q _ hq => (hG q hq).1), putO_only (hO.trans h5 (fun _ _ h => h)) (by omega) _ _ _ _ _ _ _⟩
section
variable {F : Nat → Prop} {pd gl n cl cv : Nat} {Av : Option Addr} {L : List Ent} {V : List (List UInt8)} {ds es : List (Option Addr × Nat)}
theorem blk_recv8 (p : Nat) (S : BlkS) (G : Nat → Prop) (ix sub : Int) (tg la cr sz : Bool) (size code : Nat) (data : List UInt8) (sq bl em : Int) (sum : Nat) (A3 : Option Addr) (m3 c3 : Nat) (w : World) (hD : DB 75 w F pd (some ⟨gl, 0, none⟩) n cl Av cv L V ds es) (hs : SortedE L) (hn : n ≤ 1000) (hv : ∀ v ∈ V, v.length ≤ 256)
    (hp : ¬ F p) (hS : BV_ w G p pd S) :
    Calls Try.prog 22 #[.pointer (some ⟨p, 0, none⟩), .agg (msV (⟨8, ix, sub, tg, la, cr, sz, size, code, data, sq, bl, em, sum⟩ : Ms) A3 m3 c3)] w (BOutR w G p pd (bupS L V (blkIdle S) (⟨8, ix, sub, tg, la, cr, sz, size, code, data, sq, bl, em, sum⟩ : Ms)) (bupO L V (⟨8, ix, sub, tg, la, cr, sz, size, code, data, sq, bl, em, sum⟩ : Ms))) := by
  obtain ⟨P, hP⟩ : ∃ P, P = BOutR w G p pd (bupS L V (blkIdle S) (⟨8, ix, sub, tg, la, cr, sz, size, code, data, sq, bl, em, sum⟩ : Ms)) (bupO L V (⟨8, ix, sub, tg, la, cr, sz, size, code, data, sq, bl, em, sum⟩ : Ms)) := ⟨_, rfl⟩
  rw [← hP]
  have HP := hide hP
  have HS := hide hs
  have H1 := hide hn
  have HV := hide hv
  have HD := hide (fun W (h : Only (fun q => q = p) w W) => hD.keep (w' := W) (fun g hg hlt => h.block g hlt (fun e => hp (e ▸ hg))))
  obtain ⟨s, hst⟩ : ∃ s, s = S.st := ⟨_, rfl⟩
  obtain ⟨A, n1, c1, hB, _⟩ := id hS
  have hz := hB.lt
  have hne1 : p ≠ w.heap.size + 1 := by omega
  have hne0 : w.heap.size ≠ p := by omega
  have HX := hide (bx_mk (S := S) (pd := pd) (A := A) (n1 := n1) (c1 := c1) (⟨8, ix, sub, tg, la, cr, sz, size, code, data, sq, bl, em, sum⟩ : Ms) A3 m3 c3 hB)
  have HB0 := hide (below_alloc (below_alloc (Below.refl w.heap.size w) (.cells (msV (⟨8, ix, sub, tg, la, cr, sz, size, code, data, sq, bl, em, sum⟩ : Ms) A3 m3 c3) 39)) (.cells (outV none 0 0 outZ none 0 0) 44))
  have HS0 := hide hS
  clear hP hS hB hD hs hn hv
  unfold msV outV outZ at HX HB0
  unfold msV
  go_enter Try.func22, Try.ntmps22
  go_upto_region 1 with fail
  refine wp_gen (P := fun W => BX w p pd (KMO w (⟨8, ix, sub, tg, la, cr, sz, size, code, data, sq, bl, em, sum⟩ : Ms) A3 m3 c3) S A n1 c1 W ∧ Below w.heap.size w W) ⟨HX.out, HB0.out⟩ (fun W hW => ?_)
  clear HX HB0
  obtain ⟨hX, hbw⟩ := hW
  have HX := hide hX
  have HBW := hide hbw
  have k1 := hX.msg
  have bb := hX.2.1
  have zW := bb.lt
  have zk1 := k1.lt
  have zo1 := hX.out.lt
  unfold msV at k1
  unfold bsrV at bb
  dsimp only at bb k1
  rw [← hst] at bb
  have k1_c0 := k1.cell 0 rfl
  have k1_f0 := k1.frozen 0
  have k1_c1 := k1.cell 1 rfl
  have k1_f1 := k1.frozen 1
  have k1_c2 := k1.cell 2 rfl
  have k1_f2 := k1.frozen 2
  have k1_c3 := k1.cell 3 rfl
  have k1_f3 := k1.frozen 3
  have k1_c4 := k1.cell 4 rfl
  have k1_f4 := k1.frozen 4
  have k1_c5 := k1.cell 5 rfl
  have k1_f5 := k1.frozen 5
  have k1_c6 := k1.cell 6 rfl
  have k1_f6 := k1.frozen 6
  have k1_c7 := k1.cell 7 rfl
  have k1_f7 := k1.frozen 7
  have k1_c8 := k1.cell 8 rfl
  have k1_f8 := k1.frozen 8
  have k1_c9 := k1.cell 9 rfl
  have k1_f9 := k1.frozen 9
  have k1_c10 := k1.cell 10 rfl
  have k1_f10 := k1.frozen 10
  have k1_c11 := k1.cell 11 rfl
  have k1_f11 := k1.frozen 11
  have k1_c12 := k1.cell 12 rfl
  have k1_f12 := k1.frozen 12
  have k1_c13 := k1.cell 13 rfl
  have k1_f13 := k1.frozen 13
  have bb_c0 := bb.cell 0 rfl
  have bb_f0 := bb.frozen 0
  have bb_c1 := bb.cell 1 rfl
  have bb_f1 := bb.frozen 1
  have bb_c2 := bb.cell 2 rfl
  have bb_f2 := bb.frozen 2
  have bb_c3 := bb.cell 3 rfl
  have bb_f3 := bb.frozen 3
  have bb_c4 := bb.cell 4 rfl
  have bb_f4 := bb.frozen 4
  have bb_c5 := bb.cell 5 rfl
  have bb_f5 := bb.frozen 5
  have bb_c6 := bb.cell 6 rfl
  have bb_f6 := bb.frozen 6
  have bb_c7 := bb.cell 7 rfl
  have bb_f7 := bb.frozen 7
  have bb_c8 := bb.cell 8 rfl
  have bb_f8 := bb.frozen 8
  have bb_c9 := bb.cell 9 rfl
  have bb_f9 := bb.frozen 9
  have bb_c10 := bb.cell 10 rfl
  have bb_f10 := bb.frozen 10
  have bb_c11 := bb.cell 11 rfl
  have bb_f11 := bb.frozen 11
  clear hX hbw
  have XI := hide (HX.out.sets (S' := blkIdle S) [.int .i64 0] 7 (by simp) rfl)
  simp only [World.setCells] at XI
  clear hst
  by_cases h3 : s = 3
  · subst h3
    go_upto_region 5 with fail
    refine wp_gen (P := BX w p pd (KMO w (⟨8, ix, sub, tg, la, cr, sz, size, code, data, sq, bl, em, sum⟩ : Ms) A3 m3 c3) (blkIdle S) A n1 c1) XI.out (fun W2 hW2 => ?_)
    clear k1_c0 k1_f0 k1_c1 k1_f1 k1_c2 k1_f2 k1_c3 k1_f3 k1_c4 k1_f4 k1_c5 k1_f5 k1_c6 k1_f6 k1_c7 k1_f7 k1_c8 k1_f8 k1_c9 k1_f9 k1_c10 k1_f10 k1_c11 k1_f11 k1_c12 k1_f12 k1_c13 k1_f13
    clear bb_c0 bb_f0 bb_c1 bb_f1 bb_c2 bb_f2 bb_c3 bb_f3 bb_c4 bb_f4 bb_c5 bb_f5 bb_c6 bb_f6 bb_c7 bb_f7 bb_c8 bb_f8 bb_c9 bb_f9 bb_c10 bb_f10 bb_c11 bb_f11
    clear XI k1 bb
    have HX2 := hide hW2
    have k1 := hW2.msg
    have zk2 := k1.lt
    unfold msV at k1
    dsimp only at k1
    have k1_c0 := k1.cell 0 rfl
    have k1_f0 := k1.frozen 0
    have k1_c1 := k1.cell 1 rfl
    have k1_f1 := k1.frozen 1
    have k1_c2 := k1.cell 2 rfl
    have k1_f2 := k1.frozen 2
    have k1_c3 := k1.cell 3 rfl
    have k1_f3 := k1.frozen 3
    have k1_c4 := k1.cell 4 rfl
    have k1_f4 := k1.frozen 4
    have k1_c5 := k1.cell 5 rfl
    have k1_f5 := k1.frozen 5
    have k1_c6 := k1.cell 6 rfl
    have k1_f6 := k1.frozen 6
    have k1_c7 := k1.cell 7 rfl
    have k1_f7 := k1.frozen 7
    have k1_c8 := k1.cell 8 rfl
    have k1_f8 := k1.frozen 8
    have k1_c9 := k1.cell 9 rfl
    have k1_f9 := k1.frozen 9
    have k1_c10 := k1.cell 10 rfl
    have k1_f10 := k1.frozen 10
    have k1_c11 := k1.cell 11 rfl
    have k1_f11 := k1.frozen 11
    have k1_c12 := k1.cell 12 rfl
    have k1_f12 := k1.frozen 12
    have k1_c13 := k1.cell 13 rfl
    have k1_f13 := k1.frozen 13
    clear hW2
    go_wp2_with fail
    refine (blk_up p (blkIdle S) (fun q => G q ∧ q < w.heap.size) (⟨8, ix, sub, tg, la, cr, sz, size, code, data, sq, bl, em, sum⟩ : Ms) A3 m3 c3 _ (HD.out W2 HX2.out.1) HS.out H1.out HV.out hp (bv_idle HX2.out.2.1)).mono ?_
    rintro e w5 ⟨X, As, ns, cs, A5, n5, c5, rfl, h1, h2, h3, h4, h5⟩
    unfold outV
    dsimp only
    clear k1_c0 k1_f0 k1_c1 k1_f1 k1_c2 k1_f2 k1_c3 k1_f3 k1_c4 k1_f4 k1_c5 k1_f5 k1_c6 k1_f6 k1_c7 k1_f7 k1_c8 k1_f8 k1_c9 k1_f9 k1_c10 k1_f10 k1_c11 k1_f11 k1_c12 k1_f12 k1_c13 k1_f13
    clear k1
    have F := bfin_lift (G := G) (G' := (fun q => G q ∧ q < w.heap.size)) HX2.out.2.2.2 HX2.out.1 hz HX2.out.out (fun q h => ⟨.inl h.1, by have := h.2; omega⟩) h1 h2 h3 h4 h5
    have k5 := blk_only HX2.out.out h5 (fun e => hne1 e.symm)
    have HF := hide F
    clear F h1 h2 h3 h4 h5
    unfold outV outZ at k5
    have k5_c0 := k5.cell 0 rfl
    have k5_f0 := k5.frozen 0
    have k5_c1 := k5.cell 1 rfl
    have k5_f1 := k5.frozen 1
    have k5_c2 := k5.cell 2 rfl
    have k5_f2 := k5.frozen 2
    have k5_c3 := k5.cell 3 rfl
    have k5_f3 := k5.frozen 3
    have k5_c4 := k5.cell 4 rfl
    have k5_f4 := k5.frozen 4
    go_wp2_with fail
    obtain ⟨F1, F2⟩ := HF.out
    rw [← HP.out] at F2
    unfold putO at F1 F2
    refine ret_out (O := bupO L V (⟨8, ix, sub, tg, la, cr, sz, size, code, data, sq, bl, em, sum⟩ : Ms)) rfl rfl rfl F1 ?_
    exact F2
  · have h3n : (s == 3) = false := by simp [h3]
    go_wp2_with fail
    refine (blk_begins 8 _).mono ?_
    rintro e w1 ⟨rfl, hw1⟩
    subst hw1
    rw [show (decide ((8 : Int) = 1 ∨ (8 : Int) = 6 ∨ (8 : Int) = 8)) = true by decide]
    go_upto_region 5 with fail
    refine wp_gen (P := BX w p pd (KMO w (⟨8, ix, sub, tg, la, cr, sz, size, code, data, sq, bl, em, sum⟩ : Ms) A3 m3 c3) (blkIdle S) A n1 c1) XI.out (fun W2 hW2 => ?_)
    clear k1_c0 k1_f0 k1_c1 k1_f1 k1_c2 k1_f2 k1_c3 k1_f3 k1_c4 k1_f4 k1_c5 k1_f5 k1_c6 k1_f6 k1_c7 k1_f7 k1_c8 k1_f8 k1_c9 k1_f9 k1_c10 k1_f10 k1_c11 k1_f11 k1_c12 k1_f12 k1_c13 k1_f13
    clear bb_c0 bb_f0 bb_c1 bb_f1 bb_c2 bb_f2 bb_c3 bb_f3 bb_c4 bb_f4 bb_c5 bb_f5 bb_c6 bb_f6 bb_c7 bb_f7 bb_c8 bb_f8 bb_c9 bb_f9 bb_c10 bb_f10 bb_c11 bb_f11
    clear XI k1 bb
    have HX2 := hide hW2
    have k1 := hW2.msg
    have zk2 := k1.lt
    unfold msV at k1
    dsimp only at k1
    have k1_c0 := k1.cell 0 rfl
    have k1_f0 := k1.frozen 0
    have k1_c1 := k1.cell 1 rfl
    have k1_f1 := k1.frozen 1
    have k1_c2 := k1.cell 2 rfl
    have k1_f2 := k1.frozen 2
    have k1_c3 := k1.cell 3 rfl
    have k1_f3 := k1.frozen 3
    have k1_c4 := k1.cell 4 rfl
    have k1_f4 := k1.frozen 4
    have k1_c5 := k1.cell 5 rfl
    have k1_f5 := k1.frozen 5
    have k1_c6 := k1.cell 6 rfl
    have k1_f6 := k1.frozen 6
    have k1_c7 := k1.cell 7 rfl
    have k1_f7 := k1.frozen 7
    have k1_c8 := k1.cell 8 rfl
    have k1_f8 := k1.frozen 8
    have k1_c9 := k1.cell 9 rfl
    have k1_f9 := k1.frozen 9
    have k1_c10 := k1.cell 10 rfl
    have k1_f10 := k1.frozen 10
    have k1_c11 := k1.cell 11 rfl
    have k1_f11 := k1.frozen 11
    have k1_c12 := k1.cell 12 rfl
    have k1_f12 := k1.frozen 12
    have k1_c13 := k1.cell 13 rfl
    have k1_f13 := k1.frozen 13
    clear hW2
    go_wp2_with fail
    refine (blk_up p (blkIdle S) (fun q => G q ∧ q < w.heap.size) (⟨8, ix, sub, tg, la, cr, sz, size, code, data, sq, bl, em, sum⟩ : Ms) A3 m3 c3 _ (HD.out W2 HX2.out.1) HS.out H1.out HV.out hp (bv_idle HX2.out.2.1)).mono ?_
    rintro e w5 ⟨X, As, ns, cs, A5, n5, c5, rfl, h1, h2, h3, h4, h5⟩
    unfold outV
    dsimp only
    clear k1_c0 k1_f0 k1_c1 k1_f1 k1_c2 k1_f2 k1_c3 k1_f3 k1_c4 k1_f4 k1_c5 k1_f5 k1_c6 k1_f6 k1_c7 k1_f7 k1_c8 k1_f8 k1_c9 k1_f9 k1_c10 k1_f10 k1_c11 k1_f11 k1_c12 k1_f12 k1_c13 k1_f13
    clear k1
    have F := bfin_lift (G := G) (G' := (fun q => G q ∧ q < w.heap.size)) HX2.out.2.2.2 HX2.out.1 hz HX2.out.out (fun q h => ⟨.inl h.1, by have := h.2; omega⟩) h1 h2 h3 h4 h5
    have k5 := blk_only HX2.out.out h5 (fun e => hne1 e.symm)
    have HF := hide F
    clear F h1 h2 h3 h4 h5
    unfold outV outZ at k5
    have k5_c0 := k5.cell 0 rfl
    have k5_f0 := k5.frozen 0
    have k5_c1 := k5.cell 1 rfl
    have k5_f1 := k5.frozen 1
    have k5_c2 := k5.cell 2 rfl
    have k5_f2 := k5.frozen 2
    have k5_c3 := k5.cell 3 rfl
    have k5_f3 := k5.frozen 3
    have k5_c4 := k5.cell 4 rfl
    have k5_f4 := k5.frozen 4
    go_wp2_with fail
    obtain ⟨F1, F2⟩ := HF.out
    rw [← HP.out] at F2
    unfold putO at F1 F2
    refine ret_out (O := bupO L V (⟨8, ix, sub, tg, la, cr, sz, size, code, data, sq, bl, em, sum⟩ : Ms)) rfl rfl rfl F1 ?_
    exact F2
end
theorem blk_recv9 (p pd : Nat) (mo szz nx ta ro six ssub : Int) (b : List UInt8) (sm : Bool) (h : Nat) (G : Nat → Prop) (ix sub : Int) (tg la cr sz : Bool) (size code : Nat) (data : List UInt8) (sq bl em : Int) (sum : Nat) (A3 : Option Addr) (m3 c3 : Nat) (w : World) (hS : BV_ w G p pd (⟨mo, szz, nx, (h : Int), ta, ro, 4, six, ssub, b, sm⟩ : BlkS)) (h256 : b.length ≤ 1000) (hht : h < btotal b) (hta : 0 ≤ ta ∧ ta ≤ 1000) :
    Calls Try.prog 22 #[.pointer (some ⟨p, 0, none⟩), .agg (msV (⟨9, ix, sub, tg, la, cr, sz, size, code, data, sq, bl, em, sum⟩ : Ms) A3 m3 c3)] w (BOutF w G p pd (bgiveS (⟨mo, szz, nx, (h : Int), ta, ro, 4, six, ssub, b, sm⟩ : BlkS)) (bgiveL (⟨mo, szz, nx, (h : Int), ta, ro, 4, six, ssub, b, sm⟩ : BlkS))) := by
  obtain ⟨P, hP⟩ : ∃ P, P = BOutF w G p pd (bgiveS (⟨mo, szz, nx, (h : Int), ta, ro, 4, six, ssub, b, sm⟩ : BlkS)) (bgiveL (⟨mo, szz, nx, (h : Int), ta, ro, 4, six, ssub, b, sm⟩ : BlkS)) := ⟨_, rfl⟩
  rw [← hP]
  have HP := hide hP
  obtain ⟨A, n1, c1, hB, _⟩ := id hS
  have hz := hB.lt
  have hne1 : p ≠ w.heap.size + 1 := by omega
  have hne0 : w.heap.size ≠ p := by omega
  have HX := hide (bx_mk (S := (⟨mo, szz, nx, (h : Int), ta, ro, 4, six, ssub, b, sm⟩ : BlkS)) (pd := pd) (A := A) (n1 := n1) (c1 := c1) (⟨9, ix, sub, tg, la, cr, sz, size, code, data, sq, bl, em, sum⟩ : Ms) A3 m3 c3 hB)
  have HB0 := hide (below_alloc (below_alloc (Below.refl w.heap.size w) (.cells (msV (⟨9, ix, sub, tg, la, cr, sz, size, code, data, sq, bl, em, sum⟩ : Ms) A3 m3 c3) 39)) (.cells (outV none 0 0 outZ none 0 0) 44))
  have HS0 := hide hS
  clear hP hS hB
  unfold msV outV outZ at HX HB0
  unfold msV
  go_enter Try.func22, Try.ntmps22
  go_upto_region 1 with fail
  refine wp_gen (P := fun W => BX w p pd (KMO w (⟨9, ix, sub, tg, la, cr, sz, size, code, data, sq, bl, em, sum⟩ : Ms) A3 m3 c3) (⟨mo, szz, nx, (h : Int), ta, ro, 4, six, ssub, b, sm⟩ : BlkS) A n1 c1 W ∧ Below w.heap.size w W) ⟨HX.out, HB0.out⟩ (fun W hW => ?_)
  clear HX HB0
  obtain ⟨hX, hbw⟩ := hW
  have HX := hide hX
  have HBW := hide hbw
  have k1 := hX.msg
  have bb := hX.2.1
  have zW := bb.lt
  have zk1 := k1.lt
  have zo1 := hX.out.lt
  unfold msV at k1
  unfold bsrV at bb
  dsimp only at bb k1
  have k1_c0 := k1.cell 0 rfl
  have k1_f0 := k1.frozen 0
  have k1_c1 := k1.cell 1 rfl
  have k1_f1 := k1.frozen 1
  have k1_c2 := k1.cell 2 rfl
  have k1_f2 := k1.frozen 2
  have k1_c3 := k1.cell 3 rfl
  have k1_f3 := k1.frozen 3
  have k1_c4 := k1.cell 4 rfl
  have k1_f4 := k1.frozen 4
  have k1_c5 := k1.cell 5 rfl
  have k1_f5 := k1.frozen 5
  have k1_c6 := k1.cell 6 rfl
  have k1_f6 := k1.frozen 6
  have k1_c7 := k1.cell 7 rfl
  have k1_f7 := k1.frozen 7
  have k1_c8 := k1.cell 8 rfl
  have k1_f8 := k1.frozen 8
  have k1_c9 := k1.cell 9 rfl
  have k1_f9 := k1.frozen 9
  have k1_c10 := k1.cell 10 rfl
  have k1_f10 := k1.frozen 10
  have k1_c11 := k1.cell 11 rfl
  have k1_f11 := k1.frozen 11
  have k1_c12 := k1.cell 12 rfl
  have k1_f12 := k1.frozen 12
  have k1_c13 := k1.cell 13 rfl
  have k1_f13 := k1.frozen 13
  have bb_c0 := bb.cell 0 rfl
  have bb_f0 := bb.frozen 0
  have bb_c1 := bb.cell 1 rfl
  have bb_f1 := bb.frozen 1
  have bb_c2 := bb.cell 2 rfl
  have bb_f2 := bb.frozen 2
  have bb_c3 := bb.cell 3 rfl
  have bb_f3 := bb.frozen 3
  have bb_c4 := bb.cell 4 rfl
  have bb_f4 := bb.frozen 4
  have bb_c5 := bb.cell 5 rfl
  have bb_f5 := bb.frozen 5
  have bb_c6 := bb.cell 6 rfl
  have bb_f6 := bb.frozen 6
  have bb_c7 := bb.cell 7 rfl
  have bb_f7 := bb.frozen 7
  have bb_c8 := bb.cell 8 rfl
  have bb_f8 := bb.frozen 8
  have bb_c9 := bb.cell 9 rfl
  have bb_f9 := bb.frozen 9
  have bb_c10 := bb.cell 10 rfl
  have bb_f10 := bb.frozen 10
  have bb_c11 := bb.cell 11 rfl
  have bb_f11 := bb.frozen 11
  clear hX hbw
  go_wp2_with fail
  refine (blk_begins 9 _).mono ?_
  rintro e w1 ⟨rfl, hw1⟩
  subst hw1
  rw [show (decide ((9 : Int) = 1 ∨ (9 : Int) = 6 ∨ (9 : Int) = 8)) = false by decide]
  have HX2 := HX
  go_wp2_with fail
  refine (blk_give p pd (⟨mo, szz, nx, (h : Int), ta, ro, 4, six, ssub, b, sm⟩ : BlkS) (fun q => G q ∧ q < w.heap.size) _ (bv_lift HS0.out HBW.out) (show (4 : Int) ≠ 0 by decide) h256 h rfl hht hta).mono ?_
  rintro e w5 ⟨As, ns, cs, ds, rfl, h1, h4, h5⟩
  unfold outV
  dsimp only
  clear k1_c0 k1_f0 k1_c1 k1_f1 k1_c2 k1_f2 k1_c3 k1_f3 k1_c4 k1_f4 k1_c5 k1_f5 k1_c6 k1_f6 k1_c7 k1_f7 k1_c8 k1_f8 k1_c9 k1_f9 k1_c10 k1_f10 k1_c11 k1_f11 k1_c12 k1_f12 k1_c13 k1_f13
  clear bb_c0 bb_f0 bb_c1 bb_f1 bb_c2 bb_f2 bb_c3 bb_f3 bb_c4 bb_f4 bb_c5 bb_f5 bb_c6 bb_f6 bb_c7 bb_f7 bb_c8 bb_f8 bb_c9 bb_f9 bb_c10 bb_f10 bb_c11 bb_f11
  clear k1 bb
  have F := bfin_liftF (G := G) HX2.out.2.2.2 HX2.out.1 hz HX2.out.out (fun q h => ⟨h.1, by have := h.2; omega⟩) h1 h4 h5
  have k5 := blk_only HX2.out.out h5 (fun e => hne1 e.symm)
  have HF := hide F
  clear F h1 h4 h5
  unfold outV outZ at k5
  have k5_c0 := k5.cell 0 rfl
  have k5_f0 := k5.frozen 0
  have k5_c1 := k5.cell 1 rfl
  have k5_f1 := k5.frozen 1
  have k5_c2 := k5.cell 2 rfl
  have k5_f2 := k5.frozen 2
  have k5_c3 := k5.cell 3 rfl
  have k5_f3 := k5.frozen 3
  have k5_c4 := k5.cell 4 rfl
  have k5_f4 := k5.frozen 4
  go_wp2_with fail
  obtain ⟨F1, F2⟩ := HF.out
  rw [← HP.out] at F2
  unfold putO at F1 F2
  refine ret_out (O := outZ) rfl rfl rfl F1 ?_
  exact F2
theorem blk_recv10g (p pd : Nat) (mo szz nx ta ro six ssub : Int) (b : List UInt8) (sm : Bool) (h : Nat) (G : Nat → Prop) (ix sub : Int) (tg la cr sz : Bool) (size code : Nat) (data : List UInt8) (sq bl em : Int) (sum : Nat) (A3 : Option Addr) (m3 c3 : Nat) (w : World) (hS : BV_ w G p pd (⟨mo, szz, nx, (h : Int), ta, ro, 5, six, ssub, b, sm⟩ : BlkS)) (h256 : b.length ≤ 1000) (q : Nat) (hq : Hid (sq = (q : Int))) (hqr : (q : Int) ≤ ro) (hbl : Hid (bl ≠ 0)) (hh : h ≤ 1000) (hq2 : q ≤ 1000) (hb : 0 ≤ bl ∧ bl ≤ 1000) (h2 : Nat) (hh2 : Hid (h2 = h + q)) (hlt2 : h2 < btotal b) :
    Calls Try.prog 22 #[.pointer (some ⟨p, 0, none⟩), .agg (msV (⟨10, ix, sub, tg, la, cr, sz, size, code, data, sq, bl, em, sum⟩ : Ms) A3 m3 c3)] w (BOutF w G p pd (bgiveS (⟨mo, szz, nx, ((h2 : Nat) : Int), bl, ro, 5, six, ssub, b, sm⟩ : BlkS)) (bgiveL (⟨mo, szz, nx, ((h2 : Nat) : Int), bl, ro, 5, six, ssub, b, sm⟩ : BlkS))) := by
  obtain ⟨P, hP⟩ : ∃ P, P = BOutF w G p pd (bgiveS (⟨mo, szz, nx, ((h2 : Nat) : Int), bl, ro, 5, six, ssub, b, sm⟩ : BlkS)) (bgiveL (⟨mo, szz, nx, ((h2 : Nat) : Int), bl, ro, 5, six, ssub, b, sm⟩ : BlkS)) := ⟨_, rfl⟩
  rw [← hP]
  have HP := hide hP
  obtain ⟨A, n1, c1, hB, _⟩ := id hS
  have hz := hB.lt
  have hne1 : p ≠ w.heap.size + 1 := by omega
  have hne0 : w.heap.size ≠ p := by omega
  have HX := hide (bx_mk (S := (⟨mo, szz, nx, (h : Int), ta, ro, 5, six, ssub, b, sm⟩ : BlkS)) (pd := pd) (A := A) (n1 := n1) (c1 := c1) (⟨10, ix, sub, tg, la, cr, sz, size, code, data, sq, bl, em, sum⟩ : Ms) A3 m3 c3 hB)
  have HB0 := hide (below_alloc (below_alloc (Below.refl w.heap.size w) (.cells (msV (⟨10, ix, sub, tg, la, cr, sz, size, code, data, sq, bl, em, sum⟩ : Ms) A3 m3 c3) 39)) (.cells (outV none 0 0 outZ none 0 0) 44))
  have HS0 := hide hS
  clear hP hS hB
  unfold msV outV outZ at HX HB0
  unfold msV
  go_enter Try.func22, Try.ntmps22
  go_upto_region 1 with fail
  refine wp_gen (P := fun W => BX w p pd (KMO w (⟨10, ix, sub, tg, la, cr, sz, size, code, data, sq, bl, em, sum⟩ : Ms) A3 m3 c3) (⟨mo, szz, nx, (h : Int), ta, ro, 5, six, ssub, b, sm⟩ : BlkS) A n1 c1 W ∧ Below w.heap.size w W) ⟨HX.out, HB0.out⟩ (fun W hW => ?_)
  clear HX HB0
  obtain ⟨hX, hbw⟩ := hW
  have HX := hide hX
  have HBW := hide hbw
  have k1 := hX.msg
  have bb := hX.2.1
  have zW := bb.lt
  have zk1 := k1.lt
  have zo1 := hX.out.lt
  unfold msV at k1
  unfold bsrV at bb
  dsimp only at bb k1
  have k1_c0 := k1.cell 0 rfl
  have k1_f0 := k1.frozen 0
  have k1_c1 := k1.cell 1 rfl
  have k1_f1 := k1.frozen 1
  have k1_c2 := k1.cell 2 rfl
  have k1_f2 := k1.frozen 2
  have k1_c3 := k1.cell 3 rfl
  have k1_f3 := k1.frozen 3
  have k1_c4 := k1.cell 4 rfl
  have k1_f4 := k1.frozen 4
  have k1_c5 := k1.cell 5 rfl
  have k1_f5 := k1.frozen 5
  have k1_c6 := k1.cell 6 rfl
  have k1_f6 := k1.frozen 6
  have k1_c7 := k1.cell 7 rfl
  have k1_f7 := k1.frozen 7
  have k1_c8 := k1.cell 8 rfl
  have k1_f8 := k1.frozen 8
  have k1_c9 := k1.cell 9 rfl
  have k1_f9 := k1.frozen 9
  have k1_c10 := k1.cell 10 rfl
  have k1_f10 := k1.frozen 10
  have k1_c11 := k1.cell 11 rfl
  have k1_f11 := k1.frozen 11
  have k1_c12 := k1.cell 12 rfl
  have k1_f12 := k1.frozen 12
  have k1_c13 := k1.cell 13 rfl
  have k1_f13 := k1.frozen 13
  have bb_c0 := bb.cell 0 rfl
  have bb_f0 := bb.frozen 0
  have bb_c1 := bb.cell 1 rfl
  have bb_f1 := bb.frozen 1
  have bb_c2 := bb.cell 2 rfl
  have bb_f2 := bb.frozen 2
  have bb_c3 := bb.cell 3 rfl
  have bb_f3 := bb.frozen 3
  have bb_c4 := bb.cell 4 rfl
  have bb_f4 := bb.frozen 4
  have bb_c5 := bb.cell 5 rfl
  have bb_f5 := bb.frozen 5
  have bb_c6 := bb.cell 6 rfl
  have bb_f6 := bb.frozen 6
  have bb_c7 := bb.cell 7 rfl
  have bb_f7 := bb.frozen 7
  have bb_c8 := bb.cell 8 rfl
  have bb_f8 := bb.frozen 8
  have bb_c9 := bb.cell 9 rfl
  have bb_f9 := bb.frozen 9
  have bb_c10 := bb.cell 10 rfl
  have bb_f10 := bb.frozen 10
  have bb_c11 := bb.cell 11 rfl
  have bb_f11 := bb.frozen 11
  clear hX hbw
  go_wp2_with fail
  refine (blk_begins 10 _).mono ?_
  rintro e w1 ⟨rfl, hw1⟩
  subst hw1
  rw [show (decide ((10 : Int) = 1 ∨ (10 : Int) = 6 ∨ (10 : Int) = 8)) = false by decide]
  have HX2 := HX
  go_wp2_with fail
  refine (blk_ack_give p pd mo szz nx ta ro six ssub h b sm (fun q => G q ∧ q < w.heap.size) (⟨10, ix, sub, tg, la, cr, sz, size, code, data, sq, bl, em, sum⟩ : Ms) q A3 m3 c3 _ (bv_lift HS0.out HBW.out) h256 hq.out hqr hbl.out hh hq2 hb h2 hh2.out hlt2).mono ?_
  rintro e w5 ⟨As, ns, cs, ds, rfl, h1, h4, h5⟩
  unfold outV
  dsimp only
  clear k1_c0 k1_f0 k1_c1 k1_f1 k1_c2 k1_f2 k1_c3 k1_f3 k1_c4 k1_f4 k1_c5 k1_f5 k1_c6 k1_f6 k1_c7 k1_f7 k1_c8 k1_f8 k1_c9 k1_f9 k1_c10 k1_f10 k1_c11 k1_f11 k1_c12 k1_f12 k1_c13 k1_f13
  clear bb_c0 bb_f0 bb_c1 bb_f1 bb_c2 bb_f2 bb_c3 bb_f3 bb_c4 bb_f4 bb_c5 bb_f5 bb_c6 bb_f6 bb_c7 bb_f7 bb_c8 bb_f8 bb_c9 bb_f9 bb_c10 bb_f10 bb_c11 bb_f11
  clear k1 bb
  have F := bfin_liftF (G := G) (G' := fun q => G q ∧ q < w.heap.size) HX2.out.2.2.2 HX2.out.1 hz HX2.out.out (fun q h => ⟨h.1, by have := h.2; omega⟩) h1 h4 h5
  have k5 := blk_only HX2.out.out h5 (fun e => hne1 e.symm)
  have HF := hide F
  clear F h1 h4 h5
  unfold outV outZ at k5
  have k5_c0 := k5.cell 0 rfl
  have k5_f0 := k5.frozen 0
  have k5_c1 := k5.cell 1 rfl
  have k5_f1 := k5.frozen 1
  have k5_c2 := k5.cell 2 rfl
  have k5_f2 := k5.frozen 2
  have k5_c3 := k5.cell 3 rfl
  have k5_f3 := k5.frozen 3
  have k5_c4 := k5.cell 4 rfl
  have k5_f4 := k5.frozen 4
  go_wp2_with fail
  obtain ⟨F1, F2⟩ := HF.out
  rw [← HP.out] at F2
  unfold putO at F1 F2
  refine ret_out (O := outZ) rfl rfl rfl F1 ?_
  exact F2
theorem blk_recv10e (p pd : Nat) (mo szz nx ta ro six ssub : Int) (b : List UInt8) (sm : Bool) (h : Nat) (G : Nat → Prop) (ix sub : Int) (tg la cr sz : Bool) (size code : Nat) (data : List UInt8) (sq bl em : Int) (sum : Nat) (A3 : Option Addr) (m3 c3 : Nat) (w : World) (hS : BV_ w G p pd (⟨mo, szz, nx, (h : Int), ta, ro, 5, six, ssub, b, sm⟩ : BlkS)) (h256 : b.length ≤ 1000) (q : Nat) (hq : Hid (sq = (q : Int))) (hqr : (q : Int) ≤ ro) (hbl : Hid (bl ≠ 0)) (hh : h ≤ 1000) (hq2 : q ≤ 1000) (hb : 0 ≤ bl ∧ bl ≤ 1000) (h2 : Nat) (hh2 : Hid (h2 = h + q)) (hlt2 : Hid (h2 = btotal b)) (emv : Nat) (hem : Hid (emv = 7 * btotal b - b.length)) (sumv : Nat) (hsv : Hid (sumv = if sm = true then sum16L b else 0)) :
    Calls Try.prog 22 #[.pointer (some ⟨p, 0, none⟩), .agg (msV (⟨10, ix, sub, tg, la, cr, sz, size, code, data, sq, bl, em, sum⟩ : Ms) A3 m3 c3)] w (BOutR w G p pd (⟨mo, szz, nx, ((h2 : Nat) : Int), bl, ro, 6, six, ssub, b, sm⟩ : BlkS) (outM (bendM ((emv : Nat) : Int) sumv))) := by
  obtain ⟨P, hP⟩ : ∃ P, P = BOutR w G p pd (⟨mo, szz, nx, ((h2 : Nat) : Int), bl, ro, 6, six, ssub, b, sm⟩ : BlkS) (outM (bendM ((emv : Nat) : Int) sumv)) := ⟨_, rfl⟩
  rw [← hP]
  have HP := hide hP
  obtain ⟨A, n1, c1, hB, _⟩ := id hS
  have hz := hB.lt
  have hne1 : p ≠ w.heap.size + 1 := by omega
  have hne0 : w.heap.size ≠ p := by omega
  have HX := hide (bx_mk (S := (⟨mo, szz, nx, (h : Int), ta, ro, 5, six, ssub, b, sm⟩ : BlkS)) (pd := pd) (A := A) (n1 := n1) (c1 := c1) (⟨10, ix, sub, tg, la, cr, sz, size, code, data, sq, bl, em, sum⟩ : Ms) A3 m3 c3 hB)
  have HB0 := hide (below_alloc (below_alloc (Below.refl w.heap.size w) (.cells (msV (⟨10, ix, sub, tg, la, cr, sz, size, code, data, sq, bl, em, sum⟩ : Ms) A3 m3 c3) 39)) (.cells (outV none 0 0 outZ none 0 0) 44))
  have HS0 := hide hS
  clear hP hS hB
  unfold msV outV outZ at HX HB0
  unfold msV
  go_enter Try.func22, Try.ntmps22
  go_upto_region 1 with fail
  refine wp_gen (P := fun W => BX w p pd (KMO w (⟨10, ix, sub, tg, la, cr, sz, size, code, data, sq, bl, em, sum⟩ : Ms) A3 m3 c3) (⟨mo, szz, nx, (h : Int), ta, ro, 5, six, ssub, b, sm⟩ : BlkS) A n1 c1 W ∧ Below w.heap.size w W) ⟨HX.out, HB0.out⟩ (fun W hW => ?_)
  clear HX HB0
  obtain ⟨hX, hbw⟩ := hW
  have HX := hide hX
  have HBW := hide hbw
  have k1 := hX.msg
  have bb := hX.2.1
  have zW := bb.lt
  have zk1 := k1.lt
  have zo1 := hX.out.lt
  unfold msV at k1
  unfold bsrV at bb
  dsimp only at bb k1
  have k1_c0 := k1.cell 0 rfl
  have k1_f0 := k1.frozen 0
  have k1_c1 := k1.cell 1 rfl
  have k1_f1 := k1.frozen 1
  have k1_c2 := k1.cell 2 rfl
  have k1_f2 := k1.frozen 2
  have k1_c3 := k1.cell 3 rfl
  have k1_f3 := k1.frozen 3
  have k1_c4 := k1.cell 4 rfl
  have k1_f4 := k1.frozen 4
  have k1_c5 := k1.cell 5 rfl
  have k1_f5 := k1.frozen 5
  have k1_c6 := k1.cell 6 rfl
  have k1_f6 := k1.frozen 6
  have k1_c7 := k1.cell 7 rfl
  have k1_f7 := k1.frozen 7
  have k1_c8 := k1.cell 8 rfl
  have k1_f8 := k1.frozen 8
  have k1_c9 := k1.cell 9 rfl
  have k1_f9 := k1.frozen 9
  have k1_c10 := k1.cell 10 rfl
  have k1_f10 := k1.frozen 10
  have k1_c11 := k1.cell 11 rfl
  have k1_f11 := k1.frozen 11
  have k1_c12 := k1.cell 12 rfl
  have k1_f12 := k1.frozen 12
  have k1_c13 := k1.cell 13 rfl
  have k1_f13 := k1.frozen 13
  have bb_c0 := bb.cell 0 rfl
  have bb_f0 := bb.frozen 0
  have bb_c1 := bb.cell 1 rfl
  have bb_f1 := bb.frozen 1
  have bb_c2 := bb.cell 2 rfl
  have bb_f2 := bb.frozen 2
  have bb_c3 := bb.cell 3 rfl
  have bb_f3 := bb.frozen 3
  have bb_c4 := bb.cell 4 rfl
  have bb_f4 := bb.frozen 4
  have bb_c5 := bb.cell 5 rfl
  have bb_f5 := bb.frozen 5
  have bb_c6 := bb.cell 6 rfl
  have bb_f6 := bb.frozen 6
  have bb_c7 := bb.cell 7 rfl
  have bb_f7 := bb.frozen 7
  have bb_c8 := bb.cell 8 rfl
  have bb_f8 := bb.frozen 8
  have bb_c9 := bb.cell 9 rfl
  have bb_f9 := bb.frozen 9
  have bb_c10 := bb.cell 10 rfl
  have bb_f10 := bb.frozen 10
  have bb_c11 := bb.cell 11 rfl
  have bb_f11 := bb.frozen 11
  clear hX hbw
  go_wp2_with fail
  refine (blk_begins 10 _).mono ?_
  rintro e w1 ⟨rfl, hw1⟩
  subst hw1
  rw [show (decide ((10 : Int) = 1 ∨ (10 : Int) = 6 ∨ (10 : Int) = 8)) = false by decide]
  have HX2 := HX
  go_wp2_with fail
  refine (blk_ack_end p pd mo szz nx ta ro six ssub h b sm (fun q => G q ∧ q < w.heap.size) (⟨10, ix, sub, tg, la, cr, sz, size, code, data, sq, bl, em, sum⟩ : Ms) q A3 m3 c3 _ (bv_lift HS0.out HBW.out) h256 hq.out hqr hbl.out hh hq2 hb h2 hh2.out hlt2.out emv hem.out sumv hsv).mono ?_
  rintro e w5 ⟨X, As, ns, cs, A5, n5, c5, rfl, h1, h2, h3, h4, h5⟩
  unfold outV outM
  dsimp only
  clear k1_c0 k1_f0 k1_c1 k1_f1 k1_c2 k1_f2 k1_c3 k1_f3 k1_c4 k1_f4 k1_c5 k1_f5 k1_c6 k1_f6 k1_c7 k1_f7 k1_c8 k1_f8 k1_c9 k1_f9 k1_c10 k1_f10 k1_c11 k1_f11 k1_c12 k1_f12 k1_c13 k1_f13
  clear bb_c0 bb_f0 bb_c1 bb_f1 bb_c2 bb_f2 bb_c3 bb_f3 bb_c4 bb_f4 bb_c5 bb_f5 bb_c6 bb_f6 bb_c7 bb_f7 bb_c8 bb_f8 bb_c9 bb_f9 bb_c10 bb_f10 bb_c11 bb_f11
  clear k1 bb
  have F := bfin_lift (G := G) (G' := (fun q => G q ∧ q < w.heap.size)) HX2.out.2.2.2 HX2.out.1 hz HX2.out.out (fun q h => ⟨.inl h.1, by have := h.2; omega⟩) h1 h2 h3 h4 h5
  have k5 := blk_only HX2.out.out h5 (fun e => hne1 e.symm)
  have HF := hide F
  clear F h1 h2 h3 h4 h5
  unfold outV outZ at k5
  have k5_c0 := k5.cell 0 rfl
  have k5_f0 := k5.frozen 0
  have k5_c1 := k5.cell 1 rfl
  have k5_f1 := k5.frozen 1
  have k5_c2 := k5.cell 2 rfl
  have k5_f2 := k5.frozen 2
  have k5_c3 := k5.cell 3 rfl
  have k5_f3 := k5.frozen 3
  have k5_c4 := k5.cell 4 rfl
  have k5_f4 := k5.frozen 4
  go_wp2_with fail
  obtain ⟨F1, F2⟩ := HF.out
  rw [← HP.out] at F2
  unfold putO at F1 F2
  refine ret_out (O := outM (bendM ((emv : Nat) : Int) sumv)) rfl rfl rfl F1 ?_
  exact F2
theorem blk_recv11 (p pd : Nat) (mo szz nx ta ro six ssub : Int) (b : List UInt8) (sm : Bool) (h : Nat) (G : Nat → Prop) (ix sub : Int) (tg la cr sz : Bool) (size code : Nat) (data : List UInt8) (sq bl em : Int) (sum : Nat) (A3 : Option Addr) (m3 c3 : Nat) (w : World) (hS : BV_ w G p pd (⟨mo, szz, nx, (h : Int), ta, ro, 6, six, ssub, b, sm⟩ : BlkS))  :
    Calls Try.prog 22 #[.pointer (some ⟨p, 0, none⟩), .agg (msV (⟨11, ix, sub, tg, la, cr, sz, size, code, data, sq, bl, em, sum⟩ : Ms) A3 m3 c3)] w (BOutR w G p pd (blkIdle (⟨mo, szz, nx, (h : Int), ta, ro, 6, six, ssub, b, sm⟩ : BlkS)) outZ) := by
  obtain ⟨P, hP⟩ : ∃ P, P = BOutR w G p pd (blkIdle (⟨mo, szz, nx, (h : Int), ta, ro, 6, six, ssub, b, sm⟩ : BlkS)) outZ := ⟨_, rfl⟩
  rw [← hP]
  have HP := hide hP
  obtain ⟨A, n1, c1, hB, _⟩ := id hS
  have hz := hB.lt
  have hne1 : p ≠ w.heap.size + 1 := by omega
  have hne0 : w.heap.size ≠ p := by omega
  have HX := hide (bx_mk (S := (⟨mo, szz, nx, (h : Int), ta, ro, 6, six, ssub, b, sm⟩ : BlkS)) (pd := pd) (A := A) (n1 := n1) (c1 := c1) (⟨11, ix, sub, tg, la, cr, sz, size, code, data, sq, bl, em, sum⟩ : Ms) A3 m3 c3 hB)
  have HB0 := hide (below_alloc (below_alloc (Below.refl w.heap.size w) (.cells (msV (⟨11, ix, sub, tg, la, cr, sz, size, code, data, sq, bl, em, sum⟩ : Ms) A3 m3 c3) 39)) (.cells (outV none 0 0 outZ none 0 0) 44))
  have HS0 := hide hS
  clear hP hS hB
  unfold msV outV outZ at HX HB0
  unfold msV
  go_enter Try.func22, Try.ntmps22
  go_upto_region 1 with fail
  refine wp_gen (P := fun W => BX w p pd (KMO w (⟨11, ix, sub, tg, la, cr, sz, size, code, data, sq, bl, em, sum⟩ : Ms) A3 m3 c3) (⟨mo, szz, nx, (h : Int), ta, ro, 6, six, ssub, b, sm⟩ : BlkS) A n1 c1 W ∧ Below w.heap.size w W) ⟨HX.out, HB0.out⟩ (fun W hW => ?_)
  clear HX HB0
  obtain ⟨hX, hbw⟩ := hW
  have HX := hide hX
  have HBW := hide hbw
  have k1 := hX.msg
  have bb := hX.2.1
  have zW := bb.lt
  have zk1 := k1.lt
  have zo1 := hX.out.lt
  unfold msV at k1
  unfold bsrV at bb
  dsimp only at bb k1
  have k1_c0 := k1.cell 0 rfl
  have k1_f0 := k1.frozen 0
  have k1_c1 := k1.cell 1 rfl
  have k1_f1 := k1.frozen 1
  have k1_c2 := k1.cell 2 rfl
  have k1_f2 := k1.frozen 2
  have k1_c3 := k1.cell 3 rfl
  have k1_f3 := k1.frozen 3
  have k1_c4 := k1.cell 4 rfl
  have k1_f4 := k1.frozen 4
  have k1_c5 := k1.cell 5 rfl
  have k1_f5 := k1.frozen 5
  have k1_c6 := k1.cell 6 rfl
  have k1_f6 := k1.frozen 6
  have k1_c7 := k1.cell 7 rfl
  have k1_f7 := k1.frozen 7
  have k1_c8 := k1.cell 8 rfl
  have k1_f8 := k1.frozen 8
  have k1_c9 := k1.cell 9 rfl
  have k1_f9 := k1.frozen 9
  have k1_c10 := k1.cell 10 rfl
  have k1_f10 := k1.frozen 10
  have k1_c11 := k1.cell 11 rfl
  have k1_f11 := k1.frozen 11
  have k1_c12 := k1.cell 12 rfl
  have k1_f12 := k1.frozen 12
  have k1_c13 := k1.cell 13 rfl
  have k1_f13 := k1.frozen 13
  have bb_c0 := bb.cell 0 rfl
  have bb_f0 := bb.frozen 0
  have bb_c1 := bb.cell 1 rfl
  have bb_f1 := bb.frozen 1
  have bb_c2 := bb.cell 2 rfl
  have bb_f2 := bb.frozen 2
  have bb_c3 := bb.cell 3 rfl
  have bb_f3 := bb.frozen 3
  have bb_c4 := bb.cell 4 rfl
  have bb_f4 := bb.frozen 4
  have bb_c5 := bb.cell 5 rfl
  have bb_f5 := bb.frozen 5
  have bb_c6 := bb.cell 6 rfl
  have bb_f6 := bb.frozen 6
  have bb_c7 := bb.cell 7 rfl
  have bb_f7 := bb.frozen 7
  have bb_c8 := bb.cell 8 rfl
  have bb_f8 := bb.frozen 8
  have bb_c9 := bb.cell 9 rfl
  have bb_f9 := bb.frozen 9
  have bb_c10 := bb.cell 10 rfl
  have bb_f10 := bb.frozen 10
  have bb_c11 := bb.cell 11 rfl
  have bb_f11 := bb.frozen 11
  clear hX hbw
  go_wp2_with fail
  refine (blk_begins 11 _).mono ?_
  rintro e w1 ⟨rfl, hw1⟩
  subst hw1
  rw [show (decide ((11 : Int) = 1 ∨ (11 : Int) = 6 ∨ (11 : Int) = 8)) = false by decide]
  have HX2 := HX
  have XI := hide (HX.out.sets (S' := blkIdle (⟨mo, szz, nx, (h : Int), ta, ro, 6, six, ssub, b, sm⟩ : BlkS)) [.int .i64 0] 7 (by simp) rfl)
  simp only [World.setCells] at XI
  go_upto_region 21 with fail
  refine wp_gen (P := BX w p pd (KMO w (⟨11, ix, sub, tg, la, cr, sz, size, code, data, sq, bl, em, sum⟩ : Ms) A3 m3 c3) (blkIdle (⟨mo, szz, nx, (h : Int), ta, ro, 6, six, ssub, b, sm⟩ : BlkS)) A n1 c1) XI.out (fun W2 hW2 => ?_)
  clear k1_c0 k1_f0 k1_c1 k1_f1 k1_c2 k1_f2 k1_c3 k1_f3 k1_c4 k1_f4 k1_c5 k1_f5 k1_c6 k1_f6 k1_c7 k1_f7 k1_c8 k1_f8 k1_c9 k1_f9 k1_c10 k1_f10 k1_c11 k1_f11 k1_c12 k1_f12 k1_c13 k1_f13
  clear bb_c0 bb_f0 bb_c1 bb_f1 bb_c2 bb_f2 bb_c3 bb_f3 bb_c4 bb_f4 bb_c5 bb_f5 bb_c6 bb_f6 bb_c7 bb_f7 bb_c8 bb_f8 bb_c9 bb_f9 bb_c10 bb_f10 bb_c11 bb_f11
  clear XI k1 bb
  have HX3 := hide hW2
  have k2 := hW2.out
  unfold outV outZ at k2
  have k2_c0 := k2.cell 0 rfl
  have k2_f0 := k2.frozen 0
  have k2_c1 := k2.cell 1 rfl
  have k2_f1 := k2.frozen 1
  have k2_c2 := k2.cell 2 rfl
  have k2_f2 := k2.frozen 2
  have k2_c3 := k2.cell 3 rfl
  have k2_f3 := k2.frozen 3
  have k2_c4 := k2.cell 4 rfl
  have k2_f4 := k2.frozen 4
  clear hW2
  go_wp2_with fail
  obtain ⟨F1, F2⟩ := bfin_none (G := G) HX3.out.out (bv_idle HX3.out.2.1) HX3.out.1 hz
  rw [← HP.out] at F2
  unfold putO outZ at F1 F2
  dsimp only at F1 F2
  refine ret_out (O := ⟨[], false, 0, 0, []⟩) rfl rfl rfl F1 ?_
  exact F2
end Go.Proofs.Ytimdmhhgomfijaa

/- Law package 22: row. -/
import Derived.Test.YtimdmhhgomfijaaBlkQ
namespace Go.Proofs.Ytimdmhhgomfijaa
set_option linter.unusedVariables false
set_option linter.unusedSimpArgs false
set_option linter.unnecessarySimpa false
open Go.RowKit
set_option maxRecDepth 100000
set_option maxHeartbeats 4000000
def bsentV (E : Ent) (A : Option Addr) (n c : Nat) (A2 : Option Addr) (n2 c2 : Nat) (A4 : Option Addr) (n4 c4 : Nat) (cr s : Bool) (A5 : Option Addr) (n5 c5 : Nat) : Array Value := #[.int .i64 E.ix, .int .i64 E.sub, .string E.nm, .int .i64 E.ty, .int .i64 E.acc, .bool E.mp, .bool E.st, .int .i64 E.mx, .int .i64 E.lo, .int .i64 E.hi, .slice A n c, .slice A2 n2 c2, .slice A4 n4 c4, .bool cr, .bool s, .slice A5 n5 c5]
def dkS (mo sz ix sub : Int) (B : List UInt8) (sm : Bool) (nx st c : Nat) : BlkS := ⟨mo, sz, (nx : Nat), 0, 0, 0, (st : Nat), ix, sub, padB B c, sm⟩
/-- what comes of a row: how many segments were taken, the place behind -/
def BRowR (mo sz ix sub : Int) (B : List UInt8) (sm : Bool) (p pd n4 has a0 : Nat) (w : World) (e : Ending) (w' : World) : Prop :=
  ∃ n a' st : Nat, e = .returned (.tuple #[.int .i64 (n : Nat), .int .i64 (a' : Nat), .bool true]) ∧ BV_ w' (fun _ => True) p pd (dkS mo sz ix sub B sm 1 st (has + n)) ∧ ((st = 1 ∧ has + n < btotal B) ∨ (st = 2 ∧ has + n = btotal B)) ∧ a0 ≤ a' ∧ a' ≤ n4 ∧ a0 + 1 ≤ a' + n ∧ Only (fun q => q = p) w w'
def BRowL (mo sz ix sub : Int) (B : List UInt8) (sm : Bool) (p pd n4 has a0 : Nat) (w : World) (cs : Array Value) (va vi : Value) (wr : World) : Prop :=
  ∃ i j a : Nat, vi = .int .i64 (i : Nat) ∧ va = .int .i64 (a : Nat) ∧ 1 ≤ j ∧ j ≤ i ∧ i ≤ 16 ∧ has + i ≤ btotal B ∧ a0 ≤ a ∧ a ≤ n4 ∧ (j = i ∨ a0 + 1 ≤ a) ∧ BV_ wr (fun _ => True) p pd (dkS mo sz ix sub B sm j 1 (has + j - 1)) ∧ Only (fun q => q = p) w wr ∧ Blk wr w.heap.size 59 cs
/-- behind an answer -/
def BRowA (w : World) (p pd x g : Nat) (S : BlkS) (M : Ms) (Ao : Option Addr) (no co : Nat) (Ad : Option Addr) (nd cd : Nat) (W : World) : Prop :=
  Only (fun q => q = p) w W ∧ BV_ W (fun _ => True) p pd S ∧ Blk W x 44 (outV (some ⟨g, 0, none⟩) 1 1 (outM M) Ao no co) ∧ Blk W g 39 (msV M Ad nd cd)
theorem browA_mk {w w4 : World} {p pd g : Nat} {S : BlkS} {M : Ms} {Ao : Option Addr} {no co : Nat} {Ad : Option Addr} {nd cd : Nat} {G : Nat → Prop} (h1 : Only (fun q => q = p) w w4) (h2 : BV_ w4 G p pd S) (h3 : Blk w4 g 39 (msV M Ad nd cd)) :
    BRowA w p pd w4.heap.size g S M Ao no co Ad nd cd (w4.alloc (.cells (outV (some ⟨g, 0, none⟩) 1 1 (outM M) Ao no co) 44)) :=
  ⟨h1.new _, h2.keep (fun q _ hq => Below.heap_alloc _ _ _ hq) (by simp) (fun _ _ _ => trivial), Blk.new w4 44 _, h3.alloc _⟩
theorem row_22 (p pd : Nat) (E : Ent) (A : Option Addr) (n c : Nat) (A2 : Option Addr) (n2 c2 : Nat) (A4 : Option Addr) (n4 c4 : Nat) (cr s : Bool) (A5 : Option Addr) (n5 c5 : Nat) (mo sz ix sub : Int) (B : List UInt8) (lost : List Bool) (sm : Bool) (has a0 : Nat) (w0 w : World)
    (hn2 : Hid (n2 = B.length)) (hc2 : n2 ≤ c2) (h256 : n2 ≤ 256) (hB : Hid (∀ W, Below w0.heap.size w0 W → Sl W A2 (B.map bv))) (hn4 : Hid (n4 = lost.length)) (h300 : n4 ≤ 300) (hL : Hid (∀ W, Below w0.heap.size w0 W → Sl W A4 (lost.map Value.bool))) (ha0 : a0 ≤ n4) (hhas : has < btotal B)
    (hmo : (n2 : Int) ≤ mo) (hmo2 : mo ≤ 256) (hS : Hid (BV_ w (fun _ => True) p pd (dkS mo sz ix sub B sm 1 1 has))) (hb : Hid (Below w0.heap.size w0 w)) (hp : w0.heap.size ≤ p) :
    Calls Try.prog 24 #[.pointer (some ⟨p, 0, none⟩), .agg (bsentV E A n c A2 n2 c2 A4 n4 c4 cr s A5 n5 c5), .int .i64 (has : Nat), .int .i64 (a0 : Nat)] w (BRowR mo sz ix sub B sm p pd n4 has a0 w) := by
  obtain ⟨P, hP⟩ : ∃ P, P = BRowR mo sz ix sub B sm p pd n4 has a0 w := ⟨_, rfl⟩
  rw [← hP]
  have HP := hide hP
  have hzp : p < w.heap.size := by obtain ⟨A8, n8, c8, hB8, _⟩ := hS.out; exact hB8.lt
  obtain ⟨tot, ht⟩ : ∃ tot, tot = btotal B := ⟨_, rfl⟩
  have HT := hide ht
  obtain ⟨hb1, hb2, hb3⟩ := btotal_le B
  have hb4 := btotal_lt B
  have ht40 : tot ≤ 40 := by have := hn2.out; omega
  have hht : has < tot := by omega
  have HM7 : Hid (∀ i, has + i ≤ tot → (7 * (has + i) : Nat) ≤ mo + 7) := hide (fun i hi => by
    have := hn2.out
    omega)
  have hbw := below_alloc (Below.refl w.heap.size w) (.cells (bsentV E A n c A2 n2 c2 A4 n4 c4 cr s A5 n5 c5) 59)
  have q := blk_one w 59 (bsentV E A n c A2 n2 c2 A4 n4 c4 cr s A5 n5 c5)
  have HQ := hide q
  have HBW := hide hbw
  have HST : Hid (BRowL mo sz ix sub B sm p pd n4 has a0 w (bsentV E A n c A2 n2 c2 A4 n4 c4 cr s A5 n5 c5) (.int .i64 (a0 : Nat)) (.int .i64 (1 : Nat)) (w.alloc (.cells (bsentV E A n c A2 n2 c2 A4 n4 c4 cr s A5 n5 c5) 59))) := hide
    ⟨1, 1, a0, rfl, rfl, Nat.le_refl _, Nat.le_refl _, by omega, by omega, Nat.le_refl _, ha0, .inl rfl, hS.out.keep (fun q _ hq => Below.heap_alloc _ _ _ hq) (by simp) (fun _ _ _ => trivial), Only.of_below hbw, q⟩
  clear hP ht hb1 hb2 hb3 hb4 hbw q hhas
  unfold bsentV at HQ HBW HST
  unfold bsentV
  have qq := HQ.out
  have qq_c0 := qq.cell 0 rfl
  have qq_f0 := qq.frozen 0
  have qq_c1 := qq.cell 1 rfl
  have qq_f1 := qq.frozen 1
  have qq_c2 := qq.cell 2 rfl
  have qq_f2 := qq.frozen 2
  have qq_c3 := qq.cell 3 rfl
  have qq_f3 := qq.frozen 3
  have qq_c4 := qq.cell 4 rfl
  have qq_f4 := qq.frozen 4
  have qq_c5 := qq.cell 5 rfl
  have qq_f5 := qq.frozen 5
  have qq_c6 := qq.cell 6 rfl
  have qq_f6 := qq.frozen 6
  have qq_c7 := qq.cell 7 rfl
  have qq_f7 := qq.frozen 7
  have qq_c8 := qq.cell 8 rfl
  have qq_f8 := qq.frozen 8
  have qq_c9 := qq.cell 9 rfl
  have qq_f9 := qq.frozen 9
  have qq_c10 := qq.cell 10 rfl
  have qq_f10 := qq.frozen 10
  have qq_c11 := qq.cell 11 rfl
  have qq_f11 := qq.frozen 11
  have qq_c12 := qq.cell 12 rfl
  have qq_f12 := qq.frozen 12
  have qq_c13 := qq.cell 13 rfl
  have qq_f13 := qq.frozen 13
  have qq_c14 := qq.cell 14 rfl
  have qq_f14 := qq.frozen 14
  have qq_c15 := qq.cell 15 rfl
  have qq_f15 := qq.frozen 15
  go_enter Try.func24, Try.ntmps24
  go_wp2_with fail
  refine (pieces_22 A2 n2 c2 B _ hn2.out (by omega)).mono ?_
  rintro e w1 ⟨rfl, hw1⟩
  subst hw1
  rw [← HT.out]
  go_wp2_with fail
  clear qq_c0 qq_f0 qq_c1 qq_f1 qq_c2 qq_f2 qq_c3 qq_f3 qq_c4 qq_f4 qq_c5 qq_f5 qq_c6 qq_f6 qq_c7 qq_f7 qq_c8 qq_f8 qq_c9 qq_f9 qq_c10 qq_f10 qq_c11 qq_f11 qq_c12 qq_f12 qq_c13 qq_f13 qq_c14 qq_f14 qq_c15 qq_f15
  clear qq
  go_loopw [3, 12, 13, 14, 15, 16] (fun va vi _ _ _ _ wr => BRowL mo sz ix sub B sm p pd n4 has a0 w (bsentV E A n c A2 n2 c2 A4 n4 c4 cr s A5 n5 c5) va vi wr) (fun _ vi _ _ _ _ _ => 17 - (intOf vi).toNat)
  case atStart => exact HST.out
  case round =>
    obtain ⟨i, j, a, rfl, rfl, h1j, hji, hi16, hit, haa, han4, hja, hSr, hOr, qq⟩ := hrel
    rw [← HT.out] at hit
    have HSr := hide hSr
    have HOr := hide hOr
    have HBr := hide (hb.out.trans (hOr.below hb.out.size (fun k (e : k = p) => by omega)))
    have HQr := hide qq
    obtain ⟨k0, hk0⟩ : ∃ k0, k0 = has + i - 1 := ⟨_, rfl⟩
    have hki : (has : Int) + (i : Int) - 1 = (k0 : Int) := by omega
    have hk40 : k0 ≤ 1000 := by omega
    have HK0 := hide hk0
    have hi17 : (i : Int) ≤ 16 := by omega
    have hhi : (has : Int) + (i : Int) ≤ (tot : Int) := by omega
    have h7 := HM7.out i hit
    have HM := hide h7
    clear hSr hOr hk0 h7
    unfold bsentV at qq
    have qq_c0 := qq.cell 0 rfl
    have qq_f0 := qq.frozen 0
    have qq_c1 := qq.cell 1 rfl
    have qq_f1 := qq.frozen 1
    have qq_c2 := qq.cell 2 rfl
    have qq_f2 := qq.frozen 2
    have qq_c3 := qq.cell 3 rfl
    have qq_f3 := qq.frozen 3
    have qq_c4 := qq.cell 4 rfl
    have qq_f4 := qq.frozen 4
    have qq_c5 := qq.cell 5 rfl
    have qq_f5 := qq.frozen 5
    have qq_c6 := qq.cell 6 rfl
    have qq_f6 := qq.frozen 6
    have qq_c7 := qq.cell 7 rfl
    have qq_f7 := qq.frozen 7
    have qq_c8 := qq.cell 8 rfl
    have qq_f8 := qq.frozen 8
    have qq_c9 := qq.cell 9 rfl
    have qq_f9 := qq.frozen 9
    have qq_c10 := qq.cell 10 rfl
    have qq_f10 := qq.frozen 10
    have qq_c11 := qq.cell 11 rfl
    have qq_f11 := qq.frozen 11
    have qq_c12 := qq.cell 12 rfl
    have qq_f12 := qq.frozen 12
    have qq_c13 := qq.cell 13 rfl
    have qq_f13 := qq.frozen 13
    have qq_c14 := qq.cell 14 rfl
    have qq_f14 := qq.frozen 14
    have qq_c15 := qq.cell 15 rfl
    have qq_f15 := qq.frozen 15
    have zx5 : w.heap.size < wr.heap.size := qq.lt
    by_cases hla : has + i = tot
    · have hq1 : ((has : Int) + (i : Int) == (tot : Int)) = true := by simp; omega
      by_cases han : a < n4
      · go_wp2_with fail
        refine (piece_22 A2 n2 c2 B k0 wr hn2.out hc2 (by omega) hk40 (hB.out wr HBr.out)).mono ?_
        rintro e w3 ⟨A6, c6, rfl, hO6, hb3⟩
        have HO6 := hide hO6
        have HS3 := hide (HSr.out.keep (w' := w3) (H := fun _ => True) (fun q _ hq => hb3.block q hq) hb3.size (fun _ _ _ => trivial))
        have HO3 := hide (HOr.out.step hb3)
        have HQ3 := hide (HQr.out.below hb3 HQr.out.lt)
        have zr3 := hb3.size
        have zrp : w.heap.size < wr.heap.size := HQr.out.lt
        clear qq_c0 qq_f0 qq_c1 qq_f1 qq_c2 qq_f2 qq_c3 qq_f3 qq_c4 qq_f4 qq_c5 qq_f5 qq_c6 qq_f6 qq_c7 qq_f7 qq_c8 qq_f8 qq_c9 qq_f9 qq_c10 qq_f10 qq_c11 qq_f11 qq_c12 qq_f12 qq_c13 qq_f13 qq_c14 qq_f14 qq_c15 qq_f15
        clear hO6 hb3 qq
        go_wp2_with fail
        have hr := blk_recv21 p pd mo sz (j : Nat) 0 0 0 ix sub (padB B (has + j - 1)) sm (fun _ => True) 0 0 false true false false 0 0 (bpiece B k0) (i : Nat) 0 0 0 A6 7 c6 w3 HS3.out (by rw [padB_len]; omega) (by omega) (by omega) (hide (piece_len B k0).symm) (by decide) (hide (fun W' h => (ownB_only HO6.out h (fun g h1 _ (e : g = p) => by omega)).sl))
        refine hr.mono ?_
        rintro e w4 ⟨X4, As4, ns4, cs4, Ao4, no4, co4, rfl, hm4, hO4, hX4, hS4, ho4⟩
        clear hr
        obtain ⟨j', st', u1, u2, v1, v2, v3, v4⟩ := bp_end mo sz ix sub B sm has i j tot true h1j hji hi16 hit (by simp; exact hla) (.inl rfl) HM.out
        rw [← HK0.out] at u1 u2
        rw [u1] at hS4
        obtain ⟨n', hn'⟩ : ∃ n', n' = j' - 1 := ⟨_, rfl⟩
        rw [show ((j' : Nat) : Int) - 1 = ((n' : Nat) : Int) by omega] at u2
        rw [u2] at hm4 hO4 ⊢
        obtain ⟨g7, Ad7, nd7, cd7, rfl, rfl, rfl, hg7, hM7, hOd7⟩ := ms_one hm4
        have HX := hide (browA_mk (Ao := Ao4) (no := no4) (co := co4) (HO3.out.trans ho4 (fun _ _ h => h)) hS4 hM7)
        obtain ⟨x0, hx0⟩ : ∃ x0, x0 = w4.heap.size := ⟨_, rfl⟩
        clear hm4 hO4 hX4 hS4 hM7 hOd7 hg7 u1 u2 ho4
        unfold outV outM
        dsimp only
        go_upto_region 13 with fail
        refine wp_gen (P := BRowA w p pd w4.heap.size g7 ⟨mo, sz, 1, 0, 0, 0, (st' : Nat), ix, sub, padB B (has + j' - 1), sm⟩ (ackM ((n' : Nat) : Int)) Ao4 no4 co4 Ad7 nd7 cd7) HX.out (fun W hW => ?_)
        clear HX
        rw [← hx0] at hW ⊢
        obtain ⟨hOW, hSW, hK, hM⟩ := hW
        have HOW := hide hOW
        have HSW := hide hSW
        unfold outV outM at hK
        unfold msV ackM at hM
        have hK_c0 := hK.cell 0 rfl
        have hK_f0 := hK.frozen 0
        have hK_c1 := hK.cell 1 rfl
        have hK_f1 := hK.frozen 1
        have hK_c2 := hK.cell 2 rfl
        have hK_f2 := hK.frozen 2
        have hK_c3 := hK.cell 3 rfl
        have hK_f3 := hK.frozen 3
        have hK_c4 := hK.cell 4 rfl
        have hK_f4 := hK.frozen 4
        have hM_c0 := hM.cell 0 rfl
        have hM_f0 := hM.frozen 0
        have hM_c1 := hM.cell 1 rfl
        have hM_f1 := hM.frozen 1
        have hM_c2 := hM.cell 2 rfl
        have hM_f2 := hM.frozen 2
        have hM_c3 := hM.cell 3 rfl
        have hM_f3 := hM.frozen 3
        have hM_c4 := hM.cell 4 rfl
        have hM_f4 := hM.frozen 4
        have hM_c5 := hM.cell 5 rfl
        have hM_f5 := hM.frozen 5
        have hM_c6 := hM.cell 6 rfl
        have hM_f6 := hM.frozen 6
        have hM_c7 := hM.cell 7 rfl
        have hM_f7 := hM.frozen 7
        have hM_c8 := hM.cell 8 rfl
        have hM_f8 := hM.frozen 8
        have hM_c9 := hM.cell 9 rfl
        have hM_f9 := hM.frozen 9
        have hM_c10 := hM.cell 10 rfl
        have hM_f10 := hM.frozen 10
        have hM_c11 := hM.cell 11 rfl
        have hM_f11 := hM.frozen 11
        have hM_c12 := hM.cell 12 rfl
        have hM_f12 := hM.frozen 12
        have hM_c13 := hM.cell 13 rfl
        have hM_f13 := hM.frozen 13
        have zxW : x0 < W.heap.size := hK.lt
        have zgW : g7 < W.heap.size := hM.lt
        have hs1 : ¬ ((n' : Int) < 0) := by omega
        have hs2 : ¬ ((i : Int) < (n' : Int)) := by omega
        have HN' := hide hn'
        clear hOW hSW hn' hx0
        go_wp2_with fail
        go_ret3
        rw [HP.out]
        refine ⟨n', a, st', rfl, ?_, ?_, by omega, by omega, ?_, HOW.out⟩
        · have hh : has + n' = has + j' - 1 := by have := HN'.out; omega
          unfold dkS
          rw [hh]
          exact HSW.out
        · rw [← HT.out]
          have := HN'.out
          rcases v4 with ⟨a1, a2⟩ | ⟨a1, a2⟩
          · exact .inl ⟨a1, by omega⟩
          · exact .inr ⟨a1, by omega⟩
        · have := HN'.out
          rcases hja with h | h
          · have := v3 h; omega
          · omega
      · go_wp2_with fail
        refine (piece_22 A2 n2 c2 B k0 wr hn2.out hc2 (by omega) hk40 (hB.out wr HBr.out)).mono ?_
        rintro e w3 ⟨A6, c6, rfl, hO6, hb3⟩
        have HO6 := hide hO6
        have HS3 := hide (HSr.out.keep (w' := w3) (H := fun _ => True) (fun q _ hq => hb3.block q hq) hb3.size (fun _ _ _ => trivial))
        have HO3 := hide (HOr.out.step hb3)
        have HQ3 := hide (HQr.out.below hb3 HQr.out.lt)
        have zr3 := hb3.size
        have zrp : w.heap.size < wr.heap.size := HQr.out.lt
        clear qq_c0 qq_f0 qq_c1 qq_f1 qq_c2 qq_f2 qq_c3 qq_f3 qq_c4 qq_f4 qq_c5 qq_f5 qq_c6 qq_f6 qq_c7 qq_f7 qq_c8 qq_f8 qq_c9 qq_f9 qq_c10 qq_f10 qq_c11 qq_f11 qq_c12 qq_f12 qq_c13 qq_f13 qq_c14 qq_f14 qq_c15 qq_f15
        clear hO6 hb3 qq
        go_wp2_with fail
        have hr := blk_recv21 p pd mo sz (j : Nat) 0 0 0 ix sub (padB B (has + j - 1)) sm (fun _ => True) 0 0 false true false false 0 0 (bpiece B k0) (i : Nat) 0 0 0 A6 7 c6 w3 HS3.out (by rw [padB_len]; omega) (by omega) (by omega) (hide (piece_len B k0).symm) (by decide) (hide (fun W' h => (ownB_only HO6.out h (fun g h1 _ (e : g = p) => by omega)).sl))
        refine hr.mono ?_
        rintro e w4 ⟨X4, As4, ns4, cs4, Ao4, no4, co4, rfl, hm4, hO4, hX4, hS4, ho4⟩
        clear hr
        obtain ⟨j', st', u1, u2, v1, v2, v3, v4⟩ := bp_end mo sz ix sub B sm has i j tot true h1j hji hi16 hit (by simp; exact hla) (.inl rfl) HM.out
        rw [← HK0.out] at u1 u2
        rw [u1] at hS4
        obtain ⟨n', hn'⟩ : ∃ n', n' = j' - 1 := ⟨_, rfl⟩
        rw [show ((j' : Nat) : Int) - 1 = ((n' : Nat) : Int) by omega] at u2
        rw [u2] at hm4 hO4 ⊢
        obtain ⟨g7, Ad7, nd7, cd7, rfl, rfl, rfl, hg7, hM7, hOd7⟩ := ms_one hm4
        have HX := hide (browA_mk (Ao := Ao4) (no := no4) (co := co4) (HO3.out.trans ho4 (fun _ _ h => h)) hS4 hM7)
        obtain ⟨x0, hx0⟩ : ∃ x0, x0 = w4.heap.size := ⟨_, rfl⟩
        clear hm4 hO4 hX4 hS4 hM7 hOd7 hg7 u1 u2 ho4
        unfold outV outM
        dsimp only
        go_upto_region 13 with fail
        refine wp_gen (P := BRowA w p pd w4.heap.size g7 ⟨mo, sz, 1, 0, 0, 0, (st' : Nat), ix, sub, padB B (has + j' - 1), sm⟩ (ackM ((n' : Nat) : Int)) Ao4 no4 co4 Ad7 nd7 cd7) HX.out (fun W hW => ?_)
        clear HX
        rw [← hx0] at hW ⊢
        obtain ⟨hOW, hSW, hK, hM⟩ := hW
        have HOW := hide hOW
        have HSW := hide hSW
        unfold outV outM at hK
        unfold msV ackM at hM
        have hK_c0 := hK.cell 0 rfl
        have hK_f0 := hK.frozen 0
        have hK_c1 := hK.cell 1 rfl
        have hK_f1 := hK.frozen 1
        have hK_c2 := hK.cell 2 rfl
        have hK_f2 := hK.frozen 2
        have hK_c3 := hK.cell 3 rfl
        have hK_f3 := hK.frozen 3
        have hK_c4 := hK.cell 4 rfl
        have hK_f4 := hK.frozen 4
        have hM_c0 := hM.cell 0 rfl
        have hM_f0 := hM.frozen 0
        have hM_c1 := hM.cell 1 rfl
        have hM_f1 := hM.frozen 1
        have hM_c2 := hM.cell 2 rfl
        have hM_f2 := hM.frozen 2
        have hM_c3 := hM.cell 3 rfl
        have hM_f3 := hM.frozen 3
        have hM_c4 := hM.cell 4 rfl
        have hM_f4 := hM.frozen 4
        have hM_c5 := hM.cell 5 rfl
        have hM_f5 := hM.frozen 5
        have hM_c6 := hM.cell 6 rfl
        have hM_f6 := hM.frozen 6
        have hM_c7 := hM.cell 7 rfl
        have hM_f7 := hM.frozen 7
        have hM_c8 := hM.cell 8 rfl
        have hM_f8 := hM.frozen 8
        have hM_c9 := hM.cell 9 rfl
        have hM_f9 := hM.frozen 9
        have hM_c10 := hM.cell 10 rfl
        have hM_f10 := hM.frozen 10
        have hM_c11 := hM.cell 11 rfl
        have hM_f11 := hM.frozen 11
        have hM_c12 := hM.cell 12 rfl
        have hM_f12 := hM.frozen 12
        have hM_c13 := hM.cell 13 rfl
        have hM_f13 := hM.frozen 13
        have zxW : x0 < W.heap.size := hK.lt
        have zgW : g7 < W.heap.size := hM.lt
        have hs1 : ¬ ((n' : Int) < 0) := by omega
        have hs2 : ¬ ((i : Int) < (n' : Int)) := by omega
        have HN' := hide hn'
        clear hOW hSW hn' hx0
        go_wp2_with fail
        go_ret3
        rw [HP.out]
        refine ⟨n', a, st', rfl, ?_, ?_, by omega, by omega, ?_, HOW.out⟩
        · have hh : has + n' = has + j' - 1 := by have := HN'.out; omega
          unfold dkS
          rw [hh]
          exact HSW.out
        · rw [← HT.out]
          have := HN'.out
          rcases v4 with ⟨a1, a2⟩ | ⟨a1, a2⟩
          · exact .inl ⟨a1, by omega⟩
          · exact .inr ⟨a1, by omega⟩
        · have := HN'.out
          rcases hja with h | h
          · have := v3 h; omega
          · omega
    · have hq1 : ((has : Int) + (i : Int) == (tot : Int)) = false := by simp; omega
      by_cases hi : i = 16
      · have hq2 : ((i : Int) == 16) = true := by simp [hi]
        have HI := hide hi
        clear hi
        by_cases han : a < n4
        · go_wp2_with fail
          refine (piece_22 A2 n2 c2 B k0 wr hn2.out hc2 (by omega) hk40 (hB.out wr HBr.out)).mono ?_
          rintro e w3 ⟨A6, c6, rfl, hO6, hb3⟩
          have HO6 := hide hO6
          have HS3 := hide (HSr.out.keep (w' := w3) (H := fun _ => True) (fun q _ hq => hb3.block q hq) hb3.size (fun _ _ _ => trivial))
          have HO3 := hide (HOr.out.step hb3)
          have HQ3 := hide (HQr.out.below hb3 HQr.out.lt)
          have zr3 := hb3.size
          have zrp : w.heap.size < wr.heap.size := HQr.out.lt
          clear qq_c0 qq_f0 qq_c1 qq_f1 qq_c2 qq_f2 qq_c3 qq_f3 qq_c4 qq_f4 qq_c5 qq_f5 qq_c6 qq_f6 qq_c7 qq_f7 qq_c8 qq_f8 qq_c9 qq_f9 qq_c10 qq_f10 qq_c11 qq_f11 qq_c12 qq_f12 qq_c13 qq_f13 qq_c14 qq_f14 qq_c15 qq_f15
          clear hO6 hb3 qq
          go_wp2_with fail
          have hr := blk_recv21 p pd mo sz (j : Nat) 0 0 0 ix sub (padB B (has + j - 1)) sm (fun _ => True) 0 0 false false false false 0 0 (bpiece B k0) (i : Nat) 0 0 0 A6 7 c6 w3 HS3.out (by rw [padB_len]; omega) (by omega) (by omega) (hide (piece_len B k0).symm) (by decide) (hide (fun W' h => (ownB_only HO6.out h (fun g h1 _ (e : g = p) => by omega)).sl))
          refine hr.mono ?_
          rintro e w4 ⟨X4, As4, ns4, cs4, Ao4, no4, co4, rfl, hm4, hO4, hX4, hS4, ho4⟩
          clear hr
          obtain ⟨j', st', u1, u2, v1, v2, v3, v4⟩ := bp_end mo sz ix sub B sm has i j tot false h1j hji hi16 hit (by simp; exact hla) (.inr HI.out) HM.out
          rw [← HK0.out] at u1 u2
          rw [u1] at hS4
          obtain ⟨n', hn'⟩ : ∃ n', n' = j' - 1 := ⟨_, rfl⟩
          rw [show ((j' : Nat) : Int) - 1 = ((n' : Nat) : Int) by omega] at u2
          rw [u2] at hm4 hO4 ⊢
          obtain ⟨g7, Ad7, nd7, cd7, rfl, rfl, rfl, hg7, hM7, hOd7⟩ := ms_one hm4
          have HX := hide (browA_mk (Ao := Ao4) (no := no4) (co := co4) (HO3.out.trans ho4 (fun _ _ h => h)) hS4 hM7)
          obtain ⟨x0, hx0⟩ : ∃ x0, x0 = w4.heap.size := ⟨_, rfl⟩
          clear hm4 hO4 hX4 hS4 hM7 hOd7 hg7 u1 u2 ho4
          unfold outV outM
          dsimp only
          go_upto_region 13 with fail
          refine wp_gen (P := BRowA w p pd w4.heap.size g7 ⟨mo, sz, 1, 0, 0, 0, (st' : Nat), ix, sub, padB B (has + j' - 1), sm⟩ (ackM ((n' : Nat) : Int)) Ao4 no4 co4 Ad7 nd7 cd7) HX.out (fun W hW => ?_)
          clear HX
          rw [← hx0] at hW ⊢
          obtain ⟨hOW, hSW, hK, hM⟩ := hW
          have HOW := hide hOW
          have HSW := hide hSW
          unfold outV outM at hK
          unfold msV ackM at hM
          have hK_c0 := hK.cell 0 rfl
          have hK_f0 := hK.frozen 0
          have hK_c1 := hK.cell 1 rfl
          have hK_f1 := hK.frozen 1
          have hK_c2 := hK.cell 2 rfl
          have hK_f2 := hK.frozen 2
          have hK_c3 := hK.cell 3 rfl
          have hK_f3 := hK.frozen 3
          have hK_c4 := hK.cell 4 rfl
          have hK_f4 := hK.frozen 4
          have hM_c0 := hM.cell 0 rfl
          have hM_f0 := hM.frozen 0
          have hM_c1 := hM.cell 1 rfl
          have hM_f1 := hM.frozen 1
          have hM_c2 := hM.cell 2 rfl
          have hM_f2 := hM.frozen 2
          have hM_c3 := hM.cell 3 rfl
          have hM_f3 := hM.frozen 3
          have hM_c4 := hM.cell 4 rfl
          have hM_f4 := hM.frozen 4
          have hM_c5 := hM.cell 5 rfl
          have hM_f5 := hM.frozen 5
          have hM_c6 := hM.cell 6 rfl
          have hM_f6 := hM.frozen 6
          have hM_c7 := hM.cell 7 rfl
          have hM_f7 := hM.frozen 7
          have hM_c8 := hM.cell 8 rfl
          have hM_f8 := hM.frozen 8
          have hM_c9 := hM.cell 9 rfl
          have hM_f9 := hM.frozen 9
          have hM_c10 := hM.cell 10 rfl
          have hM_f10 := hM.frozen 10
          have hM_c11 := hM.cell 11 rfl
          have hM_f11 := hM.frozen 11
          have hM_c12 := hM.cell 12 rfl
          have hM_f12 := hM.frozen 12
          have hM_c13 := hM.cell 13 rfl
          have hM_f13 := hM.frozen 13
          have zxW : x0 < W.heap.size := hK.lt
          have zgW : g7 < W.heap.size := hM.lt
          have hs1 : ¬ ((n' : Int) < 0) := by omega
          have hs2 : ¬ ((i : Int) < (n' : Int)) := by omega
          have HN' := hide hn'
          clear hOW hSW hn' hx0
          go_wp2_with fail
          go_ret3
          rw [HP.out]
          refine ⟨n', a, st', rfl, ?_, ?_, by omega, by omega, ?_, HOW.out⟩
          · have hh : has + n' = has + j' - 1 := by have := HN'.out; omega
            unfold dkS
            rw [hh]
            exact HSW.out
          · rw [← HT.out]
            have := HN'.out
            rcases v4 with ⟨a1, a2⟩ | ⟨a1, a2⟩
            · exact .inl ⟨a1, by omega⟩
            · exact .inr ⟨a1, by omega⟩
          · have := HN'.out
            rcases hja with h | h
            · have := v3 h; omega
            · omega
        · go_wp2_with fail
          refine (piece_22 A2 n2 c2 B k0 wr hn2.out hc2 (by omega) hk40 (hB.out wr HBr.out)).mono ?_
          rintro e w3 ⟨A6, c6, rfl, hO6, hb3⟩
          have HO6 := hide hO6
          have HS3 := hide (HSr.out.keep (w' := w3) (H := fun _ => True) (fun q _ hq => hb3.block q hq) hb3.size (fun _ _ _ => trivial))
          have HO3 := hide (HOr.out.step hb3)
          have HQ3 := hide (HQr.out.below hb3 HQr.out.lt)
          have zr3 := hb3.size
          have zrp : w.heap.size < wr.heap.size := HQr.out.lt
          clear qq_c0 qq_f0 qq_c1 qq_f1 qq_c2 qq_f2 qq_c3 qq_f3 qq_c4 qq_f4 qq_c5 qq_f5 qq_c6 qq_f6 qq_c7 qq_f7 qq_c8 qq_f8 qq_c9 qq_f9 qq_c10 qq_f10 qq_c11 qq_f11 qq_c12 qq_f12 qq_c13 qq_f13 qq_c14 qq_f14 qq_c15 qq_f15
          clear hO6 hb3 qq
          go_wp2_with fail
          have hr := blk_recv21 p pd mo sz (j : Nat) 0 0 0 ix sub (padB B (has + j - 1)) sm (fun _ => True) 0 0 false false false false 0 0 (bpiece B k0) (i : Nat) 0 0 0 A6 7 c6 w3 HS3.out (by rw [padB_len]; omega) (by omega) (by omega) (hide (piece_len B k0).symm) (by decide) (hide (fun W' h => (ownB_only HO6.out h (fun g h1 _ (e : g = p) => by omega)).sl))
          refine hr.mono ?_
          rintro e w4 ⟨X4, As4, ns4, cs4, Ao4, no4, co4, rfl, hm4, hO4, hX4, hS4, ho4⟩
          clear hr
          obtain ⟨j', st', u1, u2, v1, v2, v3, v4⟩ := bp_end mo sz ix sub B sm has i j tot false h1j hji hi16 hit (by simp; exact hla) (.inr HI.out) HM.out
          rw [← HK0.out] at u1 u2
          rw [u1] at hS4
          obtain ⟨n', hn'⟩ : ∃ n', n' = j' - 1 := ⟨_, rfl⟩
          rw [show ((j' : Nat) : Int) - 1 = ((n' : Nat) : Int) by omega] at u2
          rw [u2] at hm4 hO4 ⊢
          obtain ⟨g7, Ad7, nd7, cd7, rfl, rfl, rfl, hg7, hM7, hOd7⟩ := ms_one hm4
          have HX := hide (browA_mk (Ao := Ao4) (no := no4) (co := co4) (HO3.out.trans ho4 (fun _ _ h => h)) hS4 hM7)
          obtain ⟨x0, hx0⟩ : ∃ x0, x0 = w4.heap.size := ⟨_, rfl⟩
          clear hm4 hO4 hX4 hS4 hM7 hOd7 hg7 u1 u2 ho4
          unfold outV outM
          dsimp only
          go_upto_region 13 with fail
          refine wp_gen (P := BRowA w p pd w4.heap.size g7 ⟨mo, sz, 1, 0, 0, 0, (st' : Nat), ix, sub, padB B (has + j' - 1), sm⟩ (ackM ((n' : Nat) : Int)) Ao4 no4 co4 Ad7 nd7 cd7) HX.out (fun W hW => ?_)
          clear HX
          rw [← hx0] at hW ⊢
          obtain ⟨hOW, hSW, hK, hM⟩ := hW
          have HOW := hide hOW
          have HSW := hide hSW
          unfold outV outM at hK
          unfold msV ackM at hM
          have hK_c0 := hK.cell 0 rfl
          have hK_f0 := hK.frozen 0
          have hK_c1 := hK.cell 1 rfl
          have hK_f1 := hK.frozen 1
          have hK_c2 := hK.cell 2 rfl
          have hK_f2 := hK.frozen 2
          have hK_c3 := hK.cell 3 rfl
          have hK_f3 := hK.frozen 3
          have hK_c4 := hK.cell 4 rfl
          have hK_f4 := hK.frozen 4
          have hM_c0 := hM.cell 0 rfl
          have hM_f0 := hM.frozen 0
          have hM_c1 := hM.cell 1 rfl
          have hM_f1 := hM.frozen 1
          have hM_c2 := hM.cell 2 rfl
          have hM_f2 := hM.frozen 2
          have hM_c3 := hM.cell 3 rfl
          have hM_f3 := hM.frozen 3
          have hM_c4 := hM.cell 4 rfl
          have hM_f4 := hM.frozen 4
          have hM_c5 := hM.cell 5 rfl
          have hM_f5 := hM.frozen 5
          have hM_c6 := hM.cell 6 rfl
          have hM_f6 := hM.frozen 6
          have hM_c7 := hM.cell 7 rfl
          have hM_f7 := hM.frozen 7
          have hM_c8 := hM.cell 8 rfl
          have hM_f8 := hM.frozen 8
          have hM_c9 := hM.cell 9 rfl
          have hM_f9 := hM.frozen 9
          have hM_c10 := hM.cell 10 rfl
          have hM_f10 := hM.frozen 10
          have hM_c11 := hM.cell 11 rfl
          have hM_f11 := hM.frozen 11
          have hM_c12 := hM.cell 12 rfl
          have hM_f12 := hM.frozen 12
          have hM_c13 := hM.cell 13 rfl
          have hM_f13 := hM.frozen 13
          have zxW : x0 < W.heap.size := hK.lt
          have zgW : g7 < W.heap.size := hM.lt
          have hs1 : ¬ ((n' : Int) < 0) := by omega
          have hs2 : ¬ ((i : Int) < (n' : Int)) := by omega
          have HN' := hide hn'
          clear hOW hSW hn' hx0
          go_wp2_with fail
          go_ret3
          rw [HP.out]
          refine ⟨n', a, st', rfl, ?_, ?_, by omega, by omega, ?_, HOW.out⟩
          · have hh : has + n' = has + j' - 1 := by have := HN'.out; omega
            unfold dkS
            rw [hh]
            exact HSW.out
          · rw [← HT.out]
            have := HN'.out
            rcases v4 with ⟨a1, a2⟩ | ⟨a1, a2⟩
            · exact .inl ⟨a1, by omega⟩
            · exact .inr ⟨a1, by omega⟩
          · have := HN'.out
            rcases hja with h | h
            · have := v3 h; omega
            · omega
      · have hq2 : ((i : Int) == 16) = false := by simp; omega
        by_cases han : a < n4
        · obtain ⟨v, hv⟩ : ∃ v, lost[a]? = some v := ⟨lost[a]'(by rw [← hn4.out]; exact han), List.getElem?_eq_getElem _⟩
          obtain ⟨gL, hA4, hcell⟩ := (hL.out wr HBr.out) a (.bool v) (by simp [hv])
          subst hA4
          have HV := hide hv
          clear hv
          cases v
          · go_wp2_with fail
            refine (piece_22 A2 n2 c2 B k0 wr hn2.out hc2 (by omega) hk40 (hB.out wr HBr.out)).mono ?_
            rintro e w3 ⟨A6, c6, rfl, hO6, hb3⟩
            have HO6 := hide hO6
            have HS3 := hide (HSr.out.keep (w' := w3) (H := fun _ => True) (fun q _ hq => hb3.block q hq) hb3.size (fun _ _ _ => trivial))
            have HO3 := hide (HOr.out.step hb3)
            have HQ3 := hide (HQr.out.below hb3 HQr.out.lt)
            have zr3 := hb3.size
            have zrp : w.heap.size < wr.heap.size := HQr.out.lt
            clear qq_c0 qq_f0 qq_c1 qq_f1 qq_c2 qq_f2 qq_c3 qq_f3 qq_c4 qq_f4 qq_c5 qq_f5 qq_c6 qq_f6 qq_c7 qq_f7 qq_c8 qq_f8 qq_c9 qq_f9 qq_c10 qq_f10 qq_c11 qq_f11 qq_c12 qq_f12 qq_c13 qq_f13 qq_c14 qq_f14 qq_c15 qq_f15
            clear hO6 hb3 qq
            go_wp2_with fail
            have hr := blk_recv21 p pd mo sz (j : Nat) 0 0 0 ix sub (padB B (has + j - 1)) sm (fun _ => True) 0 0 false false false false 0 0 (bpiece B k0) (i : Nat) 0 0 0 A6 7 c6 w3 HS3.out (by rw [padB_len]; omega) (by omega) (by omega) (hide (piece_len B k0).symm) (by decide) (hide (fun W' h => (ownB_only HO6.out h (fun g h1 _ (e : g = p) => by omega)).sl))
            refine hr.mono ?_
            rintro e w4 ⟨X4, As4, ns4, cs4, Ao4, no4, co4, rfl, hm4, hO4, hX4, hS4, ho4⟩
            clear hr
            obtain ⟨j', u1, u2, v1, v2, v3⟩ := bp_mid mo sz ix sub B sm has i j h1j hji (by omega) HM.out
            rw [← HK0.out] at u1 u2
            rw [u1] at hS4
            rw [u2] at hm4 hO4 ⊢
            obtain ⟨rfl, rfl, rfl⟩ := ms_none hm4
            have HK := hide (Blk.new w4 44 (outV none 0 0 outZ Ao4 no4 co4))
            have HR : Hid (BRowL mo sz ix sub B sm p pd n4 has a0 w (bsentV E A n c A2 n2 c2 (some gL) n4 c4 cr s A5 n5 c5) (.int .i64 ((a + 1 : Nat) : Int)) (.int .i64 ((i + 1 : Nat) : Int)) (w4.alloc (.cells (outV none 0 0 outZ Ao4 no4 co4) 44))) := hide
              ⟨i + 1, j', a + 1, rfl, rfl, v1, v2, by omega, by rw [← HT.out]; omega, by omega, by omega, by rcases hja with h | h; exact .inl (v3 h); exact .inr (by omega), (show BV_ w4 _ p pd (dkS mo sz ix sub B sm j' 1 (has + j' - 1)) from hS4).keep (fun q _ hq => Below.heap_alloc _ _ _ hq) (by simp) (fun _ _ _ => trivial), (HO3.out.trans ho4 (fun _ _ h => h)).new _, (blk_only HQ3.out ho4 (show w.heap.size ≠ p by omega)).alloc _⟩
            clear hm4 hO4 hX4 hS4 u1 u2 ho4
            unfold outV outZ at HK HR
            unfold outV outZ
            dsimp only
            have hk := HK.out
            have hk_c0 := hk.cell 0 rfl
            have hk_f0 := hk.frozen 0
            have hk_c1 := hk.cell 1 rfl
            have hk_f1 := hk.frozen 1
            have hk_c2 := hk.cell 2 rfl
            have hk_f2 := hk.frozen 2
            have hk_c3 := hk.cell 3 rfl
            have hk_f3 := hk.frozen 3
            have hk_c4 := hk.cell 4 rfl
            have hk_f4 := hk.frozen 4
            clear hk
            go_wp2_with fail
            go_roundw
            case rel => exact HR.out
            case measure => simp [intOf]; omega
          · go_wp2_with fail
            go_roundw
            case rel => exact ⟨i + 1, j, a + 1, by go_num, by go_num, h1j, by omega, by omega, by rw [← HT.out]; omega, by omega, by omega, .inr (by omega), HSr.out, HOr.out, HQr.out⟩
            case measure => simp [intOf]; omega
        · go_wp2_with fail
          refine (piece_22 A2 n2 c2 B k0 wr hn2.out hc2 (by omega) hk40 (hB.out wr HBr.out)).mono ?_
          rintro e w3 ⟨A6, c6, rfl, hO6, hb3⟩
          have HO6 := hide hO6
          have HS3 := hide (HSr.out.keep (w' := w3) (H := fun _ => True) (fun q _ hq => hb3.block q hq) hb3.size (fun _ _ _ => trivial))
          have HO3 := hide (HOr.out.step hb3)
          have HQ3 := hide (HQr.out.below hb3 HQr.out.lt)
          have zr3 := hb3.size
          have zrp : w.heap.size < wr.heap.size := HQr.out.lt
          clear qq_c0 qq_f0 qq_c1 qq_f1 qq_c2 qq_f2 qq_c3 qq_f3 qq_c4 qq_f4 qq_c5 qq_f5 qq_c6 qq_f6 qq_c7 qq_f7 qq_c8 qq_f8 qq_c9 qq_f9 qq_c10 qq_f10 qq_c11 qq_f11 qq_c12 qq_f12 qq_c13 qq_f13 qq_c14 qq_f14 qq_c15 qq_f15
          clear hO6 hb3 qq
          go_wp2_with fail
          have hr := blk_recv21 p pd mo sz (j : Nat) 0 0 0 ix sub (padB B (has + j - 1)) sm (fun _ => True) 0 0 false false false false 0 0 (bpiece B k0) (i : Nat) 0 0 0 A6 7 c6 w3 HS3.out (by rw [padB_len]; omega) (by omega) (by omega) (hide (piece_len B k0).symm) (by decide) (hide (fun W' h => (ownB_only HO6.out h (fun g h1 _ (e : g = p) => by omega)).sl))
          refine hr.mono ?_
          rintro e w4 ⟨X4, As4, ns4, cs4, Ao4, no4, co4, rfl, hm4, hO4, hX4, hS4, ho4⟩
          clear hr
          obtain ⟨j', u1, u2, v1, v2, v3⟩ := bp_mid mo sz ix sub B sm has i j h1j hji (by omega) HM.out
          rw [← HK0.out] at u1 u2
          rw [u1] at hS4
          rw [u2] at hm4 hO4 ⊢
          obtain ⟨rfl, rfl, rfl⟩ := ms_none hm4
          have HK := hide (Blk.new w4 44 (outV none 0 0 outZ Ao4 no4 co4))
          have HR : Hid (BRowL mo sz ix sub B sm p pd n4 has a0 w (bsentV E A n c A2 n2 c2 A4 n4 c4 cr s A5 n5 c5) (.int .i64 ((a : Nat) : Int)) (.int .i64 ((i + 1 : Nat) : Int)) (w4.alloc (.cells (outV none 0 0 outZ Ao4 no4 co4) 44))) := hide
            ⟨i + 1, j', a, rfl, rfl, v1, v2, by omega, by rw [← HT.out]; omega, by omega, by omega, by rcases hja with h | h; exact .inl (v3 h); exact .inr h, (show BV_ w4 _ p pd (dkS mo sz ix sub B sm j' 1 (has + j' - 1)) from hS4).keep (fun q _ hq => Below.heap_alloc _ _ _ hq) (by simp) (fun _ _ _ => trivial), (HO3.out.trans ho4 (fun _ _ h => h)).new _, (blk_only HQ3.out ho4 (show w.heap.size ≠ p by omega)).alloc _⟩
          clear hm4 hO4 hX4 hS4 u1 u2 ho4
          unfold outV outZ at HK HR
          unfold outV outZ
          dsimp only
          have hk := HK.out
          have hk_c0 := hk.cell 0 rfl
          have hk_f0 := hk.frozen 0
          have hk_c1 := hk.cell 1 rfl
          have hk_f1 := hk.frozen 1
          have hk_c2 := hk.cell 2 rfl
          have hk_f2 := hk.frozen 2
          have hk_c3 := hk.cell 3 rfl
          have hk_f3 := hk.frozen 3
          have hk_c4 := hk.cell 4 rfl
          have hk_f4 := hk.frozen 4
          clear hk
          go_wp2_with fail
          go_roundw
          case rel => exact HR.out
          case measure => simp [intOf]; omega
end Go.Proofs.Ytimdmhhgomfijaa

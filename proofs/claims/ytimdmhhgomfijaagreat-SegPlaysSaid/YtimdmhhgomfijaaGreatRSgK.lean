/- Segments' law: does, kind 0: plain. -/
import Derived.Test.YtimdmhhgomfijaaGreatRSgJ
import Derived.Test.YtimdmhhgomfijaaGreatRSm
namespace Go.Proofs.YtimdmhhgomfijaaGreat
set_option linter.unusedVariables false
set_option linter.unusedSimpArgs false
set_option linter.unnecessarySimpa false
section
open Go.RowKit
set_option maxRecDepth 100000
set_option maxHeartbeats 40000000
theorem rec_wr {L : List Ent} {V : List (List UInt8)} {S : SegS} {M : Ms} (h : (recvO L V S M).wr = true) : (recvO L V S M).ms = [] := by
  revert h
  unfold recvO downO upO partO nextO
  (repeat' split) <;> intro h <;> first | rfl | (exact absurd h (by simp [outZ, outM, outL]))
theorem getB_le {L : List Ent} {V : List (List UInt8)} (hv : ∀ v ∈ V, v.length ≤ 256) (ix sub : Int) : (getB L V ix sub).length ≤ 256 := by
  unfold getB
  split
  · unfold valK
    rw [List.getD_eq_getElem?_getD]
    cases hx : V[locK L ix sub]? with
    | none => simp
    | some v => exact hv v (List.mem_of_getElem? hx)
  · simp
theorem rec_b {L : List Ent} {V : List (List UInt8)} {S : SegS} {M : Ms} (hwf : WfS S) (hM : M.data.length ≤ 100) : (recvO L V S M).b.length ≤ 200000 := by
  unfold recvO
  split
  · exact Nat.zero_le _
  split
  · unfold downO
    split
    · exact Nat.zero_le _
    split
    · show M.data.length ≤ 200000
      omega
    · exact Nat.zero_le _
  split
  · unfold upO
    (repeat' split) <;> exact Nat.zero_le _
  split
  · rename_i hk
    have h2 := (hwf.1 hk.2).2
    unfold partO
    split
    · exact Nat.zero_le _
    split
    · show (S.b ++ M.data).length ≤ 200000
      rw [List.length_append]
      omega
    · exact Nat.zero_le _
  split
  · unfold nextO
    split <;> exact Nat.zero_le _
  split <;> exact Nat.zero_le _
theorem abortL_d (S : SegS) (c : Nat) : ∀ K ∈ abortL S c, K.data.length ≤ 200000 := by
  unfold abortL
  split
  · simp
  · intro K hK
    simp at hK
    subst hK
    exact Nat.zero_le _
theorem one_d {M : Ms} (h : M.data.length ≤ 200000) : ∀ K ∈ (outM M).ms, K.data.length ≤ 200000 := by
  intro K hK
  have hK : K ∈ [M] := hK
  simp at hK
  subst hK
  exact h
theorem rec_m {L : List Ent} {V : List (List UInt8)} {S : SegS} {M : Ms} (hv : ∀ v ∈ V, v.length ≤ 256) : ∀ K ∈ (recvO L V S M).ms, K.data.length ≤ 200000 := by
  have hz : ∀ K ∈ ([] : List Ms), K.data.length ≤ 200000 := by simp
  unfold recvO
  split
  · exact hz
  split
  · unfold downO
    split
    · exact one_d (Nat.zero_le _)
    split
    · exact hz
    · exact one_d (Nat.zero_le _)
  split
  · unfold upO
    split
    · exact one_d (Nat.zero_le _)
    split
    · exact one_d (by have := getB_le (L := L) hv M.ix M.sub; show (getB L V M.ix M.sub).length ≤ 200000; omega)
    · exact one_d (Nat.zero_le _)
  split
  · unfold partO
    split
    · exact abortL_d _ _
    split
    · exact hz
    · exact one_d (Nat.zero_le _)
  split
  · unfold nextO
    split
    · exact abortL_d _ _
    · exact one_d (by show (S.b.take 7).length ≤ 200000; simp; omega)
  split <;> exact one_d (Nat.zero_le _)
/-- behind the program's Receive -/
def RecC (W : World) (ps pd : Nat) (Gs : Nat → Prop) (S' : SegS) (O : SegO) (s : Value) (wx : World) : Prop :=
  ∃ gx Xs As ns cs A n c, s = .pointer (some ⟨gx, 0, none⟩) ∧ W.heap.size ≤ gx ∧ Blk wx gx 70 (outV As ns cs O A n c) ∧ MsR wx W.heap.size Xs As ns cs O.ms ∧ OwnB wx W.heap.size A n c O.b ∧ FIn Xs A ∧ (∀ q, Xs q → W.heap.size ≤ q ∧ q < wx.heap.size) ∧ ¬ Xs gx ∧ SV_ wx (fun q => (Gs q ∨ W.heap.size ≤ q) ∧ ¬ Xs q) ps pd S' ∧ Only (fun q => q = ps) W wx
def RecR (W : World) (pr pt : Nat) (Gr : Nat → Prop) (S' : SegS) (O : SegO) (s : Value) (wx : World) : Prop :=
  ∃ gy Bs nbs cbs B nb cb, s = .pointer (some ⟨gy, 0, none⟩) ∧ W.heap.size ≤ gy ∧ Blk wx gy 90 (outV Bs nbs cbs O B nb cb) ∧ RMsR wx W.heap.size Bs nbs cbs O.ms ∧ OwnB wx W.heap.size B nb cb O.b ∧ RV_ wx (fun q => Gr q ∨ W.heap.size ≤ q) pr pt S' ∧ Only (fun q => q = pr) W wx
theorem msR_x {w : World} {N : Nat} {X Y : Nat → Prop} {As : Option Addr} {ns cs : Nat} {l : List Ms} (h : MsR w N X As ns cs l) (hy : ∀ q, X q → N ≤ q → q < w.heap.size → Y q) : MsR w N Y As ns cs l := by
  rcases h with h | ⟨M, g, A, n, c, a, b, c', d, e, f, g', h⟩
  · exact .inl h
  · exact .inr ⟨M, g, A, n, c, a, b, c', d, e, f, g', fun q hq => hy q (h q hq) (g'.own.fin q hq).1 (g'.own.fin q hq).2⟩
theorem msR_mono {w : World} {N N' : Nat} {X : Nat → Prop} {As : Option Addr} {ns cs : Nat} {l : List Ms} (h : MsR w N X As ns cs l) (hn : N' ≤ N) : MsR w N' X As ns cs l := by
  rcases h with h | ⟨M, g, A, n, c, a, b, c', d, e, f, g', h⟩
  · exact .inl h
  · exact .inr ⟨M, g, A, n, c, a, b, c', d, by omega, f, g'.mono hn, h⟩
theorem msR_keep {w w' : World} {N : Nat} {X : Nat → Prop} {As : Option Addr} {ns cs : Nat} {l : List Ms} {F : Nat → Prop} (h : MsR w N X As ns cs l) (ho : Only F w w') (hF : ∀ q, F q → q < N) : MsR w' N X As ns cs l := by
  rcases h with h | ⟨M, g, A, n, c, a, b, c', d, e, f, g', h⟩
  · exact .inl h
  · exact .inr ⟨M, g, A, n, c, a, b, c', d, e, blk_only f ho (fun k => by have := hF _ k; omega), ownB_only g' ho (fun q h1 _ k => by have := hF _ k; omega), h⟩
theorem rmsR_mono {w : World} {N N' : Nat} {As : Option Addr} {ns cs : Nat} {l : List Ms} (h : RMsR w N As ns cs l) (hn : N' ≤ N) : RMsR w N' As ns cs l := by
  rcases h with h | ⟨M, g, A, n, c, a, b, c', d, e, f, g'⟩
  · exact .inl h
  · exact .inr ⟨M, g, A, n, c, a, b, c', d, by omega, f, g'.mono hn⟩
/-- the call first, then the block -/
theorem recc_mk {W Wc w3 : World} {ps pd : Nat} {Gs : Nat → Prop} {S' : SegS} {O : SegO} {X : Nat → Prop} {As : Option Addr} {ns cs : Nat} {A : Option Addr} {n c : Nat} (hb : Below W.heap.size W Wc) (h1 : MsR w3 Wc.heap.size X As ns cs O.ms) (h2 : OwnB w3 Wc.heap.size A n c O.b) (h3 : FIn X A) (h4 : SV_ w3 (fun g => (Gs g ∨ Wc.heap.size ≤ g) ∧ ¬ X g) ps pd S') (h5 : Only (fun g => g = ps) Wc w3) :
    RecC W ps pd Gs S' O (.pointer (some ⟨w3.heap.size, 0, none⟩)) (w3.alloc (.cells (outV As ns cs O A n c) 70)) := by
  have z1 := hb.size
  have z5 := h5.size
  refine ⟨w3.heap.size, fun q => X q ∧ W.heap.size ≤ q ∧ q < w3.heap.size, As, ns, cs, A, n, c, rfl, by omega, Blk.new _ _ _, ?_, (h2.mono z1).alloc _, fun q hq => ⟨h3 q hq, by have := (h2.own.fin q hq).1; omega, (h2.own.fin q hq).2⟩, fun q h => ⟨h.2.1, by have := h.2.2; simp; omega⟩, fun h => by have := h.2.2; omega, ?_, (Only.after hb h5).new _⟩
  · exact msR_keep (F := fun _ => False) (msR_x (msR_mono h1 z1) (fun q a b c => ⟨a, b, c⟩)) (Only.new (Only.refl _ _) _) (fun q h => h.elim)
  · exact h4.keep (fun q hq hlt => Below.heap_alloc _ _ _ hlt) (by simp) (fun q h6 h => ⟨h.1.imp id (fun h => by omega), fun k => h.2 k.1⟩)
/-- the block first, then the call -/
theorem recc_mk2 {W Wc w3 : World} {gz ps pd : Nat} {Gs : Nat → Prop} {S' : SegS} {O : SegO} {X : Nat → Prop} {As : Option Addr} {ns cs : Nat} {A : Option Addr} {n c : Nat} (hb : Below W.heap.size W Wc) (hgz : W.heap.size ≤ gz) (hz : gz < Wc.heap.size) (hZ : Blk Wc gz 70 (outV none 0 0 outZ none 0 0)) (hps : ps < W.heap.size) (h1 : MsR w3 Wc.heap.size X As ns cs O.ms) (h2 : OwnB w3 Wc.heap.size A n c O.b) (h3 : FIn X A) (h4 : SV_ w3 (fun g => (Gs g ∨ Wc.heap.size ≤ g) ∧ ¬ X g) ps pd S') (h5 : Only (fun g => g = ps) Wc w3) (hG : ∀ q, Gs q → q < W.heap.size) :
    RecC W ps pd Gs S' O (.pointer (some ⟨gz, 0, none⟩)) (putO w3 gz As ns cs O A n c) := by
  have z1 := hb.size
  have z5 := h5.size
  have hZ3 : Blk w3 gz 70 (outV none 0 0 outZ none 0 0) := blk_only hZ h5 (fun e => by omega)
  refine ⟨gz, fun q => X q ∧ Wc.heap.size ≤ q ∧ q < w3.heap.size, As, ns, cs, A, n, c, rfl, hgz, putO_blk hZ3, ?_, (putO_own h2 hz _ _ _ _ _ _ _).mono z1, fun q hq => ⟨h3 q hq, (h2.own.fin q hq).1, (h2.own.fin q hq).2⟩, fun q h => ⟨by have := h.2.1; omega, by rw [putO_size]; exact h.2.2⟩, fun h => by have := h.2.1; omega, ?_, putO_only (Only.after hb h5) hgz _ _ _ _ _ _ _⟩
  · rcases h1 with h | ⟨M, g, A', n', c', a, b, c'', d, e, f, g', h⟩
    · exact .inl h
    · exact .inr ⟨M, g, A', n', c', a, b, c'', d, by omega, putO_far f (by omega) _ _ _ _ _ _ _, (putO_own g' hz _ _ _ _ _ _ _).mono z1, fun q hq => ⟨h q hq, (g'.own.fin q hq).1, (g'.own.fin q hq).2⟩⟩
  · exact h4.keep (fun q hq hlt => putO_heap (by rcases hq with rfl | hq; omega; (rcases hq.1 with k | k; (have := hG q k; omega); omega)) _ _ _ _ _ _ _) (by rw [putO_size]; exact Nat.le_refl _) (fun q h6 h => ⟨h.1.imp id (fun h => by omega), fun k => h.2 k.1⟩)
theorem rmsR_below {w w' : World} {N : Nat} {As : Option Addr} {ns cs : Nat} {l : List Ms} (h : RMsR w N As ns cs l) (hb : Below w.heap.size w w') : RMsR w' N As ns cs l := by
  rcases h with h | ⟨M, g, A, n, c, a, b, c', d, e, f, g'⟩
  · exact .inl h
  · exact .inr ⟨M, g, A, n, c, a, b, c', d, e, f.below hb f.lt, g'.below hb⟩
theorem tail_mkX {Z Xs : Nat → Prop} {N N1 N2 : Nat} {L : List Ent} {pp pd pt ps pr : Nat} {V : List (List UInt8)} {S : SegS} {lix lsub : Int} {lb : List UInt8} {X Gs Gr : Nat → Prop} {Al : Option Addr} {cl : Nat} {w W : World} {As Bs : Option Addr} {ns cs nbs cbs : Nat} {l : List Ms} (hb : Below N w W) (hC : PlayC Z N L pp pd pt ps pr V S S lix lsub lb X Gs Gr Al cl W) (hwf : WfS S) (hvp : ValsP L V) (h1 : MsR W N1 Xs As ns cs l) (hXZ : ∀ q, Xs q → Z q) (h2 : RMsR W N2 Bs nbs cbs l) (hN1 : N ≤ N1) (hle : ∀ K ∈ l, K.data.length ≤ 200000) : TailS N L pp pd pt ps pr w As ns cs Bs nbs cbs W := by
  have hN : N ≤ W.heap.size := by have := hC.pb.lt; have := hC.nn.1; omega
  refine ⟨hb, hN, ?_⟩
  rcases h1 with ⟨rfl, rfl, rfl, rfl⟩ | ⟨M, g, A, n, c, rfl, rfl, rfl, rfl, _, hB, hO, hX⟩
  · rcases h2 with ⟨_, rfl, rfl, rfl⟩ | ⟨M2, g2, _, _, _, h, _⟩
    · exact .inl ⟨rfl, rfl, rfl, rfl, rfl, rfl, V, S, lix, lsub, lb, X, Gs, Gr, Al, cl, hC.mono (fun q h => h.elim), hwf, hvp⟩
    · cases h
  · rcases h2 with ⟨h, _⟩ | ⟨M2, g2, A2, n2, c2, hl, rfl, rfl, rfl, _, hB2, hO2⟩
    · cases h
    · injection hl with hl
      subst hl
      exact .inr ⟨M, g, A, n, c, g2, A2, n2, c2, rfl, rfl, rfl, rfl, rfl, rfl, hB, hO.mono hN1, hle M (by simp), hB2, hO2.hn, hO2.sl, fun W' ho => ⟨V, S, lix, lsub, lb, X, _, _, Al, cl, (hC.only (ho.mono (fun q _ h => hXZ q (hX q h)))).mono (fun q h => h.elim), hwf, hvp⟩⟩
theorem recr_mk {W w3 : World} {pr pt : Nat} {Gr : Nat → Prop} {S' : SegS} {O : SegO} {As : Option Addr} {ns cs : Nat} {A : Option Addr} {n c : Nat} (h1 : RMsR w3 W.heap.size As ns cs O.ms) (h2 : OwnB w3 W.heap.size A n c O.b) (h4 : RV_ w3 (fun g => Gr g ∨ W.heap.size ≤ g) pr pt S') (h5 : Only (fun g => g = pr) W w3) :
    RecR W pr pt Gr S' O (.pointer (some ⟨w3.heap.size, 0, none⟩)) (w3.alloc (.cells (outV As ns cs O A n c) 90)) := by
  have z5 := h5.size
  refine ⟨w3.heap.size, As, ns, cs, A, n, c, rfl, z5, Blk.new _ _ _, ?_, h2.alloc _, h4.keep (fun q hq hlt => Below.heap_alloc _ _ _ hlt) (by simp) (fun q _ h => h), h5.new _⟩
  rcases h1 with h | ⟨M, g, A', n', c', a, b, c'', d, e, f, g'⟩
  · exact .inl h
  · exact .inr ⟨M, g, A', n', c', a, b, c'', d, e, f.alloc _, g'.alloc _⟩
theorem recr_mk2 {W Wc w3 : World} {pr pt : Nat} {Gr : Nat → Prop} {S' : SegS} {O : SegO} {As : Option Addr} {ns cs : Nat} {A : Option Addr} {n c : Nat} (hb : Below W.heap.size W Wc) (hz : W.heap.size < Wc.heap.size) (hZ : Blk Wc W.heap.size 90 (outV none 0 0 outZ none 0 0)) (hpr : pr ≠ W.heap.size) (h1 : RMsR w3 Wc.heap.size As ns cs O.ms) (h2 : OwnB w3 Wc.heap.size A n c O.b) (h4 : RV_ w3 (fun g => Gr g ∨ Wc.heap.size ≤ g) pr pt S') (h5 : Only (fun g => g = pr) Wc w3) (hG : ∀ q, Gr q → q < W.heap.size) :
    RecR W pr pt Gr S' O (.pointer (some ⟨W.heap.size, 0, none⟩)) (putO w3 W.heap.size As ns cs O A n c) := by
  have z1 := hb.size
  have z5 := h5.size
  have hZ3 : Blk w3 W.heap.size 90 (outV none 0 0 outZ none 0 0) := blk_only hZ h5 (fun e => hpr e.symm)
  refine ⟨W.heap.size, As, ns, cs, A, n, c, rfl, Nat.le_refl _, putO_blkT hZ3, ?_, (putO_own h2 hz _ _ _ _ _ _ _).mono z1, ?_, putO_only (Only.after hb h5) (Nat.le_refl _) _ _ _ _ _ _ _⟩
  · rcases h1 with h | ⟨M, g, A', n', c', a, b, c'', d, e, f, g'⟩
    · exact .inl h
    · exact .inr ⟨M, g, A', n', c', a, b, c'', d, by omega, putO_far f (by omega) _ _ _ _ _ _ _, (putO_own g' hz _ _ _ _ _ _ _).mono z1⟩
  · exact h4.keep (fun q hq hlt => putO_heap (by rcases hq with rfl | hq; exact hpr; (rcases hq with k | k; (have := hG q k; omega); omega)) _ _ _ _ _ _ _) (by rw [putO_size]; exact Nat.le_refl _) (fun q h6 h => h.imp id (fun h => by omega))
theorem slv_one {w : World} {g : Nat} {ix sub : Int} {A : Option Addr} {n c : Nat} {b : List UInt8} (hB : Blk w g 41 #[.int .i64 ix, .int .i64 sub, .slice A n c]) (hn : n = b.length) (hc : n ≤ c) (hs : Sl w A (b.map bv)) : SlV w (some ⟨g, 0, none⟩) [⟨ix, sub, b⟩] := by
  intro j v hj
  have hj0 : j = 0 := by
    have := (List.getElem?_eq_some_iff.1 hj).1
    simp at this
    exact this
  subst hj0
  injection hj with hj
  subst hj
  subst hn
  exact ⟨g, 0, A, c, rfl, hB.cell 0 rfl, hB.cell 1 rfl, hB.cell 2 rfl, hc, hs⟩
theorem s7_mk {W' : World} {pp pd pt ps pr g : Nat} {lix lsub : Int} {Al : Option Addr} {lb : List UInt8} {cl : Nat} {M : Ms} {A3 : Option Addr} {m3 c3 code : Nat} (hp : Blk W' pp 43 #[.pointer (some ⟨pd, 0, none⟩), .pointer (some ⟨pt, 0, none⟩), .pointer (some ⟨ps, 0, none⟩), .pointer (some ⟨pr, 0, none⟩), .int .i64 lix, .int .i64 lsub, .slice Al lb.length cl]) (ho : Blk W' g 50 (opV 0 M A3 m3 c3 code)) : W'.cell? ⟨pp, 2, none⟩ = some (.pointer (some ⟨ps, 0, none⟩)) ∧ W'.cell? ⟨g, 1, none⟩ = some (.int .i64 M.kind) ∧ W'.cell? ⟨g, 2, none⟩ = some (.int .i64 M.ix) ∧ W'.cell? ⟨g, 3, none⟩ = some (.int .i64 M.sub) ∧ W'.cell? ⟨g, 4, none⟩ = some (.bool M.tg) ∧ W'.cell? ⟨g, 5, none⟩ = some (.bool M.la) ∧ W'.cell? ⟨g, 6, none⟩ = some (.bool M.cr) ∧ W'.cell? ⟨g, 7, none⟩ = some (.bool M.sz) ∧ W'.cell? ⟨g, 8, none⟩ = some (.int .u32 (M.size : Nat)) ∧ W'.cell? ⟨g, 9, none⟩ = some (.int .u32 (M.code : Nat)) ∧ W'.cell? ⟨g, 10, none⟩ = some (.slice A3 m3 c3) ∧ W'.cell? ⟨g, 11, none⟩ = some (.int .i64 M.sq) ∧ W'.cell? ⟨g, 12, none⟩ = some (.int .i64 M.bl) ∧ W'.cell? ⟨g, 13, none⟩ = some (.int .i64 M.em) ∧ W'.cell? ⟨g, 14, none⟩ = some (.int .u16 (M.sum : Nat)) := ⟨hp.cell 2 rfl, ho.cell 1 rfl, ho.cell 2 rfl, ho.cell 3 rfl, ho.cell 4 rfl, ho.cell 5 rfl, ho.cell 6 rfl, ho.cell 7 rfl, ho.cell 8 rfl, ho.cell 9 rfl, ho.cell 10 rfl, ho.cell 11 rfl, ho.cell 12 rfl, ho.cell 13 rfl, ho.cell 14 rfl⟩
theorem s8_mk {W' : World} {pp pd pt ps pr g : Nat} {lix lsub : Int} {Al : Option Addr} {lb : List UInt8} {cl : Nat} {M : Ms} {A3 : Option Addr} {m3 c3 code : Nat} (hp : Blk W' pp 43 #[.pointer (some ⟨pd, 0, none⟩), .pointer (some ⟨pt, 0, none⟩), .pointer (some ⟨ps, 0, none⟩), .pointer (some ⟨pr, 0, none⟩), .int .i64 lix, .int .i64 lsub, .slice Al lb.length cl]) (ho : Blk W' g 50 (opV 0 M A3 m3 c3 code)) : W'.cell? ⟨pp, 3, none⟩ = some (.pointer (some ⟨pr, 0, none⟩)) ∧ W'.cell? ⟨g, 1, none⟩ = some (.int .i64 M.kind) ∧ W'.cell? ⟨g, 2, none⟩ = some (.int .i64 M.ix) ∧ W'.cell? ⟨g, 3, none⟩ = some (.int .i64 M.sub) ∧ W'.cell? ⟨g, 4, none⟩ = some (.bool M.tg) ∧ W'.cell? ⟨g, 5, none⟩ = some (.bool M.la) ∧ W'.cell? ⟨g, 6, none⟩ = some (.bool M.cr) ∧ W'.cell? ⟨g, 7, none⟩ = some (.bool M.sz) ∧ W'.cell? ⟨g, 8, none⟩ = some (.int .u32 (M.size : Nat)) ∧ W'.cell? ⟨g, 9, none⟩ = some (.int .u32 (M.code : Nat)) ∧ W'.cell? ⟨g, 10, none⟩ = some (.slice A3 m3 c3) ∧ W'.cell? ⟨g, 11, none⟩ = some (.int .i64 M.sq) ∧ W'.cell? ⟨g, 12, none⟩ = some (.int .i64 M.bl) ∧ W'.cell? ⟨g, 13, none⟩ = some (.int .i64 M.em) ∧ W'.cell? ⟨g, 14, none⟩ = some (.int .u16 (M.sum : Nat)) := ⟨hp.cell 3 rfl, ho.cell 1 rfl, ho.cell 2 rfl, ho.cell 3 rfl, ho.cell 4 rfl, ho.cell 5 rfl, ho.cell 6 rfl, ho.cell 7 rfl, ho.cell 8 rfl, ho.cell 9 rfl, ho.cell 10 rfl, ho.cell 11 rfl, ho.cell 12 rfl, ho.cell 13 rfl, ho.cell 14 rfl⟩
end
section
open Go.RowKit
set_option maxRecDepth 100000
set_option maxHeartbeats 40000000
theorem does_0 {N : Nat} {L : List Ent} {pp pd pt ps pr : Nat} (M : Ms) (A3 : Option Addr) (m3 c3 code : Nat) (w : World) (h : PlayE N L pp pd pt ps pr w) (hs : SortedE L) (hL : L.length ≤ 1000) (hm : m3 = M.data.length) (hm1 : M.data.length ≤ 100) (hMd : ∀ W, Below N w W → Sl W A3 (M.data.map bv)) (hsz : M.size ≤ 4294967295) :
    Calls Tryz.prog 12 #[.pointer (some ⟨pp, 0, none⟩), .agg (opV 0 M A3 m3 c3 code)] w (DoesE N L pp pd pt ps pr w) := by
  obtain ⟨V, S, lix, lsub, lb, X0, Gs0, Gr0, Al, cl, hC0, hwf, hvp⟩ := h
  have hbw := below_alloc (Below.refl w.heap.size w) (.cells (opV 0 M A3 m3 c3 code) 50)
  have hC := hC0.below hbw
  have hpb0 := hC0.pb.lt
  have hNw : N ≤ w.heap.size := by have := hC0.nn.1; omega
  have hbN : Below N w (w.alloc (.cells (opV 0 M A3 m3 c3 code) 50)) := hbw.mono hNw
  have hq := Blk.new w 50 (opV 0 M A3 m3 c3 code)
  obtain ⟨Gs, hGs⟩ : ∃ Gs, Gs = (fun q => Gs0 q ∧ q < w.heap.size) := ⟨_, rfl⟩
  obtain ⟨Gr, hGr⟩ : ∃ Gr, Gr = (fun q => Gr0 q ∧ q < w.heap.size) := ⟨_, rfl⟩
  rw [← hGs, ← hGr] at hC
  have HS := hide hs
  have HL := hide hL
  have HWF := hide hwf
  have HVP := hide hvp
  have hpo : w.heap.size ≠ pp ∧ w.heap.size ≠ ps ∧ w.heap.size ≠ pr := by
    obtain ⟨A0, n0, c0, hsb⟩ := hC0.sv.blk
    obtain ⟨R0, A1, n1, c1, _, hrb, _⟩ := hC0.rv
    have h1 := hsb.lt
    have h2 := hrb.lt
    exact ⟨by omega, by omega, by omega⟩
  have HH : Hid (PlayC (fun _ => False) N L pp pd pt ps pr V S S lix lsub lb X0 Gs Gr Al cl _ ∧ Blk _ w.heap.size 50 (opV 0 M A3 m3 c3 code) ∧ Below N w _) := hide ⟨hC, hq, hbN⟩
  have HDA := hide (And.intro hm (And.intro hm1 (And.intro hMd hsz)))
  clear hC hC0 hq hbN hbw hs hL hwf hvp hpb0 hGs hGr hm hm1 hMd hsz
  unfold opV at HH
  unfold opV
  go_enter Tryz.func12, Tryz.ntmps12
  go_upto_region 7 with fail
  refine wp_gen (P := fun W => PlayC (fun _ => False) N L pp pd pt ps pr V S S lix lsub lb X0 Gs Gr Al cl W ∧ Blk W w.heap.size 50 (opV 0 M A3 m3 c3 code) ∧ Below N w W) HH.out (fun W hW => ?_)
  clear HH
  obtain ⟨hC, hq, hbN⟩ := hW
  have HC := hide hC
  have HQ := hide hq
  have HBN := hide hbN
  have zp := hC.pb.lt
  have zq := hq.lt
  have pb := hC.pb
  have oq := hq
  unfold opV at oq
  obtain ⟨pb_c0, pb_c1, pb_c2, pb_c3, pb_c4, pb_c5, pb_c6⟩ := cel7 pb
  have pb_f := pb.frozen
  obtain ⟨oq_c0, oq_c1, oq_c2, oq_c3, oq_c4, oq_c5, oq_c6, oq_c7, oq_c8, oq_c9, oq_c10, oq_c11, oq_c12, oq_c13, oq_c14, oq_c15⟩ := cel16 oq
  have oq_f := oq.frozen
  clear hC hq hbN
  have hC1 := HC.out.only (Only.refl _ W)
  obtain ⟨G1, hG1⟩ : ∃ G1, G1 = (fun q => Gs q ∧ q < W.heap.size) := ⟨_, rfl⟩
  obtain ⟨R1, hR1⟩ : ∃ R1, R1 = (fun q => Gr q ∧ q < W.heap.size) := ⟨_, rfl⟩
  rw [← hG1, ← hR1] at hC1
  have HG1 : Hid (∀ q, G1 q → q < W.heap.size) := hide (fun q h => by rw [hG1] at h; exact h.2)
  have HR1 : Hid (∀ q, R1 q → q < W.heap.size) := hide (fun q h => by rw [hR1] at h; exact h.2)
  obtain ⟨Sx, hSx⟩ : ∃ Sx, Sx = recvS L V S M := ⟨_, rfl⟩
  obtain ⟨O, hO⟩ : ∃ O, O = recvO L V S M := ⟨_, rfl⟩
  obtain ⟨Fd, Fr, gl, n8, cl8, Av, cv, ds, es, Al2, cl2, Av2, cv2, ds2, es2, T⟩ := id hC1.two
  have hn8 : n8 ≤ 1000 := by rw [T.hn]; exact HL.out
  have hv256 := vals_le HVP.out T.d.lenV
  have HWX : Hid (WfS Sx) := hide (by rw [hSx]; exact wf_recv hv256 HWF.out)
  have HOW : Hid (O.wr = true → O.ms = []) := hide (by rw [hO]; exact rec_wr)
  have HOB : Hid (O.b.length ≤ 200000) := hide (by rw [hO]; exact rec_b HWF.out HDA.out.2.1)
  have HOM : Hid (∀ K ∈ O.ms, K.data.length ≤ 200000) := hide (by rw [hO]; exact rec_m hv256)
  have HV256 := hide hv256
  have hNW : N ≤ W.heap.size := by have := hC1.pb.lt; have := hC1.nn.1; omega
  obtain ⟨A00, n00, c00, hsb⟩ := hC1.sv.blk
  obtain ⟨R00, A01, n01, c01, _, hrb, _⟩ := id hC1.rv
  have hpsW := hsb.lt
  have hprW := hrb.lt
  have HRC : Hid (∀ Wc, Below W.heap.size W Wc → Calls Tryz.prog 23 #[.pointer (some ⟨ps, 0, none⟩), .agg (msV M A3 m3 c3)] Wc (SOutR Wc G1 ps pd Sx O)) := hide (fun Wc hb => by
    rw [hSx, hO]
    exact seg_recv ps S G1 M A3 m3 c3 Wc (T.d.below hb) HS.out hn8 hv256 (fun h => (T.bd ps h).2.2 hC1.xs.2.1) (hC1.sv.keep (fun q _ hlt => hb.block q hlt) hb.size (fun q _ h => h)) HDA.out.1 (by have := HDA.out.1; have := HDA.out.2.1; omega) (fun W' ho => HDA.out.2.2.1 W' (HBN.out.trans ((hb.mono hNW).trans (ho.below (by have := hb.size; omega) (fun q e => by rw [e]; exact hC1.nn.2.1))))) HDA.out.2.2.2 HWF.out.bytes)
  have HC1 := hide hC1
  have HSX := hide hSx
  have HOX := hide hO
  clear hC1 hG1 hR1 T hsb hrb hv256 hSx hO hn8
  go_cut [7] (fun s wx => RecC W ps pd G1 Sx O s wx)
  case first =>
    refine wp_region_held_drew (S := (fun w' => w'.cell? ⟨pp, 2, none⟩ = some (.pointer (some ⟨ps, 0, none⟩)) ∧ w'.cell? ⟨w.heap.size, 1, none⟩ = some (.int .i64 M.kind) ∧ w'.cell? ⟨w.heap.size, 2, none⟩ = some (.int .i64 M.ix) ∧ w'.cell? ⟨w.heap.size, 3, none⟩ = some (.int .i64 M.sub) ∧ w'.cell? ⟨w.heap.size, 4, none⟩ = some (.bool M.tg) ∧ w'.cell? ⟨w.heap.size, 5, none⟩ = some (.bool M.la) ∧ w'.cell? ⟨w.heap.size, 6, none⟩ = some (.bool M.cr) ∧ w'.cell? ⟨w.heap.size, 7, none⟩ = some (.bool M.sz) ∧ w'.cell? ⟨w.heap.size, 8, none⟩ = some (.int .u32 (M.size : Nat)) ∧ w'.cell? ⟨w.heap.size, 9, none⟩ = some (.int .u32 (M.code : Nat)) ∧ w'.cell? ⟨w.heap.size, 10, none⟩ = some (.slice A3 m3 c3) ∧ w'.cell? ⟨w.heap.size, 11, none⟩ = some (.int .i64 M.sq) ∧ w'.cell? ⟨w.heap.size, 12, none⟩ = some (.int .i64 M.bl) ∧ w'.cell? ⟨w.heap.size, 13, none⟩ = some (.int .i64 M.em) ∧ w'.cell? ⟨w.heap.size, 14, none⟩ = some (.int .u16 (M.sum : Nat)))) (by kernel_rfl) ?hS1 (fun hHeld => ?rest1)
    case hS1 => ((try dsimp only); (exact s7_mk HC.out.pb HQ.out))
    case' rest1 => skip
    refine wpAnyH_take (i := 0) (oi := _) (v := ?v2) rfl (by kernel_rfl) (by kernel_rfl) (by kernel_rfl) (fun _ _ _ h => h) (Or.inl ⟨by rfl, ?hy2⟩) (by assumption) ?rest2
    case hy2 => ((intro w hSw; (try dsimp only at hSw); go_simp) <;> with_reducible rfl)
    case' rest2 => try simp only [List.getElem_toArray, List.getElem_cons_zero, List.getElem_cons_succ, Act.put, List.setIfInBounds_toArray, List.set_cons_zero, List.set_cons_succ]
    refine wpAnyH_take (i := 1) (oi := _) (v := ?v3) rfl (by kernel_rfl) (by kernel_rfl) (by kernel_rfl) (fun _ _ _ h => h) (Or.inl ⟨by rfl, ?hy3⟩) (by assumption) ?rest3
    case hy3 => ((intro w hSw; (try dsimp only at hSw); go_simp) <;> with_reducible rfl)
    case' rest3 => try simp only [List.getElem_toArray, List.getElem_cons_zero, List.getElem_cons_succ, Act.put, List.setIfInBounds_toArray, List.set_cons_zero, List.set_cons_succ]
    refine wpAnyH_take (i := 2) (oi := _) (v := ?v4) rfl (by kernel_rfl) (by kernel_rfl) (by kernel_rfl) (fun _ _ _ h => h) (Or.inl ⟨by rfl, ?hy4⟩) (by assumption) ?rest4
    case hy4 => ((intro w hSw; (try dsimp only at hSw); go_simp) <;> with_reducible rfl)
    case' rest4 => try simp only [List.getElem_toArray, List.getElem_cons_zero, List.getElem_cons_succ, Act.put, List.setIfInBounds_toArray, List.set_cons_zero, List.set_cons_succ]
    refine wpAnyH_take (i := 3) (oi := _) (v := ?v5) rfl (by kernel_rfl) (by kernel_rfl) (by kernel_rfl) (fun _ _ _ h => h) (Or.inl ⟨by rfl, ?hy5⟩) (by assumption) ?rest5
    case hy5 => ((intro w hSw; (try dsimp only at hSw); go_simp) <;> with_reducible rfl)
    case' rest5 => try simp only [List.getElem_toArray, List.getElem_cons_zero, List.getElem_cons_succ, Act.put, List.setIfInBounds_toArray, List.set_cons_zero, List.set_cons_succ]
    refine wpAnyH_take (i := 4) (oi := _) (v := ?v6) rfl (by kernel_rfl) (by kernel_rfl) (by kernel_rfl) (fun _ _ _ h => h) (Or.inl ⟨by rfl, ?hy6⟩) (by assumption) ?rest6
    case hy6 => ((intro w hSw; (try dsimp only at hSw); go_simp) <;> with_reducible rfl)
    case' rest6 => try simp only [List.getElem_toArray, List.getElem_cons_zero, List.getElem_cons_succ, Act.put, List.setIfInBounds_toArray, List.set_cons_zero, List.set_cons_succ]
    refine wpAnyH_take (i := 5) (oi := _) (v := ?v7) rfl (by kernel_rfl) (by kernel_rfl) (by kernel_rfl) (fun _ _ _ h => h) (Or.inl ⟨by rfl, ?hy7⟩) (by assumption) ?rest7
    case hy7 => ((intro w hSw; (try dsimp only at hSw); go_simp) <;> with_reducible rfl)
    case' rest7 => try simp only [List.getElem_toArray, List.getElem_cons_zero, List.getElem_cons_succ, Act.put, List.setIfInBounds_toArray, List.set_cons_zero, List.set_cons_succ]
    refine wpAnyH_ready (rs := [6, 8]) (by kernel_rfl) (by simp) (AllReadyH.cons (o := _) rfl (fun K hK => ?_) (AllReadyH.cons (o := _) rfl (fun K hK => ?_) AllReadyH.nil))
    · go_simp
      refine (given_21 M A3 m3 c3 _).mono ?_
      rintro e wg ⟨rfl, hbg⟩
      unfold msV
      dsimp only
      replace hbg := below_undrew hbg
      have HBG := hide hbg
      clear hbg
      refine hK.out _ _ ?hS9 (fun hHeld => ?rest9)
      case hS9 => ((try dsimp only); (exact s7_mk (HC.out.pb.below HBG.out HC.out.pb.lt) (HQ.out.below HBG.out HQ.out.lt)))
      case' rest9 => (clear hK K; try simp only [List.getElem_toArray, List.getElem_cons_zero, List.getElem_cons_succ, Act.put, List.setIfInBounds_toArray, List.set_cons_zero, List.set_cons_succ])
      refine wpAnyH_ready (rs := [7, 8]) (by kernel_rfl) (by simp) (AllReadyH.cons (o := _) rfl (fun K hK => ?_) (AllReadyH.cons (o := _) rfl (fun K hK => ?_) AllReadyH.nil))
      · go_simp
        refine (HRC.out _ HBG.out).mono ?_
        rintro e w3 ⟨Xs, As, ns, cs, A, n, c, rfl, h1, h2, h3, h4, h5⟩
        have HF := hide (recc_mk HBG.out h1 h2 h3 h4 h5)
        have HP3 := hide (blk_only (HC.out.pb.below HBG.out HC.out.pb.lt) h5 HC.out.ne.1)
        have HQ3 := hide (blk_only (HQ.out.below HBG.out HQ.out.lt) h5 hpo.2.1)
        unfold outV
        unfold outV at HF
        dsimp only
        clear h1 h2 h3 h4 h5
        refine hK.out _ _ ?hS11 (fun hHeld => ?rest11)
        case hS11 => ((try dsimp only); (exact s7_mk HP3.out HQ3.out))
        case' rest11 => (clear hK K; try simp only [List.getElem_toArray, List.getElem_cons_zero, List.getElem_cons_succ, Act.put, List.setIfInBounds_toArray, List.set_cons_zero, List.set_cons_succ])
        refine wpAnyH_ready (rs := [8]) (by kernel_rfl) (by simp) ?_
        refine AllReadyH.cons (o := _) rfl (fun K hK => ?_) AllReadyH.nil
        go_simp
        refine hK.out _ _ ?hS14 (fun hHeld => ?rest14)
        case hS14 => ((try dsimp only); (exact s7_mk (HP3.out.alloc _) (HQ3.out.alloc _)))
        case' rest14 => (clear hK K; try simp only [List.getElem_toArray, List.getElem_cons_zero, List.getElem_cons_succ, Act.put, List.setIfInBounds_toArray, List.set_cons_zero, List.set_cons_succ])
        refine wpAnyH_ready (rs := [9]) (by kernel_rfl) (by simp) ?_
        refine AllReadyH.cons (o := _) rfl (fun K hK => ?_) AllReadyH.nil
        go_simp
        refine hK.out _ _ ?hS17 (fun hHeld => ?rest17)
        case hS17 => ((try dsimp only); (exact s7_mk (HP3.out.alloc _) (HQ3.out.alloc _)))
        case' rest17 => (clear hK K; try simp only [List.getElem_toArray, List.getElem_cons_zero, List.getElem_cons_succ, Act.put, List.setIfInBounds_toArray, List.set_cons_zero, List.set_cons_succ])
        refine wpAnyH_done (by kernel_rfl) ?_ _
        have hEnd := hHeld.2
        repeat (clear hHeld)
        go_wp2_with fail
        go_meet
        exact HF.out
      · go_simp
        refine hK.out _ _ ?hS19 (fun hHeld => ?rest19)
        case hS19 => ((try dsimp only); (exact s7_mk ((HC.out.pb.below HBG.out HC.out.pb.lt).alloc _) ((HQ.out.below HBG.out HQ.out.lt).alloc _)))
        case' rest19 => (clear hK K; try simp only [List.getElem_toArray, List.getElem_cons_zero, List.getElem_cons_succ, Act.put, List.setIfInBounds_toArray, List.set_cons_zero, List.set_cons_succ])
        refine wpAnyH_ready (rs := [7]) (by kernel_rfl) (by simp) ?_
        refine AllReadyH.cons (o := _) rfl (fun K hK => ?_) AllReadyH.nil
        go_simp
        refine (HRC.out _ (below_alloc HBG.out _)).mono ?_
        rintro e w3 ⟨Xs, As, ns, cs, A, n, c, rfl, h1, h2, h3, h4, h5⟩
        have HF := hide (recc_mk2 (gz := wg.heap.size) (below_alloc HBG.out (.cells (outV none 0 0 outZ none 0 0) 70)) HBG.out.size (by simp) (Blk.new wg 70 (outV none 0 0 outZ none 0 0)) hpsW h1 h2 h3 h4 h5 HG1.out)
        have hzz : wg.heap.size ≠ ps := by have := HBG.out.size; omega
        have kz := blk_only (Blk.new wg 70 (outV none 0 0 outZ none 0 0)) h5 hzz
        have HP3 := hide (blk_only ((HC.out.pb.below HBG.out HC.out.pb.lt).alloc (.cells (outV none 0 0 outZ none 0 0) 70)) h5 HC.out.ne.1)
        have HQ3 := hide (blk_only ((HQ.out.below HBG.out HQ.out.lt).alloc (.cells (outV none 0 0 outZ none 0 0) 70)) h5 hpo.2.1)
        have zz3 := kz.lt
        have hz1 : wg.heap.size ≠ pp := by have := HBG.out.size; have := HC.out.pb.lt; omega
        have hz2 : wg.heap.size ≠ w.heap.size := by have := HBG.out.size; have := HQ.out.lt; omega
        unfold outV outZ at kz
        unfold outV
        unfold putO at HF
        dsimp only
        obtain ⟨kz_c0, kz_c1, kz_c2, kz_c3, kz_c4⟩ := cel5 kz
        have kz_f := kz.frozen
        clear h1 h2 h3 h4 h5
        refine hK.out _ _ ?hS22 (fun hHeld => ?rest22)
        case hS22 => ((try dsimp only); (exact s7_mk HP3.out HQ3.out))
        case' rest22 => (clear hK K; try simp only [List.getElem_toArray, List.getElem_cons_zero, List.getElem_cons_succ, Act.put, List.setIfInBounds_toArray, List.set_cons_zero, List.set_cons_succ])
        refine wpAnyH_ready (rs := [9]) (by kernel_rfl) (by simp) ?_
        refine AllReadyH.cons (o := _) rfl (fun K hK => ?_) AllReadyH.nil
        go_simp
        refine hK.out _ _ ?hS25 (fun hHeld => ?rest25)
        case hS25 => ((try dsimp only); (exact s7_mk (putO_far (O := O) (As := As) (ns := ns) (cs := cs) (A := A) (n := n) (c := c) HP3.out hz1.symm) (putO_far (O := O) (As := As) (ns := ns) (cs := cs) (A := A) (n := n) (c := c) HQ3.out hz2.symm)))
        case' rest25 => (clear hK K; try simp only [List.getElem_toArray, List.getElem_cons_zero, List.getElem_cons_succ, Act.put, List.setIfInBounds_toArray, List.set_cons_zero, List.set_cons_succ])
        refine wpAnyH_done (by kernel_rfl) ?_ _
        have hEnd := hHeld.2
        repeat (clear hHeld)
        go_wp2_with fail
        go_meet
        exact HF.out
    · go_simp
      refine hK.out _ _ ?hS27 (fun hHeld => ?rest27)
      case hS27 => ((try dsimp only); (exact s7_mk (HC.out.pb.alloc _) (HQ.out.alloc _)))
      case' rest27 => (clear hK K; try simp only [List.getElem_toArray, List.getElem_cons_zero, List.getElem_cons_succ, Act.put, List.setIfInBounds_toArray, List.set_cons_zero, List.set_cons_succ])
      refine wpAnyH_ready (rs := [6]) (by kernel_rfl) (by simp) ?_
      refine AllReadyH.cons (o := _) rfl (fun K hK => ?_) AllReadyH.nil
      go_simp
      refine (given_21 M A3 m3 c3 _).mono ?_
      rintro e wg ⟨rfl, hbg⟩
      unfold msV
      dsimp only
      have HBG : Hid (Below W.heap.size W wg) := hide (below_zd (z := .cells (outV none 0 0 outZ none 0 0) 70) (by simpa [outV, outZ] using hbg))
      have hZg : Blk wg W.heap.size 70 (outV none 0 0 outZ none 0 0) := blk_zd (by simpa [outV, outZ] using hbg)
      have HZG := hide hZg
      clear hbg hZg
      refine hK.out _ _ ?hS30 (fun hHeld => ?rest30)
      case hS30 => ((try dsimp only); (exact s7_mk (HC.out.pb.below HBG.out HC.out.pb.lt) (HQ.out.below HBG.out HQ.out.lt)))
      case' rest30 => (clear hK K; try simp only [List.getElem_toArray, List.getElem_cons_zero, List.getElem_cons_succ, Act.put, List.setIfInBounds_toArray, List.set_cons_zero, List.set_cons_succ])
      refine wpAnyH_ready (rs := [7]) (by kernel_rfl) (by simp) ?_
      refine AllReadyH.cons (o := _) rfl (fun K hK => ?_) AllReadyH.nil
      go_simp
      refine (HRC.out _ HBG.out).mono ?_
      rintro e w3 ⟨Xs, As, ns, cs, A, n, c, rfl, h1, h2, h3, h4, h5⟩
      have HF := hide (recc_mk2 (gz := W.heap.size) HBG.out (Nat.le_refl _) HZG.out.lt HZG.out hpsW h1 h2 h3 h4 h5 HG1.out)
      have hzz : W.heap.size ≠ ps := by omega
      have kz := blk_only HZG.out h5 hzz
      have HP3 := hide (blk_only (HC.out.pb.below HBG.out HC.out.pb.lt) h5 HC.out.ne.1)
      have HQ3 := hide (blk_only (HQ.out.below HBG.out HQ.out.lt) h5 hpo.2.1)
      have zz3 := kz.lt
      have hz1 : W.heap.size ≠ pp := by have := HC.out.pb.lt; omega
      have hz2 : W.heap.size ≠ w.heap.size := by have := HQ.out.lt; omega
      unfold outV outZ at kz
      unfold outV
      unfold putO at HF
      dsimp only
      obtain ⟨kz_c0, kz_c1, kz_c2, kz_c3, kz_c4⟩ := cel5 kz
      have kz_f := kz.frozen
      clear h1 h2 h3 h4 h5
      refine hK.out _ _ ?hS33 (fun hHeld => ?rest33)
      case hS33 => ((try dsimp only); (exact s7_mk HP3.out HQ3.out))
      case' rest33 => (clear hK K; try simp only [List.getElem_toArray, List.getElem_cons_zero, List.getElem_cons_succ, Act.put, List.setIfInBounds_toArray, List.set_cons_zero, List.set_cons_succ])
      refine wpAnyH_ready (rs := [9]) (by kernel_rfl) (by simp) ?_
      refine AllReadyH.cons (o := _) rfl (fun K hK => ?_) AllReadyH.nil
      go_simp
      refine hK.out _ _ ?hS36 (fun hHeld => ?rest36)
      case hS36 => ((try dsimp only); (exact s7_mk (putO_far (O := O) (As := As) (ns := ns) (cs := cs) (A := A) (n := n) (c := c) HP3.out hz1.symm) (putO_far (O := O) (As := As) (ns := ns) (cs := cs) (A := A) (n := n) (c := c) HQ3.out hz2.symm)))
      case' rest36 => (clear hK K; try simp only [List.getElem_toArray, List.getElem_cons_zero, List.getElem_cons_succ, Act.put, List.setIfInBounds_toArray, List.set_cons_zero, List.set_cons_succ])
      refine wpAnyH_done (by kernel_rfl) ?_ _
      have hEnd := hHeld.2
      repeat (clear hHeld)
      go_wp2_with fail
      go_meet
      exact HF.out
  case rest =>
    obtain ⟨gx, Xs, As, ns, cs, A, n, c, rfl, hgx, hBx, hMx, hOx, hXA, hXs, hXgx, hSx, hox⟩ := hcut
    have hC2 := HC1.out.prog (Zn := Xs) hox hSx (fun q h => h) (fun q h => (hXs q h).1) (fun q h => h.elim)
    have HH2 := hide (show (PlayC (fun q => False ∨ Xs q) N L pp pd pt ps pr V Sx S lix lsub lb (fun q => X0 q ∨ W.heap.size ≤ q) (fun q => (G1 q ∨ W.heap.size ≤ q) ∧ ¬ Xs q) (fun q => R1 q ∧ q < W.heap.size) Al cl wc ∧ Blk wc w.heap.size 50 (opV 0 M A3 m3 c3 code) ∧ Below N w wc ∧ Blk wc gx 70 (outV As ns cs O A n c) ∧ MsR wc W.heap.size Xs As ns cs O.ms ∧ OwnB wc W.heap.size A n c O.b ∧ (∀ q, Xs q → q < wc.heap.size) ∧ W.heap.size ≤ wc.heap.size) from ⟨hC2, blk_only HQ.out hox hpo.2.1, HBN.out.trans (hox.below hNW (fun q e => by rw [e]; exact HC1.out.nn.2.1)), hBx, hMx, hOx, fun q h => (hXs q h).2, hox.size⟩)
    clear pb_c0 pb_c1 pb_c2 pb_c3 pb_c4 pb_c5 pb_c6 pb_f
    clear oq_c0 oq_c1 oq_c2 oq_c3 oq_c4 oq_c5 oq_c6 oq_c7 oq_c8 oq_c9 oq_c10 oq_c11 oq_c12 oq_c13 oq_c14 oq_c15 oq_f
    clear pb oq hC2 hBx hMx hOx hSx hox
    go_upto_region 8 with fail
    refine wp_gen (P := fun W2 => PlayC (fun q => False ∨ Xs q) N L pp pd pt ps pr V Sx S lix lsub lb (fun q => X0 q ∨ W.heap.size ≤ q) (fun q => (G1 q ∨ W.heap.size ≤ q) ∧ ¬ Xs q) (fun q => R1 q ∧ q < W.heap.size) Al cl W2 ∧ Blk W2 w.heap.size 50 (opV 0 M A3 m3 c3 code) ∧ Below N w W2 ∧ Blk W2 gx 70 (outV As ns cs O A n c) ∧ MsR W2 W.heap.size Xs As ns cs O.ms ∧ OwnB W2 W.heap.size A n c O.b ∧ (∀ q, Xs q → q < W2.heap.size) ∧ W.heap.size ≤ W2.heap.size) HH2.out (fun W2 hW2 => ?_)
    clear HH2
    obtain ⟨hC2, hQ2, hbN2, hBx, hMx, hOx, hXlt, hWW2⟩ := hW2
    obtain ⟨R2, hR2⟩ : ∃ R2, R2 = (fun q => R1 q ∧ q < W.heap.size) := ⟨_, rfl⟩
    rw [← hR2] at hC2
    have HR2 : Hid (∀ q, R2 q → q < W2.heap.size) := hide (fun q h => by rw [hR2] at h; have := h.2; omega)
    have HC2 := hide hC2
    have HQ2 := hide hQ2
    have HBN2 := hide hbN2
    have HMO := hide (And.intro hBx (And.intro hMx hOx))
    have HXL := hide hXlt
    have hNW2 : N ≤ W2.heap.size := by omega
    have HRR : Hid (∀ Wc, Below W2.heap.size W2 Wc → Calls Tryz.prog 34 #[.pointer (some ⟨pr, 0, none⟩), .agg (msV M A3 m3 c3)] Wc (ROutR Wc R2 pr pt Sx O)) := hide (fun Wc hb => by
      rw [HSX.out, HOX.out]
      obtain ⟨Fd, Fr, gl, n8, cl8, Av, cv, ds, es, Al2, cl2, Av2, cv2, ds2, es2, T⟩ := id hC2.two
      exact rsg_recv pr S R2 M A3 m3 c3 Wc (T.r.below hb) (by rw [T.hn]; exact HL.out) HV256.out (fun h => (T.br pr h).2.2 hC2.xs.2.2) (hC2.rv.keep (fun q _ hlt => hb.block q hlt) hb.size (fun q _ h => h)) HDA.out.1 (by have := HDA.out.1; have := HDA.out.2.1; omega) (fun W' ho => HDA.out.2.2.1 W' (hbN2.trans ((hb.mono hNW2).trans (ho.below (by have := hb.size; omega) (fun q e => by rw [e]; exact hC2.nn.2.2))))) HDA.out.2.2.2 HWF.out.bytes)
    have zp2 := hC2.pb.lt
    have zq2 := hQ2.lt
    clear hC2 hR2 hQ2 hbN2 hBx hMx hOx hXlt
    go_cut [8] (fun s wx => RecR W2 pr pt R2 Sx O s wx)
    case first =>
      refine wp_region_held_drew (S := (fun w' => w'.cell? ⟨pp, 3, none⟩ = some (.pointer (some ⟨pr, 0, none⟩)) ∧ w'.cell? ⟨w.heap.size, 1, none⟩ = some (.int .i64 M.kind) ∧ w'.cell? ⟨w.heap.size, 2, none⟩ = some (.int .i64 M.ix) ∧ w'.cell? ⟨w.heap.size, 3, none⟩ = some (.int .i64 M.sub) ∧ w'.cell? ⟨w.heap.size, 4, none⟩ = some (.bool M.tg) ∧ w'.cell? ⟨w.heap.size, 5, none⟩ = some (.bool M.la) ∧ w'.cell? ⟨w.heap.size, 6, none⟩ = some (.bool M.cr) ∧ w'.cell? ⟨w.heap.size, 7, none⟩ = some (.bool M.sz) ∧ w'.cell? ⟨w.heap.size, 8, none⟩ = some (.int .u32 (M.size : Nat)) ∧ w'.cell? ⟨w.heap.size, 9, none⟩ = some (.int .u32 (M.code : Nat)) ∧ w'.cell? ⟨w.heap.size, 10, none⟩ = some (.slice A3 m3 c3) ∧ w'.cell? ⟨w.heap.size, 11, none⟩ = some (.int .i64 M.sq) ∧ w'.cell? ⟨w.heap.size, 12, none⟩ = some (.int .i64 M.bl) ∧ w'.cell? ⟨w.heap.size, 13, none⟩ = some (.int .i64 M.em) ∧ w'.cell? ⟨w.heap.size, 14, none⟩ = some (.int .u16 (M.sum : Nat)))) (by kernel_rfl) ?hS38 (fun hHeld => ?rest38)
      case hS38 => ((try dsimp only); (exact s8_mk HC2.out.pb HQ2.out))
      case' rest38 => skip
      refine wpAnyH_take (i := 0) (oi := _) (v := ?v39) rfl (by kernel_rfl) (by kernel_rfl) (by kernel_rfl) (fun _ _ _ h => h) (Or.inl ⟨by rfl, ?hy39⟩) (by assumption) ?rest39
      case hy39 => ((intro w hSw; (try dsimp only at hSw); go_simp) <;> with_reducible rfl)
      case' rest39 => try simp only [List.getElem_toArray, List.getElem_cons_zero, List.getElem_cons_succ, Act.put, List.setIfInBounds_toArray, List.set_cons_zero, List.set_cons_succ]
      refine wpAnyH_take (i := 1) (oi := _) (v := ?v40) rfl (by kernel_rfl) (by kernel_rfl) (by kernel_rfl) (fun _ _ _ h => h) (Or.inl ⟨by rfl, ?hy40⟩) (by assumption) ?rest40
      case hy40 => ((intro w hSw; (try dsimp only at hSw); go_simp) <;> with_reducible rfl)
      case' rest40 => try simp only [List.getElem_toArray, List.getElem_cons_zero, List.getElem_cons_succ, Act.put, List.setIfInBounds_toArray, List.set_cons_zero, List.set_cons_succ]
      refine wpAnyH_take (i := 2) (oi := _) (v := ?v41) rfl (by kernel_rfl) (by kernel_rfl) (by kernel_rfl) (fun _ _ _ h => h) (Or.inl ⟨by rfl, ?hy41⟩) (by assumption) ?rest41
      case hy41 => ((intro w hSw; (try dsimp only at hSw); go_simp) <;> with_reducible rfl)
      case' rest41 => try simp only [List.getElem_toArray, List.getElem_cons_zero, List.getElem_cons_succ, Act.put, List.setIfInBounds_toArray, List.set_cons_zero, List.set_cons_succ]
      refine wpAnyH_take (i := 3) (oi := _) (v := ?v42) rfl (by kernel_rfl) (by kernel_rfl) (by kernel_rfl) (fun _ _ _ h => h) (Or.inl ⟨by rfl, ?hy42⟩) (by assumption) ?rest42
      case hy42 => ((intro w hSw; (try dsimp only at hSw); go_simp) <;> with_reducible rfl)
      case' rest42 => try simp only [List.getElem_toArray, List.getElem_cons_zero, List.getElem_cons_succ, Act.put, List.setIfInBounds_toArray, List.set_cons_zero, List.set_cons_succ]
      refine wpAnyH_take (i := 4) (oi := _) (v := ?v43) rfl (by kernel_rfl) (by kernel_rfl) (by kernel_rfl) (fun _ _ _ h => h) (Or.inl ⟨by rfl, ?hy43⟩) (by assumption) ?rest43
      case hy43 => ((intro w hSw; (try dsimp only at hSw); go_simp) <;> with_reducible rfl)
      case' rest43 => try simp only [List.getElem_toArray, List.getElem_cons_zero, List.getElem_cons_succ, Act.put, List.setIfInBounds_toArray, List.set_cons_zero, List.set_cons_succ]
      refine wpAnyH_take (i := 5) (oi := _) (v := ?v44) rfl (by kernel_rfl) (by kernel_rfl) (by kernel_rfl) (fun _ _ _ h => h) (Or.inl ⟨by rfl, ?hy44⟩) (by assumption) ?rest44
      case hy44 => ((intro w hSw; (try dsimp only at hSw); go_simp) <;> with_reducible rfl)
      case' rest44 => try simp only [List.getElem_toArray, List.getElem_cons_zero, List.getElem_cons_succ, Act.put, List.setIfInBounds_toArray, List.set_cons_zero, List.set_cons_succ]
      refine wpAnyH_ready (rs := [6, 7]) (by kernel_rfl) (by simp) (AllReadyH.cons (o := _) rfl (fun K hK => ?_) (AllReadyH.cons (o := _) rfl (fun K hK => ?_) AllReadyH.nil))
      · go_simp
        refine (HRR.out _ (Below.drew (Below.refl _ _))).mono ?_
        rintro e w3 ⟨Bs, nbs, cbs, B, nb, cb, rfl, h1, h2, h4, h5⟩
        replace h5 := only_undrew' h5
        have HF := hide (recr_mk (W := W2) h1 h2 h4 h5)
        have HP3 := hide (blk_only HC2.out.pb h5 HC2.out.ne.2.1)
        have HQ3 := hide (blk_only HQ2.out h5 hpo.2.2)
        unfold outV
        unfold outV at HF
        dsimp only
        clear h1 h2 h4 h5
        refine hK.out _ _ ?hS46 (fun hHeld => ?rest46)
        case hS46 => ((try dsimp only); (exact s8_mk HP3.out HQ3.out))
        case' rest46 => (clear hK K; try simp only [List.getElem_toArray, List.getElem_cons_zero, List.getElem_cons_succ, Act.put, List.setIfInBounds_toArray, List.set_cons_zero, List.set_cons_succ])
        refine wpAnyH_ready (rs := [7]) (by kernel_rfl) (by simp) ?_
        refine AllReadyH.cons (o := _) rfl (fun K hK => ?_) AllReadyH.nil
        go_simp
        refine hK.out _ _ ?hS49 (fun hHeld => ?rest49)
        case hS49 => ((try dsimp only); (exact s8_mk (HP3.out.alloc _) (HQ3.out.alloc _)))
        case' rest49 => (clear hK K; try simp only [List.getElem_toArray, List.getElem_cons_zero, List.getElem_cons_succ, Act.put, List.setIfInBounds_toArray, List.set_cons_zero, List.set_cons_succ])
        refine wpAnyH_ready (rs := [8]) (by kernel_rfl) (by simp) ?_
        refine AllReadyH.cons (o := _) rfl (fun K hK => ?_) AllReadyH.nil
        go_simp
        refine hK.out _ _ ?hS52 (fun hHeld => ?rest52)
        case hS52 => ((try dsimp only); (exact s8_mk (HP3.out.alloc _) (HQ3.out.alloc _)))
        case' rest52 => (clear hK K; try simp only [List.getElem_toArray, List.getElem_cons_zero, List.getElem_cons_succ, Act.put, List.setIfInBounds_toArray, List.set_cons_zero, List.set_cons_succ])
        refine wpAnyH_done (by kernel_rfl) ?_ _
        have hEnd := hHeld.2
        repeat (clear hHeld)
        go_wp2_with fail
        go_meet
        exact HF.out
      · go_simp
        refine hK.out _ _ ?hS54 (fun hHeld => ?rest54)
        case hS54 => ((try dsimp only); (exact s8_mk (HC2.out.pb.alloc _) (HQ2.out.alloc _)))
        case' rest54 => (clear hK K; try simp only [List.getElem_toArray, List.getElem_cons_zero, List.getElem_cons_succ, Act.put, List.setIfInBounds_toArray, List.set_cons_zero, List.set_cons_succ])
        refine wpAnyH_ready (rs := [6]) (by kernel_rfl) (by simp) ?_
        refine AllReadyH.cons (o := _) rfl (fun K hK => ?_) AllReadyH.nil
        go_simp
        refine (HRR.out _ (by first | exact (below_alloc (Below.refl _ _) _).trans (Below.drew (Below.refl _ _)) | exact below_alloc (Below.drew (Below.refl _ _)) _ | exact below_alloc (Below.refl _ _) _)).mono ?_
        rintro e w3 ⟨Bs, nbs, cbs, B, nb, cb, rfl, h1, h2, h4, h5⟩
        have h5' : Only (fun q => q = pr) (W2.alloc (.cells (outV none 0 0 outZ none 0 0) 90)) w3 := ⟨h5.os, h5.tape, h5.output, h5.size, h5.block⟩
        have HF := hide (recr_mk2 (W := W2) (Wc := W2.alloc (.cells (outV none 0 0 outZ none 0 0) 90)) (below_alloc (Below.refl _ _) _) (by simp) (Blk.new W2 90 (outV none 0 0 outZ none 0 0)) (by omega) h1 h2 h4 h5' HR2.out)
        have hzz : W2.heap.size ≠ pr := by omega
        have kz := blk_only (Blk.new W2 90 (outV none 0 0 outZ none 0 0)) h5' hzz
        have HP3 := hide (blk_only (HC2.out.pb.alloc (.cells (outV none 0 0 outZ none 0 0) 90)) h5' HC2.out.ne.2.1)
        have HQ3 := hide (blk_only (HQ2.out.alloc (.cells (outV none 0 0 outZ none 0 0) 90)) h5' hpo.2.2)
        have zz3 := kz.lt
        have hz1 : W2.heap.size ≠ pp := by omega
        have hz2 : W2.heap.size ≠ w.heap.size := by omega
        unfold outV outZ at kz
        unfold outV
        unfold putO at HF
        dsimp only
        obtain ⟨kz_c0, kz_c1, kz_c2, kz_c3, kz_c4⟩ := cel5 kz
        have kz_f := kz.frozen
        clear h1 h2 h4 h5 h5'
        refine hK.out _ _ ?hS57 (fun hHeld => ?rest57)
        case hS57 => ((try dsimp only); (exact s8_mk HP3.out HQ3.out))
        case' rest57 => (clear hK K; try simp only [List.getElem_toArray, List.getElem_cons_zero, List.getElem_cons_succ, Act.put, List.setIfInBounds_toArray, List.set_cons_zero, List.set_cons_succ])
        refine wpAnyH_ready (rs := [8]) (by kernel_rfl) (by simp) ?_
        refine AllReadyH.cons (o := _) rfl (fun K hK => ?_) AllReadyH.nil
        go_simp
        refine hK.out _ _ ?hS60 (fun hHeld => ?rest60)
        case hS60 => ((try dsimp only); (exact s8_mk (putO_far (O := O) (As := Bs) (ns := nbs) (cs := cbs) (A := B) (n := nb) (c := cb) HP3.out hz1.symm) (putO_far (O := O) (As := Bs) (ns := nbs) (cs := cbs) (A := B) (n := nb) (c := cb) HQ3.out hz2.symm)))
        case' rest60 => (clear hK K; try simp only [List.getElem_toArray, List.getElem_cons_zero, List.getElem_cons_succ, Act.put, List.setIfInBounds_toArray, List.set_cons_zero, List.set_cons_succ])
        refine wpAnyH_done (by kernel_rfl) ?_ _
        have hEnd := hHeld.2
        repeat (clear hHeld)
        go_wp2_with fail
        go_meet
        exact HF.out
    case rest =>
      obtain ⟨gy, Bs, nbs, cbs, B, nb, cb, rfl, hgy, hBy, hMy, hOy, hSy, hoy⟩ := hcut
      have hC3 := HC2.out.refc hoy hSy (fun q h => h) (fun q h => h.elim (fun h => h.elim) (HXL.out q))
      have HH3 := hide (show (PlayC (fun q => False ∨ Xs q) N L pp pd pt ps pr V Sx Sx lix lsub lb (fun q => (X0 q ∨ W.heap.size ≤ q) ∨ W2.heap.size ≤ q) (fun q => ((G1 q ∨ W.heap.size ≤ q) ∧ ¬ Xs q) ∧ q < W2.heap.size) (fun q => R2 q ∨ W2.heap.size ≤ q) Al cl wc ∧ Below N w wc ∧ Blk wc gx 70 (outV As ns cs O A n c) ∧ MsR wc W.heap.size Xs As ns cs O.ms ∧ OwnB wc W.heap.size A n c O.b ∧ Blk wc gy 90 (outV Bs nbs cbs O B nb cb) ∧ RMsR wc W2.heap.size Bs nbs cbs O.ms ∧ OwnB wc W2.heap.size B nb cb O.b) from ⟨hC3, HBN2.out.trans (hoy.below hNW2 (fun q e => by rw [e]; exact HC2.out.nn.2.2)), blk_only HMO.out.1 hoy (by omega), msR_keep HMO.out.2.1 hoy (fun q e => by omega), ownB_only HMO.out.2.2 hoy (fun q h1 _ e => by omega), hBy, hMy, hOy⟩)
      clear hC3 hBy hMy hOy hSy hoy
      go_upto_region 9 with fail
      refine wp_gen (P := fun W3 => PlayC (fun q => False ∨ Xs q) N L pp pd pt ps pr V Sx Sx lix lsub lb (fun q => (X0 q ∨ W.heap.size ≤ q) ∨ W2.heap.size ≤ q) (fun q => ((G1 q ∨ W.heap.size ≤ q) ∧ ¬ Xs q) ∧ q < W2.heap.size) (fun q => R2 q ∨ W2.heap.size ≤ q) Al cl W3 ∧ Below N w W3 ∧ Blk W3 gx 70 (outV As ns cs O A n c) ∧ MsR W3 W.heap.size Xs As ns cs O.ms ∧ OwnB W3 W.heap.size A n c O.b ∧ Blk W3 gy 90 (outV Bs nbs cbs O B nb cb) ∧ RMsR W3 W2.heap.size Bs nbs cbs O.ms ∧ OwnB W3 W2.heap.size B nb cb O.b) HH3.out (fun W3 hW3 => ?_)
      clear HH3
      obtain ⟨hC3, hbN3, hBx, hMx, hOx, hBy, hMy, hOy⟩ := hW3
      have HC3 := hide hC3
      have HBN3 := hide hbN3
      have HMX := hide hMx
      have HOXX := hide hOx
      have HMY := hide hMy
      have HOY := hide hOy
      have kx := hBx
      have ky := hBy
      unfold outV at kx ky
      have zx := kx.lt
      have zy := ky.lt
      obtain ⟨q1, q2⟩ := blk_two W3 41 41 #[.int .i64 O.ix, .int .i64 O.sub, .slice A n c] #[.int .i64 O.ix, .int .i64 O.sub, .slice B nb cb]
      have HQQ := hide (And.intro q1 q2)
      have HKX := hide hBx
      have HKY := hide hBy
      clear hC3 hbN3 hBx hMx hOx hBy hMy hOy q1 q2
      obtain ⟨kx_c0, kx_c1, kx_c2, kx_c3, kx_c4⟩ := cel5 kx
      have kx_f := kx.frozen
      obtain ⟨ky_c0, ky_c1, ky_c2, ky_c3, ky_c4⟩ := cel5 ky
      have ky_f := ky.frozen
      have hbv := below_alloc (below_alloc (Below.refl W3.heap.size W3) (.cells #[.int .i64 O.ix, .int .i64 O.sub, .slice A n c] 41)) (.cells #[.int .i64 O.ix, .int .i64 O.sub, .slice B nb cb] 41)
      have HBV := hide hbv
      have HSV1 := hide (slv_one (b := O.b) HQQ.out.1 HOXX.out.hn HOXX.out.le (HOXX.out.sl.below hbv))
      have HSV2 := hide (slv_one (b := O.b) HQQ.out.2 HOY.out.hn HOY.out.le (HOY.out.sl.below hbv))
      clear hbv
      obtain ⟨wr, hwr⟩ : ∃ wr, wr = O.wr := ⟨_, rfl⟩
      rw [← hwr] at kx_c1 ky_c1
      have HWR := hide hwr
      clear hwr
      cases wr
      · skip
        go_wp2_with fail
        refine (vals_same (some ⟨W3.heap.size, 0, none⟩) (some ⟨W3.heap.size + 1, 0, none⟩) 1 1 1 1 [⟨O.ix, O.sub, O.b⟩] _ rfl rfl (Nat.le_refl _) (Nat.le_refl _) (by omega) HSV1.out HSV2.out).mono ?_
        rintro e w6 ⟨rfl, hb6⟩
        have hb36 := below_step hb6 HBV.out
        have hNW3 : N ≤ W3.heap.size := by have := HC3.out.pb.lt; have := HC3.out.nn.1; omega
        have hC6 := HC3.out.below hb36
        have HC6 := hide hC6
        have HBN6 : Hid (Below N w w6) := hide (HBN3.out.trans (hb36.mono hNW3))
        have kx6 := HKX.out.below hb36 HKX.out.lt
        have ky6 := HKY.out.below hb36 HKY.out.lt
        unfold outV at kx6 ky6
        rw [← HWR.out] at kx6 ky6
        have zx6 := kx6.lt
        have zy6 := ky6.lt
        clear kx_c0 kx_c1 kx_c2 kx_c3 kx_c4 kx_f
        clear ky_c0 ky_c1 ky_c2 ky_c3 ky_c4 ky_f
        clear kx ky
        obtain ⟨kx6_c0, kx6_c1, kx6_c2, kx6_c3, kx6_c4⟩ := cel5 kx6
        have kx6_f := kx6.frozen
        obtain ⟨ky6_c0, ky6_c1, ky6_c2, ky6_c3, ky6_c4⟩ := cel5 ky6
        have ky6_f := ky6.frozen
        have HT : Hid (TailS N L pp pd pt ps pr w As ns cs Bs nbs cbs w6) := hide (tail_mkX HBN6.out hC6 HWX.out HVP.out (msR_keep HMX.out (Only.of_below (F := fun _ => False) hb36) (fun q h => h.elim)) (fun q h => .inr h) (rmsR_below HMY.out hb36) hNW HOM.out)
        clear hb6 hb36 hC6
        go_upto_region 28 with fail
        refine wp_gen (P := TailS N L pp pd pt ps pr w As ns cs Bs nbs cbs) HT.out (fun W9 hW9 => ?_)
        clear HT
        obtain ⟨hb9, hN9, hW9⟩ := hW9
        rcases hW9 with ⟨rfl, rfl, rfl, rfl, rfl, rfl, hP9⟩ | ⟨M9, g9, A9, n9, c9, g9b, A9b, n9b, c9b, rfl, rfl, rfl, rfl, rfl, rfl, hM9, hO9, hl9, hM9b, hn9b, hs9b, hP9⟩
        · have HP9 := hide hP9
          clear hP9
          go_wp2_with fail
          refine (taken_none _).mono ?_
          rintro e wa ⟨rfl, hwa⟩
          subst hwa
          go_wp2_with fail
          refine (rsames_none _).mono ?_
          rintro e wa ⟨rfl, hwa⟩
          subst hwa
          go_wp2_with fail
          go_loopw [11] (fun s11 wx => s11 = .int .i64 0 ∧ W9 = wx) (fun _ _ => 0)
          case atStart => exact ⟨rfl, rfl⟩
          case round =>
            obtain ⟨rfl, hwa⟩ := hrel
            subst hwa
            go_wp2_with fail
            go_ret
            exact (⟨rfl, HP9.out, hb9⟩ : DoesE N L pp pd pt ps pr w _ _)
        · have HP9 := hide hP9
          have HO9 := hide hO9
          have HM9 := hide hM9
          have HM9b := hide hM9b
          have HS9b := hide (And.intro hn9b hs9b)
          clear hP9 hO9 hM9 hM9b hn9b hs9b
          go_wp2_with fail
          refine (taken_one g9 M9 A9 n9 c9 _ HM9.out).mono ?_
          rintro e wa ⟨ga, ca, rfl, ⟨hOa, zga⟩, hba⟩
          have HOa := hide hOa
          clear hOa
          go_wp2_with fail
          refine (rsames_one ga g9b M9 A9 A9b n9 c9 n9b c9b ca _ HOa.out zga (HM9b.out.below hba HM9b.out.lt) HO9.out.hn HS9b.out.1 (HO9.out.sl.below hba) (HS9b.out.2.below hba)).mono ?_
          rintro e wb ⟨rfl, hbb⟩
          have hbab := below_step hbb hba
          have HBAB := hide hbab
          clear hba hbb hbab
          go_wp2_with fail
          go_loopw [11] (fun s11 wx => (s11 = .int .i64 0 ∧ wb = wx) ∨ (s11 = .int .i64 1 ∧ Hid (PlayE N L pp pd pt ps pr wx) ∧ Below N w wx)) (fun s11 _ => 1 - (intOf s11).toNat)
          case atStart => exact .inl ⟨rfl, rfl⟩
          case round =>
            rcases hrel with ⟨rfl, hwx⟩ | ⟨rfl, HPx, hbx⟩
            · subst hwx
              have hMx := HM9.out.below HBAB.out HM9.out.lt
              have zMx := hMx.lt
              have hn9l : n9 ≤ 35184372088832 := by have := HO9.out.hn; omega
              unfold msV at hMx
              obtain ⟨hMx_c0, hMx_c1, hMx_c2, hMx_c3, hMx_c4, hMx_c5, hMx_c6, hMx_c7, hMx_c8, hMx_c9, hMx_c10, hMx_c11, hMx_c12, hMx_c13⟩ := cel14 hMx
              have hMx_f := hMx.frozen
              go_wp2_with fail
              refine (spoil_any A9 n9 c9 N M9.data _ hn9l (HO9.out.below HBAB.out).own (Nat.le_trans hN9 HBAB.out.size)).mono ?_
              rintro e wc ⟨rfl, hgc⟩
              have hoc : Only (fun q => A9 = some ⟨q, 0, none⟩) wb wc := Only.of_grown hgc (fun q hq => by
                rcases HO9.out.own.shape with ⟨hx, _, _⟩ | ⟨q', hx, _, _⟩
                · rw [hx] at hq; simp [Value.ownBlock] at hq
                · rw [hx] at hq ⊢
                  simp [Value.ownBlock] at hq
                  subst hq
                  rfl)
              have ho9 : Only (fun q => A9 = some ⟨q, 0, none⟩) W9 wc := (Only.of_below HBAB.out).trans hoc (fun _ _ h => h)
              have HPc := hide (HP9.out wc ho9)
              have hbc : Below N w wc := hb9.trans (ho9.below hN9 (fun q hq => by
                have := HO9.out.own.fin q hq
                exact this.1))
              go_wp2_with fail
              go_roundw
              case rel => exact .inr ⟨rfl, HPc, hbc⟩
              case measure => simp [intOf]
            · go_wp2_with fail
              go_ret
              exact (⟨rfl, HPx.out, hbx⟩ : DoesE N L pp pd pt ps pr w _ _)
      · skip
        go_wp2_with fail
        refine (vals_same (some ⟨W3.heap.size, 0, none⟩) (some ⟨W3.heap.size + 1, 0, none⟩) 1 1 1 1 [⟨O.ix, O.sub, O.b⟩] _ rfl rfl (Nat.le_refl _) (Nat.le_refl _) (by omega) HSV1.out HSV2.out).mono ?_
        rintro e w6 ⟨rfl, hb6⟩
        have hb36 := below_step hb6 HBV.out
        have hNW3 : N ≤ W3.heap.size := by have := HC3.out.pb.lt; have := HC3.out.nn.1; omega
        have hC6 := HC3.out.below hb36
        have HC6 := hide hC6
        have HBN6 : Hid (Below N w w6) := hide (HBN3.out.trans (hb36.mono hNW3))
        have kx6 := HKX.out.below hb36 HKX.out.lt
        have ky6 := HKY.out.below hb36 HKY.out.lt
        unfold outV at kx6 ky6
        rw [← HWR.out] at kx6 ky6
        have zx6 := kx6.lt
        have zy6 := ky6.lt
        clear kx_c0 kx_c1 kx_c2 kx_c3 kx_c4 kx_f
        clear ky_c0 ky_c1 ky_c2 ky_c3 ky_c4 ky_f
        clear kx ky
        obtain ⟨kx6_c0, kx6_c1, kx6_c2, kx6_c3, kx6_c4⟩ := cel5 kx6
        have kx6_f := kx6.frozen
        obtain ⟨ky6_c0, ky6_c1, ky6_c2, ky6_c3, ky6_c4⟩ := cel5 ky6
        have ky6_f := ky6.frozen
        have hms := HOW.out HWR.out.symm
        obtain ⟨rfl, rfl, rfl⟩ : As = none ∧ ns = 0 ∧ cs = 0 := by
          rcases id HMX.out with ⟨_, h1, h2, h3⟩ | ⟨M', g', A', n', c', h, _⟩
          · exact ⟨h1, h2, h3⟩
          · rw [hms] at h
            cases h
        obtain ⟨rfl, rfl, rfl⟩ : Bs = none ∧ nbs = 0 ∧ cbs = 0 := by
          rcases id HMY.out with ⟨_, h1, h2, h3⟩ | ⟨M', g', A', n', c', h, _⟩
          · exact ⟨h1, h2, h3⟩
          · rw [hms] at h
            cases h
        have hnb := HOY.out.hn
        subst hnb
        have pb6 := hC6.pb
        have zpp6 := pb6.lt
        have OA6 := hide (HOXX.out.below hb36)
        have hB7 : Blk (((w6.setCell ⟨pp, 4, none⟩ (.int .i64 O.ix)).setCell ⟨pp, 5, none⟩ (.int .i64 O.sub)).setCell ⟨pp, 6, none⟩ (.slice B O.b.length cb)) pp 43 #[.pointer (some ⟨pd, 0, none⟩), .pointer (some ⟨pt, 0, none⟩), .pointer (some ⟨ps, 0, none⟩), .pointer (some ⟨pr, 0, none⟩), .int .i64 O.ix, .int .i64 O.sub, .slice B O.b.length cb] := ((pb6.set_ 4 (.int .i64 O.ix)).set_ 5 (.int .i64 O.sub)).set_ 6 (.slice B O.b.length cb)
        have ho7 : Only (fun q => q = pp) w6 (((w6.setCell ⟨pp, 4, none⟩ (.int .i64 O.ix)).setCell ⟨pp, 5, none⟩ (.int .i64 O.sub)).setCell ⟨pp, 6, none⟩ (.slice B O.b.length cb)) := Only.set (fun q => q = pp) (Only.set (fun q => q = pp) (Only.set (fun q => q = pp) (Only.refl _ w6) (i := 4) rfl _) (i := 5) rfl _) (i := 6) rfl _
        have hC7 := hC6.last ho7 hB7 HOY.out.le HOB.out (HOY.out.sl.below hb36) (fun ad e => by
          rcases HOY.out.own.shape with ⟨hx, _, _⟩ | ⟨q', hx, h1, h2⟩
          · rw [hx] at e; cases e
          · rw [hx] at e
            injection e with e
            subst e
            have h1 : W2.heap.size ≤ q' := h1
            have h2 : q' < W3.heap.size := h2
            have h3 := hb36.size
            have h4 := HC.out.pb.lt
            exact ⟨show q' < w6.heap.size by omega, show q' ≠ pp by omega, show q' ≠ ps by omega, show q' ≠ pr by omega, fun h => h.elim (fun h => h) (fun h => by have := HXL.out q' h; omega), .inr h1⟩)
        have hzx : gx ≠ pp := by have := HC.out.pb.lt; omega
        have hzy : gy ≠ pp := by have := HC.out.pb.lt; omega
        have HH7 := hide (show (PlayC (fun q => False ∨ Xs q) N L pp pd pt ps pr V Sx Sx O.ix O.sub O.b (fun q => (X0 q ∨ W.heap.size ≤ q) ∨ W2.heap.size ≤ q) (fun q => ((((G1 q ∨ W.heap.size ≤ q) ∧ ¬ Xs q) ∧ q < W2.heap.size) ∧ q < W3.heap.size) ∧ q < w6.heap.size) (fun q => ((R2 q ∨ W2.heap.size ≤ q) ∧ q < W3.heap.size) ∧ q < w6.heap.size) B cb _ ∧ Below N w _ ∧ Blk _ gx 70 #[.slice none 0 0, .bool true, .int .i64 O.ix, .int .i64 O.sub, .slice A n c] ∧ Blk _ gy 90 #[.slice none 0 0, .bool true, .int .i64 O.ix, .int .i64 O.sub, .slice B O.b.length cb] ∧ OwnB _ W.heap.size A n c O.b ) from ⟨hC7, HBN6.out.trans (ho7.below (by have := hb36.size; omega) (fun q e => by rw [e]; exact hC6.nn.1)), blk_only kx6 ho7 hzx, blk_only ky6 ho7 hzy, ownB_only OA6.out ho7 (fun q h1 _ e => by have := HC.out.pb.lt; omega)⟩)
        obtain ⟨pb6_c0, pb6_c1, pb6_c2, pb6_c3, pb6_c4, pb6_c5, pb6_c6⟩ := cel7 pb6
        have pb6_f := pb6.frozen
        clear hC7 hB7 ho7 hC6 hb6 hb36
        go_wp2_with fail
        refine wp_calls_gen (P := fun W7 => PlayC (fun q => False ∨ Xs q) N L pp pd pt ps pr V Sx Sx O.ix O.sub O.b (fun q => (X0 q ∨ W.heap.size ≤ q) ∨ W2.heap.size ≤ q) (fun q => ((((G1 q ∨ W.heap.size ≤ q) ∧ ¬ Xs q) ∧ q < W2.heap.size) ∧ q < W3.heap.size) ∧ q < w6.heap.size) (fun q => ((R2 q ∨ W2.heap.size ≤ q) ∧ q < W3.heap.size) ∧ q < w6.heap.size) B cb W7 ∧ Below N w W7 ∧ Blk W7 gx 70 #[.slice none 0 0, .bool true, .int .i64 O.ix, .int .i64 O.sub, .slice A n c] ∧ Blk W7 gy 90 #[.slice none 0 0, .bool true, .int .i64 O.ix, .int .i64 O.sub, .slice B O.b.length cb] ∧ OwnB W7 W.heap.size A n c O.b) HH7.out (fun W7 hW7 => ?_)
        clear HH7
        obtain ⟨hC7, hbN7, hBx7, hBy7, hO7⟩ := hW7
        have hN7 : N ≤ W7.heap.size := by have := hC7.pb.lt; have := hC7.nn.1; omega
        have HC7 := hide hC7
        have HBN7 := hide hbN7
        have HO7 := hide hO7
        have hnl : n ≤ 35184372088832 := by have := HO7.out.hn; have := HOB.out; omega
        refine (spoil_any A n c W.heap.size O.b _ hnl hO7.own (by have := hC7.pb.lt; have := hBx7.lt; omega)).mono ?_
        rintro e w8 ⟨rfl, hg8⟩
        have ho8 : Only (fun q => A = some ⟨q, 0, none⟩) W7 w8 := Only.of_grown hg8 (fun q hq => by
          rcases HO7.out.own.shape with ⟨hx, _, _⟩ | ⟨q', hx, _, _⟩
          · rw [hx] at hq; simp [Value.ownBlock] at hq
          · rw [hx] at hq ⊢
            simp [Value.ownBlock] at hq
            subst hq
            rfl)
        have hC8 := (hC7.only (ho8.mono (fun q _ h => .inr (hXA q h)))).mono (Z' := fun _ => False) (fun q h => h.elim)
        have HT : Hid (PlayE N L pp pd pt ps pr w8 ∧ Below N w w8) := hide ⟨⟨V, Sx, O.ix, O.sub, O.b, _, _, _, B, cb, hC8, HWX.out, HVP.out⟩, hbN7.trans (ho8.below hN7 (fun q h => by have := HO7.out.own.fin q h; have := this.1; omega))⟩
        have kx8 := blk_only hBx7 ho8 (fun h => hXgx (hXA gx h))
        have ky8 := blk_only hBy7 ho8 (fun h => by have := HXL.out gy (hXA gy h); omega)
        have zx8 := kx8.lt
        have zy8 := ky8.lt
        clear kx6_c0 kx6_c1 kx6_c2 kx6_c3 kx6_c4 kx6_f
        clear ky6_c0 ky6_c1 ky6_c2 ky6_c3 ky6_c4 ky6_f
        clear pb6_c0 pb6_c1 pb6_c2 pb6_c3 pb6_c4 pb6_c5 pb6_c6 pb6_f
        clear kx6 ky6 pb6 hC7 hbN7 hBx7 hBy7 hO7 hC8 ho8
        obtain ⟨kx8_c0, kx8_c1, kx8_c2, kx8_c3, kx8_c4⟩ := cel5 kx8
        have kx8_f := kx8.frozen
        obtain ⟨ky8_c0, ky8_c1, ky8_c2, ky8_c3, ky8_c4⟩ := cel5 ky8
        have ky8_f := ky8.frozen
        go_upto_region 28 with fail
        refine wp_gen (P := fun W => PlayE N L pp pd pt ps pr W ∧ Below N w W) HT.out (fun W9 hW9 => ?_)
        clear HT
        obtain ⟨hP9, hb9⟩ := hW9
        have HP9 := hide hP9
        clear hP9
        go_wp2_with fail
        refine (taken_none _).mono ?_
        rintro e wa ⟨rfl, hwa⟩
        subst hwa
        go_wp2_with fail
        refine (rsames_none _).mono ?_
        rintro e wa ⟨rfl, hwa⟩
        subst hwa
        go_wp2_with fail
        go_loopw [11] (fun s11 wx => s11 = .int .i64 0 ∧ W9 = wx) (fun _ _ => 0)
        case atStart => exact ⟨rfl, rfl⟩
        case round =>
          obtain ⟨rfl, hwa⟩ := hrel
          subst hwa
          go_wp2_with fail
          go_ret
          exact (⟨rfl, HP9.out, hb9⟩ : DoesE N L pp pd pt ps pr w _ _)
end
end Go.Proofs.YtimdmhhgomfijaaGreat
